/- Contracts of functions, walked operation by operation. -/
import Derived.Test.YtfmlgeeogbhppaaA5
import Derived.Test.YtfmlgeeogbhppaaMap
namespace Go.Proofs.Ytfmlgeeogbhppaa
open Go.RowKit

def needF (k : Int) : Int := mgetA 0 k [((1 : Int), (1 : Int)), ((2 : Int), (1 : Int)), ((3 : Int), (1 : Int)), ((4 : Int), (1 : Int)), ((5 : Int), (1 : Int)), ((6 : Int), (1 : Int)), ((7 : Int), (1 : Int)), ((8 : Int), (1 : Int)), ((9 : Int), (2 : Int)), ((10 : Int), (2 : Int)), ((11 : Int), (3 : Int)), ((12 : Int), (3 : Int))]
theorem need_at {k : Int} (h : 1 ≤ k ∧ k ≤ 12) : needF k = if k ≤ 8 then 1 else if k ≤ 10 then 2 else 3 := by
  have : k = 1 ∨ k = 2 ∨ k = 3 ∨ k = 4 ∨ k = 5 ∨ k = 6 ∨ k = 7 ∨ k = 8 ∨ k = 9 ∨ k = 10 ∨ k = 11 ∨ k = 12 := by omega
  rcases this with rfl | rfl | rfl | rfl | rfl | rfl | rfl | rfl | rfl | rfl | rfl | rfl <;> rfl
theorem need_no {k : Int} (h : ¬ (1 ≤ k ∧ k ≤ 12)) : needF k = 0 := by
  unfold needF
  simp only [mgetA]
  repeat rw [if_neg (by omega)]
theorem inT {n a b : Int} (h : inB n a b = true) : a ≤ n ∧ n ≤ b := by unfold inB at h; rw [Bool.and_eq_true, decide_eq_true_eq, decide_eq_true_eq] at h; exact h
theorem inF {n a b : Int} (h : inB n a b = false) : ¬ (a ≤ n ∧ n ≤ b) := fun h2 => by
  have : inB n a b = true := by unfold inB; rw [Bool.and_eq_true, decide_eq_true_eq, decide_eq_true_eq]; exact h2
  rw [h] at this; cases this
def fewF (c : Command) : Command := { c with chunks := c.chunks.take 12, text := c.text.cut 0 40 }
def projF (c : Command) (v : Int) : Command := { c with text := if v < 3 then ⟨[]⟩ else c.text }
def idxI (x : Int) (l : List Int) : Int := match l.findIdx? (fun y => decide (x = y)) with | some i => (i : Int) | none => -1
theorem idxI_no {x : Int} {l : List Int} {k : Nat} (h : ∀ j y, j < k → l[j]? = some y → ¬ x = y) (hk : l.length ≤ k) : -1 = idxI x l := by
  have : l.findIdx? (fun y => decide (x = y)) = none := by
    rw [List.findIdx?_eq_none_iff]
    intro y hy
    obtain ⟨j, hj, rfl⟩ := List.getElem_of_mem hy
    exact decide_eq_false (h j _ (by omega) (List.getElem?_eq_getElem hj))
  simp [idxI, this]
theorem idxI_yes {x y : Int} {l : List Int} {k : Nat} (h : ∀ j y, j < k → l[j]? = some y → ¬ x = y) (hy : l[k]? = some y) (hxy : x = y) : (k : Int) = idxI x l := by
  have : l.findIdx? (fun y => decide (x = y)) = some k := by
    obtain ⟨hk, rfl⟩ := List.getElem?_eq_some_iff.1 hy
    rw [List.findIdx?_eq_some_iff_getElem]
    exact ⟨hk, decide_eq_true hxy, fun j hj => by simpa using h j _ hj (List.getElem?_eq_getElem (by omega))⟩
  simp [idxI, this]
theorem idxI_next {x : Int} {l : List Int} {k : Nat} {z : Int} (h : ∀ j y, j < k → l[j]? = some y → ¬ x = y) (hz : l[k]? = some z) (hn : ¬ x = z) : ∀ j y, j < k + 1 → l[j]? = some y → ¬ x = y := by
  intro j y hj hy
  by_cases hjk : j = k
  · subst hjk; rw [hz] at hy; cases hy; exact hn
  · exact h j y (by omega) hy
theorem contI (x : Int) (l : List Int) : decide (0 ≤ idxI x l) = l.contains x := by
  unfold idxI
  cases h : l.findIdx? (fun y => decide (x = y)) with
  | none =>
    rw [List.findIdx?_eq_none_iff] at h
    have : l.contains x = false := by
      rw [← Bool.not_eq_true, List.contains_iff_mem]
      intro hm; have := h x hm; simp at this
    rw [this]; rfl
  | some i =>
    rw [List.findIdx?_eq_some_iff_getElem] at h
    obtain ⟨hi, hp, _⟩ := h
    have : l.contains x = true := by
      rw [List.contains_iff_mem, of_decide_eq_true hp]; exact List.getElem_mem hi
    rw [this]; simp
def wthF (n most : Int) (named : Bool) : Bool := if named then (decide (1 ≤ n) && decide (n ≤ most)) else decide (n = 0)
def spanF (k : Int) : Int × Int := mgetA (0, 0) k [((6 : Int), ((0 : Int), (8 : Int))), ((8 : Int), ((2 : Int), (3 : Int))), ((12 : Int), ((0 : Int), (64 : Int)))]
def chF (c : Command) : Bool := if c.kind = 3 then rowF c.chunks else decide (((c.chunks.length : Nat) : Int) = 0)
def txF (c : Command) : Bool := if c.kind = 11 then decide (((c.text.b.length : Nat) : Int) ≤ 16) else decide (c.text = ⟨[]⟩)
def fitsF (c : Command) : Bool := ((((((((decide ((spanF c.kind).1 ≤ c.n) && decide (c.n ≤ (spanF c.kind).2)) && chF c) && txF c) && wthF c.client 8 (!([(8 : Int)].contains c.kind))) && wthF c.seq 1048576 (!([(1 : Int), 8].contains c.kind))) && wthF c.set 8 ([(2 : Int), 3, 4].contains c.kind)) && wthF c.id 1048576 ([(5 : Int), 7, 9, 10, 11].contains c.kind)))
def mayC (c : Command) (v : Int) : Int := if !(inB v 1 3) || decide (needF c.kind = 0) then 1 else if v < needF c.kind then 10 else if !fitsF c then 1 else 0

theorem sz9 : (Try.prog.info? 9).map (·.size) = some 1 := by kernel_rfl
theorem sz22 : (Try.prog.info? 22).map (·.size) = some 1 := by kernel_rfl
theorem sz24 : (Try.prog.info? 24).map (·.size) = some 8 := by kernel_rfl
theorem fa24_0 {n : Nat} {fr : Fr} {w : World} {ty : TypeId} {x : Operand} {g k : Nat} (hx : ev fr x = some (.pointer (some ⟨g, k, none⟩))) : Runs Try.prog n fr w (.fieldAddr 24 x 0) ty (.pointer (some ⟨g, k + 0, none⟩)) w := R.fieldAddrB hx Try.underlying24 rfl rfl sz3
theorem fa24_6 {n : Nat} {fr : Fr} {w : World} {ty : TypeId} {x : Operand} {g k : Nat} (hx : ev fr x = some (.pointer (some ⟨g, k, none⟩))) : Runs Try.prog n fr w (.fieldAddr 24 x 6) ty (.pointer (some ⟨g, k + 6, none⟩)) w := R.fieldAddrB hx Try.underlying24 rfl rfl sz22
theorem fa24_7 {n : Nat} {fr : Fr} {w : World} {ty : TypeId} {x : Operand} {g k : Nat} (hx : ev fr x = some (.pointer (some ⟨g, k, none⟩))) : Runs Try.prog n fr w (.fieldAddr 24 x 7) ty (.pointer (some ⟨g, k + 7, none⟩)) w := R.fieldAddrB hx Try.underlying24 rfl rfl sz9
theorem fa91_0 {n : Nat} {fr : Fr} {w : World} {ty : TypeId} {x : Operand} {g k : Nat} (hx : ev fr x = some (.pointer (some ⟨g, k, none⟩))) : Runs Try.prog n fr w (.fieldAddr 91 x 0) ty (.pointer (some ⟨g, k + 0, none⟩)) w := R.fieldAddrB hx Try.underlying91 rfl rfl sz3
theorem fa91_1 {n : Nat} {fr : Fr} {w : World} {ty : TypeId} {x : Operand} {g k : Nat} (hx : ev fr x = some (.pointer (some ⟨g, k, none⟩))) : Runs Try.prog n fr w (.fieldAddr 91 x 1) ty (.pointer (some ⟨g, k + 1, none⟩)) w := R.fieldAddrB hx Try.underlying91 rfl rfl sz3
theorem zr24 : ((Try.prog.info? 24).bind (·.zero)).map Value.cells = some ([.int .i64 0, .int .i64 0, .int .i64 0, .int .i64 0, .int .i64 0, .int .i64 0, .slice none 0 0, (⟨[]⟩ : Str).val] : List Value).toArray := by kernel_rfl
theorem zv3 : (Try.prog.info? 3).bind (·.zero) = some (.int .i64 0) := by kernel_rfl

set_option maxRecDepth 100000 in
set_option maxHeartbeats 400000 in
theorem need_s {w : World} (k : Int)  :
    Ret Try.prog 18 [.int .i64 k].toArray w fun r w' => r = .int .i64 (needF k) ∧ Kp [] w w' := by
 refine Ret.enter Try.func18 rfl Try.ntmps18 rfl rfl ?_
 refine WC.sel [0] rfl ?_
 refine WC.seq ?_
 refine WC.region ?_
 refine WO.v (R.assign rfl) rfl ?_
 refine WO.nil ?_
 refine WX.sel [0, 2] rfl ?_
 refine WX.next ?_
 refine WC.seq ?_
 refine WC.region ?_
 refine WO.makeMap rfl ?_
 intro w1 B1 k1 z_1
 have z1 := z_1
 have b1 := old_kp0 (Below.refl w.heap.size w) k1
 have y1 := b1.size
 refine WO.insert rfl rfl rfl B1 rfl Try.underlying65 Try.underlying3 ?_
 intro w2 B2 k2 z_2
 have z2 := z_2.symm
 have b2 := old_kp b1 k2 (mem1 (by omega))
 have y2 := b2.size
 refine WO.insert rfl rfl rfl B2 rfl Try.underlying65 Try.underlying3 ?_
 intro w3 B3 k3 z_3
 have z3 := z_3.symm
 have b3 := old_kp b2 k3 (mem1 (by omega))
 have y3 := b3.size
 refine WO.insert rfl rfl rfl B3 rfl Try.underlying65 Try.underlying3 ?_
 intro w4 B4 k4 z_4
 have z4 := z_4.symm
 have b4 := old_kp b3 k4 (mem1 (by omega))
 have y4 := b4.size
 refine WO.insert rfl rfl rfl B4 rfl Try.underlying65 Try.underlying3 ?_
 intro w5 B5 k5 z_5
 have z5 := z_5.symm
 have b5 := old_kp b4 k5 (mem1 (by omega))
 have y5 := b5.size
 refine WO.insert rfl rfl rfl B5 rfl Try.underlying65 Try.underlying3 ?_
 intro w6 B6 k6 z_6
 have z6 := z_6.symm
 have b6 := old_kp b5 k6 (mem1 (by omega))
 have y6 := b6.size
 refine WO.insert rfl rfl rfl B6 rfl Try.underlying65 Try.underlying3 ?_
 intro w7 B7 k7 z_7
 have z7 := z_7.symm
 have b7 := old_kp b6 k7 (mem1 (by omega))
 have y7 := b7.size
 refine WO.insert rfl rfl rfl B7 rfl Try.underlying65 Try.underlying3 ?_
 intro w8 B8 k8 z_8
 have z8 := z_8.symm
 have b8 := old_kp b7 k8 (mem1 (by omega))
 have y8 := b8.size
 refine WO.insert rfl rfl rfl B8 rfl Try.underlying65 Try.underlying3 ?_
 intro w9 B9 k9 z_9
 have z9 := z_9.symm
 have b9 := old_kp b8 k9 (mem1 (by omega))
 have y9 := b9.size
 refine WO.insert rfl rfl rfl B9 rfl Try.underlying65 Try.underlying3 ?_
 intro w10 B10 k10 z_10
 have z10 := z_10.symm
 have b10 := old_kp b9 k10 (mem1 (by omega))
 have y10 := b10.size
 refine WO.insert rfl rfl rfl B10 rfl Try.underlying65 Try.underlying3 ?_
 intro w11 B11 k11 z_11
 have z11 := z_11.symm
 have b11 := old_kp b10 k11 (mem1 (by omega))
 have y11 := b11.size
 refine WO.insert rfl rfl rfl B11 rfl Try.underlying65 Try.underlying3 ?_
 intro w12 B12 k12 z_12
 have z12 := z_12.symm
 have b12 := old_kp b11 k12 (mem1 (by omega))
 have y12 := b12.size
 refine WO.insert rfl rfl rfl B12 rfl Try.underlying65 Try.underlying3 ?_
 intro w13 B13 k13 z_13
 have z13 := z_13.symm
 have b13 := old_kp b12 k13 (mem1 (by omega))
 have y13 := b13.size
 refine WO.v (R.move rfl) rfl ?_
 refine WO.v (R.move rfl) rfl ?_
 refine WO.v (v := .int .i64 (needF k)) (R.lookupF (Value.int .i64) [((1 : Int), (1 : Int)), ((2 : Int), (1 : Int)), ((3 : Int), (1 : Int)), ((4 : Int), (1 : Int)), ((5 : Int), (1 : Int)), ((6 : Int), (1 : Int)), ((7 : Int), (1 : Int)), ((8 : Int), (1 : Int)), ((9 : Int), (2 : Int)), ((10 : Int), (2 : Int)), ((11 : Int), (3 : Int)), ((12 : Int), (3 : Int))] 0 rfl rfl B13 rfl Try.underlying65 Try.underlying3 zv3) rfl ?_
 refine WO.v (R.assign rfl) rfl ?_
 refine WO.nil ?_
 refine WX.sel [0, 2] rfl ?_
 refine WX.next ?_
 refine WC.ret ?_
 have e0 : (needF k) = (needF k) := by rfl
 refine WX.ret1 Try.results18 rfl ?_
 exact ⟨by rw [e0], Kp.of_below b13⟩

set_option maxRecDepth 100000 in
set_option maxHeartbeats 400000 in
theorem needR_s {w : World} (k : Int)  :
    Ret Try.prog 27 [.int .i64 k].toArray w fun r w' => r = .int .i64 (needF k) ∧ Kp [] w w' := by
 refine Ret.enter Try.func27 rfl Try.ntmps27 rfl rfl ?_
 refine WC.sel [0] rfl ?_
 refine WC.seq ?_
 refine WC.region ?_
 refine WO.v (R.assign rfl) rfl ?_
 refine WO.nil ?_
 refine WX.sel [0, 2] rfl ?_
 refine WX.next ?_
 refine WC.seq ?_
 refine WC.seq ?_
 refine WC.region ?_
 refine WO.v (R.move rfl) rfl ?_
 refine WO.c (E.call rfl rfl Try.func37 rfl rfl) (in5_s (n := k) (a := (1 : Int)) (b := (8 : Int)) ) rfl ?_
 rintro _ _ ⟨rfl, rfl⟩
 refine WO.nil ?_
 refine WX.sel [0, 2, 4] rfl ?_
 refine WX.next ?_
 refine WC.cond rfl (fun q1 => ?_) (fun q1 => ?_)
 have p1 : (((1 : Int)) ≤ (k)) ∧ ((k) ≤ ((8 : Int))) := ⟨of_decide_eq_true (band_t q1).1, of_decide_eq_true (band_t q1).2⟩
 refine WC.seq ?_
 refine WC.region ?_
 refine WO.v (R.assign rfl) rfl ?_
 refine WO.nil ?_
 refine WX.sel [0, 2, 4] rfl ?_
 refine WX.next ?_
 refine WC.ret ?_
 refine WX.thenRet ?_
 have e0 : (1 : Int) = (needF k) := by first | (rw [need_at (by have := inT q1; omega), if_pos (by have := inT q1; omega)]) | (rw [need_at (by have := inT q1; omega), if_neg (by have := inT q1; omega), if_pos (by have := inT q1; omega)]) | (rw [need_at (by have := inT q1; omega), if_neg (by have := inT q1; omega), if_neg (by have := inT q1; omega)]) | (exact (need_no (by have := inF q1; have := inF ‹_›; have := inF ‹_›; omega)).symm)
 refine WX.ret1 Try.results27 rfl ?_
 exact ⟨by rw [e0], Kp.refl _⟩
 have p1 : (¬ (((1 : Int)) ≤ (k))) ∨ (¬ ((k) ≤ ((8 : Int)))) := Or.imp (fun h => of_decide_eq_false h) (fun h => of_decide_eq_false h) (band_f q1)
 refine WC.skip ?_
 refine WX.next ?_
 refine WC.seq ?_
 refine WC.seq ?_
 refine WC.region ?_
 refine WO.v (R.move rfl) rfl ?_
 refine WO.c (E.call rfl rfl Try.func37 rfl rfl) (in5_s (n := k) (a := (9 : Int)) (b := (10 : Int)) ) rfl ?_
 rintro _ _ ⟨rfl, rfl⟩
 refine WO.nil ?_
 refine WX.sel [0, 2, 4, 6] rfl ?_
 refine WX.next ?_
 refine WC.cond rfl (fun q2 => ?_) (fun q2 => ?_)
 have p2 : (((9 : Int)) ≤ (k)) ∧ ((k) ≤ ((10 : Int))) := ⟨of_decide_eq_true (band_t q2).1, of_decide_eq_true (band_t q2).2⟩
 refine WC.seq ?_
 refine WC.region ?_
 refine WO.v (R.assign rfl) rfl ?_
 refine WO.nil ?_
 refine WX.sel [0, 2, 4, 6] rfl ?_
 refine WX.next ?_
 refine WC.ret ?_
 refine WX.thenRet ?_
 have e0 : (2 : Int) = (needF k) := by first | (rw [need_at (by have := inT q2; omega), if_pos (by have := inT q2; omega)]) | (rw [need_at (by have := inT q2; omega), if_neg (by have := inT q2; omega), if_pos (by have := inT q2; omega)]) | (rw [need_at (by have := inT q2; omega), if_neg (by have := inT q2; omega), if_neg (by have := inT q2; omega)]) | (exact (need_no (by have := inF q1; have := inF q2; have := inF ‹_›; omega)).symm)
 refine WX.ret1 Try.results27 rfl ?_
 exact ⟨by rw [e0], Kp.refl _⟩
 have p2 : (¬ (((9 : Int)) ≤ (k))) ∨ (¬ ((k) ≤ ((10 : Int)))) := Or.imp (fun h => of_decide_eq_false h) (fun h => of_decide_eq_false h) (band_f q2)
 refine WC.skip ?_
 refine WX.next ?_
 refine WC.seq ?_
 refine WC.seq ?_
 refine WC.region ?_
 refine WO.v (R.move rfl) rfl ?_
 refine WO.c (E.call rfl rfl Try.func37 rfl rfl) (in5_s (n := k) (a := (11 : Int)) (b := (12 : Int)) ) rfl ?_
 rintro _ _ ⟨rfl, rfl⟩
 refine WO.nil ?_
 refine WX.sel [0, 2, 4, 6, 8] rfl ?_
 refine WX.next ?_
 refine WC.cond rfl (fun q3 => ?_) (fun q3 => ?_)
 have p3 : (((11 : Int)) ≤ (k)) ∧ ((k) ≤ ((12 : Int))) := ⟨of_decide_eq_true (band_t q3).1, of_decide_eq_true (band_t q3).2⟩
 refine WC.seq ?_
 refine WC.region ?_
 refine WO.v (R.assign rfl) rfl ?_
 refine WO.nil ?_
 refine WX.sel [0, 2, 4, 6, 8] rfl ?_
 refine WX.next ?_
 refine WC.ret ?_
 refine WX.thenRet ?_
 have e0 : (3 : Int) = (needF k) := by first | (rw [need_at (by have := inT q3; omega), if_pos (by have := inT q3; omega)]) | (rw [need_at (by have := inT q3; omega), if_neg (by have := inT q3; omega), if_pos (by have := inT q3; omega)]) | (rw [need_at (by have := inT q3; omega), if_neg (by have := inT q3; omega), if_neg (by have := inT q3; omega)]) | (exact (need_no (by have := inF q1; have := inF q2; have := inF q3; omega)).symm)
 refine WX.ret1 Try.results27 rfl ?_
 exact ⟨by rw [e0], Kp.refl _⟩
 have p3 : (¬ (((11 : Int)) ≤ (k))) ∨ (¬ ((k) ≤ ((12 : Int)))) := Or.imp (fun h => of_decide_eq_false h) (fun h => of_decide_eq_false h) (band_f q3)
 refine WC.skip ?_
 refine WX.next ?_
 refine WC.seq ?_
 refine WC.region ?_
 refine WO.v (R.assign rfl) rfl ?_
 refine WO.nil ?_
 refine WX.sel [0, 2, 4, 6, 8] rfl ?_
 refine WX.next ?_
 refine WC.ret ?_
 have e0 : (0 : Int) = (needF k) := by first | (rw [need_at (by have := inT q3; omega), if_pos (by have := inT q3; omega)]) | (rw [need_at (by have := inT q3; omega), if_neg (by have := inT q3; omega), if_pos (by have := inT q3; omega)]) | (rw [need_at (by have := inT q3; omega), if_neg (by have := inT q3; omega), if_neg (by have := inT q3; omega)]) | (exact (need_no (by have := inF q1; have := inF q2; have := inF q3; omega)).symm)
 refine WX.ret1 Try.results27 rfl ?_
 exact ⟨by rw [e0], Kp.refl _⟩

set_option maxRecDepth 100000 in
set_option maxHeartbeats 400000 in
theorem few_s {w : World} {B : Nat} {cs_c : List Value} {c : Command} (hB_c : B ≤ w.heap.size) (h_c : Rp.rp false 0 B w cs_c c) :
    Ret Try.prog 13 [.agg cs_c.toArray].toArray w fun r w' => ∃ (xa6 : Option Addr) (xc6 : Nat), r = .agg #[.int .i64 (fewF c).kind, .int .i64 (fewF c).client, .int .i64 (fewF c).seq, .int .i64 (fewF c).set, .int .i64 (fewF c).id, .int .i64 (fewF c).n, .slice xa6 (fewF c).chunks.length xc6, (fewF c).text.val] ∧ I64 (fewF c).kind ∧ I64 (fewF c).client ∧ I64 (fewF c).seq ∧ I64 (fewF c).set ∧ I64 (fewF c).id ∧ I64 (fewF c).n ∧ Sl false 0 B w' (.slice xa6 (fewF c).chunks.length xc6) (fewF c).chunks ∧ (fewF c).text.b.length ≤ 140737488355328 ∧ Kp [] w w' := by
 obtain ⟨a7, c8, rfl, i1, i2, i3, i4, i5, i6, s9, i10⟩ := Command.el h_c
 have ls9 : (c.chunks).length * 8 ≤ 140737488355328 := s9.lenle
 refine Ret.enter Try.func13 rfl Try.ntmps13 rfl rfl ?_
 refine WC.sel [0] rfl ?_
 refine WC.seq ?_
 refine WC.region ?_
 refine WO.box rfl rfl rfl ?_
 intro w11 n11
 have z11 := n11.lt
 have b11 := old_kp0 (Below.refl w.heap.size w) n11.kp
 have y11 := b11.size
 refine WO.alloc zr24 rfl ?_
 intro w12 n12
 have z12 := n12.lt
 have b12 := old_kp0 b11 n12.kp
 have y12 := b12.size
 refine WO.nil ?_
 refine WX.sel [0, 1, 2] rfl ?_
 refine WX.next ?_
 refine WC.seq ?_
 refine WC.seq ?_
 refine WC.region ?_
 refine WO.v (fa24_6 rfl) rfl ?_
 have B13 := (n11.blk).kp0 n12.kp
 refine WO.v (R.loadB rfl B13 rfl Try.underlying22 rfl) rfl ?_
 refine WO.v (R.len rfl Try.underlying22) rfl ?_
 refine WO.v (R.gtr rfl rfl) rfl ?_
 refine WO.nil ?_
 refine WX.sel [0, 1, 2, 6] rfl ?_
 refine WX.next ?_
 refine WC.cutEndK [0, 1, 2, 6] rfl [] (fun w' => ∃ (ja14 : Option Addr) (jc15 : Nat), Kp [w.heap.size] w12 w' ∧ Blk w' (w.heap.size) 24 [(.int .i64 c.kind), (.int .i64 c.client), (.int .i64 c.seq), (.int .i64 c.set), (.int .i64 c.id), (.int .i64 c.n), (.slice ja14 (c.chunks.take 12).length jc15), c.text.val] ∧ Sl (α := Int) false 0 B w' (.slice ja14 (c.chunks.take 12).length jc15) (c.chunks.take 12)) ?_ ?_
 refine WC.cond rfl (fun q17 => ?_) (fun q17 => ?_)
 have p17 : (12 : Int) < ((c.chunks.length : Nat) : Int) := of_decide_eq_true q17
 refine WC.region ?_
 refine WO.v (fa24_6 rfl) rfl ?_
 refine WO.v (R.loadB rfl B13 rfl Try.underlying22 rfl) rfl ?_
 obtain ⟨a18, ha19, s20, mc21, ln22⟩ := Sl.cut (i := 0) (j := 12) (s := 1) (sl_kp0 (sl_kp0 (s9) n11.kp (by omega)) n12.kp (by omega)) rfl (by omega) (by omega)
 refine WO.v (R.sliceH (j := 12) rfl rfl Try.underlying22 sz3 ha19 (by omega)) rfl ?_
 replace s20 : Sl false (0) (B) w12 (.slice a18 12 c8) (c.chunks.take 12) := s20
 replace ln22 : (c.chunks.take 12).length = 12 := ln22
 have ls20 : ((c.chunks.take 12)).length * 8 ≤ 140737488355328 := s20.lenle
 refine WO.v (fa24_6 rfl) rfl ?_
 refine WO.storeB (cs' := [_, _, _, _, _, _, _, _]) rfl rfl B13 rfl rfl sz22 rfl ?_
 intro w23 k23 B23 z_23
 have z23 := z_23.symm
 have b23 := old_kp b12 k23 (mem1 (by omega))
 have y23 := b23.size
 refine WO.nil ?_
 refine WX.sel [0, 1, 2, 6] rfl ?_
 have E24 : (c.chunks.take 12) = c.chunks.take 12 := rfl
 have nE24 : 12 = (c.chunks.take 12).length := by rw [← E24]; simp only [List.length_take]; omega
 exact WX.cutDoneK [0, 1, 2, 6] rfl trivial ⟨a18, c8, (((Kp.refl _).sub (by simp)).step k23 (by simp)), (by rw [← nE24]; exact B23), (sl_n ((sl_kp (s20) k23 (by omega) (mem1 (by omega))).mono (lo' := 0) (hi' := B) (Nat.zero_le _) (by omega)) E24 nE24)⟩
 have p17 : ¬ ((12 : Int) < ((c.chunks.length : Nat) : Int)) := of_decide_eq_false q17
 refine WC.skip ?_
 have E25 : c.chunks = c.chunks.take 12 := (List.take_of_length_le (by omega)).symm
 have nE25 : c.chunks.length = (c.chunks.take 12).length := by rw [← E25]
 exact WX.cutDoneK [0, 1, 2, 6] rfl trivial ⟨a7, c8, ((Kp.refl _).sub (by simp)), (by rw [← nE25]; exact B13), (sl_n ((sl_kp0 (sl_kp0 (s9) n11.kp (by omega)) n12.kp (by omega)).mono (lo' := 0) (hi' := B) (Nat.zero_le _) (by omega)) E25 nE25)⟩
 rintro w26 ⟨ja14, jc15, k26, Bj27, jf16⟩
 have z26 := k26.size
 have b26 := old_kp b12 k26 (mem1 (by omega))
 have y26 := b26.size
 have ljf16 : ((c.chunks.take 12)).length * 8 ≤ 140737488355328 := jf16.lenle
 refine WX.next ?_
 refine WC.seq ?_
 refine WC.seq ?_
 refine WC.region ?_
 refine WO.v (fa24_7 rfl) rfl ?_
 refine WO.v (R.loadB rfl Bj27 rfl Try.underlying9 rfl) rfl ?_
 refine WO.v (R.lenS rfl Try.underlying9) rfl ?_
 refine WO.v (R.gtr rfl rfl) rfl ?_
 refine WO.nil ?_
 refine WX.sel [0, 1, 2, 6, 14] rfl ?_
 refine WX.next ?_
 refine WC.cutEndK [0, 1, 2, 6, 14] rfl [] (fun w' => Kp [w.heap.size] w26 w' ∧ Blk w' (w.heap.size) 24 [(.int .i64 c.kind), (.int .i64 c.client), (.int .i64 c.seq), (.int .i64 c.set), (.int .i64 c.id), (.int .i64 c.n), (.slice ja14 (c.chunks.take 12).length jc15), (c.text.cut 0 40).val]) ?_ ?_
 refine WC.cond rfl (fun q28 => ?_) (fun q28 => ?_)
 have p28 : (40 : Int) < ((c.text.b.length : Nat) : Int) := of_decide_eq_true q28
 refine WC.region ?_
 refine WO.v (fa24_7 rfl) rfl ?_
 refine WO.v (R.loadB rfl Bj27 rfl Try.underlying9 rfl) rfl ?_
 refine WO.v (R.strH (s := c.text) (j := 40) rfl rfl Try.underlying9 (by omega)) rfl ?_
 refine WO.v (fa24_7 rfl) rfl ?_
 refine WO.storeB (cs' := [_, _, _, _, _, _, _, _]) rfl rfl Bj27 rfl rfl sz9 rfl ?_
 intro w29 k29 B29 z_29
 have z29 := z_29.symm
 have b29 := old_kp b26 k29 (mem1 (by omega))
 have y29 := b29.size
 refine WO.nil ?_
 refine WX.sel [0, 1, 2, 6, 14] rfl ?_
 have E30 : (Str.cut c.text 0 40) = c.text.cut 0 40 := rfl
 exact WX.cutDoneK [0, 1, 2, 6, 14] rfl trivial ⟨(((Kp.refl _).sub (by simp)).step k29 (by simp)), (by rw [← E30]; exact B29)⟩
 have p28 : ¬ ((40 : Int) < ((c.text.b.length : Nat) : Int)) := of_decide_eq_false q28
 refine WC.skip ?_
 have E31 : c.text = c.text.cut 0 40 := Str.cut_all (by omega)
 exact WX.cutDoneK [0, 1, 2, 6, 14] rfl trivial ⟨((Kp.refl _).sub (by simp)), (by rw [← E31]; exact Bj27)⟩
 rintro w32 ⟨k32, Bj33⟩
 have z32 := k32.size
 have b32 := old_kp b26 k32 (mem1 (by omega))
 have y32 := b32.size
 refine WX.next ?_
 refine WC.seq ?_
 refine WC.region ?_
 refine WO.v (R.loadBN (vs := [_, _, _, _, _, _, _, _]) rfl Bj33 rfl Try.underlying24 rfl sz24) rfl ?_
 have B34 := ((n12.blk).kp1 k26 (by omega)).kp1 k32 (by omega)
 refine WO.storeBN rfl rfl B34 rfl (by simp [Value.oneCell', Str.val]) sz24 ?_
 intro w35 k35 B35 z_35
 have z35 := z_35.symm
 have b35 := old_kp b32 k35 (mem1 (by omega))
 have y35 := b35.size
 refine WO.nil ?_
 refine WX.sel [0, 1, 2, 6, 14] rfl ?_
 refine WX.next ?_
 refine WC.ret ?_
 have e0 : (⟨c.kind, c.client, c.seq, c.set, c.id, c.n, (c.chunks.take 12), (c.text.cut 0 40)⟩ : Command) = (fewF c) := by rfl
 refine WX.retC Try.results13 rfl B35 Try.underlying24 rfl sz24 ?_
 rw [← e0]
 exact ⟨ja14, jc15, rfl, (i1), (i2), (i3), (i4), (i5), (i6), ((sl_kp (sl_kp (jf16) k32 (by omega) (mem1 (by omega))) k35 (by omega) (mem1 (by omega))).mono (lo' := 0) (hi' := B) (Nat.zero_le _) (by omega)), (Nat.le_trans (Str.cut_len _ _ _) i10), Kp.of_below b35⟩

set_option maxRecDepth 100000 in
set_option maxHeartbeats 400000 in
theorem indexI_s {w : World} {a_l : Option Addr} {c_l : Nat} {l : List Int} (x : Int) (h_l : Sl false 0 w.heap.size w (.slice a_l l.length c_l) l) :
    Ret Try.prog 86 [.slice a_l l.length c_l, .int .i64 x].toArray w fun r w' => r = .int .i64 (idxI x l) ∧ Kp [] w w' := by
 have len_l : (l).length * 8 ≤ 140737488355328 := h_l.lenle
 refine Ret.enter Try.func86 rfl Try.ntmps86 rfl rfl ?_
 refine WC.sel [0, 1] rfl ?_
 refine WC.seq ?_
 refine WC.region ?_
 refine WO.v (R.assign rfl) rfl ?_
 refine WO.nil ?_
 refine WX.sel [0, 1, 4] rfl ?_
 refine WX.next ?_
 refine WC.seq ?_
 refine WC.seq ?_
 refine WC.region ?_
 refine WO.v (R.move rfl) rfl ?_
 refine WO.v (R.len rfl Try.underlying22) rfl ?_
 refine WO.v (R.move rfl) rfl ?_
 refine WO.nil ?_
 refine WX.sel [0, 1, 4, 7, 8] rfl ?_
 refine WX.next ?_
 refine WC.block ?_
 refine WC.loopK [0, 1, 4, 7] rfl (fun zz : Nat => [(8, (.int .i64 (((zz) : Nat) : Int)))]) (fun (zz : Nat) (w' : World) => (Kp [] w w') ∧ ((zz) ≤ l.length) ∧ (∀ j y, j < (zz) → l[j]? = some y → ¬ x = y)) (fun zz => l.length - (zz)) (0) ?_ ?_ ?_
 exact ⟨⟨_, rfl, rfl⟩, trivial⟩
 exact ⟨Kp.refl _, Nat.zero_le _, by intro j y h; omega⟩
 rintro k w1 ⟨k1, hk, hall⟩
 try dsimp only at hk hall
 have z1 := k1.size
 have b1 := old_kp0 (Below.refl w.heap.size w) k1
 have y1 := b1.size
 refine (?_ : WC _ _ _ _ ([(8, (.int .i64 ((k : Nat) : Int)))] ++ _) w1)
 refine WC.seq ?_
 refine WC.region ?_
 refine WO.v (R.lss rfl rfl) rfl ?_
 refine WO.nil ?_
 refine WX.sel [0, 1, 4, 7, 8, 9] rfl ?_
 refine WX.next ?_
 refine WC.seq ?_
 refine WC.cond rfl (fun q2 => ?_) (fun q2 => ?_)
 have p2 : ((k : Nat) : Int) < ((l.length : Nat) : Int) := of_decide_eq_true q2
 refine WC.skip ?_
 refine WX.next ?_
 refine WC.seq ?_
 refine WC.block ?_
 refine WC.seq ?_
 refine WC.region ?_
 refine WO.v (R.move rfl) rfl ?_
 refine WO.v (R.assign rfl) rfl ?_
 refine WO.nil ?_
 refine WX.sel [0, 1, 4, 5, 7, 8, 9] rfl ?_
 refine WX.next ?_
 refine WC.seq ?_
 refine WC.region ?_
 refine WO.v (R.move rfl) rfl ?_
 refine WO.v (R.move rfl) rfl ?_
 refine WO.v (R.move rfl) rfl ?_
 obtain ⟨x3, hx3⟩ := get_ex (xs := l) (i := k) (by omega)
 obtain ⟨A4, cs5, hA4, loA4, hiA4, ccA4, r6⟩ := (sl_old h_l b1).at_ hx3
 obtain ⟨rfl, i7⟩ := r6
 refine WO.v (R.indexAddrN rfl rfl Try.underlying22 sz3 hA4 (by omega)) rfl ?_
 refine WO.v (R.load1 rfl Try.underlying3 rfl (CellsAt.one0 ccA4)) rfl ?_
 refine WO.v (R.eql rfl rfl) rfl ?_
 refine WO.nil ?_
 refine WX.sel [0, 1, 4, 5, 7, 8, 9, 16] rfl ?_
 refine WX.next ?_
 refine WC.cond rfl (fun q8 => ?_) (fun q8 => ?_)
 have p8 : x = x3 := of_decide_eq_true q8
 refine WC.seq ?_
 refine WC.region ?_
 refine WO.v (R.move rfl) rfl ?_
 refine WO.v (R.assign rfl) rfl ?_
 refine WO.nil ?_
 refine WX.sel [0, 1, 4, 5, 7, 8, 9, 16] rfl ?_
 refine WX.next ?_
 refine WC.ret ?_
 refine WX.blkRet ?_
 refine WX.thenRet ?_
 refine WX.loopRet ?_
 refine WX.blkRet ?_
 refine WX.thenRet ?_
 have e0 : ((k : Nat) : Int) = (idxI x l) := by first | exact idxI_no hall (by omega) | exact idxI_yes hall (by assumption) (by omega)
 refine WX.ret1 Try.results86 rfl ?_
 exact ⟨by rw [e0], Kp.of_below b1⟩
 have p8 : ¬ (x = x3) := of_decide_eq_false q8
 refine WC.skip ?_
 refine WX.blkNormal ?_
 refine WX.next ?_
 refine WC.region ?_
 refine WO.v (R.inc rfl (by omega)) rfl ?_
 refine WO.v (R.move rfl) rfl ?_
 refine WO.nil ?_
 refine WX.sel [0, 1, 4, 5, 7, 8, 9, 16] rfl ?_
 exact WX.loopNextK [0, 1, 4, 7] (k + 1) rfl ⟨⟨_, rfl, rfl⟩, trivial⟩ ⟨(Kp.refl _).step k1 (by simp), by omega, idxI_next hall hx3 (by omega)⟩ (by show (l.length - (k + 1)) < (l.length - k); omega)
 have p2 : ¬ (((k : Nat) : Int) < ((l.length : Nat) : Int)) := of_decide_eq_false q2
 refine WC.exit ?_
 refine WX.thenExit ?_
 refine WX.loopExit ?_
 refine WX.blkHit ?_
 refine WX.next ?_
 refine WC.seq ?_
 refine WC.region ?_
 refine WO.v (R.assign rfl) rfl ?_
 refine WO.nil ?_
 refine WX.sel [0, 1, 4, 7, 8, 9] rfl ?_
 refine WX.next ?_
 refine WC.ret ?_
 have e0 : (-1 : Int) = (idxI x l) := by first | exact idxI_no hall (by omega) | exact idxI_yes hall (by assumption) (by omega)
 refine WX.ret1 Try.results86 rfl ?_
 exact ⟨by rw [e0], Kp.of_below b1⟩

set_option maxRecDepth 100000 in
set_option maxHeartbeats 400000 in
theorem containsI_s {w : World} {a_l : Option Addr} {c_l : Nat} {l : List Int} (x : Int) (h_l : Sl false 0 w.heap.size w (.slice a_l l.length c_l) l) :
    Ret Try.prog 67 [.slice a_l l.length c_l, .int .i64 x].toArray w fun r w' => r = .bool (l.contains x) ∧ Kp [] w w' := by
 have len_l : (l).length * 8 ≤ 140737488355328 := h_l.lenle
 refine Ret.enter Try.func67 rfl Try.ntmps67 rfl rfl ?_
 refine WC.sel [0, 1] rfl ?_
 refine WC.seq ?_
 refine WC.region ?_
 refine WO.v (R.assign rfl) rfl ?_
 refine WO.nil ?_
 refine WX.sel [0, 1, 4] rfl ?_
 refine WX.next ?_
 refine WC.seq ?_
 refine WC.region ?_
 refine WO.v (R.move rfl) rfl ?_
 refine WO.v (R.move rfl) rfl ?_
 refine WO.c (E.call rfl rfl Try.func86 rfl rfl) (indexI_s (x := x) (l := l) (a_l := a_l) (c_l := c_l) ((h_l).mono (lo' := 0) (hi' := w.heap.size) (Nat.zero_le _) (by omega))) rfl ?_
 rintro _ w1 ⟨rfl, k1⟩
 have z1 := k1.size
 have b1 := old_kp0 (Below.refl w.heap.size w) k1
 have y1 := b1.size
 refine WO.v (R.geq rfl rfl) rfl ?_
 refine WO.v (R.assign rfl) rfl ?_
 refine WO.nil ?_
 refine WX.sel [0, 1, 4] rfl ?_
 refine WX.next ?_
 refine WC.ret ?_
 have e0 : (decide ((0 : Int) ≤ idxI (x) (l))) = (l.contains x) := by exact contI _ _
 refine WX.ret1 Try.results67 rfl ?_
 exact ⟨by rw [e0], Kp.of_below b1⟩

set_option maxRecDepth 100000 in
set_option maxHeartbeats 400000 in
theorem fits1_s {w : World} {a_l : Option Addr} {c_l : Nat} {l : List Int} {p_c : Nat} {cs_c : List Value} {c : Command} (h_l : Sl false 0 w.heap.size w (.slice a_l l.length c_l) l) (h_p_c : Blk w p_c 24 cs_c) (hr_c : Rp.rp false 0 w.heap.size w cs_c c) :
    Ret Try.prog 66 [.slice a_l l.length c_l, .pointer (some ⟨p_c, 0, none⟩)].toArray w fun r w' => r = .bool (l.contains c.kind) ∧ Kp [] w w' := by
 have len_l : (l).length * 8 ≤ 140737488355328 := h_l.lenle
 have lt_p_c := h_p_c.lt
 obtain ⟨a7, c8, rfl, i1, i2, i3, i4, i5, i6, s9, i10⟩ := Command.el hr_c
 have ls9 : (c.chunks).length * 8 ≤ 140737488355328 := s9.lenle
 refine Ret.enter Try.func66 rfl Try.ntmps66 rfl rfl ?_
 refine WC.sel [0, 1] rfl ?_
 refine WC.seq ?_
 refine WC.region ?_
 refine WO.v (R.assign rfl) rfl ?_
 refine WO.nil ?_
 refine WX.sel [0, 1, 3] rfl ?_
 refine WX.next ?_
 refine WC.seq ?_
 refine WC.region ?_
 refine WO.v (R.move rfl) rfl ?_
 refine WO.v (fa24_0 rfl) rfl ?_
 refine WO.v (R.loadB rfl h_p_c rfl Try.underlying3 rfl) rfl ?_
 refine WO.c (E.call rfl rfl Try.func67 rfl rfl) (containsI_s (x := c.kind) (l := l) (a_l := a_l) (c_l := c_l) ((h_l).mono (lo' := 0) (hi' := w.heap.size) (Nat.zero_le _) (by omega))) rfl ?_
 rintro _ w11 ⟨rfl, k11⟩
 have z11 := k11.size
 have b11 := old_kp0 (Below.refl w.heap.size w) k11
 have y11 := b11.size
 refine WO.v (R.assign rfl) rfl ?_
 refine WO.nil ?_
 refine WX.sel [0, 1, 3] rfl ?_
 refine WX.next ?_
 refine WC.ret ?_
 have e0 : ((l).contains (c.kind)) = (l.contains c.kind) := by rfl
 refine WX.ret1 Try.results66 rfl ?_
 exact ⟨by rw [e0], Kp.of_below b11⟩

set_option maxRecDepth 100000 in
set_option maxHeartbeats 400000 in
theorem fits2_s {w : World} (n : Int) (most : Int) (named : Bool)  :
    Ret Try.prog 68 [.int .i64 n, .int .i64 most, .bool named].toArray w fun r w' => r = .bool (wthF n most named) ∧ Kp [] w w' := by
 refine Ret.enter Try.func68 rfl Try.ntmps68 rfl rfl ?_
 refine WC.sel [0, 1, 2] rfl ?_
 refine WC.seq ?_
 refine WC.region ?_
 refine WO.v (R.assign rfl) rfl ?_
 refine WO.nil ?_
 refine WX.sel [0, 1, 2, 6] rfl ?_
 refine WX.next ?_
 refine WC.seq ?_
 refine WC.seq ?_
 refine WC.region ?_
 refine WO.v (R.move rfl) rfl ?_
 refine WO.nil ?_
 refine WX.sel [0, 1, 2, 6, 7] rfl ?_
 refine WX.next ?_
 refine WC.cond rfl (fun q1 => ?_) (fun q1 => ?_)
 have p1 : (named) = true := q1
 refine WC.seq ?_
 refine WC.region ?_
 refine WO.v (R.move rfl) rfl ?_
 refine WO.v (R.buildL (parts := [_, _]) (cells := #[(.int .i64 (1 : Int)), (.int .i64 most)]) rfl (by kernel_rfl)) rfl ?_
 refine WO.v (R.move rfl) rfl ?_
 refine WO.inl [(.agg #[(.int .i64 (1 : Int)), (.int .i64 most)]), (.int .i64 n)] (E.call rfl rfl Try.func69 rfl rfl) rfl rfl ?_
 refine Ret.enter Try.func69 rfl Try.ntmps69 rfl rfl ?_
 refine WC.sel [0, 1] rfl ?_
 refine WC.seq ?_
 refine WC.region ?_
 refine WO.box rfl rfl rfl ?_
 intro w2 n2
 have z2 := n2.lt
 have b2 := old_kp0 (Below.refl w.heap.size w) n2.kp
 have y2 := b2.size
 refine WO.v (R.assign rfl) rfl ?_
 refine WO.nil ?_
 refine WX.sel [0, 1, 2, 4] rfl ?_
 refine WX.next ?_
 refine WC.seq ?_
 refine WC.region ?_
 refine WO.v (fa91_0 rfl) rfl ?_
 refine WO.v (R.loadB rfl n2.blk rfl Try.underlying3 rfl) rfl ?_
 refine WO.v (R.move rfl) rfl ?_
 refine WO.v (R.leq rfl rfl) rfl ?_
 refine WO.v (R.move rfl) rfl ?_
 refine WO.cutP 5 [(14, (.bool ((decide ((1 : Int) ≤ n)) && (decide (n ≤ most)))))] (fun w' => w2 = w') ?_ ?_
 rcases Bool.eq_false_or_eq_true (decide ((1 : Int) ≤ n)) with hb3 | hb3
 have phb3 : (1 : Int) ≤ n := of_decide_eq_true hb3
 refine WO.on rfl rfl hb3 ?_
 refine WO.v (R.move rfl) rfl ?_
 refine WO.on rfl rfl hb3 ?_
 refine WO.v (fa91_1 rfl) rfl ?_
 refine WO.on rfl rfl hb3 ?_
 refine WO.v (R.loadB rfl n2.blk rfl Try.underlying3 rfl) rfl ?_
 refine WO.on rfl rfl hb3 ?_
 refine WO.v (R.leq rfl rfl) rfl ?_
 refine WO.v (R.pickT rfl hb3 rfl) rfl ?_
 refine WO.nil ?_
 exact WX.cutDoneP 5 rfl rfl ⟨⟨_, rfl, vb (band_on hb3)⟩, trivial⟩ (rfl)
 have phb3 : ¬ ((1 : Int) ≤ n) := of_decide_eq_false hb3
 refine WO.off rfl rfl hb3 rfl ?_
 refine WO.off rfl rfl hb3 rfl ?_
 refine WO.off rfl rfl hb3 rfl ?_
 refine WO.off rfl rfl hb3 rfl ?_
 refine WO.v (R.pickF rfl hb3 rfl) rfl ?_
 refine WO.nil ?_
 exact WX.cutDoneP 5 rfl rfl ⟨⟨_, rfl, vb (band_off hb3)⟩, trivial⟩ (rfl)
 rintro _ rfl
 refine WO.v (R.assign rfl) rfl ?_
 refine WO.nil ?_
 refine WX.sel [0, 1, 2, 4] rfl ?_
 refine WX.next ?_
 refine WC.ret ?_
 refine WX.ret1 Try.results69 rfl ?_
 refine WO.v (R.assign rfl) rfl ?_
 refine WO.nil ?_
 refine WX.sel [0, 1, 2, 6, 7] rfl ?_
 refine WX.next ?_
 refine WC.ret ?_
 refine WX.thenRet ?_
 have e0 : ((decide ((1 : Int) ≤ n)) && (decide (n ≤ most))) = (wthF n most named) := by first | (rw [wthF, if_pos (by assumption)]; done) | (rw [wthF, if_neg (by simp_all)]; done)
 refine WX.ret1 Try.results68 rfl ?_
 exact ⟨by rw [e0], Kp.of_below b2⟩
 have p1 : (named) = false := q1
 refine WC.skip ?_
 refine WX.next ?_
 refine WC.seq ?_
 refine WC.region ?_
 refine WO.v (R.move rfl) rfl ?_
 refine WO.v (R.eql rfl rfl) rfl ?_
 refine WO.v (R.assign rfl) rfl ?_
 refine WO.nil ?_
 refine WX.sel [0, 1, 2, 6, 7] rfl ?_
 refine WX.next ?_
 refine WC.ret ?_
 have e0 : (decide (n = (0 : Int))) = (wthF n most named) := by first | (rw [wthF, if_pos (by assumption)]; done) | (rw [wthF, if_neg (by simp_all)]; done)
 refine WX.ret1 Try.results68 rfl ?_
 exact ⟨by rw [e0], Kp.refl _⟩


end Go.Proofs.Ytfmlgeeogbhppaa
