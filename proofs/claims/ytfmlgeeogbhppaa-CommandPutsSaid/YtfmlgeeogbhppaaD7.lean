/- Contracts of functions, walked operation by operation. -/
import Derived.Test.YtfmlgeeogbhppaaD6
namespace Go.Proofs.Ytfmlgeeogbhppaa
open Go.RowKit

def putBad (c : Command) (rest : List Field) (v : Int) : Int := if !(inB v 1 3) then 1 else if (forF c v = false ∧ ¬ mayC c v = 0) then mayC c v else if rest.any (fun f => decide (f.num ≤ topF v)) then 6 else 0
def putCE (c : Command) (rest : List Field) (v : Int) : Int := if putBad c rest v = 0 then mayT (fieldsF c v ++ rest) else putBad c rest v
def putCB (c : Command) (rest : List Field) (v : Int) : List UInt8 := if putBad c rest v = 0 then putTF (fieldsF c v ++ rest) else []
theorem need_range {k : Int} (h : ¬ needF k = 0) : 1 ≤ k ∧ k ≤ 12 := Decidable.byContradiction fun h2 => h (need_no h2)
theorem nn_for {c : Command} {v : Int} (h : forF c v = true) : 0 ≤ c.kind ∧ 0 ≤ c.client ∧ 0 ≤ c.seq ∧ 0 ≤ c.set ∧ 0 ≤ c.id ∧ 0 ≤ c.n := by
  unfold forF numsF inB at h
  simp only [Bool.and_eq_true, decide_eq_true_eq] at h
  omega
theorem wth_nn {n m : Int} {b : Bool} (h : wthF n m b = true) : 0 ≤ n := by
  unfold wthF at h; cases b <;> simp at h <;> omega
theorem span_nn {k : Int} (h : 1 ≤ k ∧ k ≤ 12) : 0 ≤ (spanF k).1 := by
  have : k = 1 ∨ k = 2 ∨ k = 3 ∨ k = 4 ∨ k = 5 ∨ k = 6 ∨ k = 7 ∨ k = 8 ∨ k = 9 ∨ k = 10 ∨ k = 11 ∨ k = 12 := by omega
  rcases this with rfl | rfl | rfl | rfl | rfl | rfl | rfl | rfl | rfl | rfl | rfl | rfl <;> decide
theorem may_fits {c : Command} {v : Int} (h : mayC c v = 0) : (1 ≤ v ∧ v ≤ 3) ∧ ¬ needF c.kind = 0 ∧ needF c.kind ≤ v ∧ fitsF c = true := by
  unfold mayC at h
  split at h
  · cases h
  · rename_i h1
    rw [Bool.or_eq_true, not_or] at h1
    simp only [Bool.not_eq_true', Bool.not_eq_false, decide_eq_true_eq] at h1
    split at h
    · cases h
    · split at h
      · cases h
      · rename_i h2 h3
        exact ⟨inT h1.1, h1.2, by omega, by simpa using h3⟩
theorem nn_may {c : Command} {v : Int} (h : mayC c v = 0) : 0 ≤ c.kind ∧ 0 ≤ c.client ∧ 0 ≤ c.seq ∧ 0 ≤ c.set ∧ 0 ≤ c.id ∧ 0 ≤ c.n := by
  obtain ⟨_, hn, _, hf⟩ := may_fits h
  have hr := need_range hn
  have hs := span_nn hr
  unfold fitsF at hf
  simp only [Bool.and_eq_true, decide_eq_true_eq] at hf
  obtain ⟨⟨⟨⟨⟨⟨⟨h1, h2⟩, _⟩, _⟩, h3⟩, h4⟩, h5⟩, h6⟩ := hf
  exact ⟨by omega, wth_nn h3, wth_nn h4, wth_nn h5, wth_nn h6, by omega⟩
theorem bad1 {c : Command} {rest : List Field} {v : Int} (h : (!(inB v 1 3)) = true) : putBad c rest v = 1 := by rw [putBad, if_pos h]
theorem bad2 {c : Command} {rest : List Field} {v : Int} (h : (!(inB v 1 3)) = false) (h1 : forF c v = false) (h2 : ¬ mayC c v = 0) : putBad c rest v = mayC c v := by rw [putBad, h, if_neg (by decide), if_pos ⟨h1, h2⟩]
theorem bad3 {c : Command} {rest : List Field} {v : Int} {k : Nat} {x : Field} (h : (!(inB v 1 3)) = false) (h1 : forF c v = true ∨ mayC c v = 0) (hx : rest[k]? = some x) (hn : x.num ≤ topF v) : putBad c rest v = 6 := by
  have : (rest.any fun f => decide (f.num ≤ topF v)) = true := List.any_eq_true.2 ⟨x, List.mem_of_getElem? hx, decide_eq_true hn⟩
  rw [putBad, h, if_neg (by decide), if_neg (fun hh => by rcases h1 with h1 | h1; rw [h1] at hh; cases hh.1; exact hh.2 h1), if_pos this]
theorem bad0 {c : Command} {rest : List Field} {v : Int} {k : Nat} (h : (!(inB v 1 3)) = false) (h1 : forF c v = true ∨ mayC c v = 0) (hall : ∀ j y, j < k → rest[j]? = some y → ¬ y.num ≤ topF v) (hk : rest.length ≤ k) : putBad c rest v = 0 := by
  have : (rest.any fun f => decide (f.num ≤ topF v)) = false := by
    rw [List.any_eq_false]
    intro y hy
    obtain ⟨j, hj, rfl⟩ := List.getElem_of_mem hy
    have := hall j _ (by omega) (List.getElem?_eq_getElem hj)
    simpa using this
  rw [putBad, h, if_neg (by decide), if_neg (fun hh => by rcases h1 with h1 | h1; rw [h1] at hh; cases hh.1; exact hh.2 h1), this, if_neg (by decide)]
theorem pE_bad {c : Command} {rest : List Field} {v e : Int} (h : putBad c rest v = e) (h0 : ¬ e = 0) : e = putCE c rest v := by rw [putCE, h, if_neg h0]
theorem pB_bad {c : Command} {rest : List Field} {v e : Int} (h : putBad c rest v = e) (h0 : ¬ e = 0) : [] = putCB c rest v := by rw [putCB, h, if_neg h0]
theorem pE_ok {c : Command} {rest : List Field} {v : Int} (h : putBad c rest v = 0) : mayT (fieldsF c v ++ rest) = putCE c rest v := by rw [putCE, if_pos h]
theorem pB_ok {c : Command} {rest : List Field} {v : Int} (h : putBad c rest v = 0) : putTF (fieldsF c v ++ rest) = putCB c rest v := by rw [putCB, if_pos h]
theorem top_known {rest : List Field} {t : Int} {k : Nat} {z : Field} (h : ∀ j y, j < k → rest[j]? = some y → ¬ y.num ≤ t) (hz : rest[k]? = some z) (hn : ¬ z.num ≤ t) : ∀ j y, j < k + 1 → rest[j]? = some y → ¬ y.num ≤ t := by
  intro j y hj hy
  by_cases hjk : j = k
  · subst hjk; rw [hz] at hy; cases hy; exact hn
  · exact h j y (by omega) hy

theorem zr5 : ((Try.prog.info? 5).bind (·.zero)).map Value.cells = some ([.int .u8 0] : List Value).toArray := by kernel_rfl

set_option maxRecDepth 100000 in
set_option maxHeartbeats 400000 in
theorem putC_s {w : World} {cs_c : List Value} {c : Command} {a_rest : Option Addr} {c_rest : Nat} {rest : List Field} (v : Int) (h_c : Rp.rp false 0 w.heap.size w cs_c c) (h_rest : Sl false 0 w.heap.size w (.slice a_rest rest.length c_rest) rest) (pre0 : rest.length ≤ 1000) :
    Ret Try.prog 12 [.agg cs_c.toArray, .slice a_rest rest.length c_rest, .int .i64 v].toArray w fun r w' => ∃ (ra0 : Option Addr) (rc0 : Nat), r = .tuple #[.slice ra0 (putCB c rest v).length rc0, .int .i64 (putCE c rest v)] ∧ Ac w.heap.size true w.heap.size w'.heap.size w'.heap.size w' (.slice ra0 (putCB c rest v).length rc0) (putCB c rest v) ∧ Kp [] w w' := by
 obtain ⟨a7, c8, rfl, i1, i2, i3, i4, i5, i6, s9, i10⟩ := Command.el h_c
 have ls9 : (c.chunks).length * 8 ≤ 140737488355328 := s9.lenle
 have len_rest : (rest).length * 48 ≤ 140737488355328 := h_rest.lenle
 refine Ret.enter Try.func12 rfl Try.ntmps12 rfl rfl ?_
 refine WC.sel [0, 1, 2] rfl ?_
 refine WC.seq ?_
 refine WC.region ?_
 refine WO.box rfl rfl rfl ?_
 intro w11 n11
 have z11 := n11.lt
 have b11 := old_kp0 (Below.refl w.heap.size w) n11.kp
 have y11 := b11.size
 refine WO.v (R.assign rfl) rfl ?_
 refine WO.v (R.assign rfl) rfl ?_
 refine WO.nil ?_
 refine WX.sel [0, 1, 2, 3, 6, 7] rfl ?_
 refine WX.next ?_
 refine WC.seq ?_
 refine WC.seq ?_
 refine WC.region ?_
 refine WO.v (R.move rfl) rfl ?_
 refine WO.c (E.call rfl rfl Try.func32 rfl rfl) (thereC_s (n := v) ) rfl ?_
 rintro _ _ ⟨rfl, rfl⟩
 refine WO.v (R.not rfl) rfl ?_
 refine WO.nil ?_
 refine WX.sel [0, 1, 2, 3, 6, 7, 14] rfl ?_
 refine WX.next ?_
 refine WC.cond rfl (fun q12 => ?_) (fun q12 => ?_)
 have p12 : (¬ (1 ≤ (v))) ∨ (¬ ((v) ≤ 3)) := Or.imp (fun h => of_decide_eq_false h) (fun h => of_decide_eq_false h) (band_f (bnot_t q12))
 refine WC.seq ?_
 refine WC.region ?_
 refine WO.v (R.assign rfl) rfl ?_
 refine WO.v (R.assign rfl) rfl ?_
 refine WO.nil ?_
 refine WX.sel [0, 1, 2, 3, 6, 7, 14] rfl ?_
 refine WX.next ?_
 refine WC.ret ?_
 refine WX.thenRet ?_
 have e0 : ([] : List UInt8) = (putCB c rest v) := by first | exact pB_bad (bad1 q12) (by decide) | exact pB_bad (bad2 q12 (by assumption) (by omega)) (by omega) | exact pB_bad (bad3 q12 (by first | exact .inl (by assumption) | exact .inr (by omega)) (by assumption) (by omega)) (by decide) | exact pB_ok (bad0 q12 (by first | exact .inl (by assumption) | exact .inr (by omega)) hall (by omega))
 have n0 : 0 = (putCB c rest v).length := by rw [← e0]; simp only [List.length_nil]
 have f0 : Ac (α := UInt8) w.heap.size true w.heap.size w11.heap.size w11.heap.size w11 (.slice none 0 0) ([] : List UInt8) := Ac.empty _ _ _ _ _ _ _
 have e1 : (1 : Int) = (putCE c rest v) := by first | exact pE_bad (bad1 q12) (by decide) | exact pE_bad (bad2 q12 (by assumption) (by omega)) (by omega) | exact pE_bad (bad3 q12 (by first | exact .inl (by assumption) | exact .inr (by omega)) (by assumption) (by omega)) (by decide) | exact pE_ok (bad0 q12 (by first | exact .inl (by assumption) | exact .inr (by omega)) hall (by omega))
 refine WX.ret2 Try.results12 rfl rfl ?_
 exact ⟨none, 0, by first | (rw [n0, e1]; done) | (rw [n0, e1]; rfl), (acl_n f0 e0 n0), Kp.of_below b11⟩
 have p12 : (1 ≤ (v)) ∧ ((v) ≤ 3) := ⟨of_decide_eq_true (band_t (bnot_f q12)).1, of_decide_eq_true (band_t (bnot_f q12)).2⟩
 refine WC.skip ?_
 refine WX.next ?_
 refine WC.seq ?_
 refine WC.seq ?_
 refine WC.region ?_
 refine WO.v (R.loadBN (vs := [_, _, _, _, _, _, _, _]) rfl n11.blk rfl Try.underlying24 rfl sz24) rfl ?_
 refine WO.v (R.move rfl) rfl ?_
 refine WO.c (E.call rfl rfl Try.func33 rfl rfl) (for_s (v := v) (c := c) (Command.mk_ (i1) (i2) (i3) (i4) (i5) (i6) ((sl_old s9 b11).mono (lo' := 0) (hi' := w11.heap.size) (Nat.zero_le _) (by omega)) i10)) rfl ?_
 rintro _ w13 ⟨rfl, k13⟩
 have z13 := k13.size
 have b13 := old_kp0 b11 k13
 have y13 := b13.size
 refine WO.v (R.not rfl) rfl ?_
 refine WO.nil ?_
 refine WX.sel [0, 1, 2, 3, 6, 7, 14, 18] rfl ?_
 refine WX.next ?_
 refine WC.cond rfl (fun q14 => ?_) (fun q14 => ?_)
 have p14 : (forF (c) (v)) = false := (bnot_t q14)
 refine WC.seq ?_
 refine WC.region ?_
 have B15 := (n11.blk).kp0 k13
 refine WO.v (R.loadBN (vs := [_, _, _, _, _, _, _, _]) rfl B15 rfl Try.underlying24 rfl sz24) rfl ?_
 refine WO.v (R.move rfl) rfl ?_
 refine WO.c (E.call rfl rfl Try.func17 rfl rfl) (mayC_s (v := v) (c := c) (Command.mk_ (i1) (i2) (i3) (i4) (i5) (i6) ((sl_old s9 b13).mono (lo' := 0) (hi' := w13.heap.size) (Nat.zero_le _) (by omega)) i10)) rfl ?_
 rintro _ w16 ⟨rfl, k16⟩
 have z16 := k16.size
 have b16 := old_kp0 b13 k16
 have y16 := b16.size
 refine WO.v (R.assign rfl) rfl ?_
 refine WO.nil ?_
 refine WX.sel [0, 1, 2, 3, 6, 7, 8, 14, 18] rfl ?_
 refine WX.next ?_
 refine WC.seq ?_
 refine WC.region ?_
 refine WO.v (R.move rfl) rfl ?_
 refine WO.v (R.neq rfl rfl) rfl ?_
 refine WO.nil ?_
 refine WX.sel [0, 1, 2, 3, 6, 7, 8, 14, 18, 23] rfl ?_
 refine WX.next ?_
 refine WC.cond rfl (fun q17 => ?_) (fun q17 => ?_)
 have p17 : ¬ (mayC (c) (v) = (0 : Int)) := of_decide_eq_false (bnot_t q17)
 refine WC.seq ?_
 refine WC.region ?_
 refine WO.v (R.move rfl) rfl ?_
 refine WO.v (R.assign rfl) rfl ?_
 refine WO.v (R.assign rfl) rfl ?_
 refine WO.nil ?_
 refine WX.sel [0, 1, 2, 3, 6, 7, 8, 14, 18, 23] rfl ?_
 refine WX.next ?_
 refine WC.ret ?_
 refine WX.thenRet ?_
 have e0 : ([] : List UInt8) = (putCB c rest v) := by first | exact pB_bad (bad1 q12) (by decide) | exact pB_bad (bad2 q12 (by assumption) (by omega)) (by omega) | exact pB_bad (bad3 q12 (by first | exact .inl (by assumption) | exact .inr (by omega)) (by assumption) (by omega)) (by decide) | exact pB_ok (bad0 q12 (by first | exact .inl (by assumption) | exact .inr (by omega)) hall (by omega))
 have n0 : 0 = (putCB c rest v).length := by rw [← e0]; simp only [List.length_nil]
 have f0 : Ac (α := UInt8) w.heap.size true w.heap.size w16.heap.size w16.heap.size w16 (.slice none 0 0) ([] : List UInt8) := Ac.empty _ _ _ _ _ _ _
 have e1 : mayC (c) (v) = (putCE c rest v) := by first | exact pE_bad (bad1 q12) (by decide) | exact pE_bad (bad2 q12 (by assumption) (by omega)) (by omega) | exact pE_bad (bad3 q12 (by first | exact .inl (by assumption) | exact .inr (by omega)) (by assumption) (by omega)) (by decide) | exact pE_ok (bad0 q12 (by first | exact .inl (by assumption) | exact .inr (by omega)) hall (by omega))
 refine WX.ret2 Try.results12 rfl rfl ?_
 exact ⟨none, 0, by first | (rw [n0, e1]; done) | (rw [n0, e1]; rfl), (acl_n f0 e0 n0), Kp.of_below b16⟩
 have p17 : mayC (c) (v) = (0 : Int) := of_decide_eq_true (bnot_f q17)
 refine WC.skip ?_
 refine WX.next ?_
 refine WC.seq ?_
 refine WC.region ?_
 refine WO.v (R.move rfl) rfl ?_
 refine WO.c (E.call rfl rfl Try.func34 rfl rfl) (top_s (v := v) ) rfl ?_
 rintro _ w18 ⟨rfl, k18⟩
 have z18 := k18.size
 have b18 := old_kp0 b16 k18
 have y18 := b18.size
 refine WO.v (R.assign rfl) rfl ?_
 refine WO.nil ?_
 refine WX.sel [0, 1, 2, 3, 6, 7, 8, 9, 14, 18, 23] rfl ?_
 refine WX.next ?_
 refine WC.seq ?_
 refine WC.seq ?_
 refine WC.region ?_
 refine WO.v (R.move rfl) rfl ?_
 refine WO.v (R.len rfl Try.underlying25) rfl ?_
 refine WO.v (R.move rfl) rfl ?_
 refine WO.nil ?_
 refine WX.sel [0, 1, 2, 3, 6, 7, 8, 9, 14, 18, 23, 27, 28, 29] rfl ?_
 refine WX.next ?_
 refine WC.block ?_
 refine WC.loopK [0, 1, 2, 3, 6, 7, 8, 9, 14, 18, 23, 27, 28] rfl (fun zz : Nat => [(29, (.int .i64 (((zz) : Nat) : Int)))]) (fun (zz : Nat) (w' : World) => (Kp [] w18 w') ∧ ((zz) ≤ rest.length) ∧ (∀ j y, j < (zz) → rest[j]? = some y → ¬ y.num ≤ topF v)) (fun zz => rest.length - (zz)) (0) ?_ ?_ ?_
 exact ⟨⟨_, rfl, rfl⟩, trivial⟩
 exact ⟨Kp.refl _, Nat.zero_le _, by intro j y h; omega⟩
 rintro k w19 ⟨k19, hk, hall⟩
 try dsimp only at hk hall
 have z19 := k19.size
 have b19 := old_kp0 b18 k19
 have y19 := b19.size
 refine (?_ : WC _ _ _ _ ([(29, (.int .i64 ((k : Nat) : Int)))] ++ _) w19)
 refine WC.seq ?_
 refine WC.region ?_
 refine WO.v (R.lss rfl rfl) rfl ?_
 refine WO.nil ?_
 refine WX.sel [0, 1, 2, 3, 6, 7, 8, 9, 14, 18, 23, 27, 28, 29, 30] rfl ?_
 refine WX.next ?_
 refine WC.seq ?_
 refine WC.cond rfl (fun q20 => ?_) (fun q20 => ?_)
 have p20 : ((k : Nat) : Int) < ((rest.length : Nat) : Int) := of_decide_eq_true q20
 refine WC.skip ?_
 refine WX.next ?_
 refine WC.seq ?_
 refine WC.block ?_
 refine WC.seq ?_
 refine WC.region ?_
 obtain ⟨x21, hx21⟩ := get_ex (xs := rest) (i := k) (by omega)
 obtain ⟨A22, cs23, hA22, loA22, hiA22, ccA22, r24⟩ := (sl_old h_rest b19).at_ hx21
 obtain ⟨a28, c29, rfl, i25, i26, i27, s30⟩ := Field.el r24
 have ls30 : (x21.b).length * 1 ≤ 140737488355328 := s30.lenle
 refine WO.v (R.indexAddrN rfl rfl Try.underlying25 sz37 hA22 (by omega)) rfl ?_
 refine WO.v (R.loadN (cs := [_, _, _, _]) rfl Try.underlying37 rfl sz37 ccA22) rfl ?_
 refine WO.alloc zr37 rfl ?_
 intro w31 n31
 have z31 := n31.lt
 have b31 := old_kp0 b19 n31.kp
 have y31 := b31.size
 refine WO.storeBN rfl rfl n31.blk rfl (by simp [Value.oneCell']) sz37 ?_
 intro w32 k32 B32 z_32
 have z32 := z_32.symm
 have b32 := old_kp b31 k32 (mem1 (by omega))
 have y32 := b32.size
 refine WO.nil ?_
 refine WX.sel [0, 1, 2, 3, 6, 7, 8, 9, 11, 14, 18, 23, 27, 28, 29, 30] rfl ?_
 refine WX.next ?_
 refine WC.seq ?_
 refine WC.region ?_
 refine WO.v (fa37_0 rfl) rfl ?_
 refine WO.v (R.loadB rfl B32 rfl Try.underlying3 rfl) rfl ?_
 refine WO.v (R.move rfl) rfl ?_
 refine WO.v (R.leq rfl rfl) rfl ?_
 refine WO.nil ?_
 refine WX.sel [0, 1, 2, 3, 6, 7, 8, 9, 11, 14, 18, 23, 27, 28, 29, 30, 36] rfl ?_
 refine WX.next ?_
 refine WC.cond rfl (fun q33 => ?_) (fun q33 => ?_)
 have p33 : x21.num ≤ topF (v) := of_decide_eq_true q33
 refine WC.seq ?_
 refine WC.region ?_
 refine WO.v (R.assign rfl) rfl ?_
 refine WO.v (R.assign rfl) rfl ?_
 refine WO.nil ?_
 refine WX.sel [0, 1, 2, 3, 6, 7, 8, 9, 11, 14, 18, 23, 27, 28, 29, 30, 36] rfl ?_
 refine WX.next ?_
 refine WC.ret ?_
 refine WX.blkRet ?_
 refine WX.thenRet ?_
 refine WX.loopRet ?_
 refine WX.blkRet ?_
 refine WX.thenRet ?_
 have e0 : ([] : List UInt8) = (putCB c rest v) := by first | exact pB_bad (bad1 q12) (by decide) | exact pB_bad (bad2 q12 (by assumption) (by omega)) (by omega) | exact pB_bad (bad3 q12 (by first | exact .inl (by assumption) | exact .inr (by omega)) (by assumption) (by omega)) (by decide) | exact pB_ok (bad0 q12 (by first | exact .inl (by assumption) | exact .inr (by omega)) hall (by omega))
 have n0 : 0 = (putCB c rest v).length := by rw [← e0]; simp only [List.length_nil]
 have f0 : Ac (α := UInt8) w.heap.size true w.heap.size w32.heap.size w32.heap.size w32 (.slice none 0 0) ([] : List UInt8) := Ac.empty _ _ _ _ _ _ _
 have e1 : (6 : Int) = (putCE c rest v) := by first | exact pE_bad (bad1 q12) (by decide) | exact pE_bad (bad2 q12 (by assumption) (by omega)) (by omega) | exact pE_bad (bad3 q12 (by first | exact .inl (by assumption) | exact .inr (by omega)) (by assumption) (by omega)) (by decide) | exact pE_ok (bad0 q12 (by first | exact .inl (by assumption) | exact .inr (by omega)) hall (by omega))
 refine WX.ret2 Try.results12 rfl rfl ?_
 exact ⟨none, 0, by first | (rw [n0, e1]; done) | (rw [n0, e1]; rfl), (acl_n f0 e0 n0), Kp.of_below b32⟩
 have p33 : ¬ (x21.num ≤ topF (v)) := of_decide_eq_false q33
 refine WC.skip ?_
 refine WX.blkNormal ?_
 refine WX.next ?_
 refine WC.region ?_
 refine WO.v (R.inc rfl (by omega)) rfl ?_
 refine WO.v (R.move rfl) rfl ?_
 refine WO.nil ?_
 refine WX.sel [0, 1, 2, 3, 6, 7, 8, 9, 11, 14, 18, 23, 27, 28, 29, 30, 36] rfl ?_
 exact WX.loopNextK [0, 1, 2, 3, 6, 7, 8, 9, 14, 18, 23, 27, 28] (k + 1) rfl ⟨⟨_, rfl, rfl⟩, trivial⟩ ⟨(((Kp.refl _).step k19 (by simp)).step n31.kp (by simp)).step k32 (mem1 (.inr (by omega))), by omega, top_known hall hx21 (by omega)⟩ (by show (rest.length - (k + 1)) < (rest.length - k); omega)
 have p20 : ¬ (((k : Nat) : Int) < ((rest.length : Nat) : Int)) := of_decide_eq_false q20
 refine WC.exit ?_
 refine WX.thenExit ?_
 refine WX.loopExit ?_
 have hnn : 0 ≤ c.kind ∧ 0 ≤ c.client ∧ 0 ≤ c.seq ∧ 0 ≤ c.set ∧ 0 ≤ c.id ∧ 0 ≤ c.n := by first | exact nn_for (by assumption) | exact nn_may (by omega)
 refine WX.blkHit ?_
 refine WX.next ?_
 refine WC.seq ?_
 refine WC.region ?_
 have B34 := (((B15).kp0 k16).kp0 k18).kp0 k19
 refine WO.v (R.loadBN (vs := [_, _, _, _, _, _, _, _]) rfl B34 rfl Try.underlying24 rfl sz24) rfl ?_
 refine WO.v (R.move rfl) rfl ?_
 refine WO.c (E.call rfl rfl Try.func36 rfl rfl) (fields_s (v := v) (c := c) (Command.mk_ (i1) (i2) (i3) (i4) (i5) (i6) ((sl_old s9 b19).mono (lo' := 0) (hi' := w19.heap.size) (Nat.zero_le _) (by omega)) i10) (by omega) (by omega) (by omega) (by omega) (by omega) (by omega)) rfl ?_
 rintro _ w35 ⟨a36, c37, rfl, s38, k35⟩
 have ls38 : (fieldsF (c) (v)).length * 48 ≤ 140737488355328 := s38.lenle
 have z35 := k35.size
 have b35 := old_kp0 b19 k35
 have y35 := b35.size
 have := fields_len (c) (v)
 refine WO.v (R.move rfl) rfl ?_
 have ac39 : Ac (α := Field) (w19.heap.size) true (w19.heap.size) (w35.heap.size) (w35.heap.size) w35 (.slice a36 (fieldsF (c) (v)).length c37) (fieldsF (c) (v)) := (s38).ac
 have bd40 := ac39.bd
 have ty41 := ac39.ty
 have lenac39 : ((fieldsF (c) (v))).length * 48 ≤ 140737488355328 := ac39.lenle
 have lxac39 : ((fieldsF (c) (v)) ++ rest).length = (fieldsF (c) (v)).length + rest.length := List.length_append
 refine WO.appendM (B := w.heap.size) rfl ac39 (by omega) (by omega) (by omega) rfl rfl (ys := rest) (Src.of_sl (sl_old h_rest b35) (fun h => by cases h) (Nat.zero_le _) (by omega)) (by decide) (by omega) Try.underlying25 inf37 rfl rfl rfl (by decide) (by omega) (by omega) rfl ?_
 intro a44 c45 w43 h46 k43 or42
 have z43 := k43.size
 have b43 := old_kp b35 k43 (fun g hg => by have := bd40 g hg; omega)
 have y43 := b43.size
 refine WO.c (E.call rfl rfl Try.func35 rfl rfl) (putT_s (l := ((fieldsF (c) (v)) ++ rest)) (a_l := a44) (c_l := c45) ((h46).pub (L := 0) (H := w43.heap.size) (by omega) (by omega) (by omega) (by omega))) rfl ?_
 rintro _ w47 ⟨a48, c49, rfl, s50, k47⟩
 have ls50 : (putTF (((fieldsF (c) (v)) ++ rest))).length * 1 ≤ 140737488355328 := s50.lenle
 have z47 := k47.size
 have b47 := old_kp0 b43 k47
 have y47 := b47.size
 refine WO.v (R.extract rfl rfl) rfl ?_
 refine WO.v (R.extract rfl rfl) rfl ?_
 refine WO.v (R.assign rfl) rfl ?_
 refine WO.v (R.assign rfl) rfl ?_
 refine WO.nil ?_
 refine WX.sel [0, 1, 2, 3, 6, 7, 8, 9, 14, 18, 23, 27, 28, 29, 30] rfl ?_
 refine WX.next ?_
 refine WC.ret ?_
 have e0 : (putTF (((fieldsF (c) (v)) ++ rest))) = (putCB c rest v) := by first | exact pB_bad (bad1 q12) (by decide) | exact pB_bad (bad2 q12 (by assumption) (by omega)) (by omega) | exact pB_bad (bad3 q12 (by first | exact .inl (by assumption) | exact .inr (by omega)) (by assumption) (by omega)) (by decide) | exact pB_ok (bad0 q12 (by first | exact .inl (by assumption) | exact .inr (by omega)) hall (by omega))
 have n0 : (putTF (((fieldsF (c) (v)) ++ rest))).length = (putCB c rest v).length := by rw [e0]
 have f0 : Ac (α := UInt8) w.heap.size true w.heap.size w47.heap.size w47.heap.size w47 (.slice a48 (putTF (((fieldsF (c) (v)) ++ rest))).length c49) (putTF (((fieldsF (c) (v)) ++ rest))) := ((s50).mono (by omega) (by omega) (by omega) (by omega))
 have e1 : mayT (((fieldsF (c) (v)) ++ rest)) = (putCE c rest v) := by first | exact pE_bad (bad1 q12) (by decide) | exact pE_bad (bad2 q12 (by assumption) (by omega)) (by omega) | exact pE_bad (bad3 q12 (by first | exact .inl (by assumption) | exact .inr (by omega)) (by assumption) (by omega)) (by decide) | exact pE_ok (bad0 q12 (by first | exact .inl (by assumption) | exact .inr (by omega)) hall (by omega))
 refine WX.ret2 Try.results12 rfl rfl ?_
 exact ⟨a48, c49, by first | (rw [n0, e1]; done) | (rw [n0, e1]; rfl), (acl_n f0 e0 n0), Kp.of_below b47⟩
 have p14 : (forF (c) (v)) = true := (bnot_f q14)
 refine WC.skip ?_
 refine WX.next ?_
 refine WC.seq ?_
 refine WC.region ?_
 refine WO.v (R.move rfl) rfl ?_
 refine WO.c (E.call rfl rfl Try.func34 rfl rfl) (top_s (v := v) ) rfl ?_
 rintro _ w51 ⟨rfl, k51⟩
 have z51 := k51.size
 have b51 := old_kp0 b13 k51
 have y51 := b51.size
 refine WO.v (R.assign rfl) rfl ?_
 refine WO.nil ?_
 refine WX.sel [0, 1, 2, 3, 6, 7, 9, 14, 18] rfl ?_
 refine WX.next ?_
 refine WC.seq ?_
 refine WC.seq ?_
 refine WC.region ?_
 refine WO.v (R.move rfl) rfl ?_
 refine WO.v (R.len rfl Try.underlying25) rfl ?_
 refine WO.v (R.move rfl) rfl ?_
 refine WO.nil ?_
 refine WX.sel [0, 1, 2, 3, 6, 7, 9, 14, 18, 27, 28, 29] rfl ?_
 refine WX.next ?_
 refine WC.block ?_
 refine WC.loopK [0, 1, 2, 3, 6, 7, 9, 14, 18, 27, 28] rfl (fun zz : Nat => [(29, (.int .i64 (((zz) : Nat) : Int)))]) (fun (zz : Nat) (w' : World) => (Kp [] w51 w') ∧ ((zz) ≤ rest.length) ∧ (∀ j y, j < (zz) → rest[j]? = some y → ¬ y.num ≤ topF v)) (fun zz => rest.length - (zz)) (0) ?_ ?_ ?_
 exact ⟨⟨_, rfl, rfl⟩, trivial⟩
 exact ⟨Kp.refl _, Nat.zero_le _, by intro j y h; omega⟩
 rintro k w52 ⟨k52, hk, hall⟩
 try dsimp only at hk hall
 have z52 := k52.size
 have b52 := old_kp0 b51 k52
 have y52 := b52.size
 refine (?_ : WC _ _ _ _ ([(29, (.int .i64 ((k : Nat) : Int)))] ++ _) w52)
 refine WC.seq ?_
 refine WC.region ?_
 refine WO.v (R.lss rfl rfl) rfl ?_
 refine WO.nil ?_
 refine WX.sel [0, 1, 2, 3, 6, 7, 9, 14, 18, 27, 28, 29, 30] rfl ?_
 refine WX.next ?_
 refine WC.seq ?_
 refine WC.cond rfl (fun q53 => ?_) (fun q53 => ?_)
 have p53 : ((k : Nat) : Int) < ((rest.length : Nat) : Int) := of_decide_eq_true q53
 refine WC.skip ?_
 refine WX.next ?_
 refine WC.seq ?_
 refine WC.block ?_
 refine WC.seq ?_
 refine WC.region ?_
 obtain ⟨x54, hx54⟩ := get_ex (xs := rest) (i := k) (by omega)
 obtain ⟨A55, cs56, hA55, loA55, hiA55, ccA55, r57⟩ := (sl_old h_rest b52).at_ hx54
 obtain ⟨a61, c62, rfl, i58, i59, i60, s63⟩ := Field.el r57
 have ls63 : (x54.b).length * 1 ≤ 140737488355328 := s63.lenle
 refine WO.v (R.indexAddrN rfl rfl Try.underlying25 sz37 hA55 (by omega)) rfl ?_
 refine WO.v (R.loadN (cs := [_, _, _, _]) rfl Try.underlying37 rfl sz37 ccA55) rfl ?_
 refine WO.alloc zr37 rfl ?_
 intro w64 n64
 have z64 := n64.lt
 have b64 := old_kp0 b52 n64.kp
 have y64 := b64.size
 refine WO.storeBN rfl rfl n64.blk rfl (by simp [Value.oneCell']) sz37 ?_
 intro w65 k65 B65 z_65
 have z65 := z_65.symm
 have b65 := old_kp b64 k65 (mem1 (by omega))
 have y65 := b65.size
 refine WO.nil ?_
 refine WX.sel [0, 1, 2, 3, 6, 7, 9, 11, 14, 18, 27, 28, 29, 30] rfl ?_
 refine WX.next ?_
 refine WC.seq ?_
 refine WC.region ?_
 refine WO.v (fa37_0 rfl) rfl ?_
 refine WO.v (R.loadB rfl B65 rfl Try.underlying3 rfl) rfl ?_
 refine WO.v (R.move rfl) rfl ?_
 refine WO.v (R.leq rfl rfl) rfl ?_
 refine WO.nil ?_
 refine WX.sel [0, 1, 2, 3, 6, 7, 9, 11, 14, 18, 27, 28, 29, 30, 36] rfl ?_
 refine WX.next ?_
 refine WC.cond rfl (fun q66 => ?_) (fun q66 => ?_)
 have p66 : x54.num ≤ topF (v) := of_decide_eq_true q66
 refine WC.seq ?_
 refine WC.region ?_
 refine WO.v (R.assign rfl) rfl ?_
 refine WO.v (R.assign rfl) rfl ?_
 refine WO.nil ?_
 refine WX.sel [0, 1, 2, 3, 6, 7, 9, 11, 14, 18, 27, 28, 29, 30, 36] rfl ?_
 refine WX.next ?_
 refine WC.ret ?_
 refine WX.blkRet ?_
 refine WX.thenRet ?_
 refine WX.loopRet ?_
 refine WX.blkRet ?_
 refine WX.thenRet ?_
 have e0 : ([] : List UInt8) = (putCB c rest v) := by first | exact pB_bad (bad1 q12) (by decide) | exact pB_bad (bad2 q12 (by assumption) (by omega)) (by omega) | exact pB_bad (bad3 q12 (by first | exact .inl (by assumption) | exact .inr (by omega)) (by assumption) (by omega)) (by decide) | exact pB_ok (bad0 q12 (by first | exact .inl (by assumption) | exact .inr (by omega)) hall (by omega))
 have n0 : 0 = (putCB c rest v).length := by rw [← e0]; simp only [List.length_nil]
 have f0 : Ac (α := UInt8) w.heap.size true w.heap.size w65.heap.size w65.heap.size w65 (.slice none 0 0) ([] : List UInt8) := Ac.empty _ _ _ _ _ _ _
 have e1 : (6 : Int) = (putCE c rest v) := by first | exact pE_bad (bad1 q12) (by decide) | exact pE_bad (bad2 q12 (by assumption) (by omega)) (by omega) | exact pE_bad (bad3 q12 (by first | exact .inl (by assumption) | exact .inr (by omega)) (by assumption) (by omega)) (by decide) | exact pE_ok (bad0 q12 (by first | exact .inl (by assumption) | exact .inr (by omega)) hall (by omega))
 refine WX.ret2 Try.results12 rfl rfl ?_
 exact ⟨none, 0, by first | (rw [n0, e1]; done) | (rw [n0, e1]; rfl), (acl_n f0 e0 n0), Kp.of_below b65⟩
 have p66 : ¬ (x54.num ≤ topF (v)) := of_decide_eq_false q66
 refine WC.skip ?_
 refine WX.blkNormal ?_
 refine WX.next ?_
 refine WC.region ?_
 refine WO.v (R.inc rfl (by omega)) rfl ?_
 refine WO.v (R.move rfl) rfl ?_
 refine WO.nil ?_
 refine WX.sel [0, 1, 2, 3, 6, 7, 9, 11, 14, 18, 27, 28, 29, 30, 36] rfl ?_
 exact WX.loopNextK [0, 1, 2, 3, 6, 7, 9, 14, 18, 27, 28] (k + 1) rfl ⟨⟨_, rfl, rfl⟩, trivial⟩ ⟨(((Kp.refl _).step k52 (by simp)).step n64.kp (by simp)).step k65 (mem1 (.inr (by omega))), by omega, top_known hall hx54 (by omega)⟩ (by show (rest.length - (k + 1)) < (rest.length - k); omega)
 have p53 : ¬ (((k : Nat) : Int) < ((rest.length : Nat) : Int)) := of_decide_eq_false q53
 refine WC.exit ?_
 refine WX.thenExit ?_
 refine WX.loopExit ?_
 have hnn : 0 ≤ c.kind ∧ 0 ≤ c.client ∧ 0 ≤ c.seq ∧ 0 ≤ c.set ∧ 0 ≤ c.id ∧ 0 ≤ c.n := by first | exact nn_for (by assumption) | exact nn_may (by omega)
 refine WX.blkHit ?_
 refine WX.next ?_
 refine WC.seq ?_
 refine WC.region ?_
 have B67 := (((n11.blk).kp0 k13).kp0 k51).kp0 k52
 refine WO.v (R.loadBN (vs := [_, _, _, _, _, _, _, _]) rfl B67 rfl Try.underlying24 rfl sz24) rfl ?_
 refine WO.v (R.move rfl) rfl ?_
 refine WO.c (E.call rfl rfl Try.func36 rfl rfl) (fields_s (v := v) (c := c) (Command.mk_ (i1) (i2) (i3) (i4) (i5) (i6) ((sl_old s9 b52).mono (lo' := 0) (hi' := w52.heap.size) (Nat.zero_le _) (by omega)) i10) (by omega) (by omega) (by omega) (by omega) (by omega) (by omega)) rfl ?_
 rintro _ w68 ⟨a69, c70, rfl, s71, k68⟩
 have ls71 : (fieldsF (c) (v)).length * 48 ≤ 140737488355328 := s71.lenle
 have z68 := k68.size
 have b68 := old_kp0 b52 k68
 have y68 := b68.size
 have := fields_len (c) (v)
 refine WO.v (R.move rfl) rfl ?_
 have ac72 : Ac (α := Field) (w52.heap.size) true (w52.heap.size) (w68.heap.size) (w68.heap.size) w68 (.slice a69 (fieldsF (c) (v)).length c70) (fieldsF (c) (v)) := (s71).ac
 have bd73 := ac72.bd
 have ty74 := ac72.ty
 have lenac72 : ((fieldsF (c) (v))).length * 48 ≤ 140737488355328 := ac72.lenle
 have lxac72 : ((fieldsF (c) (v)) ++ rest).length = (fieldsF (c) (v)).length + rest.length := List.length_append
 refine WO.appendM (B := w.heap.size) rfl ac72 (by omega) (by omega) (by omega) rfl rfl (ys := rest) (Src.of_sl (sl_old h_rest b68) (fun h => by cases h) (Nat.zero_le _) (by omega)) (by decide) (by omega) Try.underlying25 inf37 rfl rfl rfl (by decide) (by omega) (by omega) rfl ?_
 intro a77 c78 w76 h79 k76 or75
 have z76 := k76.size
 have b76 := old_kp b68 k76 (fun g hg => by have := bd73 g hg; omega)
 have y76 := b76.size
 refine WO.c (E.call rfl rfl Try.func35 rfl rfl) (putT_s (l := ((fieldsF (c) (v)) ++ rest)) (a_l := a77) (c_l := c78) ((h79).pub (L := 0) (H := w76.heap.size) (by omega) (by omega) (by omega) (by omega))) rfl ?_
 rintro _ w80 ⟨a81, c82, rfl, s83, k80⟩
 have ls83 : (putTF (((fieldsF (c) (v)) ++ rest))).length * 1 ≤ 140737488355328 := s83.lenle
 have z80 := k80.size
 have b80 := old_kp0 b76 k80
 have y80 := b80.size
 refine WO.v (R.extract rfl rfl) rfl ?_
 refine WO.v (R.extract rfl rfl) rfl ?_
 refine WO.v (R.assign rfl) rfl ?_
 refine WO.v (R.assign rfl) rfl ?_
 refine WO.nil ?_
 refine WX.sel [0, 1, 2, 3, 6, 7, 9, 14, 18, 27, 28, 29, 30] rfl ?_
 refine WX.next ?_
 refine WC.ret ?_
 have e0 : (putTF (((fieldsF (c) (v)) ++ rest))) = (putCB c rest v) := by first | exact pB_bad (bad1 q12) (by decide) | exact pB_bad (bad2 q12 (by assumption) (by omega)) (by omega) | exact pB_bad (bad3 q12 (by first | exact .inl (by assumption) | exact .inr (by omega)) (by assumption) (by omega)) (by decide) | exact pB_ok (bad0 q12 (by first | exact .inl (by assumption) | exact .inr (by omega)) hall (by omega))
 have n0 : (putTF (((fieldsF (c) (v)) ++ rest))).length = (putCB c rest v).length := by rw [e0]
 have f0 : Ac (α := UInt8) w.heap.size true w.heap.size w80.heap.size w80.heap.size w80 (.slice a81 (putTF (((fieldsF (c) (v)) ++ rest))).length c82) (putTF (((fieldsF (c) (v)) ++ rest))) := ((s83).mono (by omega) (by omega) (by omega) (by omega))
 have e1 : mayT (((fieldsF (c) (v)) ++ rest)) = (putCE c rest v) := by first | exact pE_bad (bad1 q12) (by decide) | exact pE_bad (bad2 q12 (by assumption) (by omega)) (by omega) | exact pE_bad (bad3 q12 (by first | exact .inl (by assumption) | exact .inr (by omega)) (by assumption) (by omega)) (by decide) | exact pE_ok (bad0 q12 (by first | exact .inl (by assumption) | exact .inr (by omega)) hall (by omega))
 refine WX.ret2 Try.results12 rfl rfl ?_
 exact ⟨a81, c82, by first | (rw [n0, e1]; done) | (rw [n0, e1]; rfl), (acl_n f0 e0 n0), Kp.of_below b80⟩

set_option maxRecDepth 100000 in
set_option maxHeartbeats 400000 in
theorem shown5_s {w : World}   :
    Ret Try.prog 11 [].toArray w fun r w' => r = .bool true ∧ Kp [] w w' := by
 refine Ret.enter Try.func11 rfl Try.ntmps11 rfl rfl ?_
 refine WC.sel [] rfl ?_
 refine WC.seq ?_
 refine WC.region ?_
 refine WO.v (R.assign rfl) rfl ?_
 refine WO.nil ?_
 refine WX.sel [0] rfl ?_
 refine WX.next ?_
 refine WC.seq ?_
 refine WC.region ?_
 refine WO.v (R.buildL (parts := [_, _]) (cells := #[(.int .i64 (8 : Int)), (.int .i64 (0 : Int)), (.int .i64 (0 : Int)), (.int .i64 (0 : Int)), (.int .i64 (0 : Int)), (.int .i64 (2 : Int)), (.slice none 0 0), (⟨[]⟩ : Str).val]) rfl (by kernel_rfl)) rfl ?_
 refine WO.c (E.call rfl rfl Try.func12 rfl rfl) (putC_s (v := (1 : Int)) (rest := []) (a_rest := none) (c_rest := 0) (c := (⟨(8 : Int), (0 : Int), (0 : Int), (0 : Int), (0 : Int), (2 : Int), [], (⟨[]⟩ : Str)⟩ : Command)) (Command.mk_ (show I64 (8) from ⟨by omega, by omega⟩) (show I64 0 from ⟨by omega, by omega⟩) (show I64 0 from ⟨by omega, by omega⟩) (show I64 0 from ⟨by omega, by omega⟩) (show I64 0 from ⟨by omega, by omega⟩) (show I64 (2) from ⟨by omega, by omega⟩) (x6 := []) (Sl.nil _ _ _ _) (by simp)) (Sl.nil _ _ _ _) (by first | omega | simp)) rfl ?_
 rintro _ w1 ⟨a2, c3, rfl, s4, k1⟩
 have ls4 : (putCB ((⟨(8 : Int), (0 : Int), (0 : Int), (0 : Int), (0 : Int), (2 : Int), [], (⟨[]⟩ : Str)⟩ : Command)) ([]) ((1 : Int))).length * 1 ≤ 140737488355328 := s4.lenle
 have z1 := k1.size
 have b1 := old_kp0 (Below.refl w.heap.size w) k1
 have y1 := b1.size
 refine WO.v (R.move rfl) rfl ?_
 refine WO.v (R.extract rfl rfl) rfl ?_
 refine WO.v (R.extract rfl rfl) rfl ?_
 refine WO.v (R.assign rfl) rfl ?_
 refine WO.v (R.assign rfl) rfl ?_
 refine WO.nil ?_
 refine WX.sel [0, 1, 2] rfl ?_
 refine WX.next ?_
 refine WC.seq ?_
 refine WC.region ?_
 refine WO.v (R.move rfl) rfl ?_
 refine WO.v (R.toStr rfl Try.underlying27 Try.underlying9 Try.underlying5 (((s4).pub (L := 0) (H := w1.heap.size) (by omega) (by omega) (by omega) (by omega)))) rfl ?_
 refine WO.buildSlice (parts := [_, _, _, _]) (vss := [[_], [_], [_], [_]]) Try.underlying27 sz5 zr5 rfl rfl (by simp) rfl rfl rfl ?_
 intro w5 n5
 have z5 := n5.lt
 have b5 := old_kp0 b1 n5.kp
 have y5 := b5.size
 have ac6 : Ac (α := UInt8) (w1.heap.size) true (w.heap.size) (w5.heap.size) (w5.heap.size) w5 (.slice (some ⟨w1.heap.size, 0, none⟩) 4 4) ([(8 : UInt8), (8 : UInt8), (48 : UInt8), (2 : UInt8)] : List UInt8) := Ac.lit (α := UInt8) (ys := ([(8 : UInt8), (8 : UInt8), (48 : UInt8), (2 : UInt8)] : List UInt8)) (css := [[_], [_], [_], [_]]) n5.blk (.cons (rfl) (.cons (rfl) (.cons (rfl) (.cons (rfl) (.nil))))) (by omega) (by omega) (by simp [maxLen]) (by show 4 * 1 ≤ 140737488355328; decide) rfl
 have lenac6 : ([(8 : UInt8), (8 : UInt8), (48 : UInt8), (2 : UInt8)] : List UInt8).length = 4 := rfl
 refine WO.v (R.toStr rfl Try.underlying27 Try.underlying9 Try.underlying5 (((ac6).pub (L := 0) (H := w5.heap.size) (by omega) (by omega) (by omega) (by omega)))) rfl ?_
 refine WO.v (R.eqlS rfl rfl) rfl ?_
 refine WO.v (R.move rfl) rfl ?_
 refine WO.cutP 3 [(16, (.bool ((decide ((⟨(putCB ((⟨(8 : Int), (0 : Int), (0 : Int), (0 : Int), (0 : Int), (2 : Int), [], (⟨[]⟩ : Str)⟩ : Command)) ([]) ((1 : Int)))⟩ : Str) = (⟨([(8 : UInt8), (8 : UInt8), (48 : UInt8), (2 : UInt8)] : List UInt8)⟩ : Str))) && (decide (putCE ((⟨(8 : Int), (0 : Int), (0 : Int), (0 : Int), (0 : Int), (2 : Int), [], (⟨[]⟩ : Str)⟩ : Command)) ([]) ((1 : Int)) = (0 : Int))))))] (fun w' => w5 = w') ?_ ?_
 rcases Bool.eq_false_or_eq_true (decide ((⟨(putCB ((⟨(8 : Int), (0 : Int), (0 : Int), (0 : Int), (0 : Int), (2 : Int), [], (⟨[]⟩ : Str)⟩ : Command)) ([]) ((1 : Int)))⟩ : Str) = (⟨([(8 : UInt8), (8 : UInt8), (48 : UInt8), (2 : UInt8)] : List UInt8)⟩ : Str))) with hb7 | hb7
 have phb7 : (⟨(putCB ((⟨(8 : Int), (0 : Int), (0 : Int), (0 : Int), (0 : Int), (2 : Int), [], (⟨[]⟩ : Str)⟩ : Command)) ([]) ((1 : Int)))⟩ : Str) = (⟨([(8 : UInt8), (8 : UInt8), (48 : UInt8), (2 : UInt8)] : List UInt8)⟩ : Str) := of_decide_eq_true hb7
 refine WO.on rfl rfl hb7 ?_
 refine WO.v (R.move rfl) rfl ?_
 refine WO.on rfl rfl hb7 ?_
 refine WO.v (R.eql rfl rfl) rfl ?_
 refine WO.v (R.pickT rfl hb7 rfl) rfl ?_
 refine WO.nil ?_
 exact WX.cutDoneP 3 rfl rfl ⟨⟨_, rfl, vb (band_on hb7)⟩, trivial⟩ (rfl)
 have phb7 : ¬ ((⟨(putCB ((⟨(8 : Int), (0 : Int), (0 : Int), (0 : Int), (0 : Int), (2 : Int), [], (⟨[]⟩ : Str)⟩ : Command)) ([]) ((1 : Int)))⟩ : Str) = (⟨([(8 : UInt8), (8 : UInt8), (48 : UInt8), (2 : UInt8)] : List UInt8)⟩ : Str)) := of_decide_eq_false hb7
 refine WO.off rfl rfl hb7 rfl ?_
 refine WO.off rfl rfl hb7 rfl ?_
 refine WO.v (R.pickF rfl hb7 rfl) rfl ?_
 refine WO.nil ?_
 exact WX.cutDoneP 3 rfl rfl ⟨⟨_, rfl, vb (band_off hb7)⟩, trivial⟩ (rfl)
 rintro _ rfl
 refine WO.v (R.move rfl) rfl ?_
 refine WO.cutP 3 [(20, (.bool (((decide ((⟨(putCB ((⟨(8 : Int), (0 : Int), (0 : Int), (0 : Int), (0 : Int), (2 : Int), [], (⟨[]⟩ : Str)⟩ : Command)) ([]) ((1 : Int)))⟩ : Str) = (⟨([(8 : UInt8), (8 : UInt8), (48 : UInt8), (2 : UInt8)] : List UInt8)⟩ : Str))) && (decide (putCE ((⟨(8 : Int), (0 : Int), (0 : Int), (0 : Int), (0 : Int), (2 : Int), [], (⟨[]⟩ : Str)⟩ : Command)) ([]) ((1 : Int)) = (0 : Int)))) && (decide (needF ((11 : Int)) = (3 : Int))))))] (fun w' => Kp [] w5 w') ?_ ?_
 rcases Bool.eq_false_or_eq_true ((decide ((⟨(putCB ((⟨(8 : Int), (0 : Int), (0 : Int), (0 : Int), (0 : Int), (2 : Int), [], (⟨[]⟩ : Str)⟩ : Command)) ([]) ((1 : Int)))⟩ : Str) = (⟨([(8 : UInt8), (8 : UInt8), (48 : UInt8), (2 : UInt8)] : List UInt8)⟩ : Str))) && (decide (putCE ((⟨(8 : Int), (0 : Int), (0 : Int), (0 : Int), (0 : Int), (2 : Int), [], (⟨[]⟩ : Str)⟩ : Command)) ([]) ((1 : Int)) = (0 : Int)))) with hb8 | hb8
 have phb8 : ((⟨(putCB ((⟨(8 : Int), (0 : Int), (0 : Int), (0 : Int), (0 : Int), (2 : Int), [], (⟨[]⟩ : Str)⟩ : Command)) ([]) ((1 : Int)))⟩ : Str) = (⟨([(8 : UInt8), (8 : UInt8), (48 : UInt8), (2 : UInt8)] : List UInt8)⟩ : Str)) ∧ (putCE ((⟨(8 : Int), (0 : Int), (0 : Int), (0 : Int), (0 : Int), (2 : Int), [], (⟨[]⟩ : Str)⟩ : Command)) ([]) ((1 : Int)) = (0 : Int)) := ⟨of_decide_eq_true (band_t hb8).1, of_decide_eq_true (band_t hb8).2⟩
 refine WO.on rfl rfl hb8 ?_
 refine WO.c (E.call rfl rfl Try.func18 rfl rfl) (need_s (k := (11 : Int)) ) rfl ?_
 rintro _ w9 ⟨rfl, k9⟩
 have z9 := k9.size
 have b9 := old_kp0 b5 k9
 have y9 := b9.size
 refine WO.on rfl rfl hb8 ?_
 refine WO.v (R.eql rfl rfl) rfl ?_
 refine WO.v (R.pickT rfl hb8 rfl) rfl ?_
 refine WO.nil ?_
 exact WX.cutDoneP 3 rfl rfl ⟨⟨_, rfl, vb (band_on hb8)⟩, trivial⟩ ((Kp.refl _).step k9 (by simp))
 have phb8 : (¬ ((⟨(putCB ((⟨(8 : Int), (0 : Int), (0 : Int), (0 : Int), (0 : Int), (2 : Int), [], (⟨[]⟩ : Str)⟩ : Command)) ([]) ((1 : Int)))⟩ : Str) = (⟨([(8 : UInt8), (8 : UInt8), (48 : UInt8), (2 : UInt8)] : List UInt8)⟩ : Str))) ∨ (¬ (putCE ((⟨(8 : Int), (0 : Int), (0 : Int), (0 : Int), (0 : Int), (2 : Int), [], (⟨[]⟩ : Str)⟩ : Command)) ([]) ((1 : Int)) = (0 : Int))) := Or.imp (fun h => of_decide_eq_false h) (fun h => of_decide_eq_false h) (band_f hb8)
 refine WO.off rfl rfl hb8 rfl ?_
 refine WO.off rfl rfl hb8 rfl ?_
 refine WO.v (R.pickF rfl hb8 rfl) rfl ?_
 refine WO.nil ?_
 exact WX.cutDoneP 3 rfl rfl ⟨⟨_, rfl, vb (band_off hb8)⟩, trivial⟩ (Kp.refl _)
 intro w10 k10
 have z10 := k10.size
 have b10 := old_kp0 b5 k10
 have y10 := b10.size
 refine WO.v (R.assign rfl) rfl ?_
 refine WO.nil ?_
 refine WX.sel [0, 1, 2] rfl ?_
 refine WX.next ?_
 refine WC.ret ?_
 have e0 : (((decide ((⟨(putCB ((⟨(8 : Int), (0 : Int), (0 : Int), (0 : Int), (0 : Int), (2 : Int), [], (⟨[]⟩ : Str)⟩ : Command)) ([]) ((1 : Int)))⟩ : Str) = (⟨([(8 : UInt8), (8 : UInt8), (48 : UInt8), (2 : UInt8)] : List UInt8)⟩ : Str))) && (decide (putCE ((⟨(8 : Int), (0 : Int), (0 : Int), (0 : Int), (0 : Int), (2 : Int), [], (⟨[]⟩ : Str)⟩ : Command)) ([]) ((1 : Int)) = (0 : Int)))) && (decide (needF ((11 : Int)) = (3 : Int)))) = true := by decide +kernel
 refine WX.ret1 Try.results11 rfl ?_
 exact ⟨by rw [e0], Kp.of_below b10⟩


end Go.Proofs.Ytfmlgeeogbhppaa
