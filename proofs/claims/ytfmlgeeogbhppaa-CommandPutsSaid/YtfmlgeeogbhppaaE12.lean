/- Contracts of functions, walked operation by operation. -/
import Derived.Test.YtfmlgeeogbhppaaE11
namespace Go.Proofs.Ytfmlgeeogbhppaa
open Go.RowKit

theorem fit_row {c : Command} (h : fitsF c = true) : c.chunks.length = 0 ∨ rowF c.chunks = true := by
  unfold fitsF at h
  simp only [Bool.and_eq_true, decide_eq_true_eq] at h
  have h2 : chF c = true := by obtain ⟨⟨⟨⟨⟨⟨⟨h1, h2⟩, h3⟩, h4⟩, h5⟩, h6⟩, h7⟩, h8⟩ := h; assumption
  unfold chF at h2
  split at h2
  · exact .inr h2
  · have := of_decide_eq_true h2; exact .inl (by omega)
theorem for_rw {c : Command} {v : Int} (h : forF c v = true) : c.chunks.length = 0 ∨ rowF c.chunks = true := by
  unfold forF at h
  rw [Bool.and_eq_true, Bool.and_eq_true, Bool.or_eq_true, decide_eq_true_eq] at h
  rcases h.1.2 with h | h
  · exact .inl (by omega)
  · exact .inr h
theorem may_row {c : Command} {v : Int} (h : mayC c v = 0) : c.chunks.length = 0 ∨ rowF c.chunks = true := fit_row (may_fits h).2.2.2
def shortF (f : Field) : Field := { f with b := f.b.take 100 }
theorem take_mn {α : Type} {l : List α} {k n : Nat} (h : k = min l.length n) : l.take k = l.take n := by
  subst h
  rcases Nat.le_total l.length n with h | h
  · rw [Nat.min_eq_left h, List.take_length, List.take_of_length_le h]
  · rw [Nat.min_eq_right h]
def someF (l : List Field) : List Field := (l.take 20).map shortF
theorem some_step {l : List Field} {k : Nat} {x : Field} (hx : l[k]? = some x) : (l.take k).map shortF ++ ([⟨x.num, x.wire, x.n, x.b.take 100⟩] : List Field) = (l.take (k + 1)).map shortF := by
  rw [take_succ_get hx, List.map_append]; rfl
theorem some_len {l : List Field} : (someF l).length ≤ 20 := by unfold someF; rw [List.length_map, List.length_take]; exact Nat.min_le_left _ _

theorem fe37_0 {n : Nat} {fr : Fr} {w : World} {ty : TypeId} {x : Operand} {a : Addr} (hx : ev fr x = some (.pointer (some a))) : Runs Try.prog n fr w (.fieldAddr 37 x 0) ty (.pointer (some (a.add 0))) w := R.fieldAddr hx Try.underlying37 rfl rfl sz3

set_option maxRecDepth 100000 in
set_option maxHeartbeats 400000 in
theorem putRC_s {w : World} {cs_c : List Value} {c : Command} {a_rest : Option Addr} {c_rest : Nat} {rest : List Field} (v : Int) (h_c : Rp.rp false 0 w.heap.size w cs_c c) (h_rest : Sl false 0 w.heap.size w (.slice a_rest rest.length c_rest) rest) (pre0 : rest.length ≤ 1000) :
    Ret Try.prog 15 [.agg cs_c.toArray, .slice a_rest rest.length c_rest, .int .i64 v].toArray w fun r w' => ∃ (ra0 : Option Addr) (rc0 : Nat), r = .tuple #[.slice ra0 (putCB c rest v).length rc0, .int .i64 (putCE c rest v)] ∧ Ac w.heap.size true w.heap.size w'.heap.size w'.heap.size w' (.slice ra0 (putCB c rest v).length rc0) (putCB c rest v) ∧ Kp [] w w' := by
 obtain ⟨a7, c8, rfl, i1, i2, i3, i4, i5, i6, s9, i10⟩ := Command.el h_c
 have ls9 : (c.chunks).length * 8 ≤ 140737488355328 := s9.lenle
 have len_rest : (rest).length * 48 ≤ 140737488355328 := h_rest.lenle
 refine Ret.enter Try.func15 rfl Try.ntmps15 rfl rfl ?_
 refine WC.sel [0, 1, 2] rfl ?_
 refine WC.seq ?_
 refine WC.region ?_
 refine WO.box rfl rfl rfl ?_
 intro w11 n11
 have z11 := n11.lt
 have b11 := old_kp0 (Below.refl w.heap.size w) n11.kp
 have y11 := b11.size
 refine WO.v (R.assign rfl) rfl ?_
 refine WO.v (R.assign rfl) rfl ?_
 refine WO.nil ?_
 refine WX.sel [0, 1, 2, 3, 6, 7] rfl ?_
 refine WX.next ?_
 refine WC.seq ?_
 refine WC.seq ?_
 refine WC.region ?_
 refine WO.v (R.move rfl) rfl ?_
 refine WO.c (E.call rfl rfl Try.func37 rfl rfl) (in5_s (n := v) (a := (1 : Int)) (b := (3 : Int)) ) rfl ?_
 rintro _ _ ⟨rfl, rfl⟩
 refine WO.v (R.not rfl) rfl ?_
 refine WO.nil ?_
 refine WX.sel [0, 1, 2, 3, 6, 7, 12] rfl ?_
 refine WX.next ?_
 refine WC.cond rfl (fun q12 => ?_) (fun q12 => ?_)
 have p12 : (¬ (((1 : Int)) ≤ (v))) ∨ (¬ ((v) ≤ ((3 : Int)))) := Or.imp (fun h => of_decide_eq_false h) (fun h => of_decide_eq_false h) (band_f (bnot_t q12))
 refine WC.seq ?_
 refine WC.region ?_
 refine WO.v (R.assign rfl) rfl ?_
 refine WO.v (R.assign rfl) rfl ?_
 refine WO.nil ?_
 refine WX.sel [0, 1, 2, 3, 6, 7, 12] rfl ?_
 refine WX.next ?_
 refine WC.ret ?_
 refine WX.thenRet ?_
 have e0 : ([] : List UInt8) = (putCB c rest v) := by first | exact pB_bad (bad1 q12) (by decide) | exact pB_bad (bad2 q12 (by assumption) (by omega)) (by omega) | exact pB_bad (bad3 q12 (by first | exact .inl (by assumption) | exact .inr (by omega)) (by assumption) (by omega)) (by decide) | exact pB_ok (bad0 q12 (by first | exact .inl (by assumption) | exact .inr (by omega)) hall (by omega))
 have n0 : 0 = (putCB c rest v).length := by rw [← e0]; simp only [List.length_nil]
 have f0 : Ac (α := UInt8) w.heap.size true w.heap.size w11.heap.size w11.heap.size w11 (.slice none 0 0) ([] : List UInt8) := Ac.empty _ _ _ _ _ _ _
 have e1 : (1 : Int) = (putCE c rest v) := by first | exact pE_bad (bad1 q12) (by decide) | exact pE_bad (bad2 q12 (by assumption) (by omega)) (by omega) | exact pE_bad (bad3 q12 (by first | exact .inl (by assumption) | exact .inr (by omega)) (by assumption) (by omega)) (by decide) | exact pE_ok (bad0 q12 (by first | exact .inl (by assumption) | exact .inr (by omega)) hall (by omega))
 refine WX.ret2 Try.results15 rfl rfl ?_
 exact ⟨none, 0, by first | (rw [n0, e1]; done) | (rw [n0, e1]; rfl), (acl_n f0 e0 n0), Kp.of_below b11⟩
 have p12 : (((1 : Int)) ≤ (v)) ∧ ((v) ≤ ((3 : Int))) := ⟨of_decide_eq_true (band_t (bnot_f q12)).1, of_decide_eq_true (band_t (bnot_f q12)).2⟩
 refine WC.skip ?_
 refine WX.next ?_
 refine WC.seq ?_
 refine WC.seq ?_
 refine WC.region ?_
 refine WO.v (R.loadBN (vs := [_, _, _, _, _, _, _, _]) rfl n11.blk rfl Try.underlying24 rfl sz24) rfl ?_
 refine WO.v (R.move rfl) rfl ?_
 refine WO.c (E.call rfl rfl Try.func38 rfl rfl) (forR_s (v := v) (c := c) (Command.mk_ (i1) (i2) (i3) (i4) (i5) (i6) ((sl_old s9 b11).mono (lo' := 0) (hi' := w11.heap.size) (Nat.zero_le _) (by omega)) i10)) rfl ?_
 rintro _ w13 ⟨rfl, k13⟩
 have z13 := k13.size
 have b13 := old_kp0 b11 k13
 have y13 := b13.size
 refine WO.v (R.not rfl) rfl ?_
 refine WO.nil ?_
 refine WX.sel [0, 1, 2, 3, 6, 7, 12, 16] rfl ?_
 refine WX.next ?_
 refine WC.cond rfl (fun q14 => ?_) (fun q14 => ?_)
 have p14 : (forF (c) (v)) = false := (bnot_t q14)
 refine WC.seq ?_
 refine WC.region ?_
 have B15 := (n11.blk).kp0 k13
 refine WO.v (R.loadBN (vs := [_, _, _, _, _, _, _, _]) rfl B15 rfl Try.underlying24 rfl sz24) rfl ?_
 refine WO.v (R.move rfl) rfl ?_
 refine WO.c (E.call rfl rfl Try.func28 rfl rfl) (mayR_s (v := v) (c := c) (Command.mk_ (i1) (i2) (i3) (i4) (i5) (i6) ((sl_old s9 b13).mono (lo' := 0) (hi' := w13.heap.size) (Nat.zero_le _) (by omega)) i10)) rfl ?_
 rintro _ w16 ⟨rfl, k16⟩
 have z16 := k16.size
 have b16 := old_kp0 b13 k16
 have y16 := b16.size
 refine WO.v (R.assign rfl) rfl ?_
 refine WO.nil ?_
 refine WX.sel [0, 1, 2, 3, 6, 7, 8, 12, 16] rfl ?_
 refine WX.next ?_
 refine WC.seq ?_
 refine WC.region ?_
 refine WO.v (R.move rfl) rfl ?_
 refine WO.v (R.neq rfl rfl) rfl ?_
 refine WO.nil ?_
 refine WX.sel [0, 1, 2, 3, 6, 7, 8, 12, 16, 21] rfl ?_
 refine WX.next ?_
 refine WC.cond rfl (fun q17 => ?_) (fun q17 => ?_)
 have p17 : ¬ (mayC (c) (v) = (0 : Int)) := of_decide_eq_false (bnot_t q17)
 refine WC.seq ?_
 refine WC.region ?_
 refine WO.v (R.move rfl) rfl ?_
 refine WO.v (R.assign rfl) rfl ?_
 refine WO.v (R.assign rfl) rfl ?_
 refine WO.nil ?_
 refine WX.sel [0, 1, 2, 3, 6, 7, 8, 12, 16, 21] rfl ?_
 refine WX.next ?_
 refine WC.ret ?_
 refine WX.thenRet ?_
 have e0 : ([] : List UInt8) = (putCB c rest v) := by first | exact pB_bad (bad1 q12) (by decide) | exact pB_bad (bad2 q12 (by assumption) (by omega)) (by omega) | exact pB_bad (bad3 q12 (by first | exact .inl (by assumption) | exact .inr (by omega)) (by assumption) (by omega)) (by decide) | exact pB_ok (bad0 q12 (by first | exact .inl (by assumption) | exact .inr (by omega)) hall (by omega))
 have n0 : 0 = (putCB c rest v).length := by rw [← e0]; simp only [List.length_nil]
 have f0 : Ac (α := UInt8) w.heap.size true w.heap.size w16.heap.size w16.heap.size w16 (.slice none 0 0) ([] : List UInt8) := Ac.empty _ _ _ _ _ _ _
 have e1 : mayC (c) (v) = (putCE c rest v) := by first | exact pE_bad (bad1 q12) (by decide) | exact pE_bad (bad2 q12 (by assumption) (by omega)) (by omega) | exact pE_bad (bad3 q12 (by first | exact .inl (by assumption) | exact .inr (by omega)) (by assumption) (by omega)) (by decide) | exact pE_ok (bad0 q12 (by first | exact .inl (by assumption) | exact .inr (by omega)) hall (by omega))
 refine WX.ret2 Try.results15 rfl rfl ?_
 exact ⟨none, 0, by first | (rw [n0, e1]; done) | (rw [n0, e1]; rfl), (acl_n f0 e0 n0), Kp.of_below b16⟩
 have p17 : mayC (c) (v) = (0 : Int) := of_decide_eq_true (bnot_f q17)
 refine WC.skip ?_
 refine WX.next ?_
 refine WC.seq ?_
 refine WC.seq ?_
 refine WC.region ?_
 refine WO.v (R.assign rfl) rfl ?_
 refine WO.nil ?_
 refine WX.sel [0, 1, 2, 3, 6, 7, 8, 9, 12, 16, 21] rfl ?_
 refine WX.next ?_
 refine WC.block ?_
 refine WC.loopK [0, 1, 2, 3, 6, 7, 8, 12, 16, 21] rfl (fun zz : Nat => [(9, (.int .i64 (((zz) : Nat) : Int)))]) (fun (zz : Nat) (w' : World) => (Kp [] w16 w') ∧ ((zz) ≤ rest.length) ∧ (∀ j y, j < (zz) → rest[j]? = some y → ¬ y.num ≤ topF v)) (fun zz => rest.length - (zz)) (0) ?_ ?_ ?_
 exact ⟨⟨_, rfl, rfl⟩, trivial⟩
 exact ⟨Kp.refl _, Nat.zero_le _, by intro j y h; omega⟩
 rintro k w18 ⟨k18, hk, hall⟩
 try dsimp only at hk hall
 have z18 := k18.size
 have b18 := old_kp0 b16 k18
 have y18 := b18.size
 refine (?_ : WC _ _ _ _ ([(9, (.int .i64 ((k : Nat) : Int)))] ++ _) w18)
 refine WC.seq ?_
 refine WC.seq ?_
 refine WC.region ?_
 refine WO.v (R.move rfl) rfl ?_
 refine WO.v (R.move rfl) rfl ?_
 refine WO.v (R.len rfl Try.underlying25) rfl ?_
 refine WO.v (R.lss rfl rfl) rfl ?_
 refine WO.nil ?_
 refine WX.sel [0, 1, 2, 3, 6, 7, 8, 9, 12, 16, 21, 26] rfl ?_
 refine WX.next ?_
 refine WC.cond rfl (fun q19 => ?_) (fun q19 => ?_)
 have p19 : ((k : Nat) : Int) < ((rest.length : Nat) : Int) := of_decide_eq_true q19
 refine WC.skip ?_
 refine WX.next ?_
 refine WC.seq ?_
 refine WC.block ?_
 refine WC.seq ?_
 refine WC.sel [0, 1, 2, 3, 6, 7, 8, 9, 12, 16, 21, 26] rfl ?_
 obtain ⟨x20, hx20⟩ := get_ex (xs := rest) (i := k) (by omega)
 obtain ⟨A21, cs22, hA21, loA21, hiA21, ccA21, r23⟩ := (sl_old h_rest b18).at_ hx20
 obtain ⟨a27, c28, rfl, i24, i25, i26, s29⟩ := Field.el r23
 have ls29 : (x20.b).length * 1 ≤ 140737488355328 := s29.lenle
 refine WC.draw' mixed_orders [.ex [] (.slice a_rest rest.length c_rest), .ex [] (.int .i64 ((k : Nat) : Int)), .ex [0, 1] (.pointer (some (A21.add (k * 4)))), .ex [2] (.pointer (some ((A21.add (k * 4)).add 0))), .ex [3] (.int .i64 x20.num), .ex [] (.int .i64 v), .ex [5] (.int .i64 (topF (v))), .ex [4, 6] (.bool (decide (x20.num ≤ topF (v))))] 8 (by kernel_rfl) ⟨fun _ _ _ h _ => h, fun _ _ _ h _ => h, fun _ _ _ h _ => h, fun _ _ _ h _ => h, fun _ _ _ h _ => h, fun _ _ _ h _ => h, fun _ _ _ h _ => h, fun _ _ _ h _ => h, trivial⟩ ⟨?_, ?_, ?_, ?_, ?_, ?_, ?_, ?_, trivial⟩ ?_
 rintro vs w31 k31 ⟨-⟩
 replace k31 : Kp [] w18 w31 := k31
 refine WO.haves (fr' := [(1, _)]) ⟨⟨_, rfl, rfl⟩, trivial⟩ ?_
 refine WO.v (R.move rfl) rfl ?_
 refine WO.nil ?_
 exact WX.stepDone rfl rfl (Kp.refl _)
 rintro vs w32 k32 ⟨-⟩
 replace k32 : Kp [] w18 w32 := k32
 refine WO.haves (fr' := [(9, _)]) ⟨⟨_, rfl, rfl⟩, trivial⟩ ?_
 refine WO.v (R.move rfl) rfl ?_
 refine WO.nil ?_
 exact WX.stepDone rfl rfl (Kp.refl _)
 rintro vs w33 k33 ⟨e34, e35, -⟩
 replace k33 : Kp [] w18 w33 := k33
 refine WO.haves (fr' := [(29, _), (30, _)]) ⟨⟨_, rfl, e34⟩, ⟨_, rfl, e35⟩, trivial⟩ ?_
 refine WO.v (R.indexAddrN rfl rfl Try.underlying25 sz37 hA21 (by omega)) rfl ?_
 refine WO.nil ?_
 exact WX.stepDone rfl rfl (Kp.refl _)
 rintro vs w36 k36 ⟨e37, -⟩
 replace k36 : Kp [] w18 w36 := k36
 refine WO.haves (fr' := [(31, _)]) ⟨⟨_, rfl, e37⟩, trivial⟩ ?_
 refine WO.v (fe37_0 rfl) rfl ?_
 refine WO.nil ?_
 exact WX.stepDone rfl rfl (Kp.refl _)
 rintro vs w38 k38 ⟨e39, -⟩
 replace k38 : Kp [] w18 w38 := k38
 have z38 := k38.size
 have b38 := old_kp0 b18 k38
 have y38 := b38.size
 refine WO.haves (fr' := [(32, _)]) ⟨⟨_, rfl, e39⟩, trivial⟩ ?_
 refine WO.v (R.load1 rfl Try.underlying3 rfl (((ccA21).kpA k38 (by omega) (by simp)).one (j := 0) rfl)) rfl ?_
 refine WO.nil ?_
 exact WX.stepDone rfl rfl (Kp.refl _)
 rintro vs w40 k40 ⟨-⟩
 replace k40 : Kp [] w18 w40 := k40
 refine WO.haves (fr' := [(2, _)]) ⟨⟨_, rfl, rfl⟩, trivial⟩ ?_
 refine WO.v (R.move rfl) rfl ?_
 refine WO.nil ?_
 exact WX.stepDone rfl rfl (Kp.refl _)
 rintro vs w41 k41 ⟨e42, -⟩
 replace k41 : Kp [] w18 w41 := k41
 have z41 := k41.size
 have b41 := old_kp0 b18 k41
 have y41 := b41.size
 refine WO.haves (fr' := [(34, _)]) ⟨⟨_, rfl, e42⟩, trivial⟩ ?_
 refine WO.c (E.call rfl rfl Try.func39 rfl rfl) (top04_s (v := v) ) rfl ?_
 rintro _ w43 ⟨rfl, k43⟩
 have z43 := k43.size
 have b43 := old_kp0 b41 k43
 have y43 := b43.size
 refine WO.nil ?_
 exact WX.stepDone rfl rfl ((Kp.refl _).step k43 (by simp))
 rintro vs w44 k44 ⟨e45, e46, -⟩
 replace k44 : Kp [] w18 w44 := k44
 refine WO.haves (fr' := [(33, _), (35, _)]) ⟨⟨_, rfl, e45⟩, ⟨_, rfl, e46⟩, trivial⟩ ?_
 refine WO.v (R.leq rfl rfl) rfl ?_
 refine WO.nil ?_
 exact WX.stepDone rfl rfl (Kp.refl _)
 rintro vs w47 k47 ⟨-, -, -, -, -, -, -, e55, -⟩
 replace k47 : Kp [] w18 w47 := k47
 have z47 := k47.size
 have b47 := old_kp0 b18 k47
 have y47 := b47.size
 refine WO.haves (fr' := [(36, _), (0, _), (1, _), (2, _), (3, _), (6, _), (7, _), (8, _), (9, _), (12, _), (16, _), (21, _), (26, _)]) ⟨⟨_, rfl, e55⟩, ⟨_, rfl, rfl⟩, ⟨_, rfl, rfl⟩, ⟨_, rfl, rfl⟩, ⟨_, rfl, rfl⟩, ⟨_, rfl, rfl⟩, ⟨_, rfl, rfl⟩, ⟨_, rfl, rfl⟩, ⟨_, rfl, rfl⟩, ⟨_, rfl, rfl⟩, ⟨_, rfl, rfl⟩, ⟨_, rfl, rfl⟩, ⟨_, rfl, rfl⟩, trivial⟩ ?_
 refine WO.nil ?_
 refine WX.sel [0, 1, 2, 3, 6, 7, 8, 9, 12, 16, 21, 26, 36] rfl ?_
 refine WX.next ?_
 refine WC.cond rfl (fun q56 => ?_) (fun q56 => ?_)
 have p56 : x20.num ≤ topF (v) := of_decide_eq_true q56
 refine WC.seq ?_
 refine WC.region ?_
 refine WO.v (R.assign rfl) rfl ?_
 refine WO.v (R.assign rfl) rfl ?_
 refine WO.nil ?_
 refine WX.sel [0, 1, 2, 3, 6, 7, 8, 9, 12, 16, 21, 26, 36] rfl ?_
 refine WX.next ?_
 refine WC.ret ?_
 refine WX.blkRet ?_
 refine WX.thenRet ?_
 refine WX.loopRet ?_
 refine WX.blkRet ?_
 refine WX.thenRet ?_
 have e0 : ([] : List UInt8) = (putCB c rest v) := by first | exact pB_bad (bad1 q12) (by decide) | exact pB_bad (bad2 q12 (by assumption) (by omega)) (by omega) | exact pB_bad (bad3 q12 (by first | exact .inl (by assumption) | exact .inr (by omega)) (by assumption) (by omega)) (by decide) | exact pB_ok (bad0 q12 (by first | exact .inl (by assumption) | exact .inr (by omega)) hall (by omega))
 have n0 : 0 = (putCB c rest v).length := by rw [← e0]; simp only [List.length_nil]
 have f0 : Ac (α := UInt8) w.heap.size true w.heap.size w47.heap.size w47.heap.size w47 (.slice none 0 0) ([] : List UInt8) := Ac.empty _ _ _ _ _ _ _
 have e1 : (6 : Int) = (putCE c rest v) := by first | exact pE_bad (bad1 q12) (by decide) | exact pE_bad (bad2 q12 (by assumption) (by omega)) (by omega) | exact pE_bad (bad3 q12 (by first | exact .inl (by assumption) | exact .inr (by omega)) (by assumption) (by omega)) (by decide) | exact pE_ok (bad0 q12 (by first | exact .inl (by assumption) | exact .inr (by omega)) hall (by omega))
 refine WX.ret2 Try.results15 rfl rfl ?_
 exact ⟨none, 0, by first | (rw [n0, e1]; done) | (rw [n0, e1]; rfl), (acl_n f0 e0 n0), Kp.of_below b47⟩
 have p56 : ¬ (x20.num ≤ topF (v)) := of_decide_eq_false q56
 refine WC.skip ?_
 refine WX.blkNormal ?_
 refine WX.next ?_
 refine WC.region ?_
 refine WO.v (R.move rfl) rfl ?_
 refine WO.v (R.inc rfl (by omega)) rfl ?_
 refine WO.v (R.assign rfl) rfl ?_
 refine WO.nil ?_
 refine WX.sel [0, 1, 2, 3, 6, 7, 8, 9, 12, 16, 21, 26, 36] rfl ?_
 exact WX.loopNextK [0, 1, 2, 3, 6, 7, 8, 12, 16, 21] (k + 1) rfl ⟨⟨_, rfl, rfl⟩, trivial⟩ ⟨((Kp.refl _).step k18 (by simp)).step k47 (by simp), by omega, top_known hall hx20 (by omega)⟩ (by show (rest.length - (k + 1)) < (rest.length - k); omega)
 have p19 : ¬ (((k : Nat) : Int) < ((rest.length : Nat) : Int)) := of_decide_eq_false q19
 refine WC.exit ?_
 refine WX.thenExit ?_
 refine WX.loopExit ?_
 have hnn : 0 ≤ c.kind ∧ 0 ≤ c.client ∧ 0 ≤ c.seq ∧ 0 ≤ c.set ∧ 0 ≤ c.id ∧ 0 ≤ c.n := by first | exact nn_for (by assumption) | exact nn_may (by omega)
 have hrow : c.chunks.length = 0 ∨ rowF c.chunks = true := by first | exact for_rw (by assumption) | exact may_row (by omega)
 refine WX.blkHit ?_
 refine WX.next ?_
 refine WC.seq ?_
 refine WC.region ?_
 have B57 := ((B15).kp0 k16).kp0 k18
 refine WO.v (R.loadBN (vs := [_, _, _, _, _, _, _, _]) rfl B57 rfl Try.underlying24 rfl sz24) rfl ?_
 refine WO.v (R.move rfl) rfl ?_
 refine WO.c (E.call rfl rfl Try.func41 rfl rfl) (fieldsR_s (v := v) (c := c) (Command.mk_ (i1) (i2) (i3) (i4) (i5) (i6) ((sl_old s9 b18).mono (lo' := 0) (hi' := w18.heap.size) (Nat.zero_le _) (by omega)) i10) (by omega) (by omega) (by omega) (by omega) (by omega) (by omega) (by omega)) rfl ?_
 rintro _ w58 ⟨a59, c60, rfl, s61, k58⟩
 have ls61 : (fieldsF (c) (v)).length * 48 ≤ 140737488355328 := s61.lenle
 have z58 := k58.size
 have b58 := old_kp0 b18 k58
 have y58 := b58.size
 have := fields_len (c) (v)
 refine WO.v (R.move rfl) rfl ?_
 have ac62 : Ac (α := Field) (w18.heap.size) true (w18.heap.size) (w58.heap.size) (w58.heap.size) w58 (.slice a59 (fieldsF (c) (v)).length c60) (fieldsF (c) (v)) := (s61).ac
 have bd63 := ac62.bd
 have ty64 := ac62.ty
 have lenac62 : ((fieldsF (c) (v))).length * 48 ≤ 140737488355328 := ac62.lenle
 have lxac62 : ((fieldsF (c) (v)) ++ rest).length = (fieldsF (c) (v)).length + rest.length := List.length_append
 refine WO.appendM (B := w.heap.size) rfl ac62 (by omega) (by omega) (by omega) rfl rfl (ys := rest) (Src.of_sl (sl_old h_rest b58) (fun h => by cases h) (Nat.zero_le _) (by omega)) (by decide) (by omega) Try.underlying25 inf37 rfl rfl rfl (by decide) (by omega) (by omega) rfl ?_
 intro a67 c68 w66 h69 k66 or65
 have z66 := k66.size
 have b66 := old_kp b58 k66 (fun g hg => by have := bd63 g hg; omega)
 have y66 := b66.size
 refine WO.c (E.call rfl rfl Try.func40 rfl rfl) (put03_s (l := ((fieldsF (c) (v)) ++ rest)) (a_l := a67) (c_l := c68) ((h69).pub (L := 0) (H := w66.heap.size) (by omega) (by omega) (by omega) (by omega))) rfl ?_
 rintro _ w70 ⟨a71, c72, rfl, s73, k70⟩
 have ls73 : (putTF (((fieldsF (c) (v)) ++ rest))).length * 1 ≤ 140737488355328 := s73.lenle
 have z70 := k70.size
 have b70 := old_kp0 b66 k70
 have y70 := b70.size
 refine WO.v (R.extract rfl rfl) rfl ?_
 refine WO.v (R.extract rfl rfl) rfl ?_
 refine WO.v (R.assign rfl) rfl ?_
 refine WO.v (R.assign rfl) rfl ?_
 refine WO.nil ?_
 refine WX.sel [0, 1, 2, 3, 6, 7, 8, 9, 12, 16, 21, 26] rfl ?_
 refine WX.next ?_
 refine WC.ret ?_
 have e0 : (putTF (((fieldsF (c) (v)) ++ rest))) = (putCB c rest v) := by first | exact pB_bad (bad1 q12) (by decide) | exact pB_bad (bad2 q12 (by assumption) (by omega)) (by omega) | exact pB_bad (bad3 q12 (by first | exact .inl (by assumption) | exact .inr (by omega)) (by assumption) (by omega)) (by decide) | exact pB_ok (bad0 q12 (by first | exact .inl (by assumption) | exact .inr (by omega)) hall (by omega))
 have n0 : (putTF (((fieldsF (c) (v)) ++ rest))).length = (putCB c rest v).length := by rw [e0]
 have f0 : Ac (α := UInt8) w.heap.size true w.heap.size w70.heap.size w70.heap.size w70 (.slice a71 (putTF (((fieldsF (c) (v)) ++ rest))).length c72) (putTF (((fieldsF (c) (v)) ++ rest))) := ((s73).mono (by omega) (by omega) (by omega) (by omega))
 have e1 : mayT (((fieldsF (c) (v)) ++ rest)) = (putCE c rest v) := by first | exact pE_bad (bad1 q12) (by decide) | exact pE_bad (bad2 q12 (by assumption) (by omega)) (by omega) | exact pE_bad (bad3 q12 (by first | exact .inl (by assumption) | exact .inr (by omega)) (by assumption) (by omega)) (by decide) | exact pE_ok (bad0 q12 (by first | exact .inl (by assumption) | exact .inr (by omega)) hall (by omega))
 refine WX.ret2 Try.results15 rfl rfl ?_
 exact ⟨a71, c72, by first | (rw [n0, e1]; done) | (rw [n0, e1]; rfl), (acl_n f0 e0 n0), Kp.of_below b70⟩
 have p14 : (forF (c) (v)) = true := (bnot_f q14)
 refine WC.skip ?_
 refine WX.next ?_
 refine WC.seq ?_
 refine WC.seq ?_
 refine WC.region ?_
 refine WO.v (R.assign rfl) rfl ?_
 refine WO.nil ?_
 refine WX.sel [0, 1, 2, 3, 6, 7, 9, 12, 16] rfl ?_
 refine WX.next ?_
 refine WC.block ?_
 refine WC.loopK [0, 1, 2, 3, 6, 7, 12, 16] rfl (fun zz : Nat => [(9, (.int .i64 (((zz) : Nat) : Int)))]) (fun (zz : Nat) (w' : World) => (Kp [] w13 w') ∧ ((zz) ≤ rest.length) ∧ (∀ j y, j < (zz) → rest[j]? = some y → ¬ y.num ≤ topF v)) (fun zz => rest.length - (zz)) (0) ?_ ?_ ?_
 exact ⟨⟨_, rfl, rfl⟩, trivial⟩
 exact ⟨Kp.refl _, Nat.zero_le _, by intro j y h; omega⟩
 rintro k w74 ⟨k74, hk, hall⟩
 try dsimp only at hk hall
 have z74 := k74.size
 have b74 := old_kp0 b13 k74
 have y74 := b74.size
 refine (?_ : WC _ _ _ _ ([(9, (.int .i64 ((k : Nat) : Int)))] ++ _) w74)
 refine WC.seq ?_
 refine WC.seq ?_
 refine WC.region ?_
 refine WO.v (R.move rfl) rfl ?_
 refine WO.v (R.move rfl) rfl ?_
 refine WO.v (R.len rfl Try.underlying25) rfl ?_
 refine WO.v (R.lss rfl rfl) rfl ?_
 refine WO.nil ?_
 refine WX.sel [0, 1, 2, 3, 6, 7, 9, 12, 16, 26] rfl ?_
 refine WX.next ?_
 refine WC.cond rfl (fun q75 => ?_) (fun q75 => ?_)
 have p75 : ((k : Nat) : Int) < ((rest.length : Nat) : Int) := of_decide_eq_true q75
 refine WC.skip ?_
 refine WX.next ?_
 refine WC.seq ?_
 refine WC.block ?_
 refine WC.seq ?_
 refine WC.sel [0, 1, 2, 3, 6, 7, 9, 12, 16, 26] rfl ?_
 obtain ⟨x76, hx76⟩ := get_ex (xs := rest) (i := k) (by omega)
 obtain ⟨A77, cs78, hA77, loA77, hiA77, ccA77, r79⟩ := (sl_old h_rest b74).at_ hx76
 obtain ⟨a83, c84, rfl, i80, i81, i82, s85⟩ := Field.el r79
 have ls85 : (x76.b).length * 1 ≤ 140737488355328 := s85.lenle
 refine WC.draw' mixed_orders [.ex [] (.slice a_rest rest.length c_rest), .ex [] (.int .i64 ((k : Nat) : Int)), .ex [0, 1] (.pointer (some (A77.add (k * 4)))), .ex [2] (.pointer (some ((A77.add (k * 4)).add 0))), .ex [3] (.int .i64 x76.num), .ex [] (.int .i64 v), .ex [5] (.int .i64 (topF (v))), .ex [4, 6] (.bool (decide (x76.num ≤ topF (v))))] 8 (by kernel_rfl) ⟨fun _ _ _ h _ => h, fun _ _ _ h _ => h, fun _ _ _ h _ => h, fun _ _ _ h _ => h, fun _ _ _ h _ => h, fun _ _ _ h _ => h, fun _ _ _ h _ => h, fun _ _ _ h _ => h, trivial⟩ ⟨?_, ?_, ?_, ?_, ?_, ?_, ?_, ?_, trivial⟩ ?_
 rintro vs w87 k87 ⟨-⟩
 replace k87 : Kp [] w74 w87 := k87
 refine WO.haves (fr' := [(1, _)]) ⟨⟨_, rfl, rfl⟩, trivial⟩ ?_
 refine WO.v (R.move rfl) rfl ?_
 refine WO.nil ?_
 exact WX.stepDone rfl rfl (Kp.refl _)
 rintro vs w88 k88 ⟨-⟩
 replace k88 : Kp [] w74 w88 := k88
 refine WO.haves (fr' := [(9, _)]) ⟨⟨_, rfl, rfl⟩, trivial⟩ ?_
 refine WO.v (R.move rfl) rfl ?_
 refine WO.nil ?_
 exact WX.stepDone rfl rfl (Kp.refl _)
 rintro vs w89 k89 ⟨e90, e91, -⟩
 replace k89 : Kp [] w74 w89 := k89
 refine WO.haves (fr' := [(29, _), (30, _)]) ⟨⟨_, rfl, e90⟩, ⟨_, rfl, e91⟩, trivial⟩ ?_
 refine WO.v (R.indexAddrN rfl rfl Try.underlying25 sz37 hA77 (by omega)) rfl ?_
 refine WO.nil ?_
 exact WX.stepDone rfl rfl (Kp.refl _)
 rintro vs w92 k92 ⟨e93, -⟩
 replace k92 : Kp [] w74 w92 := k92
 refine WO.haves (fr' := [(31, _)]) ⟨⟨_, rfl, e93⟩, trivial⟩ ?_
 refine WO.v (fe37_0 rfl) rfl ?_
 refine WO.nil ?_
 exact WX.stepDone rfl rfl (Kp.refl _)
 rintro vs w94 k94 ⟨e95, -⟩
 replace k94 : Kp [] w74 w94 := k94
 have z94 := k94.size
 have b94 := old_kp0 b74 k94
 have y94 := b94.size
 refine WO.haves (fr' := [(32, _)]) ⟨⟨_, rfl, e95⟩, trivial⟩ ?_
 refine WO.v (R.load1 rfl Try.underlying3 rfl (((ccA77).kpA k94 (by omega) (by simp)).one (j := 0) rfl)) rfl ?_
 refine WO.nil ?_
 exact WX.stepDone rfl rfl (Kp.refl _)
 rintro vs w96 k96 ⟨-⟩
 replace k96 : Kp [] w74 w96 := k96
 refine WO.haves (fr' := [(2, _)]) ⟨⟨_, rfl, rfl⟩, trivial⟩ ?_
 refine WO.v (R.move rfl) rfl ?_
 refine WO.nil ?_
 exact WX.stepDone rfl rfl (Kp.refl _)
 rintro vs w97 k97 ⟨e98, -⟩
 replace k97 : Kp [] w74 w97 := k97
 have z97 := k97.size
 have b97 := old_kp0 b74 k97
 have y97 := b97.size
 refine WO.haves (fr' := [(34, _)]) ⟨⟨_, rfl, e98⟩, trivial⟩ ?_
 refine WO.c (E.call rfl rfl Try.func39 rfl rfl) (top04_s (v := v) ) rfl ?_
 rintro _ w99 ⟨rfl, k99⟩
 have z99 := k99.size
 have b99 := old_kp0 b97 k99
 have y99 := b99.size
 refine WO.nil ?_
 exact WX.stepDone rfl rfl ((Kp.refl _).step k99 (by simp))
 rintro vs w100 k100 ⟨e101, e102, -⟩
 replace k100 : Kp [] w74 w100 := k100
 refine WO.haves (fr' := [(33, _), (35, _)]) ⟨⟨_, rfl, e101⟩, ⟨_, rfl, e102⟩, trivial⟩ ?_
 refine WO.v (R.leq rfl rfl) rfl ?_
 refine WO.nil ?_
 exact WX.stepDone rfl rfl (Kp.refl _)
 rintro vs w103 k103 ⟨-, -, -, -, -, -, -, e111, -⟩
 replace k103 : Kp [] w74 w103 := k103
 have z103 := k103.size
 have b103 := old_kp0 b74 k103
 have y103 := b103.size
 refine WO.haves (fr' := [(36, _), (0, _), (1, _), (2, _), (3, _), (6, _), (7, _), (9, _), (12, _), (16, _), (26, _)]) ⟨⟨_, rfl, e111⟩, ⟨_, rfl, rfl⟩, ⟨_, rfl, rfl⟩, ⟨_, rfl, rfl⟩, ⟨_, rfl, rfl⟩, ⟨_, rfl, rfl⟩, ⟨_, rfl, rfl⟩, ⟨_, rfl, rfl⟩, ⟨_, rfl, rfl⟩, ⟨_, rfl, rfl⟩, ⟨_, rfl, rfl⟩, trivial⟩ ?_
 refine WO.nil ?_
 refine WX.sel [0, 1, 2, 3, 6, 7, 9, 12, 16, 26, 36] rfl ?_
 refine WX.next ?_
 refine WC.cond rfl (fun q112 => ?_) (fun q112 => ?_)
 have p112 : x76.num ≤ topF (v) := of_decide_eq_true q112
 refine WC.seq ?_
 refine WC.region ?_
 refine WO.v (R.assign rfl) rfl ?_
 refine WO.v (R.assign rfl) rfl ?_
 refine WO.nil ?_
 refine WX.sel [0, 1, 2, 3, 6, 7, 9, 12, 16, 26, 36] rfl ?_
 refine WX.next ?_
 refine WC.ret ?_
 refine WX.blkRet ?_
 refine WX.thenRet ?_
 refine WX.loopRet ?_
 refine WX.blkRet ?_
 refine WX.thenRet ?_
 have e0 : ([] : List UInt8) = (putCB c rest v) := by first | exact pB_bad (bad1 q12) (by decide) | exact pB_bad (bad2 q12 (by assumption) (by omega)) (by omega) | exact pB_bad (bad3 q12 (by first | exact .inl (by assumption) | exact .inr (by omega)) (by assumption) (by omega)) (by decide) | exact pB_ok (bad0 q12 (by first | exact .inl (by assumption) | exact .inr (by omega)) hall (by omega))
 have n0 : 0 = (putCB c rest v).length := by rw [← e0]; simp only [List.length_nil]
 have f0 : Ac (α := UInt8) w.heap.size true w.heap.size w103.heap.size w103.heap.size w103 (.slice none 0 0) ([] : List UInt8) := Ac.empty _ _ _ _ _ _ _
 have e1 : (6 : Int) = (putCE c rest v) := by first | exact pE_bad (bad1 q12) (by decide) | exact pE_bad (bad2 q12 (by assumption) (by omega)) (by omega) | exact pE_bad (bad3 q12 (by first | exact .inl (by assumption) | exact .inr (by omega)) (by assumption) (by omega)) (by decide) | exact pE_ok (bad0 q12 (by first | exact .inl (by assumption) | exact .inr (by omega)) hall (by omega))
 refine WX.ret2 Try.results15 rfl rfl ?_
 exact ⟨none, 0, by first | (rw [n0, e1]; done) | (rw [n0, e1]; rfl), (acl_n f0 e0 n0), Kp.of_below b103⟩
 have p112 : ¬ (x76.num ≤ topF (v)) := of_decide_eq_false q112
 refine WC.skip ?_
 refine WX.blkNormal ?_
 refine WX.next ?_
 refine WC.region ?_
 refine WO.v (R.move rfl) rfl ?_
 refine WO.v (R.inc rfl (by omega)) rfl ?_
 refine WO.v (R.assign rfl) rfl ?_
 refine WO.nil ?_
 refine WX.sel [0, 1, 2, 3, 6, 7, 9, 12, 16, 26, 36] rfl ?_
 exact WX.loopNextK [0, 1, 2, 3, 6, 7, 12, 16] (k + 1) rfl ⟨⟨_, rfl, rfl⟩, trivial⟩ ⟨((Kp.refl _).step k74 (by simp)).step k103 (by simp), by omega, top_known hall hx76 (by omega)⟩ (by show (rest.length - (k + 1)) < (rest.length - k); omega)
 have p75 : ¬ (((k : Nat) : Int) < ((rest.length : Nat) : Int)) := of_decide_eq_false q75
 refine WC.exit ?_
 refine WX.thenExit ?_
 refine WX.loopExit ?_
 have hnn : 0 ≤ c.kind ∧ 0 ≤ c.client ∧ 0 ≤ c.seq ∧ 0 ≤ c.set ∧ 0 ≤ c.id ∧ 0 ≤ c.n := by first | exact nn_for (by assumption) | exact nn_may (by omega)
 have hrow : c.chunks.length = 0 ∨ rowF c.chunks = true := by first | exact for_rw (by assumption) | exact may_row (by omega)
 refine WX.blkHit ?_
 refine WX.next ?_
 refine WC.seq ?_
 refine WC.region ?_
 have B113 := ((n11.blk).kp0 k13).kp0 k74
 refine WO.v (R.loadBN (vs := [_, _, _, _, _, _, _, _]) rfl B113 rfl Try.underlying24 rfl sz24) rfl ?_
 refine WO.v (R.move rfl) rfl ?_
 refine WO.c (E.call rfl rfl Try.func41 rfl rfl) (fieldsR_s (v := v) (c := c) (Command.mk_ (i1) (i2) (i3) (i4) (i5) (i6) ((sl_old s9 b74).mono (lo' := 0) (hi' := w74.heap.size) (Nat.zero_le _) (by omega)) i10) (by omega) (by omega) (by omega) (by omega) (by omega) (by omega) (by omega)) rfl ?_
 rintro _ w114 ⟨a115, c116, rfl, s117, k114⟩
 have ls117 : (fieldsF (c) (v)).length * 48 ≤ 140737488355328 := s117.lenle
 have z114 := k114.size
 have b114 := old_kp0 b74 k114
 have y114 := b114.size
 have := fields_len (c) (v)
 refine WO.v (R.move rfl) rfl ?_
 have ac118 : Ac (α := Field) (w74.heap.size) true (w74.heap.size) (w114.heap.size) (w114.heap.size) w114 (.slice a115 (fieldsF (c) (v)).length c116) (fieldsF (c) (v)) := (s117).ac
 have bd119 := ac118.bd
 have ty120 := ac118.ty
 have lenac118 : ((fieldsF (c) (v))).length * 48 ≤ 140737488355328 := ac118.lenle
 have lxac118 : ((fieldsF (c) (v)) ++ rest).length = (fieldsF (c) (v)).length + rest.length := List.length_append
 refine WO.appendM (B := w.heap.size) rfl ac118 (by omega) (by omega) (by omega) rfl rfl (ys := rest) (Src.of_sl (sl_old h_rest b114) (fun h => by cases h) (Nat.zero_le _) (by omega)) (by decide) (by omega) Try.underlying25 inf37 rfl rfl rfl (by decide) (by omega) (by omega) rfl ?_
 intro a123 c124 w122 h125 k122 or121
 have z122 := k122.size
 have b122 := old_kp b114 k122 (fun g hg => by have := bd119 g hg; omega)
 have y122 := b122.size
 refine WO.c (E.call rfl rfl Try.func40 rfl rfl) (put03_s (l := ((fieldsF (c) (v)) ++ rest)) (a_l := a123) (c_l := c124) ((h125).pub (L := 0) (H := w122.heap.size) (by omega) (by omega) (by omega) (by omega))) rfl ?_
 rintro _ w126 ⟨a127, c128, rfl, s129, k126⟩
 have ls129 : (putTF (((fieldsF (c) (v)) ++ rest))).length * 1 ≤ 140737488355328 := s129.lenle
 have z126 := k126.size
 have b126 := old_kp0 b122 k126
 have y126 := b126.size
 refine WO.v (R.extract rfl rfl) rfl ?_
 refine WO.v (R.extract rfl rfl) rfl ?_
 refine WO.v (R.assign rfl) rfl ?_
 refine WO.v (R.assign rfl) rfl ?_
 refine WO.nil ?_
 refine WX.sel [0, 1, 2, 3, 6, 7, 9, 12, 16, 26] rfl ?_
 refine WX.next ?_
 refine WC.ret ?_
 have e0 : (putTF (((fieldsF (c) (v)) ++ rest))) = (putCB c rest v) := by first | exact pB_bad (bad1 q12) (by decide) | exact pB_bad (bad2 q12 (by assumption) (by omega)) (by omega) | exact pB_bad (bad3 q12 (by first | exact .inl (by assumption) | exact .inr (by omega)) (by assumption) (by omega)) (by decide) | exact pB_ok (bad0 q12 (by first | exact .inl (by assumption) | exact .inr (by omega)) hall (by omega))
 have n0 : (putTF (((fieldsF (c) (v)) ++ rest))).length = (putCB c rest v).length := by rw [e0]
 have f0 : Ac (α := UInt8) w.heap.size true w.heap.size w126.heap.size w126.heap.size w126 (.slice a127 (putTF (((fieldsF (c) (v)) ++ rest))).length c128) (putTF (((fieldsF (c) (v)) ++ rest))) := ((s129).mono (by omega) (by omega) (by omega) (by omega))
 have e1 : mayT (((fieldsF (c) (v)) ++ rest)) = (putCE c rest v) := by first | exact pE_bad (bad1 q12) (by decide) | exact pE_bad (bad2 q12 (by assumption) (by omega)) (by omega) | exact pE_bad (bad3 q12 (by first | exact .inl (by assumption) | exact .inr (by omega)) (by assumption) (by omega)) (by decide) | exact pE_ok (bad0 q12 (by first | exact .inl (by assumption) | exact .inr (by omega)) hall (by omega))
 refine WX.ret2 Try.results15 rfl rfl ?_
 exact ⟨a127, c128, by first | (rw [n0, e1]; done) | (rw [n0, e1]; rfl), (acl_n f0 e0 n0), Kp.of_below b126⟩

set_option maxRecDepth 100000 in
set_option maxHeartbeats 400000 in
theorem some5_s {w : World} {B : Nat} {a_l : Option Addr} {c_l : Nat} {l : List Field} (hB_l : B ≤ w.heap.size) (h_l : Sl false 0 B w (.slice a_l l.length c_l) l) :
    Ret Try.prog 14 [.slice a_l l.length c_l].toArray w fun r w' => ∃ (ra0 : Option Addr) (rc0 : Nat), r = .slice ra0 (someF l).length rc0 ∧ Ac w.heap.size false 0 B w'.heap.size w' (.slice ra0 (someF l).length rc0) (someF l) ∧ Kp [] w w' := by
 have len_l : (l).length * 48 ≤ 140737488355328 := h_l.lenle
 refine Ret.enter Try.func14 rfl Try.ntmps14 rfl rfl ?_
 refine WC.sel [0] rfl ?_
 refine WC.seq ?_
 refine WC.region ?_
 refine WO.v (R.assign rfl) rfl ?_
 refine WO.nil ?_
 refine WX.sel [0, 2] rfl ?_
 refine WX.next ?_
 refine WC.seq ?_
 refine WC.region ?_
 refine WO.buildSlice (parts := []) (vss := []) Try.underlying25 sz37 zr37 rfl rfl (by simp) rfl rfl rfl ?_
 intro w1 n1
 have z1 := n1.lt
 have b1 := old_kp0 (Below.refl w.heap.size w) n1.kp
 have y1 := b1.size
 have ac2 : Ac (α := Field) (w.heap.size) false (0) (B) (w1.heap.size) w1 (.slice (some ⟨w.heap.size, 0, none⟩) 0 0) ([] : List Field) := Ac.lit (α := Field) (ys := ([] : List Field)) (css := []) n1.blk (.nil) (by omega) (by omega) (by simp [maxLen]) (by show 0 * 48 ≤ 140737488355328; decide) rfl
 have lenac2 : ([] : List Field).length = 0 := rfl
 refine WO.v (R.assign rfl) rfl ?_
 refine WO.nil ?_
 refine WX.sel [0, 2, 3] rfl ?_
 refine WX.next ?_
 refine WC.seq ?_
 refine WC.seq ?_
 refine WC.region ?_
 refine WO.v (R.assign rfl) rfl ?_
 refine WO.nil ?_
 refine WX.sel [0, 2, 3, 4] rfl ?_
 refine WX.next ?_
 refine WC.block ?_
 refine WC.loopK [0, 2] rfl (fun zz : Nat × Option Addr × Nat => [(4, (.int .i64 (((zz.1) : Nat) : Int))), (3, (.slice (zz.2.1) ((l.take (zz.1)).map shortF).length (zz.2.2)))]) (fun (zz : Nat × Option Addr × Nat) (w' : World) => (Kp [] w1 w') ∧ ((zz.1) ≤ (min l.length 20)) ∧ (Ac (α := Field) (w1.heap.size) false (0) (B) w'.heap.size w' (.slice (zz.2.1) ((l.take (zz.1)).map shortF).length (zz.2.2)) ((l.take (zz.1)).map shortF))) (fun zz => (min l.length 20) - (zz.1)) (0, (some ⟨w.heap.size, 0, none⟩), 0) ?_ ?_ ?_
 exact ⟨⟨_, rfl, rfl⟩, ⟨_, rfl, rfl⟩, trivial⟩
 exact ⟨Kp.refl _, Nat.zero_le _, Ac.empty _ _ _ _ _ _ _⟩
 rintro ⟨k, aa0, ac0⟩ w3 ⟨k3, hk, hac2_0⟩
 try dsimp only at hk hac2_0
 have z3 := k3.size
 have b3 := old_kp0 b1 k3
 have y3 := b3.size
 refine (?_ : WC _ _ _ _ ([(4, (.int .i64 ((k : Nat) : Int))), (3, (.slice aa0 ((l.take k).map shortF).length ac0))] ++ _) w3)
 have : ((l.take k).map shortF).length ≤ k := by simp; omega
 have lenhac2_0 : ((l.take k).map shortF).length * 48 ≤ 140737488355328 := hac2_0.lenle
 refine WC.seq ?_
 refine WC.seq ?_
 refine WC.region ?_
 refine WO.v (R.move rfl) rfl ?_
 refine WO.v (R.move rfl) rfl ?_
 refine WO.v (R.len rfl Try.underlying25) rfl ?_
 refine WO.v (R.lss rfl rfl) rfl ?_
 refine WO.v (R.move rfl) rfl ?_
 refine WO.cutP 3 [(14, (.bool ((decide (((k : Nat) : Int) < ((l.length : Nat) : Int))) && (decide (((k : Nat) : Int) < (20 : Int))))))] (fun w' => w3 = w') ?_ ?_
 rcases Bool.eq_false_or_eq_true (decide (((k : Nat) : Int) < ((l.length : Nat) : Int))) with hb4 | hb4
 have phb4 : ((k : Nat) : Int) < ((l.length : Nat) : Int) := of_decide_eq_true hb4
 refine WO.on rfl rfl hb4 ?_
 refine WO.v (R.move rfl) rfl ?_
 refine WO.on rfl rfl hb4 ?_
 refine WO.v (R.lss rfl rfl) rfl ?_
 refine WO.v (R.pickT rfl hb4 rfl) rfl ?_
 refine WO.nil ?_
 exact WX.cutDoneP 3 rfl rfl ⟨⟨_, rfl, vb (band_on hb4)⟩, trivial⟩ (rfl)
 have phb4 : ¬ (((k : Nat) : Int) < ((l.length : Nat) : Int)) := of_decide_eq_false hb4
 refine WO.off rfl rfl hb4 rfl ?_
 refine WO.off rfl rfl hb4 rfl ?_
 refine WO.v (R.pickF rfl hb4 rfl) rfl ?_
 refine WO.nil ?_
 exact WX.cutDoneP 3 rfl rfl ⟨⟨_, rfl, vb (band_off hb4)⟩, trivial⟩ (rfl)
 rintro _ rfl
 refine WO.nil ?_
 refine WX.sel [0, 2, 3, 4, 14] rfl ?_
 refine WX.next ?_
 refine WC.cond rfl (fun q5 => ?_) (fun q5 => ?_)
 have p5 : (((k : Nat) : Int) < ((l.length : Nat) : Int)) ∧ (((k : Nat) : Int) < (20 : Int)) := ⟨of_decide_eq_true (band_t q5).1, of_decide_eq_true (band_t q5).2⟩
 refine WC.skip ?_
 refine WX.next ?_
 refine WC.seq ?_
 refine WC.block ?_
 refine WC.seq ?_
 refine WC.region ?_
 refine WO.v (R.move rfl) rfl ?_
 refine WO.v (R.move rfl) rfl ?_
 obtain ⟨x6, hx6⟩ := get_ex (xs := l) (i := k) (by omega)
 obtain ⟨A7, cs8, hA7, loA7, hiA7, ccA7, r9⟩ := (sl_kp0 (sl_kp0 (h_l) n1.kp (by omega)) k3 (by omega)).at_ hx6
 obtain ⟨a13, c14, rfl, i10, i11, i12, s15⟩ := Field.el r9
 have ls15 : (x6.b).length * 1 ≤ 140737488355328 := s15.lenle
 refine WO.v (R.indexAddrN rfl rfl Try.underlying25 sz37 hA7 (by omega)) rfl ?_
 refine WO.v (R.loadN (cs := [_, _, _, _]) rfl Try.underlying37 rfl sz37 ccA7) rfl ?_
 refine WO.alloc zr37 rfl ?_
 intro w16 n16
 have z16 := n16.lt
 have b16 := old_kp0 b3 n16.kp
 have y16 := b16.size
 refine WO.storeBN rfl rfl n16.blk rfl (by simp [Value.oneCell']) sz37 ?_
 intro w17 k17 B17 z_17
 have z17 := z_17.symm
 have b17 := old_kp b16 k17 (mem1 (by omega))
 have y17 := b17.size
 refine WO.nil ?_
 refine WX.sel [0, 2, 3, 4, 5, 14] rfl ?_
 refine WX.next ?_
 refine WC.seq ?_
 refine WC.seq ?_
 refine WC.region ?_
 refine WO.v (fa37_3 rfl) rfl ?_
 refine WO.v (R.loadB rfl B17 rfl Try.underlying27 rfl) rfl ?_
 refine WO.v (R.len rfl Try.underlying27) rfl ?_
 refine WO.v (R.gtr rfl rfl) rfl ?_
 refine WO.nil ?_
 refine WX.sel [0, 2, 3, 4, 5, 14, 24] rfl ?_
 refine WX.next ?_
 refine WC.cutEndK [0, 2, 3, 4, 5, 14, 24] rfl [] (fun w' => ∃ (ja18 : Option Addr) (jc19 : Nat), Kp [w3.heap.size] w17 w' ∧ Blk w' (w3.heap.size) 37 [(.int .i64 x6.num), (.int .i64 x6.wire), (.int .u64 (x6.n.n : Int)), (.slice ja18 (x6.b.take 100).length jc19)] ∧ Sl (α := UInt8) false 0 B w' (.slice ja18 (x6.b.take 100).length jc19) (x6.b.take 100)) ?_ ?_
 refine WC.cond rfl (fun q21 => ?_) (fun q21 => ?_)
 have p21 : (100 : Int) < ((x6.b.length : Nat) : Int) := of_decide_eq_true q21
 refine WC.region ?_
 refine WO.v (fa37_3 rfl) rfl ?_
 refine WO.v (R.loadB rfl B17 rfl Try.underlying27 rfl) rfl ?_
 obtain ⟨a22, ha23, s24, mc25, ln26⟩ := Sl.cut (i := 0) (j := 100) (s := 1) (sl_kp (sl_kp0 (s15) n16.kp (by omega)) k17 (by omega) (mem1 (by omega))) rfl (by omega) (by omega)
 refine WO.v (R.sliceH (j := 100) rfl rfl Try.underlying27 sz5 ha23 (by omega)) rfl ?_
 replace s24 : Sl false (0) (B) w17 (.slice a22 100 c14) (x6.b.take 100) := s24
 replace ln26 : (x6.b.take 100).length = 100 := ln26
 have ls24 : ((x6.b.take 100)).length * 1 ≤ 140737488355328 := s24.lenle
 refine WO.v (fa37_3 rfl) rfl ?_
 refine WO.storeB (cs' := [_, _, _, _]) rfl rfl B17 rfl rfl sz27 rfl ?_
 intro w27 k27 B27 z_27
 have z27 := z_27.symm
 have b27 := old_kp b17 k27 (mem1 (by omega))
 have y27 := b27.size
 refine WO.nil ?_
 refine WX.sel [0, 2, 3, 4, 5, 14, 24] rfl ?_
 have E28 : (x6.b.take 100) = x6.b.take 100 := rfl
 have nE28 : 100 = (x6.b.take 100).length := by rw [← E28]; simp only [List.length_take]; omega
 exact WX.cutDoneK [0, 2, 3, 4, 5, 14, 24] rfl trivial ⟨a22, c14, (((Kp.refl _).sub (by simp)).step k27 (by simp)), (by rw [← nE28]; exact B27), (sl_n ((sl_kp (s24) k27 (by omega) (mem1 (by omega))).mono (lo' := 0) (hi' := B) (Nat.zero_le _) (by omega)) E28 nE28)⟩
 have p21 : ¬ ((100 : Int) < ((x6.b.length : Nat) : Int)) := of_decide_eq_false q21
 refine WC.skip ?_
 have E29 : x6.b = x6.b.take 100 := (List.take_of_length_le (by omega)).symm
 have nE29 : x6.b.length = (x6.b.take 100).length := by rw [← E29]
 exact WX.cutDoneK [0, 2, 3, 4, 5, 14, 24] rfl trivial ⟨a13, c14, ((Kp.refl _).sub (by simp)), (by rw [← nE29]; exact B17), (sl_n ((sl_kp (sl_kp0 (s15) n16.kp (by omega)) k17 (by omega) (mem1 (by omega))).mono (lo' := 0) (hi' := B) (Nat.zero_le _) (by omega)) E29 nE29)⟩
 rintro w30 ⟨ja18, jc19, k30, Bj31, jf20⟩
 have z30 := k30.size
 have b30 := old_kp b17 k30 (mem1 (by omega))
 have y30 := b30.size
 have ljf20 : ((x6.b.take 100)).length * 1 ≤ 140737488355328 := jf20.lenle
 refine WX.next ?_
 refine WC.region ?_
 refine WO.v (R.move rfl) rfl ?_
 refine WO.v (R.loadBN (vs := [_, _, _, _]) rfl Bj31 rfl Try.underlying37 rfl sz37) rfl ?_
 refine WO.buildSlice (parts := [_]) (vss := [[_, _, _, _]]) Try.underlying25 sz37 zr37 rfl rfl (by simp) rfl rfl rfl ?_
 intro w32 n32
 have z32 := n32.lt
 have b32 := old_kp0 b30 n32.kp
 have y32 := b32.size
 have ac33 : Ac (α := Field) (w30.heap.size) false (0) (B) (w32.heap.size) w32 (.slice (some ⟨w30.heap.size, 0, none⟩) 1 1) ([(⟨x6.num, x6.wire, x6.n, (x6.b.take 100)⟩ : Field)] : List Field) := Ac.lit (α := Field) (ys := ([(⟨x6.num, x6.wire, x6.n, (x6.b.take 100)⟩ : Field)] : List Field)) (css := [[_, _, _, _]]) n32.blk (.cons ((Field.mk_ (i10) (i11) (i12) ((sl_kp0 (jf20) n32.kp (by omega)).mono (lo' := 0) (hi' := B) (Nat.zero_le _) (by omega)))) (.nil)) (by omega) (by omega) (by simp [maxLen]) (by show 1 * 48 ≤ 140737488355328; decide) rfl
 have lenac33 : ([(⟨x6.num, x6.wire, x6.n, (x6.b.take 100)⟩ : Field)] : List Field).length = 1 := rfl
 have ac39 : Ac (α := Field) (w1.heap.size) false (0) (B) (w3.heap.size) w32 (.slice aa0 ((l.take k).map shortF).length ac0) ((l.take k).map shortF) := ac_kp0 (ac_kp (ac_kp (ac_kp0 (hac2_0) n16.kp (by omega) (by omega)) k17 (by omega) (by omega) (mem1 (by omega))) k30 (by omega) (by omega) (mem1 (by omega))) n32.kp (by omega) (by omega)
 have bd34 := ac39.bd
 have ty40 := ac39.ty
 have lenac39 : (((l.take k).map shortF)).length * 48 ≤ 140737488355328 := ac39.lenle
 have lxac39 : (((l.take k).map shortF) ++ ([(⟨x6.num, x6.wire, x6.n, (x6.b.take 100)⟩ : Field)] : List Field)).length = ((l.take k).map shortF).length + ([(⟨x6.num, x6.wire, x6.n, (x6.b.take 100)⟩ : Field)] : List Field).length := List.length_append
 refine WO.append rfl ac39 (by omega) (by omega) (by omega) rfl rfl (ys := ([(⟨x6.num, x6.wire, x6.n, (x6.b.take 100)⟩ : Field)] : List Field)) (Src.of_ac ((ac33).mono (Nat.le_refl _) (by omega) (by omega) (Nat.le_refl _))) (.inr (.inr (by omega))) Try.underlying25 inf37 rfl rfl rfl (by decide) (by first | omega | (simp only [List.length_cons, List.length_nil]; omega) | (simp only [List.length_append, List.length_cons, List.length_nil]; omega)) (by omega) rfl ?_
 intro a36 c37 w35 h38 k35 or41
 have z35 := k35.size
 have b35 := old_kp b32 k35 (fun g hg => by have := bd34 g hg; omega)
 have y35 := b35.size
 refine WO.v (R.assign rfl) rfl ?_
 refine WO.nil ?_
 refine WX.sel [0, 2, 3, 4, 5, 14, 24] rfl ?_
 refine WX.blkNormal ?_
 refine WX.next ?_
 refine WC.region ?_
 refine WO.v (R.move rfl) rfl ?_
 refine WO.v (R.inc rfl (by omega)) rfl ?_
 refine WO.v (R.assign rfl) rfl ?_
 refine WO.nil ?_
 refine WX.sel [0, 2, 3, 4, 5, 14, 24] rfl ?_
 have E42 : (((l.take k).map shortF) ++ ([(⟨x6.num, x6.wire, x6.n, (x6.b.take 100)⟩ : Field)] : List Field)) = (l.take (k + 1)).map shortF := some_step hx6
 have nE42 : (((l.take k).map shortF) ++ ([(⟨x6.num, x6.wire, x6.n, (x6.b.take 100)⟩ : Field)] : List Field)).length = ((l.take (k + 1)).map shortF).length := by rw [E42]
 exact WX.loopNextK [0, 2] (k + 1, a36, c37) rfl ⟨⟨_, rfl, rfl⟩, ⟨_, rfl, vs_n nE42⟩, trivial⟩ ⟨((((((Kp.refl _).step k3 (by simp)).step n16.kp (by simp)).step k17 (mem1 (.inr (by omega)))).step k30 (mem1 (.inr (by omega)))).step n32.kp (by simp)).step k35 (fun g hg => .inr (by have := bd34 g hg; omega)), by omega, ac_n ((h38).mono (by omega) (by omega) (by omega) (by omega)) E42 nE42⟩ (by show ((min l.length 20) - (k + 1)) < ((min l.length 20) - k); omega)
 have p5 : (¬ (((k : Nat) : Int) < ((l.length : Nat) : Int))) ∨ (¬ (((k : Nat) : Int) < (20 : Int))) := Or.imp (fun h => of_decide_eq_false h) (fun h => of_decide_eq_false h) (band_f q5)
 refine WC.exit ?_
 refine WX.thenExit ?_
 refine WX.loopExit ?_
 refine WX.blkHit ?_
 refine WX.next ?_
 refine WC.seq ?_
 refine WC.region ?_
 refine WO.v (R.move rfl) rfl ?_
 refine WO.v (R.assign rfl) rfl ?_
 refine WO.nil ?_
 refine WX.sel [0, 2, 3, 4, 14] rfl ?_
 refine WX.next ?_
 refine WC.ret ?_
 have e0 : ((l.take k).map shortF) = (someF l) := by show _ = someF l; rw [someF, take_mn (k := k) (n := 20) (by omega)]
 have n0 : ((l.take k).map shortF).length = (someF l).length := by rw [e0]
 have f0 : Ac (α := Field) w.heap.size false 0 B w3.heap.size w3 (.slice aa0 ((l.take k).map shortF).length ac0) ((l.take k).map shortF) := ((hac2_0).mono (by omega) (by omega) (by omega) (by omega))
 refine WX.ret1 Try.results14 rfl ?_
 exact ⟨aa0, ac0, by rw [n0], (acl_n f0 e0 n0), Kp.of_below b3⟩


end Go.Proofs.Ytfmlgeeogbhppaa
