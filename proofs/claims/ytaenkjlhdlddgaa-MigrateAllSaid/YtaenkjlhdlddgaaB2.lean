/- Contracts of functions, walked operation by operation. -/
import Derived.Test.YtaenkjlhdlddgaaB1
namespace Go.Proofs.Ytaenkjlhdlddgaa
open Go.RowKit

theorem Sess.ext_ {x y : Sess} (h : ((x.client = y.client ∧ x.seq = y.seq) ∧ x.last.code = y.last.code) ∧ x.last.n = y.last.n) : x = y := by
  cases x with | mk a b c => cases c; cases y with | mk d e f => cases f; simp_all
theorem Opn.ext_ {x y : Opn} (h : x.set = y.set ∧ x.client = y.client) : x = y := by cases x; cases y; simp_all
theorem same_at {α : Type} {s t : State} (f : State → List α) {k : Nat} {x y : α} (hx : (f s)[k]? = some x) (hy : (f t)[k]? = some y) (h : x ≠ y) : false = decide (s = t) := by
  symm; apply decide_eq_false; rintro rfl; rw [hx] at hy; cases hy; exact h rfl
theorem same_fin {s t : State} {k k2 : Nat} (h : ((((((!(decide (s.version = t.version))) || (!(decide (s.next = t.next)))) || (!(decide (s.keep = t.keep)))) || (!(decide (s.quota = t.quota)))) || (!(decide (((s.sess.length : Nat) : Int) = ((t.sess.length : Nat) : Int))))) || (!(decide (((s.opens.length : Nat) : Int) = ((t.opens.length : Nat) : Int))))) = false)
    (h1 : s.sess.take k = t.sess.take k) (hk : s.sess.length ≤ k) (h2 : s.opens.take k2 = t.opens.take k2) (hk2 : s.opens.length ≤ k2) : decide (s.snaps = t.snaps) = decide (s = t) := by
  simp only [Bool.or_eq_false_iff, Bool.not_eq_false', decide_eq_true_eq] at h
  obtain ⟨⟨⟨⟨⟨e1, e2⟩, e3⟩, e4⟩, e5⟩, e6⟩ := h
  rw [List.take_of_length_le hk, List.take_of_length_le (by omega)] at h1
  rw [List.take_of_length_le hk2, List.take_of_length_le (by omega)] at h2
  cases s; cases t
  simp only at e1 e2 e3 e4 h1 h2
  subst e1; subst e2; subst e3; subst e4; subst h1; subst h2
  simp
theorem sameSnap_eq {x y : Snap} : ((((decide (x.chunks = y.chunks) && decide (x.id = y.id)) && decide (x.set = y.set)) && (x.held == y.held)) && decide (x.tag = y.tag)) = decide (x = y) := by
  cases x; cases y
  rw [Bool.eq_iff_iff]
  simp only [Bool.and_eq_true, decide_eq_true_eq, beq_iff_eq, Snap.mk.injEq]
  constructor
  · rintro ⟨⟨⟨⟨h1, h2⟩, h3⟩, h4⟩, h5⟩; exact ⟨h2, h3, h1, h4, h5⟩
  · rintro ⟨h2, h3, h1, h4, h5⟩; exact ⟨⟨⟨⟨h1, h2⟩, h3⟩, h4⟩, h5⟩

theorem eq51_neq {n : Nat} {fr : Fr} {w : World} {ty t' : TypeId} {x y : Operand} {a0 b0 : Int} {a1 b1 : Int} {a2 b2 : Int} {a3 b3 : Int} (hx : ev fr x = some (.agg #[.int .i64 a0, .int .i64 a1, .int .i64 a2, .int .i64 a3])) (hy : ev fr y = some (.agg #[.int .i64 b0, .int .i64 b1, .int .i64 b2, .int .i64 b3])) : Runs Try.prog n fr w (.binOp .neq 51 x y t') ty (.bool (!(((decide (a0 = b0) && decide (a1 = b1)) && decide (a2 = b2)) && decide (a3 = b3)))) w := fun _ _ _ _ _ ha => by
  have u3 := Try.underlying3
  have q3 := Try.isAgg3
  have z3 := Try.sizeOf3
  have u27 := Try.underlying27
  have q27 := Try.isAgg27
  have z27 := Try.sizeOf27
  have s51 : Try.prog.underlying 51 = some (.struct (Try.prog.fieldsOf 51)) := by kernel_rfl
  have p51 : Try.prog.stoodInHeld 51 = false := by kernel_rfl
  have s49 : Try.prog.underlying 49 = some (.struct (Try.prog.fieldsOf 49)) := by kernel_rfl
  have p49 : Try.prog.stoodInHeld 49 = false := by kernel_rfl
  have q49 := Try.isAgg49
  have z49 := Try.sizeOf49
  have g0 : Try.prog.eqGuardType Try.prog.depth 51 = false := by kernel_rfl
  have e : (binOp .neq 51 (.agg #[.int .i64 a0, .int .i64 a1, .int .i64 a2, .int .i64 a3]) (.agg #[.int .i64 b0, .int .i64 b1, .int .i64 b2, .int .i64 b3])).run Try.prog w = .ok (.bool (!(((decide (a0 = b0) && decide (a1 = b1)) && decide (a2 = b2)) && decide (a3 = b3)))) w := by
    rw [run_neq_struct, show (10000 : Nat) = 9999 + 1 from rfl, run_equalIn_agg w 9999 51 _ _ s51 p51]
    have r49 : ∀ (d : Nat) (xs ys : Array Value) (w : World), (Op.equalIn (d + 1) 49 (.agg xs) (.agg ys)).run Try.prog w = (Op.eqFields d xs ys (Try.prog.fieldsOf 49).toList).run Try.prog w := fun d xs ys w => run_equalIn_agg w d 49 xs ys s49 p49
    simp only [Program.fieldsOf, Try.underlying51, Try.underlying49] at *
    go_simp
    by_cases h0 : a0 = b0 <;> by_cases h1 : a1 = b1 <;> by_cases h2 : a2 = b2 <;> by_cases h3 : a3 = b3 <;> simp [h0, h1, h2, h3]
  simp [execOp, ha.ev hx, ha.ev hy, run_eqGuard_agg w .neq 51 x y _ _ g0, e]
theorem eq53_neq {n : Nat} {fr : Fr} {w : World} {ty t' : TypeId} {x y : Operand} {a0 b0 : Int} {a1 b1 : Int} (hx : ev fr x = some (.agg #[.int .i64 a0, .int .i64 a1])) (hy : ev fr y = some (.agg #[.int .i64 b0, .int .i64 b1])) : Runs Try.prog n fr w (.binOp .neq 53 x y t') ty (.bool (!(decide (a0 = b0) && decide (a1 = b1)))) w := fun _ _ _ _ _ ha => by
  have u3 := Try.underlying3
  have q3 := Try.isAgg3
  have z3 := Try.sizeOf3
  have s53 : Try.prog.underlying 53 = some (.struct (Try.prog.fieldsOf 53)) := by kernel_rfl
  have p53 : Try.prog.stoodInHeld 53 = false := by kernel_rfl
  have g0 : Try.prog.eqGuardType Try.prog.depth 53 = false := by kernel_rfl
  have e : (binOp .neq 53 (.agg #[.int .i64 a0, .int .i64 a1]) (.agg #[.int .i64 b0, .int .i64 b1])).run Try.prog w = .ok (.bool (!(decide (a0 = b0) && decide (a1 = b1)))) w := by
    rw [run_neq_struct, show (10000 : Nat) = 9999 + 1 from rfl, run_equalIn_agg w 9999 53 _ _ s53 p53]
    simp only [Program.fieldsOf, Try.underlying53]
    go_simp
    by_cases h0 : a0 = b0 <;> by_cases h1 : a1 = b1 <;> simp [h0, h1]
  simp [execOp, ha.ev hx, ha.ev hy, run_eqGuard_agg w .neq 53 x y _ _ g0, e]

set_option maxRecDepth 100000 in
set_option maxHeartbeats 400000 in
theorem same6_s {w : World} {cs_x : List Value} {x : Snap} {cs_y : List Value} {y : Snap} (h_x : Rp.rp false 0 w.heap.size w cs_x x) (h_y : Rp.rp false 0 w.heap.size w cs_y y) :
    Ret Try.prog 50 [.agg cs_x.toArray, .agg cs_y.toArray].toArray w fun r w' => r = .bool (decide (x = y)) ∧ Kp [] w w' := by
 obtain ⟨a3, c4, rfl, i1, i2, s5, i6⟩ := Snap.el h_x
 have ls5 : (x.chunks).length * 8 ≤ 140737488355328 := s5.lenle
 obtain ⟨a9, c10, rfl, i7, i8, s11, i12⟩ := Snap.el h_y
 have ls11 : (y.chunks).length * 8 ≤ 140737488355328 := s11.lenle
 refine Ret.enter Try.func50 rfl Try.ntmps50 rfl rfl ?_
 refine WC.sel [0, 1] rfl ?_
 refine WC.seq ?_
 refine WC.region ?_
 refine WO.box rfl rfl rfl ?_
 intro w13 n13
 have z13 : w.heap.size < w13.heap.size := n13.lt
 have b13 := old_kp0 (Below.refl w.heap.size w) n13.kp
 have y13 : w.heap.size ≤ w13.heap.size := b13.size
 refine WO.box rfl rfl rfl ?_
 intro w14 n14
 have z14 : w13.heap.size < w14.heap.size := n14.lt
 have b14 := old_kp0 b13 n14.kp
 have y14 : w.heap.size ≤ w14.heap.size := b14.size
 refine WO.v (R.assign rfl) rfl ?_
 refine WO.nil ?_
 refine WX.sel [0, 1, 2, 3, 4] rfl ?_
 refine WX.next ?_
 refine WC.seq ?_
 refine WC.region ?_
 refine WO.v (fa46_2 rfl) rfl ?_
 have B15 := (n13.blk).kp0 n14.kp
 refine WO.v (R.loadB rfl B15 rfl Try.underlying24 rfl) rfl ?_
 refine WO.v (fa46_2 rfl) rfl ?_
 refine WO.v (R.loadB rfl n14.blk rfl Try.underlying24 rfl) rfl ?_
 refine WO.c (E.call rfl rfl Try.func62 rfl rfl) (ints_s (l := x.chunks) (a_l := a3) (c_l := c4) (m := y.chunks) (a_m := a9) (c_m := c10) ((sl_old s5 b14).mono (lo' := 0) (hi' := w14.heap.size) (Nat.zero_le _) (by omega)) ((sl_old s11 b14).mono (lo' := 0) (hi' := w14.heap.size) (Nat.zero_le _) (by omega))) rfl ?_
 rintro _ w16 ⟨rfl, k16⟩
 have z16 : w14.heap.size ≤ w16.heap.size := k16.size
 have b16 := old_kp0 b14 k16
 have y16 : w.heap.size ≤ w16.heap.size := b16.size
 refine WO.v (R.assign rfl) rfl ?_
 refine WO.nil ?_
 refine WX.sel [0, 1, 2, 3, 4, 5] rfl ?_
 refine WX.next ?_
 refine WC.seq ?_
 refine WC.region ?_
 refine WO.v (R.move rfl) rfl ?_
 refine WO.v (R.move rfl) rfl ?_
 refine WO.cutP 6 [(18, (.bool ((decide ((x.chunks) = (y.chunks))) && (decide (x.id = y.id)))))] (fun w' => w16 = w') ?_ ?_
 rcases Bool.eq_false_or_eq_true (decide ((x.chunks) = (y.chunks))) with hb17 | hb17
 have phb17 : (decide ((x.chunks) = (y.chunks))) = true := hb17
 refine WO.on rfl rfl hb17 ?_
 refine WO.v (fa46_0 rfl) rfl ?_
 refine WO.on rfl rfl hb17 ?_
 have B18 := (B15).kp0 k16
 refine WO.v (R.loadB rfl B18 rfl Try.underlying3 rfl) rfl ?_
 refine WO.on rfl rfl hb17 ?_
 refine WO.v (fa46_0 rfl) rfl ?_
 refine WO.on rfl rfl hb17 ?_
 have B19 := (n14.blk).kp0 k16
 refine WO.v (R.loadB rfl B19 rfl Try.underlying3 rfl) rfl ?_
 refine WO.on rfl rfl hb17 ?_
 refine WO.v (R.eql rfl rfl) rfl ?_
 refine WO.v (R.pickT rfl hb17 rfl) rfl ?_
 refine WO.nil ?_
 exact WX.cutDoneP 6 rfl rfl ⟨⟨_, rfl, vb (band_on hb17)⟩, trivial⟩ (rfl)
 have phb17 : (decide ((x.chunks) = (y.chunks))) = false := hb17
 refine WO.off rfl rfl hb17 rfl ?_
 refine WO.off rfl rfl hb17 rfl ?_
 refine WO.off rfl rfl hb17 rfl ?_
 refine WO.off rfl rfl hb17 rfl ?_
 refine WO.off rfl rfl hb17 rfl ?_
 refine WO.v (R.pickF rfl hb17 rfl) rfl ?_
 refine WO.nil ?_
 exact WX.cutDoneP 6 rfl rfl ⟨⟨_, rfl, vb (band_off hb17)⟩, trivial⟩ (rfl)
 rintro _ rfl
 refine WO.v (R.move rfl) rfl ?_
 refine WO.cutP 6 [(25, (.bool (((decide ((x.chunks) = (y.chunks))) && (decide (x.id = y.id))) && (decide (x.set = y.set)))))] (fun w' => w16 = w') ?_ ?_
 rcases Bool.eq_false_or_eq_true ((decide ((x.chunks) = (y.chunks))) && (decide (x.id = y.id))) with hb20 | hb20
 have phb20 : ((decide ((x.chunks) = (y.chunks))) = true) ∧ (x.id = y.id) := ⟨(band_t hb20).1, of_decide_eq_true (band_t hb20).2⟩
 refine WO.on rfl rfl hb20 ?_
 refine WO.v (fa46_1 rfl) rfl ?_
 refine WO.on rfl rfl hb20 ?_
 have B21 := (B15).kp0 k16
 refine WO.v (R.loadB rfl B21 rfl Try.underlying3 rfl) rfl ?_
 refine WO.on rfl rfl hb20 ?_
 refine WO.v (fa46_1 rfl) rfl ?_
 refine WO.on rfl rfl hb20 ?_
 have B22 := (n14.blk).kp0 k16
 refine WO.v (R.loadB rfl B22 rfl Try.underlying3 rfl) rfl ?_
 refine WO.on rfl rfl hb20 ?_
 refine WO.v (R.eql rfl rfl) rfl ?_
 refine WO.v (R.pickT rfl hb20 rfl) rfl ?_
 refine WO.nil ?_
 exact WX.cutDoneP 6 rfl rfl ⟨⟨_, rfl, vb (band_on hb20)⟩, trivial⟩ (rfl)
 have phb20 : ((decide ((x.chunks) = (y.chunks))) = false) ∨ (¬ (x.id = y.id)) := Or.imp (fun h => h) (fun h => of_decide_eq_false h) (band_f hb20)
 refine WO.off rfl rfl hb20 rfl ?_
 refine WO.off rfl rfl hb20 rfl ?_
 refine WO.off rfl rfl hb20 rfl ?_
 refine WO.off rfl rfl hb20 rfl ?_
 refine WO.off rfl rfl hb20 rfl ?_
 refine WO.v (R.pickF rfl hb20 rfl) rfl ?_
 refine WO.nil ?_
 exact WX.cutDoneP 6 rfl rfl ⟨⟨_, rfl, vb (band_off hb20)⟩, trivial⟩ (rfl)
 rintro _ rfl
 refine WO.v (R.move rfl) rfl ?_
 refine WO.cutP 6 [(32, (.bool ((((decide ((x.chunks) = (y.chunks))) && (decide (x.id = y.id))) && (decide (x.set = y.set))) && (((x.held) == (y.held))))))] (fun w' => w16 = w') ?_ ?_
 rcases Bool.eq_false_or_eq_true (((decide ((x.chunks) = (y.chunks))) && (decide (x.id = y.id))) && (decide (x.set = y.set))) with hb23 | hb23
 have phb23 : (((decide ((x.chunks) = (y.chunks))) = true) ∧ (x.id = y.id)) ∧ (x.set = y.set) := ⟨⟨(band_t (band_t hb23).1).1, of_decide_eq_true (band_t (band_t hb23).1).2⟩, of_decide_eq_true (band_t hb23).2⟩
 refine WO.on rfl rfl hb23 ?_
 refine WO.v (fa46_3 rfl) rfl ?_
 refine WO.on rfl rfl hb23 ?_
 have B24 := (B15).kp0 k16
 refine WO.v (R.loadB rfl B24 rfl Try.underlying4 rfl) rfl ?_
 refine WO.on rfl rfl hb23 ?_
 refine WO.v (fa46_3 rfl) rfl ?_
 refine WO.on rfl rfl hb23 ?_
 have B25 := (n14.blk).kp0 k16
 refine WO.v (R.loadB rfl B25 rfl Try.underlying4 rfl) rfl ?_
 refine WO.on rfl rfl hb23 ?_
 refine WO.v (R.eqlB rfl rfl Try.underlying4) rfl ?_
 refine WO.v (R.pickT rfl hb23 rfl) rfl ?_
 refine WO.nil ?_
 exact WX.cutDoneP 6 rfl rfl ⟨⟨_, rfl, vb (band_on hb23)⟩, trivial⟩ (rfl)
 have phb23 : (((decide ((x.chunks) = (y.chunks))) = false) ∨ (¬ (x.id = y.id))) ∨ (¬ (x.set = y.set)) := Or.imp (fun h => Or.imp (fun h => h) (fun h => of_decide_eq_false h) (band_f h)) (fun h => of_decide_eq_false h) (band_f hb23)
 refine WO.off rfl rfl hb23 rfl ?_
 refine WO.off rfl rfl hb23 rfl ?_
 refine WO.off rfl rfl hb23 rfl ?_
 refine WO.off rfl rfl hb23 rfl ?_
 refine WO.off rfl rfl hb23 rfl ?_
 refine WO.v (R.pickF rfl hb23 rfl) rfl ?_
 refine WO.nil ?_
 exact WX.cutDoneP 6 rfl rfl ⟨⟨_, rfl, vb (band_off hb23)⟩, trivial⟩ (rfl)
 rintro _ rfl
 refine WO.v (R.move rfl) rfl ?_
 refine WO.cutP 6 [(39, (.bool (((((decide ((x.chunks) = (y.chunks))) && (decide (x.id = y.id))) && (decide (x.set = y.set))) && (((x.held) == (y.held)))) && (decide (x.tag = y.tag)))))] (fun w' => w16 = w') ?_ ?_
 rcases Bool.eq_false_or_eq_true ((((decide ((x.chunks) = (y.chunks))) && (decide (x.id = y.id))) && (decide (x.set = y.set))) && (((x.held) == (y.held)))) with hb26 | hb26
 have phb26 : ((((decide ((x.chunks) = (y.chunks))) = true) ∧ (x.id = y.id)) ∧ (x.set = y.set)) ∧ ((((x.held) == (y.held))) = true) := ⟨⟨⟨(band_t (band_t (band_t hb26).1).1).1, of_decide_eq_true (band_t (band_t (band_t hb26).1).1).2⟩, of_decide_eq_true (band_t (band_t hb26).1).2⟩, (band_t hb26).2⟩
 refine WO.on rfl rfl hb26 ?_
 refine WO.v (fa46_4 rfl) rfl ?_
 refine WO.on rfl rfl hb26 ?_
 have B27 := (B15).kp0 k16
 refine WO.v (R.loadB rfl B27 rfl Try.underlying9 rfl) rfl ?_
 refine WO.on rfl rfl hb26 ?_
 refine WO.v (fa46_4 rfl) rfl ?_
 refine WO.on rfl rfl hb26 ?_
 have B28 := (n14.blk).kp0 k16
 refine WO.v (R.loadB rfl B28 rfl Try.underlying9 rfl) rfl ?_
 refine WO.on rfl rfl hb26 ?_
 refine WO.v (R.eqlS rfl rfl) rfl ?_
 refine WO.v (R.pickT rfl hb26 rfl) rfl ?_
 refine WO.nil ?_
 exact WX.cutDoneP 6 rfl rfl ⟨⟨_, rfl, vb (band_on hb26)⟩, trivial⟩ (rfl)
 have phb26 : ((((decide ((x.chunks) = (y.chunks))) = false) ∨ (¬ (x.id = y.id))) ∨ (¬ (x.set = y.set))) ∨ ((((x.held) == (y.held))) = false) := Or.imp (fun h => Or.imp (fun h => Or.imp (fun h => h) (fun h => of_decide_eq_false h) (band_f h)) (fun h => of_decide_eq_false h) (band_f h)) (fun h => h) (band_f hb26)
 refine WO.off rfl rfl hb26 rfl ?_
 refine WO.off rfl rfl hb26 rfl ?_
 refine WO.off rfl rfl hb26 rfl ?_
 refine WO.off rfl rfl hb26 rfl ?_
 refine WO.off rfl rfl hb26 rfl ?_
 refine WO.v (R.pickF rfl hb26 rfl) rfl ?_
 refine WO.nil ?_
 exact WX.cutDoneP 6 rfl rfl ⟨⟨_, rfl, vb (band_off hb26)⟩, trivial⟩ (rfl)
 rintro _ rfl
 refine WO.v (R.assign rfl) rfl ?_
 refine WO.nil ?_
 refine WX.sel [0, 1, 2, 3, 4, 5] rfl ?_
 refine WX.next ?_
 refine WC.ret ?_
 have e0 : (((((decide ((x.chunks) = (y.chunks))) && (decide (x.id = y.id))) && (decide (x.set = y.set))) && (((x.held) == (y.held)))) && (decide (x.tag = y.tag))) = (decide (x = y)) := by exact sameSnap_eq
 refine WX.ret1 Try.results50 rfl ?_
 exact ⟨by rw [e0], Kp.of_below b16⟩

set_option maxRecDepth 100000 in
set_option maxHeartbeats 400000 in
theorem sameAll6_s {w : World} {a_l : Option Addr} {c_l : Nat} {l : List Snap} {a_m : Option Addr} {c_m : Nat} {m : List Snap} (h_l : Sl false 0 w.heap.size w (.slice a_l l.length c_l) l) (h_m : Sl false 0 w.heap.size w (.slice a_m m.length c_m) m) :
    Ret Try.prog 30 [.slice a_l l.length c_l, .slice a_m m.length c_m].toArray w fun r w' => r = .bool (decide (l = m)) ∧ Kp [] w w' := by
 have len_l : (l).length * 64 ≤ 140737488355328 := h_l.lenle
 have len_m : (m).length * 64 ≤ 140737488355328 := h_m.lenle
 refine Ret.enter Try.func30 rfl Try.ntmps30 rfl rfl ?_
 refine WC.sel [0, 1] rfl ?_
 refine WC.seq ?_
 refine WC.region ?_
 refine WO.v (R.assign rfl) rfl ?_
 refine WO.nil ?_
 refine WX.sel [0, 1, 4] rfl ?_
 refine WX.next ?_
 refine WC.seq ?_
 refine WC.seq ?_
 refine WC.region ?_
 refine WO.v (R.move rfl) rfl ?_
 refine WO.v (R.len rfl Try.underlying32) rfl ?_
 refine WO.v (R.move rfl) rfl ?_
 refine WO.v (R.len rfl Try.underlying32) rfl ?_
 refine WO.v (R.neq rfl rfl) rfl ?_
 refine WO.nil ?_
 refine WX.sel [0, 1, 4, 11] rfl ?_
 refine WX.next ?_
 refine WC.cond rfl (fun q1 => ?_) (fun q1 => ?_)
 have p1 : ¬ (((l.length : Nat) : Int) = ((m.length : Nat) : Int)) := of_decide_eq_false (bnot_t q1)
 refine WC.seq ?_
 refine WC.region ?_
 refine WO.v (R.assign rfl) rfl ?_
 refine WO.nil ?_
 refine WX.sel [0, 1, 4, 11] rfl ?_
 refine WX.next ?_
 refine WC.ret ?_
 refine WX.thenRet ?_
 have e0 : false = (decide (l = m)) := by first | exact (ne_len ‹_›) | exact take_ne ‹l[_]? = _› ‹m[_]? = _› (by simpa using q1) | exact take_all hlen htk (by omega)
 refine WX.ret1 Try.results30 rfl ?_
 exact ⟨by rw [e0], Kp.refl _⟩
 have p1 : ((l.length : Nat) : Int) = ((m.length : Nat) : Int) := of_decide_eq_true (bnot_f q1)
 refine WC.skip ?_
 refine WX.next ?_
 refine WC.seq ?_
 refine WC.seq ?_
 refine WC.region ?_
 refine WO.v (R.assign rfl) rfl ?_
 refine WO.nil ?_
 refine WX.sel [0, 1, 4, 5, 11] rfl ?_
 refine WX.next ?_
 refine WC.block ?_
 refine WC.loopK [0, 1, 4, 11] rfl (fun zz : Nat => [(5, (.int .i64 (((zz) : Nat) : Int)))]) (fun (zz : Nat) (w' : World) => (Kp [] w w') ∧ ((zz) ≤ l.length) ∧ (l.length = m.length) ∧ (l.take (zz) = m.take (zz))) (fun zz => l.length - (zz)) (0) ?_ ?_ ?_
 exact ⟨⟨_, rfl, rfl⟩, trivial⟩
 exact ⟨Kp.refl _, Nat.zero_le _, by omega, rfl⟩
 rintro k w2 ⟨k2, hk, hlen, htk⟩
 try dsimp only at hk hlen htk
 have z2 : w.heap.size ≤ w2.heap.size := k2.size
 have b2 := old_kp0 (Below.refl w.heap.size w) k2
 have y2 : w.heap.size ≤ w2.heap.size := b2.size
 refine (?_ : WC _ _ _ _ ([(5, (.int .i64 ((k : Nat) : Int)))] ++ _) w2)
 refine WC.seq ?_
 refine WC.seq ?_
 refine WC.region ?_
 refine WO.v (R.move rfl) rfl ?_
 refine WO.v (R.move rfl) rfl ?_
 refine WO.v (R.len rfl Try.underlying32) rfl ?_
 refine WO.v (R.lss rfl rfl) rfl ?_
 refine WO.nil ?_
 refine WX.sel [0, 1, 4, 5, 11, 15] rfl ?_
 refine WX.next ?_
 refine WC.cond rfl (fun q3 => ?_) (fun q3 => ?_)
 have p3 : ((k : Nat) : Int) < ((l.length : Nat) : Int) := of_decide_eq_true q3
 refine WC.skip ?_
 refine WX.next ?_
 refine WC.seq ?_
 refine WC.block ?_
 refine WC.seq ?_
 refine WC.sel [0, 1, 4, 5, 11, 15] rfl ?_
 obtain ⟨x4, hx4⟩ := get_ex (xs := l) (i := k) (by omega)
 obtain ⟨A5, cs6, hA5, loA5, hiA5, ccA5, r7⟩ := (sl_old h_l b2).at_ hx4
 obtain ⟨a10, c11, rfl, i8, i9, s12, i13⟩ := Snap.el r7
 have ls12 : (x4.chunks).length * 8 ≤ 140737488355328 := s12.lenle
 obtain ⟨x14, hx14⟩ := get_ex (xs := m) (i := k) (by omega)
 obtain ⟨A15, cs16, hA15, loA15, hiA15, ccA15, r17⟩ := (sl_old h_m b2).at_ hx14
 obtain ⟨a20, c21, rfl, i18, i19, s22, i23⟩ := Snap.el r17
 have ls22 : (x14.chunks).length * 8 ≤ 140737488355328 := s22.lenle
 refine WC.draw' mixed_orders [.ex [] (.slice a_l l.length c_l), .ex [] (.int .i64 ((k : Nat) : Int)), .ex [0, 1] (.pointer (some (A5.add (k * 5)))), .ex [2] (.agg #[(.int .i64 x4.id), (.int .i64 x4.set), (.slice a10 x4.chunks.length c11), (.bool (x4.held)), x4.tag.val]), .ex [] (.slice a_m m.length c_m), .ex [] (.int .i64 ((k : Nat) : Int)), .ex [4, 5] (.pointer (some (A15.add (k * 5)))), .ex [6] (.agg #[(.int .i64 x14.id), (.int .i64 x14.set), (.slice a20 x14.chunks.length c21), (.bool (x14.held)), x14.tag.val]), .ex [3, 7] (.bool (decide ((x4) = (x14)))), .ex [8] (.bool (decide ((x4) = (x14))))] 10 (by kernel_rfl) ⟨fun _ _ _ h _ => h, fun _ _ _ h _ => h, fun _ _ _ h _ => h, fun _ _ _ h _ => h, fun _ _ _ h _ => h, fun _ _ _ h _ => h, fun _ _ _ h _ => h, fun _ _ _ h _ => h, fun _ _ _ h _ => h, fun _ _ _ h _ => h, trivial⟩ ⟨?_, ?_, ?_, ?_, ?_, ?_, ?_, ?_, ?_, ?_, trivial⟩ ?_
 rintro vs w25 k25 ⟨-⟩
 replace k25 : Kp [] w2 w25 := k25
 refine WO.haves (fr' := [(0, (.slice a_l l.length c_l))]) ⟨⟨_, rfl, rfl⟩, trivial⟩ ?_
 refine WO.v (R.move rfl) rfl ?_
 refine WO.nil ?_
 exact WX.stepDone rfl rfl (Kp.refl _)
 rintro vs w26 k26 ⟨-⟩
 replace k26 : Kp [] w2 w26 := k26
 refine WO.haves (fr' := [(5, (.int .i64 ((k : Nat) : Int)))]) ⟨⟨_, rfl, rfl⟩, trivial⟩ ?_
 refine WO.v (R.move rfl) rfl ?_
 refine WO.nil ?_
 exact WX.stepDone rfl rfl (Kp.refl _)
 rintro vs w27 k27 ⟨e28, e29, -⟩
 replace k27 : Kp [] w2 w27 := k27
 refine WO.haves (fr' := [(18, (.slice a_l l.length c_l)), (19, (.int .i64 ((k : Nat) : Int)))]) ⟨⟨_, rfl, e28⟩, ⟨_, rfl, e29⟩, trivial⟩ ?_
 refine WO.v (R.indexAddrN rfl rfl Try.underlying32 sz46 hA5 (by omega)) rfl ?_
 refine WO.nil ?_
 exact WX.stepDone rfl rfl (Kp.refl _)
 rintro vs w30 k30 ⟨e31, -⟩
 replace k30 : Kp [] w2 w30 := k30
 have z30 : w2.heap.size ≤ w30.heap.size := k30.size
 have b30 := old_kp0 b2 k30
 have y30 : w.heap.size ≤ w30.heap.size := b30.size
 refine WO.haves (fr' := [(20, (.pointer (some (A5.add (k * 5)))))]) ⟨⟨_, rfl, e31⟩, trivial⟩ ?_
 refine WO.v (R.loadN (cs := [_, _, _, _, _]) rfl Try.underlying46 rfl sz46 ((ccA5).kpA k30 (by omega) (by simp))) rfl ?_
 refine WO.nil ?_
 exact WX.stepDone rfl rfl (Kp.refl _)
 rintro vs w32 k32 ⟨-⟩
 replace k32 : Kp [] w2 w32 := k32
 refine WO.haves (fr' := [(1, (.slice a_m m.length c_m))]) ⟨⟨_, rfl, rfl⟩, trivial⟩ ?_
 refine WO.v (R.move rfl) rfl ?_
 refine WO.nil ?_
 exact WX.stepDone rfl rfl (Kp.refl _)
 rintro vs w33 k33 ⟨-⟩
 replace k33 : Kp [] w2 w33 := k33
 refine WO.haves (fr' := [(5, (.int .i64 ((k : Nat) : Int)))]) ⟨⟨_, rfl, rfl⟩, trivial⟩ ?_
 refine WO.v (R.move rfl) rfl ?_
 refine WO.nil ?_
 exact WX.stepDone rfl rfl (Kp.refl _)
 rintro vs w34 k34 ⟨e35, e36, -⟩
 replace k34 : Kp [] w2 w34 := k34
 refine WO.haves (fr' := [(22, (.slice a_m m.length c_m)), (23, (.int .i64 ((k : Nat) : Int)))]) ⟨⟨_, rfl, e35⟩, ⟨_, rfl, e36⟩, trivial⟩ ?_
 refine WO.v (R.indexAddrN rfl rfl Try.underlying32 sz46 hA15 (by omega)) rfl ?_
 refine WO.nil ?_
 exact WX.stepDone rfl rfl (Kp.refl _)
 rintro vs w37 k37 ⟨e38, -⟩
 replace k37 : Kp [] w2 w37 := k37
 have z37 : w2.heap.size ≤ w37.heap.size := k37.size
 have b37 := old_kp0 b2 k37
 have y37 : w.heap.size ≤ w37.heap.size := b37.size
 refine WO.haves (fr' := [(24, (.pointer (some (A15.add (k * 5)))))]) ⟨⟨_, rfl, e38⟩, trivial⟩ ?_
 refine WO.v (R.loadN (cs := [_, _, _, _, _]) rfl Try.underlying46 rfl sz46 ((ccA15).kpA k37 (by omega) (by simp))) rfl ?_
 refine WO.nil ?_
 exact WX.stepDone rfl rfl (Kp.refl _)
 rintro vs w39 k39 ⟨e40, e41, -⟩
 replace k39 : Kp [] w2 w39 := k39
 have z39 : w2.heap.size ≤ w39.heap.size := k39.size
 have b39 := old_kp0 b2 k39
 have y39 : w.heap.size ≤ w39.heap.size := b39.size
 refine WO.haves (fr' := [(21, (.agg #[(.int .i64 x4.id), (.int .i64 x4.set), (.slice a10 x4.chunks.length c11), (.bool (x4.held)), x4.tag.val])), (25, (.agg #[(.int .i64 x14.id), (.int .i64 x14.set), (.slice a20 x14.chunks.length c21), (.bool (x14.held)), x14.tag.val]))]) ⟨⟨_, rfl, e40⟩, ⟨_, rfl, e41⟩, trivial⟩ ?_
 refine WO.c (E.call rfl rfl Try.func50 rfl rfl) (same6_s (x := x4) (y := x14) (Snap.mk_ (i8) (i9) ((sl_kp0 (s12) k39 (by omega)).mono (lo' := 0) (hi' := w39.heap.size) (Nat.zero_le _) (by omega)) i13) (Snap.mk_ (i18) (i19) ((sl_kp0 (s22) k39 (by omega)).mono (lo' := 0) (hi' := w39.heap.size) (Nat.zero_le _) (by omega)) i23)) rfl ?_
 rintro _ w42 ⟨rfl, k42⟩
 have z42 : w39.heap.size ≤ w42.heap.size := k42.size
 have b42 := old_kp0 b39 k42
 have y42 : w.heap.size ≤ w42.heap.size := b42.size
 refine WO.nil ?_
 exact WX.stepDone rfl rfl ((Kp.refl _).step k42 (by simp))
 rintro vs w43 k43 ⟨e44, -⟩
 replace k43 : Kp [] w2 w43 := k43
 have z43 : w2.heap.size ≤ w43.heap.size := k43.size
 have b43 := old_kp0 b2 k43
 have y43 : w.heap.size ≤ w43.heap.size := b43.size
 refine WO.haves (fr' := [(26, (.bool (decide ((x4) = (x14)))))]) ⟨⟨_, rfl, e44⟩, trivial⟩ ?_
 refine WO.v (R.assign rfl) rfl ?_
 refine WO.nil ?_
 exact WX.stepDone rfl rfl (Kp.refl _)
 rintro vs w45 k45 ⟨-, -, -, -, -, -, -, -, -, e55, -⟩
 replace k45 : Kp [] w2 w45 := k45
 have z45 : w2.heap.size ≤ w45.heap.size := k45.size
 have b45 := old_kp0 b2 k45
 have y45 : w.heap.size ≤ w45.heap.size := b45.size
 refine WO.haves (fr' := [(6, (.bool (decide ((x4) = (x14))))), (0, (.slice a_l l.length c_l)), (1, (.slice a_m m.length c_m)), (4, (.bool false)), (5, (.int .i64 ((k : Nat) : Int))), (11, (.bool (!(decide (((l.length : Nat) : Int) = ((m.length : Nat) : Int)))))), (15, (.bool (decide (((k : Nat) : Int) < ((l.length : Nat) : Int)))))]) ⟨⟨_, rfl, e55⟩, ⟨_, rfl, rfl⟩, ⟨_, rfl, rfl⟩, ⟨_, rfl, rfl⟩, ⟨_, rfl, rfl⟩, ⟨_, rfl, rfl⟩, ⟨_, rfl, rfl⟩, trivial⟩ ?_
 refine WO.nil ?_
 refine WX.sel [0, 1, 4, 5, 6, 11, 15] rfl ?_
 refine WX.next ?_
 refine WC.seq ?_
 refine WC.region ?_
 refine WO.v (R.move rfl) rfl ?_
 refine WO.v (R.not rfl) rfl ?_
 refine WO.nil ?_
 refine WX.sel [0, 1, 4, 5, 6, 11, 15, 28] rfl ?_
 refine WX.next ?_
 refine WC.cond rfl (fun q56 => ?_) (fun q56 => ?_)
 have p56 : (decide ((x4) = (x14))) = false := (bnot_t q56)
 refine WC.seq ?_
 refine WC.region ?_
 refine WO.v (R.assign rfl) rfl ?_
 refine WO.nil ?_
 refine WX.sel [0, 1, 4, 5, 6, 11, 15, 28] rfl ?_
 refine WX.next ?_
 refine WC.ret ?_
 refine WX.blkRet ?_
 refine WX.thenRet ?_
 refine WX.loopRet ?_
 refine WX.blkRet ?_
 refine WX.thenRet ?_
 have e0 : false = (decide (l = m)) := by first | exact (ne_len ‹_›) | exact take_ne ‹l[_]? = _› ‹m[_]? = _› (by simpa using q56) | exact take_all hlen htk (by omega)
 refine WX.ret1 Try.results30 rfl ?_
 exact ⟨by rw [e0], Kp.of_below b45⟩
 have p56 : (decide ((x4) = (x14))) = true := (bnot_f q56)
 refine WC.skip ?_
 refine WX.blkNormal ?_
 refine WX.next ?_
 refine WC.region ?_
 refine WO.v (R.move rfl) rfl ?_
 refine WO.v (R.inc rfl (by omega)) rfl ?_
 refine WO.v (R.assign rfl) rfl ?_
 refine WO.nil ?_
 refine WX.sel [0, 1, 4, 5, 6, 11, 15, 28] rfl ?_
 exact WX.loopNextK [0, 1, 4, 11] (k + 1) rfl ⟨⟨_, rfl, rfl⟩, trivial⟩ ⟨((Kp.refl _).step k2 (by simp)).step k45 (by simp), by omega, hlen, take_eq htk hx4 hx14 (by simpa using q56)⟩ (by show (l.length - (k + 1)) < (l.length - k); omega)
 have p3 : ¬ (((k : Nat) : Int) < ((l.length : Nat) : Int)) := of_decide_eq_false q3
 refine WC.exit ?_
 refine WX.thenExit ?_
 refine WX.loopExit ?_
 refine WX.blkHit ?_
 refine WX.next ?_
 refine WC.seq ?_
 refine WC.region ?_
 refine WO.v (R.assign rfl) rfl ?_
 refine WO.nil ?_
 refine WX.sel [0, 1, 4, 5, 11, 15] rfl ?_
 refine WX.next ?_
 refine WC.ret ?_
 have e0 : true = (decide (l = m)) := by first | exact (ne_len ‹_›) | exact take_ne ‹l[_]? = _› ‹m[_]? = _› (by simpa using q3) | exact take_all hlen htk (by omega)
 refine WX.ret1 Try.results30 rfl ?_
 exact ⟨by rw [e0], Kp.of_below b2⟩

set_option maxRecDepth 100000 in
set_option maxHeartbeats 400000 in
theorem same7_s {w : World} {cs_s : List Value} {s : State} {cs_t : List Value} {t : State} (h_s : Rp.rp false 0 w.heap.size w cs_s s) (h_t : Rp.rp false 0 w.heap.size w cs_t t) :
    Ret Try.prog 14 [.agg cs_s.toArray, .agg cs_t.toArray].toArray w fun r w' => r = .bool (decide (s = t)) ∧ Kp [] w w' := by
 obtain ⟨a5, c6, a8, c9, a11, c12, rfl, i1, i2, i3, i4, s7, s10, s13⟩ := State.el h_s
 have ls7 : (s.sess).length * 32 ≤ 140737488355328 := s7.lenle
 have ls10 : (s.opens).length * 16 ≤ 140737488355328 := s10.lenle
 have ls13 : (s.snaps).length * 64 ≤ 140737488355328 := s13.lenle
 obtain ⟨a18, c19, a21, c22, a24, c25, rfl, i14, i15, i16, i17, s20, s23, s26⟩ := State.el h_t
 have ls20 : (t.sess).length * 32 ≤ 140737488355328 := s20.lenle
 have ls23 : (t.opens).length * 16 ≤ 140737488355328 := s23.lenle
 have ls26 : (t.snaps).length * 64 ≤ 140737488355328 := s26.lenle
 refine Ret.enter Try.func14 rfl Try.ntmps14 rfl rfl ?_
 refine WC.sel [0, 1] rfl ?_
 refine WC.seq ?_
 refine WC.region ?_
 refine WO.box rfl rfl rfl ?_
 intro w27 n27
 have z27 : w.heap.size < w27.heap.size := n27.lt
 have b27 := old_kp0 (Below.refl w.heap.size w) n27.kp
 have y27 : w.heap.size ≤ w27.heap.size := b27.size
 refine WO.box rfl rfl rfl ?_
 intro w28 n28
 have z28 : w27.heap.size < w28.heap.size := n28.lt
 have b28 := old_kp0 b27 n28.kp
 have y28 : w.heap.size ≤ w28.heap.size := b28.size
 refine WO.v (R.assign rfl) rfl ?_
 refine WO.nil ?_
 refine WX.sel [0, 1, 2, 3, 4] rfl ?_
 refine WX.next ?_
 refine WC.seq ?_
 refine WC.seq ?_
 refine WC.region ?_
 refine WO.v (fa34_0 rfl) rfl ?_
 have B29 := (n27.blk).kp0 n28.kp
 refine WO.v (R.loadB rfl B29 rfl Try.underlying3 rfl) rfl ?_
 refine WO.v (fa34_0 rfl) rfl ?_
 refine WO.v (R.loadB rfl n28.blk rfl Try.underlying3 rfl) rfl ?_
 refine WO.v (R.neq rfl rfl) rfl ?_
 refine WO.v (R.move rfl) rfl ?_
 refine WO.cutP 6 [(18, (.bool ((!(decide (s.version = t.version))) || (!(decide (s.next = t.next))))))] (fun w' => w28 = w') ?_ ?_
 rcases Bool.eq_false_or_eq_true (!(decide (s.version = t.version))) with hb30 | hb30
 have phb30 : ¬ (s.version = t.version) := of_decide_eq_false (bnot_t hb30)
 refine WO.off rfl rfl hb30 rfl ?_
 refine WO.off rfl rfl hb30 rfl ?_
 refine WO.off rfl rfl hb30 rfl ?_
 refine WO.off rfl rfl hb30 rfl ?_
 refine WO.off rfl rfl hb30 rfl ?_
 refine WO.v (R.pickT rfl hb30 rfl) rfl ?_
 refine WO.nil ?_
 exact WX.cutDoneP 6 rfl rfl ⟨⟨_, rfl, vb (bor_on hb30)⟩, trivial⟩ (rfl)
 have phb30 : s.version = t.version := of_decide_eq_true (bnot_f hb30)
 refine WO.on rfl rfl hb30 ?_
 refine WO.v (fa34_1 rfl) rfl ?_
 refine WO.on rfl rfl hb30 ?_
 refine WO.v (R.loadB rfl B29 rfl Try.underlying3 rfl) rfl ?_
 refine WO.on rfl rfl hb30 ?_
 refine WO.v (fa34_1 rfl) rfl ?_
 refine WO.on rfl rfl hb30 ?_
 refine WO.v (R.loadB rfl n28.blk rfl Try.underlying3 rfl) rfl ?_
 refine WO.on rfl rfl hb30 ?_
 refine WO.v (R.neq rfl rfl) rfl ?_
 refine WO.v (R.pickF rfl hb30 rfl) rfl ?_
 refine WO.nil ?_
 exact WX.cutDoneP 6 rfl rfl ⟨⟨_, rfl, vb (bor_off hb30)⟩, trivial⟩ (rfl)
 rintro _ rfl
 refine WO.v (R.move rfl) rfl ?_
 refine WO.cutP 6 [(25, (.bool (((!(decide (s.version = t.version))) || (!(decide (s.next = t.next)))) || (!(decide (s.keep = t.keep))))))] (fun w' => w28 = w') ?_ ?_
 rcases Bool.eq_false_or_eq_true ((!(decide (s.version = t.version))) || (!(decide (s.next = t.next)))) with hb31 | hb31
 have phb31 : (¬ (s.version = t.version)) ∨ (¬ (s.next = t.next)) := Or.imp (fun h => of_decide_eq_false (bnot_t h)) (fun h => of_decide_eq_false (bnot_t h)) (bor_t hb31)
 refine WO.off rfl rfl hb31 rfl ?_
 refine WO.off rfl rfl hb31 rfl ?_
 refine WO.off rfl rfl hb31 rfl ?_
 refine WO.off rfl rfl hb31 rfl ?_
 refine WO.off rfl rfl hb31 rfl ?_
 refine WO.v (R.pickT rfl hb31 rfl) rfl ?_
 refine WO.nil ?_
 exact WX.cutDoneP 6 rfl rfl ⟨⟨_, rfl, vb (bor_on hb31)⟩, trivial⟩ (rfl)
 have phb31 : (s.version = t.version) ∧ (s.next = t.next) := ⟨of_decide_eq_true (bnot_f (bor_f hb31).1), of_decide_eq_true (bnot_f (bor_f hb31).2)⟩
 refine WO.on rfl rfl hb31 ?_
 refine WO.v (fa34_2 rfl) rfl ?_
 refine WO.on rfl rfl hb31 ?_
 refine WO.v (R.loadB rfl B29 rfl Try.underlying3 rfl) rfl ?_
 refine WO.on rfl rfl hb31 ?_
 refine WO.v (fa34_2 rfl) rfl ?_
 refine WO.on rfl rfl hb31 ?_
 refine WO.v (R.loadB rfl n28.blk rfl Try.underlying3 rfl) rfl ?_
 refine WO.on rfl rfl hb31 ?_
 refine WO.v (R.neq rfl rfl) rfl ?_
 refine WO.v (R.pickF rfl hb31 rfl) rfl ?_
 refine WO.nil ?_
 exact WX.cutDoneP 6 rfl rfl ⟨⟨_, rfl, vb (bor_off hb31)⟩, trivial⟩ (rfl)
 rintro _ rfl
 refine WO.v (R.move rfl) rfl ?_
 refine WO.cutP 6 [(32, (.bool ((((!(decide (s.version = t.version))) || (!(decide (s.next = t.next)))) || (!(decide (s.keep = t.keep)))) || (!(decide (s.quota = t.quota))))))] (fun w' => w28 = w') ?_ ?_
 rcases Bool.eq_false_or_eq_true (((!(decide (s.version = t.version))) || (!(decide (s.next = t.next)))) || (!(decide (s.keep = t.keep)))) with hb32 | hb32
 have phb32 : ((¬ (s.version = t.version)) ∨ (¬ (s.next = t.next))) ∨ (¬ (s.keep = t.keep)) := Or.imp (fun h => Or.imp (fun h => of_decide_eq_false (bnot_t h)) (fun h => of_decide_eq_false (bnot_t h)) (bor_t h)) (fun h => of_decide_eq_false (bnot_t h)) (bor_t hb32)
 refine WO.off rfl rfl hb32 rfl ?_
 refine WO.off rfl rfl hb32 rfl ?_
 refine WO.off rfl rfl hb32 rfl ?_
 refine WO.off rfl rfl hb32 rfl ?_
 refine WO.off rfl rfl hb32 rfl ?_
 refine WO.v (R.pickT rfl hb32 rfl) rfl ?_
 refine WO.nil ?_
 exact WX.cutDoneP 6 rfl rfl ⟨⟨_, rfl, vb (bor_on hb32)⟩, trivial⟩ (rfl)
 have phb32 : ((s.version = t.version) ∧ (s.next = t.next)) ∧ (s.keep = t.keep) := ⟨⟨of_decide_eq_true (bnot_f (bor_f (bor_f hb32).1).1), of_decide_eq_true (bnot_f (bor_f (bor_f hb32).1).2)⟩, of_decide_eq_true (bnot_f (bor_f hb32).2)⟩
 refine WO.on rfl rfl hb32 ?_
 refine WO.v (fa34_3 rfl) rfl ?_
 refine WO.on rfl rfl hb32 ?_
 refine WO.v (R.loadB rfl B29 rfl Try.underlying3 rfl) rfl ?_
 refine WO.on rfl rfl hb32 ?_
 refine WO.v (fa34_3 rfl) rfl ?_
 refine WO.on rfl rfl hb32 ?_
 refine WO.v (R.loadB rfl n28.blk rfl Try.underlying3 rfl) rfl ?_
 refine WO.on rfl rfl hb32 ?_
 refine WO.v (R.neq rfl rfl) rfl ?_
 refine WO.v (R.pickF rfl hb32 rfl) rfl ?_
 refine WO.nil ?_
 exact WX.cutDoneP 6 rfl rfl ⟨⟨_, rfl, vb (bor_off hb32)⟩, trivial⟩ (rfl)
 rintro _ rfl
 refine WO.v (R.move rfl) rfl ?_
 refine WO.cutP 8 [(41, (.bool (((((!(decide (s.version = t.version))) || (!(decide (s.next = t.next)))) || (!(decide (s.keep = t.keep)))) || (!(decide (s.quota = t.quota)))) || (!(decide (((s.sess.length : Nat) : Int) = ((t.sess.length : Nat) : Int)))))))] (fun w' => w28 = w') ?_ ?_
 rcases Bool.eq_false_or_eq_true ((((!(decide (s.version = t.version))) || (!(decide (s.next = t.next)))) || (!(decide (s.keep = t.keep)))) || (!(decide (s.quota = t.quota)))) with hb33 | hb33
 have phb33 : (((¬ (s.version = t.version)) ∨ (¬ (s.next = t.next))) ∨ (¬ (s.keep = t.keep))) ∨ (¬ (s.quota = t.quota)) := Or.imp (fun h => Or.imp (fun h => Or.imp (fun h => of_decide_eq_false (bnot_t h)) (fun h => of_decide_eq_false (bnot_t h)) (bor_t h)) (fun h => of_decide_eq_false (bnot_t h)) (bor_t h)) (fun h => of_decide_eq_false (bnot_t h)) (bor_t hb33)
 refine WO.off rfl rfl hb33 rfl ?_
 refine WO.off rfl rfl hb33 rfl ?_
 refine WO.off rfl rfl hb33 rfl ?_
 refine WO.off rfl rfl hb33 rfl ?_
 refine WO.off rfl rfl hb33 rfl ?_
 refine WO.off rfl rfl hb33 rfl ?_
 refine WO.off rfl rfl hb33 rfl ?_
 refine WO.v (R.pickT rfl hb33 rfl) rfl ?_
 refine WO.nil ?_
 exact WX.cutDoneP 8 rfl rfl ⟨⟨_, rfl, vb (bor_on hb33)⟩, trivial⟩ (rfl)
 have phb33 : (((s.version = t.version) ∧ (s.next = t.next)) ∧ (s.keep = t.keep)) ∧ (s.quota = t.quota) := ⟨⟨⟨of_decide_eq_true (bnot_f (bor_f (bor_f (bor_f hb33).1).1).1), of_decide_eq_true (bnot_f (bor_f (bor_f (bor_f hb33).1).1).2)⟩, of_decide_eq_true (bnot_f (bor_f (bor_f hb33).1).2)⟩, of_decide_eq_true (bnot_f (bor_f hb33).2)⟩
 refine WO.on rfl rfl hb33 ?_
 refine WO.v (fa34_4 rfl) rfl ?_
 refine WO.on rfl rfl hb33 ?_
 refine WO.v (R.loadB rfl B29 rfl Try.underlying30 rfl) rfl ?_
 refine WO.on rfl rfl hb33 ?_
 refine WO.v (R.len rfl Try.underlying30) rfl ?_
 refine WO.on rfl rfl hb33 ?_
 refine WO.v (fa34_4 rfl) rfl ?_
 refine WO.on rfl rfl hb33 ?_
 refine WO.v (R.loadB rfl n28.blk rfl Try.underlying30 rfl) rfl ?_
 refine WO.on rfl rfl hb33 ?_
 refine WO.v (R.len rfl Try.underlying30) rfl ?_
 refine WO.on rfl rfl hb33 ?_
 refine WO.v (R.neq rfl rfl) rfl ?_
 refine WO.v (R.pickF rfl hb33 rfl) rfl ?_
 refine WO.nil ?_
 exact WX.cutDoneP 8 rfl rfl ⟨⟨_, rfl, vb (bor_off hb33)⟩, trivial⟩ (rfl)
 rintro _ rfl
 refine WO.v (R.move rfl) rfl ?_
 refine WO.cutP 8 [(50, (.bool ((((((!(decide (s.version = t.version))) || (!(decide (s.next = t.next)))) || (!(decide (s.keep = t.keep)))) || (!(decide (s.quota = t.quota)))) || (!(decide (((s.sess.length : Nat) : Int) = ((t.sess.length : Nat) : Int))))) || (!(decide (((s.opens.length : Nat) : Int) = ((t.opens.length : Nat) : Int)))))))] (fun w' => w28 = w') ?_ ?_
 rcases Bool.eq_false_or_eq_true (((((!(decide (s.version = t.version))) || (!(decide (s.next = t.next)))) || (!(decide (s.keep = t.keep)))) || (!(decide (s.quota = t.quota)))) || (!(decide (((s.sess.length : Nat) : Int) = ((t.sess.length : Nat) : Int))))) with hb34 | hb34
 have phb34 : ((((¬ (s.version = t.version)) ∨ (¬ (s.next = t.next))) ∨ (¬ (s.keep = t.keep))) ∨ (¬ (s.quota = t.quota))) ∨ (¬ (((s.sess.length : Nat) : Int) = ((t.sess.length : Nat) : Int))) := Or.imp (fun h => Or.imp (fun h => Or.imp (fun h => Or.imp (fun h => of_decide_eq_false (bnot_t h)) (fun h => of_decide_eq_false (bnot_t h)) (bor_t h)) (fun h => of_decide_eq_false (bnot_t h)) (bor_t h)) (fun h => of_decide_eq_false (bnot_t h)) (bor_t h)) (fun h => of_decide_eq_false (bnot_t h)) (bor_t hb34)
 refine WO.off rfl rfl hb34 rfl ?_
 refine WO.off rfl rfl hb34 rfl ?_
 refine WO.off rfl rfl hb34 rfl ?_
 refine WO.off rfl rfl hb34 rfl ?_
 refine WO.off rfl rfl hb34 rfl ?_
 refine WO.off rfl rfl hb34 rfl ?_
 refine WO.off rfl rfl hb34 rfl ?_
 refine WO.v (R.pickT rfl hb34 rfl) rfl ?_
 refine WO.nil ?_
 exact WX.cutDoneP 8 rfl rfl ⟨⟨_, rfl, vb (bor_on hb34)⟩, trivial⟩ (rfl)
 have phb34 : ((((s.version = t.version) ∧ (s.next = t.next)) ∧ (s.keep = t.keep)) ∧ (s.quota = t.quota)) ∧ (((s.sess.length : Nat) : Int) = ((t.sess.length : Nat) : Int)) := ⟨⟨⟨⟨of_decide_eq_true (bnot_f (bor_f (bor_f (bor_f (bor_f hb34).1).1).1).1), of_decide_eq_true (bnot_f (bor_f (bor_f (bor_f (bor_f hb34).1).1).1).2)⟩, of_decide_eq_true (bnot_f (bor_f (bor_f (bor_f hb34).1).1).2)⟩, of_decide_eq_true (bnot_f (bor_f (bor_f hb34).1).2)⟩, of_decide_eq_true (bnot_f (bor_f hb34).2)⟩
 refine WO.on rfl rfl hb34 ?_
 refine WO.v (fa34_5 rfl) rfl ?_
 refine WO.on rfl rfl hb34 ?_
 refine WO.v (R.loadB rfl B29 rfl Try.underlying31 rfl) rfl ?_
 refine WO.on rfl rfl hb34 ?_
 refine WO.v (R.len rfl Try.underlying31) rfl ?_
 refine WO.on rfl rfl hb34 ?_
 refine WO.v (fa34_5 rfl) rfl ?_
 refine WO.on rfl rfl hb34 ?_
 refine WO.v (R.loadB rfl n28.blk rfl Try.underlying31 rfl) rfl ?_
 refine WO.on rfl rfl hb34 ?_
 refine WO.v (R.len rfl Try.underlying31) rfl ?_
 refine WO.on rfl rfl hb34 ?_
 refine WO.v (R.neq rfl rfl) rfl ?_
 refine WO.v (R.pickF rfl hb34 rfl) rfl ?_
 refine WO.nil ?_
 exact WX.cutDoneP 8 rfl rfl ⟨⟨_, rfl, vb (bor_off hb34)⟩, trivial⟩ (rfl)
 rintro _ rfl
 refine WO.nil ?_
 refine WX.sel [0, 1, 2, 3, 4, 50] rfl ?_
 refine WX.next ?_
 refine WC.cond rfl (fun q35 => ?_) (fun q35 => ?_)
 have p35 : (((((¬ (s.version = t.version)) ∨ (¬ (s.next = t.next))) ∨ (¬ (s.keep = t.keep))) ∨ (¬ (s.quota = t.quota))) ∨ (¬ (((s.sess.length : Nat) : Int) = ((t.sess.length : Nat) : Int)))) ∨ (¬ (((s.opens.length : Nat) : Int) = ((t.opens.length : Nat) : Int))) := Or.imp (fun h => Or.imp (fun h => Or.imp (fun h => Or.imp (fun h => Or.imp (fun h => of_decide_eq_false (bnot_t h)) (fun h => of_decide_eq_false (bnot_t h)) (bor_t h)) (fun h => of_decide_eq_false (bnot_t h)) (bor_t h)) (fun h => of_decide_eq_false (bnot_t h)) (bor_t h)) (fun h => of_decide_eq_false (bnot_t h)) (bor_t h)) (fun h => of_decide_eq_false (bnot_t h)) (bor_t q35)
 refine WC.seq ?_
 refine WC.region ?_
 refine WO.v (R.assign rfl) rfl ?_
 refine WO.nil ?_
 refine WX.sel [0, 1, 2, 3, 4, 50] rfl ?_
 refine WX.next ?_
 refine WC.ret ?_
 refine WX.thenRet ?_
 have e0 : false = (decide (s = t)) := by first | exact same_at State.sess ‹s.sess[_]? = _› ‹t.sess[_]? = _› (by rintro rfl; simp at q35) | exact same_at State.opens ‹s.opens[_]? = _› ‹t.opens[_]? = _› (by rintro rfl; simp at q35) | exact same_fin q35 htk (by omega) htk2 (by omega) | exact (decide_eq_false (by rintro rfl; simp at q35)).symm
 refine WX.ret1 Try.results14 rfl ?_
 exact ⟨by rw [e0], Kp.of_below b28⟩
 have p35 : (((((s.version = t.version) ∧ (s.next = t.next)) ∧ (s.keep = t.keep)) ∧ (s.quota = t.quota)) ∧ (((s.sess.length : Nat) : Int) = ((t.sess.length : Nat) : Int))) ∧ (((s.opens.length : Nat) : Int) = ((t.opens.length : Nat) : Int)) := ⟨⟨⟨⟨⟨of_decide_eq_true (bnot_f (bor_f (bor_f (bor_f (bor_f (bor_f q35).1).1).1).1).1), of_decide_eq_true (bnot_f (bor_f (bor_f (bor_f (bor_f (bor_f q35).1).1).1).1).2)⟩, of_decide_eq_true (bnot_f (bor_f (bor_f (bor_f (bor_f q35).1).1).1).2)⟩, of_decide_eq_true (bnot_f (bor_f (bor_f (bor_f q35).1).1).2)⟩, of_decide_eq_true (bnot_f (bor_f (bor_f q35).1).2)⟩, of_decide_eq_true (bnot_f (bor_f q35).2)⟩
 refine WC.skip ?_
 refine WX.next ?_
 refine WC.seq ?_
 refine WC.seq ?_
 refine WC.region ?_
 refine WO.v (R.assign rfl) rfl ?_
 refine WO.nil ?_
 refine WX.sel [0, 1, 2, 3, 4, 5, 50] rfl ?_
 refine WX.next ?_
 refine WC.block ?_
 refine WC.loopK [0, 1, 2, 3, 4, 50] rfl (fun zz : Nat => [(5, (.int .i64 (((zz) : Nat) : Int)))]) (fun (zz : Nat) (w' : World) => (Kp [] w28 w') ∧ ((zz) ≤ s.sess.length) ∧ (s.sess.take (zz) = t.sess.take (zz))) (fun zz => s.sess.length - (zz)) (0) ?_ ?_ ?_
 exact ⟨⟨_, rfl, rfl⟩, trivial⟩
 exact ⟨Kp.refl _, Nat.zero_le _, rfl⟩
 rintro k w36 ⟨k36, hk, htk⟩
 try dsimp only at hk htk
 have z36 : w28.heap.size ≤ w36.heap.size := k36.size
 have b36 := old_kp0 b28 k36
 have y36 : w.heap.size ≤ w36.heap.size := b36.size
 refine (?_ : WC _ _ _ _ ([(5, (.int .i64 ((k : Nat) : Int)))] ++ _) w36)
 refine WC.seq ?_
 refine WC.seq ?_
 refine WC.region ?_
 refine WO.v (R.move rfl) rfl ?_
 refine WO.v (fa34_4 rfl) rfl ?_
 have B37 := (B29).kp0 k36
 refine WO.v (R.loadB rfl B37 rfl Try.underlying30 rfl) rfl ?_
 refine WO.v (R.len rfl Try.underlying30) rfl ?_
 refine WO.v (R.lss rfl rfl) rfl ?_
 refine WO.nil ?_
 refine WX.sel [0, 1, 2, 3, 4, 5, 50, 55] rfl ?_
 refine WX.next ?_
 refine WC.cond rfl (fun q38 => ?_) (fun q38 => ?_)
 have p38 : ((k : Nat) : Int) < ((s.sess.length : Nat) : Int) := of_decide_eq_true q38
 refine WC.skip ?_
 refine WX.next ?_
 refine WC.seq ?_
 refine WC.block ?_
 refine WC.seq ?_
 refine WC.sel [0, 1, 2, 3, 4, 5, 50, 55] rfl ?_
 obtain ⟨x39, hx39⟩ := get_ex (xs := s.sess) (i := k) (by omega)
 obtain ⟨A40, cs41, hA40, loA40, hiA40, ccA40, r42⟩ := (sl_old s7 b36).at_ hx39
 obtain ⟨rfl, i43, i44, i45, i46⟩ := Sess.el r42
 have B47 := (n28.blk).kp0 k36
 obtain ⟨x48, hx48⟩ := get_ex (xs := t.sess) (i := k) (by omega)
 obtain ⟨A49, cs50, hA49, loA49, hiA49, ccA49, r51⟩ := (sl_old s20 b36).at_ hx48
 obtain ⟨rfl, i52, i53, i54, i55⟩ := Sess.el r51
 refine WC.draw' mixed_orders [.ex [] (.pointer (some ⟨w.heap.size, 4, none⟩)), .ex [0] (.slice a5 s.sess.length c6), .ex [] (.int .i64 ((k : Nat) : Int)), .ex [1, 2] (.pointer (some (A40.add (k * 4)))), .ex [3] (.agg #[(.int .i64 x39.client), (.int .i64 x39.seq), (.int .i64 x39.last.code), (.int .i64 x39.last.n)]), .ex [] (.pointer (some ⟨w27.heap.size, 4, none⟩)), .ex [5] (.slice a18 t.sess.length c19), .ex [] (.int .i64 ((k : Nat) : Int)), .ex [6, 7] (.pointer (some (A49.add (k * 4)))), .ex [8] (.agg #[(.int .i64 x48.client), (.int .i64 x48.seq), (.int .i64 x48.last.code), (.int .i64 x48.last.n)]), .ex [4, 9] (.bool (!((((decide (x39.client = x48.client)) && (decide (x39.seq = x48.seq))) && (decide (x39.last.code = x48.last.code))) && (decide (x39.last.n = x48.last.n)))))] 11 (by kernel_rfl) ⟨fun _ _ _ h _ => h, fun _ _ _ h _ => h, fun _ _ _ h _ => h, fun _ _ _ h _ => h, fun _ _ _ h _ => h, fun _ _ _ h _ => h, fun _ _ _ h _ => h, fun _ _ _ h _ => h, fun _ _ _ h _ => h, fun _ _ _ h _ => h, fun _ _ _ h _ => h, trivial⟩ ⟨?_, ?_, ?_, ?_, ?_, ?_, ?_, ?_, ?_, ?_, ?_, trivial⟩ ?_
 rintro vs w56 k56 ⟨-⟩
 replace k56 : Kp [] w36 w56 := k56
 refine WO.haves (fr' := [(2, (.pointer (some ⟨w.heap.size, 0, none⟩)))]) ⟨⟨_, rfl, rfl⟩, trivial⟩ ?_
 refine WO.v (fa34_4 rfl) rfl ?_
 refine WO.nil ?_
 exact WX.stepDone rfl rfl (Kp.refl _)
 rintro vs w57 k57 ⟨e58, -⟩
 replace k57 : Kp [] w36 w57 := k57
 have z57 : w36.heap.size ≤ w57.heap.size := k57.size
 have b57 := old_kp0 b36 k57
 have y57 : w.heap.size ≤ w57.heap.size := b57.size
 refine WO.haves (fr' := [(58, (.pointer (some ⟨w.heap.size, 4, none⟩)))]) ⟨⟨_, rfl, e58⟩, trivial⟩ ?_
 have B59 := (B37).kp0 k57
 refine WO.v (R.loadB rfl B59 rfl Try.underlying30 rfl) rfl ?_
 refine WO.nil ?_
 exact WX.stepDone rfl rfl (Kp.refl _)
 rintro vs w60 k60 ⟨-⟩
 replace k60 : Kp [] w36 w60 := k60
 refine WO.haves (fr' := [(5, (.int .i64 ((k : Nat) : Int)))]) ⟨⟨_, rfl, rfl⟩, trivial⟩ ?_
 refine WO.v (R.move rfl) rfl ?_
 refine WO.nil ?_
 exact WX.stepDone rfl rfl (Kp.refl _)
 rintro vs w61 k61 ⟨e62, e63, -⟩
 replace k61 : Kp [] w36 w61 := k61
 refine WO.haves (fr' := [(59, (.slice a5 s.sess.length c6)), (60, (.int .i64 ((k : Nat) : Int)))]) ⟨⟨_, rfl, e62⟩, ⟨_, rfl, e63⟩, trivial⟩ ?_
 refine WO.v (R.indexAddrN rfl rfl Try.underlying30 sz51 hA40 (by omega)) rfl ?_
 refine WO.nil ?_
 exact WX.stepDone rfl rfl (Kp.refl _)
 rintro vs w64 k64 ⟨e65, -⟩
 replace k64 : Kp [] w36 w64 := k64
 have z64 : w36.heap.size ≤ w64.heap.size := k64.size
 have b64 := old_kp0 b36 k64
 have y64 : w.heap.size ≤ w64.heap.size := b64.size
 refine WO.haves (fr' := [(61, (.pointer (some (A40.add (k * 4)))))]) ⟨⟨_, rfl, e65⟩, trivial⟩ ?_
 refine WO.v (R.loadN (cs := [_, _, _, _]) rfl Try.underlying51 rfl sz51 ((ccA40).kpA k64 (by omega) (by simp))) rfl ?_
 refine WO.nil ?_
 exact WX.stepDone rfl rfl (Kp.refl _)
 rintro vs w66 k66 ⟨-⟩
 replace k66 : Kp [] w36 w66 := k66
 refine WO.haves (fr' := [(3, (.pointer (some ⟨w27.heap.size, 0, none⟩)))]) ⟨⟨_, rfl, rfl⟩, trivial⟩ ?_
 refine WO.v (fa34_4 rfl) rfl ?_
 refine WO.nil ?_
 exact WX.stepDone rfl rfl (Kp.refl _)
 rintro vs w67 k67 ⟨e68, -⟩
 replace k67 : Kp [] w36 w67 := k67
 have z67 : w36.heap.size ≤ w67.heap.size := k67.size
 have b67 := old_kp0 b36 k67
 have y67 : w.heap.size ≤ w67.heap.size := b67.size
 refine WO.haves (fr' := [(63, (.pointer (some ⟨w27.heap.size, 4, none⟩)))]) ⟨⟨_, rfl, e68⟩, trivial⟩ ?_
 have B69 := ((n28.blk).kp0 k36).kp0 k67
 refine WO.v (R.loadB rfl B69 rfl Try.underlying30 rfl) rfl ?_
 refine WO.nil ?_
 exact WX.stepDone rfl rfl (Kp.refl _)
 rintro vs w70 k70 ⟨-⟩
 replace k70 : Kp [] w36 w70 := k70
 refine WO.haves (fr' := [(5, (.int .i64 ((k : Nat) : Int)))]) ⟨⟨_, rfl, rfl⟩, trivial⟩ ?_
 refine WO.v (R.move rfl) rfl ?_
 refine WO.nil ?_
 exact WX.stepDone rfl rfl (Kp.refl _)
 rintro vs w71 k71 ⟨e72, e73, -⟩
 replace k71 : Kp [] w36 w71 := k71
 refine WO.haves (fr' := [(64, (.slice a18 t.sess.length c19)), (65, (.int .i64 ((k : Nat) : Int)))]) ⟨⟨_, rfl, e72⟩, ⟨_, rfl, e73⟩, trivial⟩ ?_
 refine WO.v (R.indexAddrN rfl rfl Try.underlying30 sz51 hA49 (by omega)) rfl ?_
 refine WO.nil ?_
 exact WX.stepDone rfl rfl (Kp.refl _)
 rintro vs w74 k74 ⟨e75, -⟩
 replace k74 : Kp [] w36 w74 := k74
 have z74 : w36.heap.size ≤ w74.heap.size := k74.size
 have b74 := old_kp0 b36 k74
 have y74 : w.heap.size ≤ w74.heap.size := b74.size
 refine WO.haves (fr' := [(66, (.pointer (some (A49.add (k * 4)))))]) ⟨⟨_, rfl, e75⟩, trivial⟩ ?_
 refine WO.v (R.loadN (cs := [_, _, _, _]) rfl Try.underlying51 rfl sz51 ((ccA49).kpA k74 (by omega) (by simp))) rfl ?_
 refine WO.nil ?_
 exact WX.stepDone rfl rfl (Kp.refl _)
 rintro vs w76 k76 ⟨e77, e78, -⟩
 replace k76 : Kp [] w36 w76 := k76
 refine WO.haves (fr' := [(62, (.agg #[(.int .i64 x39.client), (.int .i64 x39.seq), (.int .i64 x39.last.code), (.int .i64 x39.last.n)])), (67, (.agg #[(.int .i64 x48.client), (.int .i64 x48.seq), (.int .i64 x48.last.code), (.int .i64 x48.last.n)]))]) ⟨⟨_, rfl, e77⟩, ⟨_, rfl, e78⟩, trivial⟩ ?_
 refine WO.v (eq51_neq rfl rfl) rfl ?_
 refine WO.nil ?_
 exact WX.stepDone rfl rfl (Kp.refl _)
 rintro vs w79 k79 ⟨-, -, -, -, -, -, -, -, -, -, e90, -⟩
 replace k79 : Kp [] w36 w79 := k79
 have z79 : w36.heap.size ≤ w79.heap.size := k79.size
 have b79 := old_kp0 b36 k79
 have y79 : w.heap.size ≤ w79.heap.size := b79.size
 refine WO.haves (fr' := [(68, (.bool (!((((decide (x39.client = x48.client)) && (decide (x39.seq = x48.seq))) && (decide (x39.last.code = x48.last.code))) && (decide (x39.last.n = x48.last.n)))))), (0, (.agg #[(.int .i64 s.version), (.int .i64 s.next), (.int .i64 s.keep), (.int .i64 s.quota), (.slice a5 s.sess.length c6), (.slice a8 s.opens.length c9), (.slice a11 s.snaps.length c12)])), (1, (.agg #[(.int .i64 t.version), (.int .i64 t.next), (.int .i64 t.keep), (.int .i64 t.quota), (.slice a18 t.sess.length c19), (.slice a21 t.opens.length c22), (.slice a24 t.snaps.length c25)])), (2, (.pointer (some ⟨w.heap.size, 0, none⟩))), (3, (.pointer (some ⟨w27.heap.size, 0, none⟩))), (4, (.bool false)), (5, (.int .i64 ((k : Nat) : Int))), (50, (.bool ((((((!(decide (s.version = t.version))) || (!(decide (s.next = t.next)))) || (!(decide (s.keep = t.keep)))) || (!(decide (s.quota = t.quota)))) || (!(decide (((s.sess.length : Nat) : Int) = ((t.sess.length : Nat) : Int))))) || (!(decide (((s.opens.length : Nat) : Int) = ((t.opens.length : Nat) : Int))))))), (55, (.bool (decide (((k : Nat) : Int) < ((s.sess.length : Nat) : Int)))))]) ⟨⟨_, rfl, e90⟩, ⟨_, rfl, rfl⟩, ⟨_, rfl, rfl⟩, ⟨_, rfl, rfl⟩, ⟨_, rfl, rfl⟩, ⟨_, rfl, rfl⟩, ⟨_, rfl, rfl⟩, ⟨_, rfl, rfl⟩, ⟨_, rfl, rfl⟩, trivial⟩ ?_
 refine WO.nil ?_
 refine WX.sel [0, 1, 2, 3, 4, 5, 50, 55, 68] rfl ?_
 refine WX.next ?_
 refine WC.cond rfl (fun q91 => ?_) (fun q91 => ?_)
 have p91 : (((¬ (x39.client = x48.client)) ∨ (¬ (x39.seq = x48.seq))) ∨ (¬ (x39.last.code = x48.last.code))) ∨ (¬ (x39.last.n = x48.last.n)) := Or.imp (fun h => Or.imp (fun h => Or.imp (fun h => of_decide_eq_false h) (fun h => of_decide_eq_false h) (band_f h)) (fun h => of_decide_eq_false h) (band_f h)) (fun h => of_decide_eq_false h) (band_f (bnot_t q91))
 refine WC.seq ?_
 refine WC.region ?_
 refine WO.v (R.assign rfl) rfl ?_
 refine WO.nil ?_
 refine WX.sel [0, 1, 2, 3, 4, 5, 50, 55, 68] rfl ?_
 refine WX.next ?_
 refine WC.ret ?_
 refine WX.blkRet ?_
 refine WX.thenRet ?_
 refine WX.loopRet ?_
 refine WX.blkRet ?_
 refine WX.thenRet ?_
 have e0 : false = (decide (s = t)) := by first | exact same_at State.sess ‹s.sess[_]? = _› ‹t.sess[_]? = _› (by rintro rfl; simp at q91) | exact same_at State.opens ‹s.opens[_]? = _› ‹t.opens[_]? = _› (by rintro rfl; simp at q91) | exact same_fin q35 htk (by omega) htk2 (by omega) | exact (decide_eq_false (by rintro rfl; simp at q91)).symm
 refine WX.ret1 Try.results14 rfl ?_
 exact ⟨by rw [e0], Kp.of_below b79⟩
 have p91 : (((x39.client = x48.client) ∧ (x39.seq = x48.seq)) ∧ (x39.last.code = x48.last.code)) ∧ (x39.last.n = x48.last.n) := ⟨⟨⟨of_decide_eq_true (band_t (band_t (band_t (bnot_f q91)).1).1).1, of_decide_eq_true (band_t (band_t (band_t (bnot_f q91)).1).1).2⟩, of_decide_eq_true (band_t (band_t (bnot_f q91)).1).2⟩, of_decide_eq_true (band_t (bnot_f q91)).2⟩
 refine WC.skip ?_
 refine WX.blkNormal ?_
 refine WX.next ?_
 refine WC.region ?_
 refine WO.v (R.move rfl) rfl ?_
 refine WO.v (R.inc rfl (by omega)) rfl ?_
 refine WO.v (R.assign rfl) rfl ?_
 refine WO.nil ?_
 refine WX.sel [0, 1, 2, 3, 4, 5, 50, 55, 68] rfl ?_
 exact WX.loopNextK [0, 1, 2, 3, 4, 50] (k + 1) rfl ⟨⟨_, rfl, rfl⟩, trivial⟩ ⟨((Kp.refl _).step k36 (by simp)).step k79 (by simp), by omega, take_eq htk hx39 hx48 (Sess.ext_ ‹_›)⟩ (by show (s.sess.length - (k + 1)) < (s.sess.length - k); omega)
 have p38 : ¬ (((k : Nat) : Int) < ((s.sess.length : Nat) : Int)) := of_decide_eq_false q38
 refine WC.exit ?_
 refine WX.thenExit ?_
 refine WX.loopExit ?_
 refine WX.blkHit ?_
 refine WX.next ?_
 refine WC.seq ?_
 refine WC.seq ?_
 refine WC.region ?_
 refine WO.v (R.assign rfl) rfl ?_
 refine WO.nil ?_
 refine WX.sel [0, 1, 2, 3, 4, 5, 6, 50, 55] rfl ?_
 refine WX.next ?_
 refine WC.block ?_
 refine WC.loopK [0, 1, 2, 3, 4, 5, 50, 55] rfl (fun zz : Nat => [(6, (.int .i64 (((zz) : Nat) : Int)))]) (fun (zz : Nat) (w' : World) => (Kp [] w36 w') ∧ ((zz) ≤ s.opens.length) ∧ (s.opens.take (zz) = t.opens.take (zz))) (fun zz => s.opens.length - (zz)) (0) ?_ ?_ ?_
 exact ⟨⟨_, rfl, rfl⟩, trivial⟩
 exact ⟨Kp.refl _, Nat.zero_le _, rfl⟩
 rintro k2 w92 ⟨k92, hk2, htk2⟩
 try dsimp only at hk2 htk2
 have z92 : w36.heap.size ≤ w92.heap.size := k92.size
 have b92 := old_kp0 b36 k92
 have y92 : w.heap.size ≤ w92.heap.size := b92.size
 refine (?_ : WC _ _ _ _ ([(6, (.int .i64 ((k2 : Nat) : Int)))] ++ _) w92)
 refine WC.seq ?_
 refine WC.seq ?_
 refine WC.region ?_
 refine WO.v (R.move rfl) rfl ?_
 refine WO.v (fa34_5 rfl) rfl ?_
 have B93 := (B37).kp0 k92
 refine WO.v (R.loadB rfl B93 rfl Try.underlying31 rfl) rfl ?_
 refine WO.v (R.len rfl Try.underlying31) rfl ?_
 refine WO.v (R.lss rfl rfl) rfl ?_
 refine WO.nil ?_
 refine WX.sel [0, 1, 2, 3, 4, 5, 6, 50, 55, 73] rfl ?_
 refine WX.next ?_
 refine WC.cond rfl (fun q94 => ?_) (fun q94 => ?_)
 have p94 : ((k2 : Nat) : Int) < ((s.opens.length : Nat) : Int) := of_decide_eq_true q94
 refine WC.skip ?_
 refine WX.next ?_
 refine WC.seq ?_
 refine WC.block ?_
 refine WC.seq ?_
 refine WC.sel [0, 1, 2, 3, 4, 5, 6, 50, 55, 73] rfl ?_
 obtain ⟨x95, hx95⟩ := get_ex (xs := s.opens) (i := k2) (by omega)
 obtain ⟨A96, cs97, hA96, loA96, hiA96, ccA96, r98⟩ := (sl_old s10 b92).at_ hx95
 obtain ⟨rfl, i99, i100⟩ := Opn.el r98
 have B101 := ((n28.blk).kp0 k36).kp0 k92
 obtain ⟨x102, hx102⟩ := get_ex (xs := t.opens) (i := k2) (by omega)
 obtain ⟨A103, cs104, hA103, loA103, hiA103, ccA103, r105⟩ := (sl_old s23 b92).at_ hx102
 obtain ⟨rfl, i106, i107⟩ := Opn.el r105
 refine WC.draw' mixed_orders [.ex [] (.pointer (some ⟨w.heap.size, 5, none⟩)), .ex [0] (.slice a8 s.opens.length c9), .ex [] (.int .i64 ((k2 : Nat) : Int)), .ex [1, 2] (.pointer (some (A96.add (k2 * 2)))), .ex [3] (.agg #[(.int .i64 x95.set), (.int .i64 x95.client)]), .ex [] (.pointer (some ⟨w27.heap.size, 5, none⟩)), .ex [5] (.slice a21 t.opens.length c22), .ex [] (.int .i64 ((k2 : Nat) : Int)), .ex [6, 7] (.pointer (some (A103.add (k2 * 2)))), .ex [8] (.agg #[(.int .i64 x102.set), (.int .i64 x102.client)]), .ex [4, 9] (.bool (!((decide (x95.set = x102.set)) && (decide (x95.client = x102.client)))))] 11 (by kernel_rfl) ⟨fun _ _ _ h _ => h, fun _ _ _ h _ => h, fun _ _ _ h _ => h, fun _ _ _ h _ => h, fun _ _ _ h _ => h, fun _ _ _ h _ => h, fun _ _ _ h _ => h, fun _ _ _ h _ => h, fun _ _ _ h _ => h, fun _ _ _ h _ => h, fun _ _ _ h _ => h, trivial⟩ ⟨?_, ?_, ?_, ?_, ?_, ?_, ?_, ?_, ?_, ?_, ?_, trivial⟩ ?_
 rintro vs w108 k108 ⟨-⟩
 replace k108 : Kp [] w92 w108 := k108
 refine WO.haves (fr' := [(2, (.pointer (some ⟨w.heap.size, 0, none⟩)))]) ⟨⟨_, rfl, rfl⟩, trivial⟩ ?_
 refine WO.v (fa34_5 rfl) rfl ?_
 refine WO.nil ?_
 exact WX.stepDone rfl rfl (Kp.refl _)
 rintro vs w109 k109 ⟨e110, -⟩
 replace k109 : Kp [] w92 w109 := k109
 have z109 : w92.heap.size ≤ w109.heap.size := k109.size
 have b109 := old_kp0 b92 k109
 have y109 : w.heap.size ≤ w109.heap.size := b109.size
 refine WO.haves (fr' := [(76, (.pointer (some ⟨w.heap.size, 5, none⟩)))]) ⟨⟨_, rfl, e110⟩, trivial⟩ ?_
 have B111 := (B93).kp0 k109
 refine WO.v (R.loadB rfl B111 rfl Try.underlying31 rfl) rfl ?_
 refine WO.nil ?_
 exact WX.stepDone rfl rfl (Kp.refl _)
 rintro vs w112 k112 ⟨-⟩
 replace k112 : Kp [] w92 w112 := k112
 refine WO.haves (fr' := [(6, (.int .i64 ((k2 : Nat) : Int)))]) ⟨⟨_, rfl, rfl⟩, trivial⟩ ?_
 refine WO.v (R.move rfl) rfl ?_
 refine WO.nil ?_
 exact WX.stepDone rfl rfl (Kp.refl _)
 rintro vs w113 k113 ⟨e114, e115, -⟩
 replace k113 : Kp [] w92 w113 := k113
 refine WO.haves (fr' := [(77, (.slice a8 s.opens.length c9)), (78, (.int .i64 ((k2 : Nat) : Int)))]) ⟨⟨_, rfl, e114⟩, ⟨_, rfl, e115⟩, trivial⟩ ?_
 refine WO.v (R.indexAddrN rfl rfl Try.underlying31 sz53 hA96 (by omega)) rfl ?_
 refine WO.nil ?_
 exact WX.stepDone rfl rfl (Kp.refl _)
 rintro vs w116 k116 ⟨e117, -⟩
 replace k116 : Kp [] w92 w116 := k116
 have z116 : w92.heap.size ≤ w116.heap.size := k116.size
 have b116 := old_kp0 b92 k116
 have y116 : w.heap.size ≤ w116.heap.size := b116.size
 refine WO.haves (fr' := [(79, (.pointer (some (A96.add (k2 * 2)))))]) ⟨⟨_, rfl, e117⟩, trivial⟩ ?_
 refine WO.v (R.loadN (cs := [_, _]) rfl Try.underlying53 rfl sz53 ((ccA96).kpA k116 (by omega) (by simp))) rfl ?_
 refine WO.nil ?_
 exact WX.stepDone rfl rfl (Kp.refl _)
 rintro vs w118 k118 ⟨-⟩
 replace k118 : Kp [] w92 w118 := k118
 refine WO.haves (fr' := [(3, (.pointer (some ⟨w27.heap.size, 0, none⟩)))]) ⟨⟨_, rfl, rfl⟩, trivial⟩ ?_
 refine WO.v (fa34_5 rfl) rfl ?_
 refine WO.nil ?_
 exact WX.stepDone rfl rfl (Kp.refl _)
 rintro vs w119 k119 ⟨e120, -⟩
 replace k119 : Kp [] w92 w119 := k119
 have z119 : w92.heap.size ≤ w119.heap.size := k119.size
 have b119 := old_kp0 b92 k119
 have y119 : w.heap.size ≤ w119.heap.size := b119.size
 refine WO.haves (fr' := [(81, (.pointer (some ⟨w27.heap.size, 5, none⟩)))]) ⟨⟨_, rfl, e120⟩, trivial⟩ ?_
 have B121 := (((n28.blk).kp0 k36).kp0 k92).kp0 k119
 refine WO.v (R.loadB rfl B121 rfl Try.underlying31 rfl) rfl ?_
 refine WO.nil ?_
 exact WX.stepDone rfl rfl (Kp.refl _)
 rintro vs w122 k122 ⟨-⟩
 replace k122 : Kp [] w92 w122 := k122
 refine WO.haves (fr' := [(6, (.int .i64 ((k2 : Nat) : Int)))]) ⟨⟨_, rfl, rfl⟩, trivial⟩ ?_
 refine WO.v (R.move rfl) rfl ?_
 refine WO.nil ?_
 exact WX.stepDone rfl rfl (Kp.refl _)
 rintro vs w123 k123 ⟨e124, e125, -⟩
 replace k123 : Kp [] w92 w123 := k123
 refine WO.haves (fr' := [(82, (.slice a21 t.opens.length c22)), (83, (.int .i64 ((k2 : Nat) : Int)))]) ⟨⟨_, rfl, e124⟩, ⟨_, rfl, e125⟩, trivial⟩ ?_
 refine WO.v (R.indexAddrN rfl rfl Try.underlying31 sz53 hA103 (by omega)) rfl ?_
 refine WO.nil ?_
 exact WX.stepDone rfl rfl (Kp.refl _)
 rintro vs w126 k126 ⟨e127, -⟩
 replace k126 : Kp [] w92 w126 := k126
 have z126 : w92.heap.size ≤ w126.heap.size := k126.size
 have b126 := old_kp0 b92 k126
 have y126 : w.heap.size ≤ w126.heap.size := b126.size
 refine WO.haves (fr' := [(84, (.pointer (some (A103.add (k2 * 2)))))]) ⟨⟨_, rfl, e127⟩, trivial⟩ ?_
 refine WO.v (R.loadN (cs := [_, _]) rfl Try.underlying53 rfl sz53 ((ccA103).kpA k126 (by omega) (by simp))) rfl ?_
 refine WO.nil ?_
 exact WX.stepDone rfl rfl (Kp.refl _)
 rintro vs w128 k128 ⟨e129, e130, -⟩
 replace k128 : Kp [] w92 w128 := k128
 refine WO.haves (fr' := [(80, (.agg #[(.int .i64 x95.set), (.int .i64 x95.client)])), (85, (.agg #[(.int .i64 x102.set), (.int .i64 x102.client)]))]) ⟨⟨_, rfl, e129⟩, ⟨_, rfl, e130⟩, trivial⟩ ?_
 refine WO.v (eq53_neq rfl rfl) rfl ?_
 refine WO.nil ?_
 exact WX.stepDone rfl rfl (Kp.refl _)
 rintro vs w131 k131 ⟨-, -, -, -, -, -, -, -, -, -, e142, -⟩
 replace k131 : Kp [] w92 w131 := k131
 have z131 : w92.heap.size ≤ w131.heap.size := k131.size
 have b131 := old_kp0 b92 k131
 have y131 : w.heap.size ≤ w131.heap.size := b131.size
 refine WO.haves (fr' := [(86, (.bool (!((decide (x95.set = x102.set)) && (decide (x95.client = x102.client)))))), (0, (.agg #[(.int .i64 s.version), (.int .i64 s.next), (.int .i64 s.keep), (.int .i64 s.quota), (.slice a5 s.sess.length c6), (.slice a8 s.opens.length c9), (.slice a11 s.snaps.length c12)])), (1, (.agg #[(.int .i64 t.version), (.int .i64 t.next), (.int .i64 t.keep), (.int .i64 t.quota), (.slice a18 t.sess.length c19), (.slice a21 t.opens.length c22), (.slice a24 t.snaps.length c25)])), (2, (.pointer (some ⟨w.heap.size, 0, none⟩))), (3, (.pointer (some ⟨w27.heap.size, 0, none⟩))), (4, (.bool false)), (5, (.int .i64 ((k : Nat) : Int))), (6, (.int .i64 ((k2 : Nat) : Int))), (50, (.bool ((((((!(decide (s.version = t.version))) || (!(decide (s.next = t.next)))) || (!(decide (s.keep = t.keep)))) || (!(decide (s.quota = t.quota)))) || (!(decide (((s.sess.length : Nat) : Int) = ((t.sess.length : Nat) : Int))))) || (!(decide (((s.opens.length : Nat) : Int) = ((t.opens.length : Nat) : Int))))))), (55, (.bool (decide (((k : Nat) : Int) < ((s.sess.length : Nat) : Int))))), (73, (.bool (decide (((k2 : Nat) : Int) < ((s.opens.length : Nat) : Int)))))]) ⟨⟨_, rfl, e142⟩, ⟨_, rfl, rfl⟩, ⟨_, rfl, rfl⟩, ⟨_, rfl, rfl⟩, ⟨_, rfl, rfl⟩, ⟨_, rfl, rfl⟩, ⟨_, rfl, rfl⟩, ⟨_, rfl, rfl⟩, ⟨_, rfl, rfl⟩, ⟨_, rfl, rfl⟩, ⟨_, rfl, rfl⟩, trivial⟩ ?_
 refine WO.nil ?_
 refine WX.sel [0, 1, 2, 3, 4, 5, 6, 50, 55, 73, 86] rfl ?_
 refine WX.next ?_
 refine WC.cond rfl (fun q143 => ?_) (fun q143 => ?_)
 have p143 : (¬ (x95.set = x102.set)) ∨ (¬ (x95.client = x102.client)) := Or.imp (fun h => of_decide_eq_false h) (fun h => of_decide_eq_false h) (band_f (bnot_t q143))
 refine WC.seq ?_
 refine WC.region ?_
 refine WO.v (R.assign rfl) rfl ?_
 refine WO.nil ?_
 refine WX.sel [0, 1, 2, 3, 4, 5, 6, 50, 55, 73, 86] rfl ?_
 refine WX.next ?_
 refine WC.ret ?_
 refine WX.blkRet ?_
 refine WX.thenRet ?_
 refine WX.loopRet ?_
 refine WX.blkRet ?_
 refine WX.thenRet ?_
 have e0 : false = (decide (s = t)) := by first | exact same_at State.sess ‹s.sess[_]? = _› ‹t.sess[_]? = _› (by rintro rfl; simp at q143) | exact same_at State.opens ‹s.opens[_]? = _› ‹t.opens[_]? = _› (by rintro rfl; simp at q143) | exact same_fin q35 htk (by omega) htk2 (by omega) | exact (decide_eq_false (by rintro rfl; simp at q143)).symm
 refine WX.ret1 Try.results14 rfl ?_
 exact ⟨by rw [e0], Kp.of_below b131⟩
 have p143 : (x95.set = x102.set) ∧ (x95.client = x102.client) := ⟨of_decide_eq_true (band_t (bnot_f q143)).1, of_decide_eq_true (band_t (bnot_f q143)).2⟩
 refine WC.skip ?_
 refine WX.blkNormal ?_
 refine WX.next ?_
 refine WC.region ?_
 refine WO.v (R.move rfl) rfl ?_
 refine WO.v (R.inc rfl (by omega)) rfl ?_
 refine WO.v (R.assign rfl) rfl ?_
 refine WO.nil ?_
 refine WX.sel [0, 1, 2, 3, 4, 5, 6, 50, 55, 73, 86] rfl ?_
 exact WX.loopNextK [0, 1, 2, 3, 4, 5, 50, 55] (k2 + 1) rfl ⟨⟨_, rfl, rfl⟩, trivial⟩ ⟨((Kp.refl _).step k92 (by simp)).step k131 (by simp), by omega, take_eq htk2 hx95 hx102 (Opn.ext_ ‹_›)⟩ (by show (s.opens.length - (k2 + 1)) < (s.opens.length - k2); omega)
 have p94 : ¬ (((k2 : Nat) : Int) < ((s.opens.length : Nat) : Int)) := of_decide_eq_false q94
 refine WC.exit ?_
 refine WX.thenExit ?_
 refine WX.loopExit ?_
 refine WX.blkHit ?_
 refine WX.next ?_
 refine WC.seq ?_
 refine WC.region ?_
 refine WO.v (fa34_6 rfl) rfl ?_
 refine WO.v (R.loadB rfl B93 rfl Try.underlying32 rfl) rfl ?_
 refine WO.v (fa34_6 rfl) rfl ?_
 have B144 := ((n28.blk).kp0 k36).kp0 k92
 refine WO.v (R.loadB rfl B144 rfl Try.underlying32 rfl) rfl ?_
 refine WO.c (E.call rfl rfl Try.func30 rfl rfl) (sameAll6_s (l := s.snaps) (a_l := a11) (c_l := c12) (m := t.snaps) (a_m := a24) (c_m := c25) ((sl_old s13 b92).mono (lo' := 0) (hi' := w92.heap.size) (Nat.zero_le _) (by omega)) ((sl_old s26 b92).mono (lo' := 0) (hi' := w92.heap.size) (Nat.zero_le _) (by omega))) rfl ?_
 rintro _ w145 ⟨rfl, k145⟩
 have z145 : w92.heap.size ≤ w145.heap.size := k145.size
 have b145 := old_kp0 b92 k145
 have y145 : w.heap.size ≤ w145.heap.size := b145.size
 refine WO.v (R.assign rfl) rfl ?_
 refine WO.nil ?_
 refine WX.sel [0, 1, 2, 3, 4, 5, 6, 50, 55, 73] rfl ?_
 refine WX.next ?_
 refine WC.ret ?_
 have e0 : (decide ((s.snaps) = (t.snaps))) = (decide (s = t)) := by first | exact same_at State.sess ‹s.sess[_]? = _› ‹t.sess[_]? = _› (by rintro rfl; simp at q94) | exact same_at State.opens ‹s.opens[_]? = _› ‹t.opens[_]? = _› (by rintro rfl; simp at q94) | exact same_fin q35 htk (by omega) htk2 (by omega) | exact (decide_eq_false (by rintro rfl; simp at q94)).symm
 refine WX.ret1 Try.results14 rfl ?_
 exact ⟨by rw [e0], Kp.of_below b145⟩


end Go.Proofs.Ytaenkjlhdlddgaa
