/- Contracts of functions, walked operation by operation. -/
import Derived.Test.YtfmlgeeogbhppaaD2
namespace Go.Proofs.Ytfmlgeeogbhppaa
open Go.RowKit

theorem nots7 {a b c d e f g : Bool} : (((((((!a) || (!b)) || (!c)) || (!d)) || (!e)) || (!f)) || (!g)) = !((((((a && b) && c) && d) && e) && f) && g) := by
  cases a <;> cases b <;> cases c <;> cases d <;> cases e <;> cases f <;> cases g <;> rfl
theorem cmd_same {a b : Command} : (((((((decide (a.chunks = b.chunks) && decide (a.kind = b.kind)) && decide (a.client = b.client)) && decide (a.seq = b.seq)) && decide (a.set = b.set)) && decide (a.id = b.id)) && decide (a.n = b.n)) && decide (a.text = b.text)) = decide (a = b) := by
  rw [Bool.eq_iff_iff]
  simp only [Bool.and_eq_true, decide_eq_true_eq]
  cases a; cases b; simp only [Command.mk.injEq]
  constructor
  · rintro ⟨⟨⟨⟨⟨⟨⟨h, h1⟩, h2⟩, h3⟩, h4⟩, h5⟩, h6⟩, h7⟩; exact ⟨h1, h2, h3, h4, h5, h6, h, h7⟩
  · rintro ⟨h1, h2, h3, h4, h5, h6, h, h7⟩; exact ⟨⟨⟨⟨⟨⟨⟨h, h1⟩, h2⟩, h3⟩, h4⟩, h5⟩, h6⟩, h7⟩
def numsF (c : Command) : Bool := (((inB c.client 0 1048576 && inB c.seq 0 1048576) && inB c.set 0 1048576) && inB c.id 0 1048576) && inB c.n 0 1048576
def forF (c : Command) (v : Int) : Bool := (((inB c.kind 1 99 && (decide (needF c.kind = 0) || decide (v < needF c.kind))) && numsF c) && (decide (((c.chunks.length : Nat) : Int) = 0) || rowF c.chunks)) && (decide (((c.text.b.length : Nat) : Int) = 0) || (decide (3 ≤ v) && decide (((c.text.b.length : Nat) : Int) ≤ 16)))
theorem for_kind {c : Command} {v : Int} (h : ((c.kind < 1 ∨ 99 < c.kind) ∨ (¬ needF c.kind = 0 ∧ needF c.kind ≤ v))) : false = forF c v := by
  have : (inB c.kind 1 99 && (decide (needF c.kind = 0) || decide (v < needF c.kind))) = false := by
    rw [← Bool.not_eq_true]; simp only [inB, Bool.and_eq_true, Bool.or_eq_true, decide_eq_true_eq]; omega
  unfold forF; rw [this]; rfl
theorem for_num {c : Command} {v : Int} (h : (c.client < 0 ∨ 1048576 < c.client) ∨ (c.seq < 0 ∨ 1048576 < c.seq) ∨ (c.set < 0 ∨ 1048576 < c.set) ∨ (c.id < 0 ∨ 1048576 < c.id) ∨ (c.n < 0 ∨ 1048576 < c.n)) : false = forF c v := by
  have : numsF c = false := by
    rw [← Bool.not_eq_true]; unfold numsF; simp only [inB, Bool.and_eq_true, decide_eq_true_eq]; omega
  unfold forF; rw [this, Bool.and_false]; rfl
theorem for_row {c : Command} {v : Int} (h : 0 < ((c.chunks.length : Nat) : Int) ∧ rowF c.chunks = false) : false = forF c v := by
  have : (decide (((c.chunks.length : Nat) : Int) = 0) || rowF c.chunks) = false := by
    rw [h.2, Bool.or_false]; exact decide_eq_false (by omega)
  unfold forF; rw [this, Bool.and_false]; rfl
theorem for_pre {c : Command} {v : Int} (h1 : ¬ ((c.kind < 1 ∨ 99 < c.kind) ∨ (¬ needF c.kind = 0 ∧ needF c.kind ≤ v))) (h2 : ¬ ((c.client < 0 ∨ 1048576 < c.client) ∨ (c.seq < 0 ∨ 1048576 < c.seq) ∨ (c.set < 0 ∨ 1048576 < c.set) ∨ (c.id < 0 ∨ 1048576 < c.id) ∨ (c.n < 0 ∨ 1048576 < c.n)))
    (h3 : (¬ (0 < ((c.chunks.length : Nat) : Int))) ∨ rowF c.chunks = true) : forF c v = (decide (((c.text.b.length : Nat) : Int) = 0) || (decide (3 ≤ v) && decide (((c.text.b.length : Nat) : Int) ≤ 16))) := by
  have e1 : (inB c.kind 1 99 && (decide (needF c.kind = 0) || decide (v < needF c.kind))) = true := by
    simp only [inB, Bool.and_eq_true, Bool.or_eq_true, decide_eq_true_eq]; omega
  have e2 : numsF c = true := by unfold numsF; simp only [inB, Bool.and_eq_true, decide_eq_true_eq]; omega
  have e3 : (decide (((c.chunks.length : Nat) : Int) = 0) || rowF c.chunks) = true := by
    rcases h3 with h3 | h3
    · rw [decide_eq_true (show ((c.chunks.length : Nat) : Int) = 0 by omega)]; rfl
    · rw [h3, Bool.or_true]
  unfold forF; rw [e1, e2, e3]; rfl
theorem for_lo {c : Command} {v : Int} (h1 : ¬ ((c.kind < 1 ∨ 99 < c.kind) ∨ (¬ needF c.kind = 0 ∧ needF c.kind ≤ v))) (h2 : ¬ ((c.client < 0 ∨ 1048576 < c.client) ∨ (c.seq < 0 ∨ 1048576 < c.seq) ∨ (c.set < 0 ∨ 1048576 < c.set) ∨ (c.id < 0 ∨ 1048576 < c.id) ∨ (c.n < 0 ∨ 1048576 < c.n)))
    (h3 : (¬ (0 < ((c.chunks.length : Nat) : Int))) ∨ rowF c.chunks = true) (h4 : v < 3) : decide (c.text = ⟨[]⟩) = forF c v := by
  rw [for_pre h1 h2 h3, str_nil, decide_eq_false (show ¬ (3 : Int) ≤ v by omega)]; simp
theorem for_hi {c : Command} {v : Int} (h1 : ¬ ((c.kind < 1 ∨ 99 < c.kind) ∨ (¬ needF c.kind = 0 ∧ needF c.kind ≤ v))) (h2 : ¬ ((c.client < 0 ∨ 1048576 < c.client) ∨ (c.seq < 0 ∨ 1048576 < c.seq) ∨ (c.set < 0 ∨ 1048576 < c.set) ∨ (c.id < 0 ∨ 1048576 < c.id) ∨ (c.n < 0 ∨ 1048576 < c.n)))
    (h3 : (¬ (0 < ((c.chunks.length : Nat) : Int))) ∨ rowF c.chunks = true) (h4 : ¬ v < 3) : decide (((c.text.b.length : Nat) : Int) ≤ 16) = forF c v := by
  rw [for_pre h1 h2 h3, Bool.eq_iff_iff]; simp only [Bool.or_eq_true, Bool.and_eq_true, decide_eq_true_eq]; omega

theorem inf3 : (Try.prog.info? 3).map (fun i => (i.zero.map Value.cells, i.size, i.bytes)) = some (some ([.int .i64 0] : List Value).toArray, 1, 8) := by kernel_rfl

set_option maxRecDepth 100000 in
set_option maxHeartbeats 400000 in
theorem nd_s {w : World} (n : Int) (used : Bool) (lo : Int) (hi : Int)  :
    Ret Try.prog 49 [.int .i64 n, .bool used, .int .i64 lo, .int .i64 hi].toArray w fun r w' => r = .bool (ndF n used lo hi) ∧ Kp [] w w' := by
 refine Ret.enter Try.func49 rfl Try.ntmps49 rfl rfl ?_
 refine WC.sel [0, 1, 2, 3] rfl ?_
 refine WC.seq ?_
 refine WC.region ?_
 refine WO.v (R.assign rfl) rfl ?_
 refine WO.nil ?_
 refine WX.sel [0, 1, 2, 3, 8] rfl ?_
 refine WX.next ?_
 refine WC.seq ?_
 refine WC.seq ?_
 refine WC.region ?_
 refine WO.v (R.move rfl) rfl ?_
 refine WO.v (R.not rfl) rfl ?_
 refine WO.nil ?_
 refine WX.sel [0, 1, 2, 3, 8, 10] rfl ?_
 refine WX.next ?_
 refine WC.cond rfl (fun q1 => ?_) (fun q1 => ?_)
 have p1 : (used) = false := (bnot_t q1)
 refine WC.seq ?_
 refine WC.region ?_
 refine WO.v (R.move rfl) rfl ?_
 refine WO.v (R.eql rfl rfl) rfl ?_
 refine WO.v (R.assign rfl) rfl ?_
 refine WO.nil ?_
 refine WX.sel [0, 1, 2, 3, 8, 10] rfl ?_
 refine WX.next ?_
 refine WC.ret ?_
 refine WX.thenRet ?_
 have e0 : (decide (n = (0 : Int))) = (ndF n used lo hi) := by cases used <;> simp_all [ndF]
 refine WX.ret1 Try.results49 rfl ?_
 exact ⟨by rw [e0], Kp.refl _⟩
 have p1 : (used) = true := (bnot_f q1)
 refine WC.skip ?_
 refine WX.next ?_
 refine WC.seq ?_
 refine WC.region ?_
 refine WO.v (R.move rfl) rfl ?_
 refine WO.v (R.move rfl) rfl ?_
 refine WO.v (R.move rfl) rfl ?_
 refine WO.c (E.call rfl rfl Try.func37 rfl rfl) (in5_s (n := n) (a := lo) (b := hi) ) rfl ?_
 rintro _ _ ⟨rfl, rfl⟩
 refine WO.v (R.assign rfl) rfl ?_
 refine WO.nil ?_
 refine WX.sel [0, 1, 2, 3, 8, 10] rfl ?_
 refine WX.next ?_
 refine WC.ret ?_
 have e0 : ((decide ((lo) ≤ (n))) && (decide ((n) ≤ (hi)))) = (ndF n used lo hi) := by cases used <;> simp_all [ndF]
 refine WX.ret1 Try.results49 rfl ?_
 exact ⟨by rw [e0], Kp.refl _⟩

set_option maxRecDepth 100000 in
set_option maxHeartbeats 400000 in
theorem mayR_s {w : World} {cs_c : List Value} {c : Command} (v : Int) (h_c : Rp.rp false 0 w.heap.size w cs_c c) :
    Ret Try.prog 28 [.agg cs_c.toArray, .int .i64 v].toArray w fun r w' => r = .int .i64 (mayC c v) ∧ Kp [] w w' := by
 obtain ⟨a7, c8, rfl, i1, i2, i3, i4, i5, i6, s9, i10⟩ := Command.el h_c
 have ls9 : (c.chunks).length * 8 ≤ 140737488355328 := s9.lenle
 refine Ret.enter Try.func28 rfl Try.ntmps28 rfl rfl ?_
 refine WC.sel [0, 1] rfl ?_
 refine WC.seq ?_
 refine WC.region ?_
 refine WO.box rfl rfl rfl ?_
 intro w11 n11
 have z11 := n11.lt
 have b11 := old_kp0 (Below.refl w.heap.size w) n11.kp
 have y11 := b11.size
 refine WO.v (R.assign rfl) rfl ?_
 refine WO.nil ?_
 refine WX.sel [0, 1, 2, 4] rfl ?_
 refine WX.next ?_
 refine WC.seq ?_
 refine WC.seq ?_
 refine WC.region ?_
 refine WO.v (R.move rfl) rfl ?_
 refine WO.c (E.call rfl rfl Try.func37 rfl rfl) (in5_s (n := v) (a := (1 : Int)) (b := (3 : Int)) ) rfl ?_
 rintro _ _ ⟨rfl, rfl⟩
 refine WO.v (R.not rfl) rfl ?_
 refine WO.v (R.move rfl) rfl ?_
 refine WO.cutP 5 [(23, (.bool ((!((decide (((1 : Int)) ≤ (v))) && (decide ((v) ≤ ((3 : Int)))))) || (decide (needF (c.kind) = (0 : Int))))))] (fun w' => Kp [] w11 w') ?_ ?_
 rcases Bool.eq_false_or_eq_true (!((decide (((1 : Int)) ≤ (v))) && (decide ((v) ≤ ((3 : Int)))))) with hb12 | hb12
 have phb12 : (¬ (((1 : Int)) ≤ (v))) ∨ (¬ ((v) ≤ ((3 : Int)))) := Or.imp (fun h => of_decide_eq_false h) (fun h => of_decide_eq_false h) (band_f (bnot_t hb12))
 refine WO.off rfl rfl hb12 rfl ?_
 refine WO.off rfl rfl hb12 rfl ?_
 refine WO.off rfl rfl hb12 rfl ?_
 refine WO.off rfl rfl hb12 rfl ?_
 refine WO.v (R.pickT rfl hb12 rfl) rfl ?_
 refine WO.nil ?_
 exact WX.cutDoneP 5 rfl rfl ⟨⟨_, rfl, vb (bor_on hb12)⟩, trivial⟩ (Kp.refl _)
 have phb12 : (((1 : Int)) ≤ (v)) ∧ ((v) ≤ ((3 : Int))) := ⟨of_decide_eq_true (band_t (bnot_f hb12)).1, of_decide_eq_true (band_t (bnot_f hb12)).2⟩
 refine WO.on rfl rfl hb12 ?_
 refine WO.v (fa24_0 rfl) rfl ?_
 refine WO.on rfl rfl hb12 ?_
 refine WO.v (R.loadB rfl n11.blk rfl Try.underlying3 rfl) rfl ?_
 refine WO.on rfl rfl hb12 ?_
 refine WO.c (E.call rfl rfl Try.func27 rfl rfl) (needR_s (k := c.kind) ) rfl ?_
 rintro _ w13 ⟨rfl, k13⟩
 have z13 := k13.size
 have b13 := old_kp0 b11 k13
 have y13 := b13.size
 refine WO.on rfl rfl hb12 ?_
 refine WO.v (R.eql rfl rfl) rfl ?_
 refine WO.v (R.pickF rfl hb12 rfl) rfl ?_
 refine WO.nil ?_
 exact WX.cutDoneP 5 rfl rfl ⟨⟨_, rfl, vb (bor_off hb12)⟩, trivial⟩ ((Kp.refl _).step k13 (by simp))
 intro w14 k14
 have z14 := k14.size
 have b14 := old_kp0 b11 k14
 have y14 := b14.size
 refine WO.nil ?_
 refine WX.sel [0, 1, 2, 4, 23] rfl ?_
 refine WX.next ?_
 refine WC.cond rfl (fun q15 => ?_) (fun q15 => ?_)
 have p15 : ((¬ (((1 : Int)) ≤ (v))) ∨ (¬ ((v) ≤ ((3 : Int))))) ∨ (needF (c.kind) = (0 : Int)) := Or.imp (fun h => Or.imp (fun h => of_decide_eq_false h) (fun h => of_decide_eq_false h) (band_f (bnot_t h))) (fun h => of_decide_eq_true h) (bor_t q15)
 refine WC.seq ?_
 refine WC.region ?_
 refine WO.v (R.assign rfl) rfl ?_
 refine WO.nil ?_
 refine WX.sel [0, 1, 2, 4, 23] rfl ?_
 refine WX.next ?_
 refine WC.ret ?_
 refine WX.thenRet ?_
 have e0 : (1 : Int) = (mayC c v) := by first | exact mayc1 q15 | exact mayc10 q15 (by omega) | exact mayc1f q15 (by omega) (by rw [← fits_ref, ← nots7]; exact ‹_›) | exact mayc0 q15 (by omega) (by rw [← fits_ref, ← nots7]; exact ‹_›)
 refine WX.ret1 Try.results28 rfl ?_
 exact ⟨by rw [e0], Kp.of_below b14⟩
 have p15 : ((((1 : Int)) ≤ (v)) ∧ ((v) ≤ ((3 : Int)))) ∧ (¬ (needF (c.kind) = (0 : Int))) := ⟨⟨of_decide_eq_true (band_t (bnot_f (bor_f q15).1)).1, of_decide_eq_true (band_t (bnot_f (bor_f q15).1)).2⟩, of_decide_eq_false (bor_f q15).2⟩
 refine WC.skip ?_
 refine WX.next ?_
 refine WC.seq ?_
 refine WC.seq ?_
 refine WC.region ?_
 refine WO.v (fa24_0 rfl) rfl ?_
 have B16 := (n11.blk).kp0 k14
 refine WO.v (R.loadB rfl B16 rfl Try.underlying3 rfl) rfl ?_
 refine WO.c (E.call rfl rfl Try.func27 rfl rfl) (needR_s (k := c.kind) ) rfl ?_
 rintro _ w17 ⟨rfl, k17⟩
 have z17 := k17.size
 have b17 := old_kp0 b14 k17
 have y17 := b17.size
 refine WO.v (R.move rfl) rfl ?_
 refine WO.v (R.gtr rfl rfl) rfl ?_
 refine WO.nil ?_
 refine WX.sel [0, 1, 2, 4, 23, 28] rfl ?_
 refine WX.next ?_
 refine WC.cond rfl (fun q18 => ?_) (fun q18 => ?_)
 have p18 : v < needF (c.kind) := of_decide_eq_true q18
 refine WC.seq ?_
 refine WC.region ?_
 refine WO.v (R.assign rfl) rfl ?_
 refine WO.nil ?_
 refine WX.sel [0, 1, 2, 4, 23, 28] rfl ?_
 refine WX.next ?_
 refine WC.ret ?_
 refine WX.thenRet ?_
 have e0 : (10 : Int) = (mayC c v) := by first | exact mayc1 q15 | exact mayc10 q15 (by omega) | exact mayc1f q15 (by omega) (by rw [← fits_ref, ← nots7]; exact ‹_›) | exact mayc0 q15 (by omega) (by rw [← fits_ref, ← nots7]; exact ‹_›)
 refine WX.ret1 Try.results28 rfl ?_
 exact ⟨by rw [e0], Kp.of_below b17⟩
 have p18 : ¬ (v < needF (c.kind)) := of_decide_eq_false q18
 refine WC.skip ?_
 refine WX.next ?_
 refine WC.seq ?_
 refine WC.region ?_
 refine WO.v (fa24_0 rfl) rfl ?_
 have B19 := (B16).kp0 k17
 refine WO.v (R.loadB rfl B19 rfl Try.underlying3 rfl) rfl ?_
 refine WO.v (R.assign rfl) rfl ?_
 refine WO.nil ?_
 refine WX.sel [0, 1, 2, 4, 5, 23, 28] rfl ?_
 refine WX.next ?_
 refine WC.seq ?_
 refine WC.region ?_
 refine WO.v (fa24_1 rfl) rfl ?_
 refine WO.v (R.loadB rfl B19 rfl Try.underlying3 rfl) rfl ?_
 refine WO.v (R.move rfl) rfl ?_
 refine WO.v (R.neq rfl rfl) rfl ?_
 refine WO.c (E.call rfl rfl Try.func49 rfl rfl) (nd_s (n := c.client) (used := (!(decide (c.kind = (8 : Int))))) (lo := (1 : Int)) (hi := (8 : Int)) ) rfl ?_
 rintro _ w20 ⟨rfl, k20⟩
 have z20 := k20.size
 have b20 := old_kp0 b17 k20
 have y20 := b20.size
 refine WO.v (R.assign rfl) rfl ?_
 refine WO.nil ?_
 refine WX.sel [0, 1, 2, 4, 5, 6, 23, 28] rfl ?_
 refine WX.next ?_
 refine WC.seq ?_
 refine WC.region ?_
 refine WO.v (fa24_2 rfl) rfl ?_
 have B21 := (B19).kp0 k20
 refine WO.v (R.loadB rfl B21 rfl Try.underlying3 rfl) rfl ?_
 refine WO.v (R.move rfl) rfl ?_
 refine WO.v (R.neq rfl rfl) rfl ?_
 refine WO.v (R.move rfl) rfl ?_
 refine WO.cutP 3 [(43, (.bool ((!(decide (c.kind = (8 : Int)))) && (!(decide (c.kind = (1 : Int)))))))] (fun w' => w20 = w') ?_ ?_
 rcases Bool.eq_false_or_eq_true (!(decide (c.kind = (8 : Int)))) with hb22 | hb22
 have phb22 : ¬ (c.kind = (8 : Int)) := of_decide_eq_false (bnot_t hb22)
 refine WO.on rfl rfl hb22 ?_
 refine WO.v (R.move rfl) rfl ?_
 refine WO.on rfl rfl hb22 ?_
 refine WO.v (R.neq rfl rfl) rfl ?_
 refine WO.v (R.pickT rfl hb22 rfl) rfl ?_
 refine WO.nil ?_
 exact WX.cutDoneP 3 rfl rfl ⟨⟨_, rfl, vb (band_on hb22)⟩, trivial⟩ (rfl)
 have phb22 : c.kind = (8 : Int) := of_decide_eq_true (bnot_f hb22)
 refine WO.off rfl rfl hb22 rfl ?_
 refine WO.off rfl rfl hb22 rfl ?_
 refine WO.v (R.pickF rfl hb22 rfl) rfl ?_
 refine WO.nil ?_
 exact WX.cutDoneP 3 rfl rfl ⟨⟨_, rfl, vb (band_off hb22)⟩, trivial⟩ (rfl)
 rintro _ rfl
 refine WO.c (E.call rfl rfl Try.func49 rfl rfl) (nd_s (n := c.seq) (used := ((!(decide (c.kind = (8 : Int)))) && (!(decide (c.kind = (1 : Int)))))) (lo := (1 : Int)) (hi := (1048576 : Int)) ) rfl ?_
 rintro _ w23 ⟨rfl, k23⟩
 have z23 := k23.size
 have b23 := old_kp0 b20 k23
 have y23 := b23.size
 refine WO.v (R.assign rfl) rfl ?_
 refine WO.nil ?_
 refine WX.sel [0, 1, 2, 4, 5, 6, 7, 23, 28] rfl ?_
 refine WX.next ?_
 refine WC.seq ?_
 refine WC.sel [0, 1, 2, 4, 5, 6, 7, 23, 28] rfl ?_
 have B24 := (B21).kp0 k23
 refine WC.draw' mixed_orders [.ex [] (.pointer (some ⟨w.heap.size, 3, none⟩)), .ex [0] (.int .i64 c.set), .ex [] (.int .i64 c.kind), .ex [2] (.bool ((decide (((2 : Int)) ≤ (c.kind))) && (decide ((c.kind) ≤ ((4 : Int)))))), .ex [1, 3] (.bool (ndF (c.set) (((decide (((2 : Int)) ≤ (c.kind))) && (decide ((c.kind) ≤ ((4 : Int)))))) ((1 : Int)) ((8 : Int)))), .ex [4] (.bool (ndF (c.set) (((decide (((2 : Int)) ≤ (c.kind))) && (decide ((c.kind) ≤ ((4 : Int)))))) ((1 : Int)) ((8 : Int))))] 6 (by kernel_rfl) ⟨fun _ _ _ h _ => h, fun _ _ _ h _ => h, fun _ _ _ h _ => h, fun _ _ _ h _ => h, fun _ _ _ h _ => h, fun _ _ _ h _ => h, trivial⟩ ⟨?_, ?_, ?_, ?_, ?_, ?_, trivial⟩ ?_
 rintro vs w26 k26 ⟨-⟩
 replace k26 : Kp [] w23 w26 := k26
 refine WO.haves (fr' := [(2, _)]) ⟨⟨_, rfl, rfl⟩, trivial⟩ ?_
 refine WO.v (fa24_3 rfl) rfl ?_
 refine WO.nil ?_
 exact WX.stepDone rfl rfl (Kp.refl _)
 rintro vs w27 k27 ⟨e28, -⟩
 replace k27 : Kp [] w23 w27 := k27
 have z27 := k27.size
 have b27 := old_kp0 b23 k27
 have y27 := b27.size
 refine WO.haves (fr' := [(45, _)]) ⟨⟨_, rfl, e28⟩, trivial⟩ ?_
 have B29 := ((B21).kp0 k23).kp0 k27
 refine WO.v (R.loadB rfl B29 rfl Try.underlying3 rfl) rfl ?_
 refine WO.nil ?_
 exact WX.stepDone rfl rfl (Kp.refl _)
 rintro vs w30 k30 ⟨-⟩
 replace k30 : Kp [] w23 w30 := k30
 refine WO.haves (fr' := [(5, _)]) ⟨⟨_, rfl, rfl⟩, trivial⟩ ?_
 refine WO.v (R.move rfl) rfl ?_
 refine WO.nil ?_
 exact WX.stepDone rfl rfl (Kp.refl _)
 rintro vs w31 k31 ⟨e32, -⟩
 replace k31 : Kp [] w23 w31 := k31
 have z31 := k31.size
 have b31 := old_kp0 b23 k31
 have y31 := b31.size
 refine WO.haves (fr' := [(47, _)]) ⟨⟨_, rfl, e32⟩, trivial⟩ ?_
 refine WO.c (E.call rfl rfl Try.func37 rfl rfl) (in5_s (n := c.kind) (a := (2 : Int)) (b := (4 : Int)) ) rfl ?_
 rintro _ _ ⟨rfl, rfl⟩
 refine WO.nil ?_
 exact WX.stepDone rfl rfl (Kp.refl _)
 rintro vs w33 k33 ⟨e34, e35, -⟩
 replace k33 : Kp [] w23 w33 := k33
 have z33 := k33.size
 have b33 := old_kp0 b23 k33
 have y33 := b33.size
 refine WO.haves (fr' := [(46, _), (48, _)]) ⟨⟨_, rfl, e34⟩, ⟨_, rfl, e35⟩, trivial⟩ ?_
 refine WO.c (E.call rfl rfl Try.func49 rfl rfl) (nd_s (n := c.set) (used := ((decide (((2 : Int)) ≤ (c.kind))) && (decide ((c.kind) ≤ ((4 : Int)))))) (lo := (1 : Int)) (hi := (8 : Int)) ) rfl ?_
 rintro _ w36 ⟨rfl, k36⟩
 have z36 := k36.size
 have b36 := old_kp0 b33 k36
 have y36 := b36.size
 refine WO.nil ?_
 exact WX.stepDone rfl rfl ((Kp.refl _).step k36 (by simp))
 rintro vs w37 k37 ⟨e38, -⟩
 replace k37 : Kp [] w23 w37 := k37
 have z37 := k37.size
 have b37 := old_kp0 b23 k37
 have y37 := b37.size
 refine WO.haves (fr' := [(49, _)]) ⟨⟨_, rfl, e38⟩, trivial⟩ ?_
 refine WO.v (R.assign rfl) rfl ?_
 refine WO.nil ?_
 exact WX.stepDone rfl rfl (Kp.refl _)
 rintro vs w39 k39 ⟨-, -, -, -, -, e45, -⟩
 replace k39 : Kp [] w23 w39 := k39
 have z39 := k39.size
 have b39 := old_kp0 b23 k39
 have y39 := b39.size
 refine WO.haves (fr' := [(8, _), (0, _), (1, _), (2, _), (4, _), (5, _), (6, _), (7, _), (23, _), (28, _)]) ⟨⟨_, rfl, e45⟩, ⟨_, rfl, rfl⟩, ⟨_, rfl, rfl⟩, ⟨_, rfl, rfl⟩, ⟨_, rfl, rfl⟩, ⟨_, rfl, rfl⟩, ⟨_, rfl, rfl⟩, ⟨_, rfl, rfl⟩, ⟨_, rfl, rfl⟩, ⟨_, rfl, rfl⟩, trivial⟩ ?_
 refine WO.nil ?_
 refine WX.sel [0, 1, 2, 4, 5, 6, 7, 8, 23, 28] rfl ?_
 refine WX.next ?_
 refine WC.seq ?_
 refine WC.sel [0, 1, 2, 4, 5, 6, 7, 8, 23, 28] rfl ?_
 obtain ⟨G47, eG48⟩ : ∃ b : Bool, b = (decide (c.kind = (5 : Int))) := ⟨_, rfl⟩
 obtain ⟨G49, eG50⟩ : ∃ b : Bool, b = ((G47) || (decide (c.kind = (7 : Int)))) := ⟨_, rfl⟩
 refine WC.draw' mixed_orders [.ex [] (.pointer (some ⟨w.heap.size, 4, none⟩)), .ex [0] (.int .i64 c.id), .ex [] (.int .i64 c.kind), .ex [2] (.bool (decide (c.kind = (5 : Int)))), .ex [3] (.bool (G47)), .ex [4] (sel (!(G47)) (.int .i64 c.kind)), .ex [4, 5] (sel (!(G47)) (.bool (decide (c.kind = (7 : Int))))), .ex [4, 6] (.bool ((G47) || (decide (c.kind = (7 : Int))))), .ex [7] (.bool (G49)), .ex [8] (sel (!(G49)) (.int .i64 c.kind)), .ex [8, 9] (sel (!(G49)) (.bool ((decide (((9 : Int)) ≤ (c.kind))) && (decide ((c.kind) ≤ ((11 : Int))))))), .ex [8, 10] (.bool ((G49) || ((decide (((9 : Int)) ≤ (c.kind))) && (decide ((c.kind) ≤ ((11 : Int))))))), .ex [1, 11] (.bool (ndF (c.id) (((G49) || ((decide (((9 : Int)) ≤ (c.kind))) && (decide ((c.kind) ≤ ((11 : Int))))))) ((1 : Int)) ((1048576 : Int)))), .ex [12] (.bool (ndF (c.id) (((G49) || ((decide (((9 : Int)) ≤ (c.kind))) && (decide ((c.kind) ≤ ((11 : Int))))))) ((1 : Int)) ((1048576 : Int))))] 14 (by kernel_rfl) ⟨fun _ _ _ h _ => h, fun _ _ _ h _ => h, fun _ _ _ h _ => h, fun _ _ _ h _ => h, fun _ _ _ h _ => h, fun _ _ _ h _ => h, fun _ _ _ h _ => h, fun _ _ _ h _ => h, fun _ _ _ h _ => h, fun _ _ _ h _ => h, fun _ _ _ h _ => h, fun _ _ _ h _ => h, fun _ _ _ h _ => h, fun _ _ _ h _ => h, trivial⟩ ⟨?_, ?_, ?_, ?_, ?_, ?_, ?_, ?_, ?_, ?_, ?_, ?_, ?_, ?_, trivial⟩ ?_
 rintro vs w52 k52 ⟨-⟩
 replace k52 : Kp [] w39 w52 := k52
 refine WO.haves (fr' := [(2, _)]) ⟨⟨_, rfl, rfl⟩, trivial⟩ ?_
 refine WO.v (fa24_4 rfl) rfl ?_
 refine WO.nil ?_
 exact WX.stepDone rfl rfl (Kp.refl _)
 rintro vs w53 k53 ⟨e54, -⟩
 replace k53 : Kp [] w39 w53 := k53
 have z53 := k53.size
 have b53 := old_kp0 b39 k53
 have y53 := b53.size
 refine WO.haves (fr' := [(50, _)]) ⟨⟨_, rfl, e54⟩, trivial⟩ ?_
 have B55 := (((B21).kp0 k23).kp0 k39).kp0 k53
 refine WO.v (R.loadB rfl B55 rfl Try.underlying3 rfl) rfl ?_
 refine WO.nil ?_
 exact WX.stepDone rfl rfl (Kp.refl _)
 rintro vs w56 k56 ⟨-⟩
 replace k56 : Kp [] w39 w56 := k56
 refine WO.haves (fr' := [(5, _)]) ⟨⟨_, rfl, rfl⟩, trivial⟩ ?_
 refine WO.v (R.move rfl) rfl ?_
 refine WO.nil ?_
 exact WX.stepDone rfl rfl (Kp.refl _)
 rintro vs w57 k57 ⟨e58, -⟩
 replace k57 : Kp [] w39 w57 := k57
 refine WO.haves (fr' := [(52, _)]) ⟨⟨_, rfl, e58⟩, trivial⟩ ?_
 refine WO.v (R.eql rfl rfl) rfl ?_
 refine WO.nil ?_
 exact WX.stepDone rfl rfl (Kp.refl _)
 rintro vs w59 k59 ⟨e60, -⟩
 replace k59 : Kp [] w39 w59 := k59
 refine WO.haves (fr' := [(53, _)]) ⟨⟨_, rfl, e60⟩, trivial⟩ ?_
 refine WO.v (R.move rfl) rfl ?_
 refine WO.nil ?_
 exact WX.stepDone rfl (vb eG48.symm) (Kp.refl _)
 rintro vs w61 k61 ⟨e62, -⟩
 replace k61 : Kp [] w39 w61 := k61
 rcases Bool.eq_false_or_eq_true (G47) with hb63 | hb63
 have phb63 : c.kind = (5 : Int) := of_decide_eq_true (eG48.symm.trans hb63)
 refine WO.haves (fr' := [(54, _)]) ⟨⟨_, rfl, e62⟩, trivial⟩ ?_
 refine WO.off rfl rfl hb63 rfl ?_
 refine WO.nil ?_
 exact WX.stepDone rfl (sel_of (gnf hb63)) (Kp.refl _)
 have phb63 : ¬ (c.kind = (5 : Int)) := of_decide_eq_false (eG48.symm.trans hb63)
 refine WO.haves (fr' := [(54, _), (5, _)]) ⟨⟨_, rfl, e62⟩, ⟨_, rfl, rfl⟩, trivial⟩ ?_
 refine WO.on rfl rfl hb63 ?_
 refine WO.v (R.move rfl) rfl ?_
 refine WO.nil ?_
 exact WX.stepDone rfl (sel_on (gn hb63) rfl) (Kp.refl _)
 rintro vs w64 k64 ⟨e65, e66, -⟩
 replace k64 : Kp [] w39 w64 := k64
 rcases Bool.eq_false_or_eq_true (G47) with hb67 | hb67
 have phb67 : c.kind = (5 : Int) := of_decide_eq_true (eG48.symm.trans hb67)
 refine WO.haves (fr' := [(54, _)]) ⟨⟨_, rfl, e65⟩, trivial⟩ ?_
 refine WO.off rfl rfl hb67 rfl ?_
 refine WO.nil ?_
 exact WX.stepDone rfl (sel_of (gnf hb67)) (Kp.refl _)
 have phb67 : ¬ (c.kind = (5 : Int)) := of_decide_eq_false (eG48.symm.trans hb67)
 refine WO.haves (fr' := [(54, _), (55, _)]) ⟨⟨_, rfl, e65⟩, ⟨_, rfl, sel_t e66 (gn hb67)⟩, trivial⟩ ?_
 refine WO.on rfl rfl hb67 ?_
 refine WO.v (R.eql rfl rfl) rfl ?_
 refine WO.nil ?_
 exact WX.stepDone rfl (sel_on (gn hb67) rfl) (Kp.refl _)
 rintro vs w68 k68 ⟨e69, e70, -⟩
 replace k68 : Kp [] w39 w68 := k68
 rcases Bool.eq_false_or_eq_true (G47) with hb71 | hb71
 refine WO.haves (fr' := [(54, _)]) ⟨⟨_, rfl, e69⟩, trivial⟩ ?_
 refine WO.v (R.pickT rfl hb71 rfl) rfl ?_
 refine WO.nil ?_
 exact WX.stepDone rfl (vb (bor_on hb71)) (Kp.refl _)
 refine WO.haves (fr' := [(54, _), (56, _)]) ⟨⟨_, rfl, e69⟩, ⟨_, rfl, sel_t e70 (gn hb71)⟩, trivial⟩ ?_
 refine WO.v (R.pickF rfl hb71 rfl) rfl ?_
 refine WO.nil ?_
 exact WX.stepDone rfl (vb (bor_off hb71)) (Kp.refl _)
 rintro vs w72 k72 ⟨e73, -⟩
 replace k72 : Kp [] w39 w72 := k72
 refine WO.haves (fr' := [(57, _)]) ⟨⟨_, rfl, e73⟩, trivial⟩ ?_
 refine WO.v (R.move rfl) rfl ?_
 refine WO.nil ?_
 exact WX.stepDone rfl (vb eG50.symm) (Kp.refl _)
 rintro vs w74 k74 ⟨e75, -⟩
 replace k74 : Kp [] w39 w74 := k74
 rcases Bool.eq_false_or_eq_true (G49) with hb76 | hb76
 have phb76 : ((G47) = true) ∨ (c.kind = (7 : Int)) := Or.imp (fun h => h) (fun h => of_decide_eq_true h) (bor_t (eG50.symm.trans hb76))
 refine WO.haves (fr' := [(58, _)]) ⟨⟨_, rfl, e75⟩, trivial⟩ ?_
 refine WO.off rfl rfl hb76 rfl ?_
 refine WO.nil ?_
 exact WX.stepDone rfl (sel_of (gnf hb76)) (Kp.refl _)
 have phb76 : ((G47) = false) ∧ (¬ (c.kind = (7 : Int))) := ⟨(bor_f (eG50.symm.trans hb76)).1, of_decide_eq_false (bor_f (eG50.symm.trans hb76)).2⟩
 refine WO.haves (fr' := [(58, _), (5, _)]) ⟨⟨_, rfl, e75⟩, ⟨_, rfl, rfl⟩, trivial⟩ ?_
 refine WO.on rfl rfl hb76 ?_
 refine WO.v (R.move rfl) rfl ?_
 refine WO.nil ?_
 exact WX.stepDone rfl (sel_on (gn hb76) rfl) (Kp.refl _)
 rintro vs w77 k77 ⟨e78, e79, -⟩
 replace k77 : Kp [] w39 w77 := k77
 have z77 := k77.size
 have b77 := old_kp0 b39 k77
 have y77 := b77.size
 rcases Bool.eq_false_or_eq_true (G49) with hb80 | hb80
 have phb80 : ((G47) = true) ∨ (c.kind = (7 : Int)) := Or.imp (fun h => h) (fun h => of_decide_eq_true h) (bor_t (eG50.symm.trans hb80))
 refine WO.haves (fr' := [(58, _)]) ⟨⟨_, rfl, e78⟩, trivial⟩ ?_
 refine WO.off rfl rfl hb80 rfl ?_
 refine WO.nil ?_
 exact WX.stepDone rfl (sel_of (gnf hb80)) (Kp.refl _)
 have phb80 : ((G47) = false) ∧ (¬ (c.kind = (7 : Int))) := ⟨(bor_f (eG50.symm.trans hb80)).1, of_decide_eq_false (bor_f (eG50.symm.trans hb80)).2⟩
 refine WO.haves (fr' := [(58, _), (59, _)]) ⟨⟨_, rfl, e78⟩, ⟨_, rfl, sel_t e79 (gn hb80)⟩, trivial⟩ ?_
 refine WO.on rfl rfl hb80 ?_
 refine WO.c (E.call rfl rfl Try.func37 rfl rfl) (in5_s (n := c.kind) (a := (9 : Int)) (b := (11 : Int)) ) rfl ?_
 rintro _ _ ⟨rfl, rfl⟩
 refine WO.nil ?_
 exact WX.stepDone rfl (sel_on (gn hb80) rfl) (Kp.refl _)
 rintro vs w81 k81 ⟨e82, e83, -⟩
 replace k81 : Kp [] w39 w81 := k81
 rcases Bool.eq_false_or_eq_true (G49) with hb84 | hb84
 refine WO.haves (fr' := [(58, _)]) ⟨⟨_, rfl, e82⟩, trivial⟩ ?_
 refine WO.v (R.pickT rfl hb84 rfl) rfl ?_
 refine WO.nil ?_
 exact WX.stepDone rfl (vb (bor_on hb84)) (Kp.refl _)
 refine WO.haves (fr' := [(58, _), (60, _)]) ⟨⟨_, rfl, e82⟩, ⟨_, rfl, sel_t e83 (gn hb84)⟩, trivial⟩ ?_
 refine WO.v (R.pickF rfl hb84 rfl) rfl ?_
 refine WO.nil ?_
 exact WX.stepDone rfl (vb (bor_off hb84)) (Kp.refl _)
 rintro vs w85 k85 ⟨e86, e87, -⟩
 replace k85 : Kp [] w39 w85 := k85
 have z85 := k85.size
 have b85 := old_kp0 b39 k85
 have y85 := b85.size
 refine WO.haves (fr' := [(51, _), (61, _)]) ⟨⟨_, rfl, e86⟩, ⟨_, rfl, e87⟩, trivial⟩ ?_
 refine WO.c (E.call rfl rfl Try.func49 rfl rfl) (nd_s (n := c.id) (used := ((G49) || ((decide (((9 : Int)) ≤ (c.kind))) && (decide ((c.kind) ≤ ((11 : Int))))))) (lo := (1 : Int)) (hi := (1048576 : Int)) ) rfl ?_
 rintro _ w88 ⟨rfl, k88⟩
 have z88 := k88.size
 have b88 := old_kp0 b85 k88
 have y88 := b88.size
 refine WO.nil ?_
 exact WX.stepDone rfl rfl ((Kp.refl _).step k88 (by simp))
 rintro vs w89 k89 ⟨e90, -⟩
 replace k89 : Kp [] w39 w89 := k89
 have z89 := k89.size
 have b89 := old_kp0 b39 k89
 have y89 := b89.size
 refine WO.haves (fr' := [(62, _)]) ⟨⟨_, rfl, e90⟩, trivial⟩ ?_
 refine WO.v (R.assign rfl) rfl ?_
 refine WO.nil ?_
 exact WX.stepDone rfl rfl (Kp.refl _)
 rintro vs w91 k91 ⟨-, -, -, -, -, -, -, -, -, -, -, -, -, e105, -⟩
 replace k91 : Kp [] w39 w91 := k91
 have z91 := k91.size
 have b91 := old_kp0 b39 k91
 have y91 := b91.size
 subst eG48 eG50
 refine WO.haves (fr' := [(9, _), (0, _), (1, _), (2, _), (4, _), (5, _), (6, _), (7, _), (8, _), (23, _), (28, _)]) ⟨⟨_, rfl, e105⟩, ⟨_, rfl, rfl⟩, ⟨_, rfl, rfl⟩, ⟨_, rfl, rfl⟩, ⟨_, rfl, rfl⟩, ⟨_, rfl, rfl⟩, ⟨_, rfl, rfl⟩, ⟨_, rfl, rfl⟩, ⟨_, rfl, rfl⟩, ⟨_, rfl, rfl⟩, ⟨_, rfl, rfl⟩, trivial⟩ ?_
 refine WO.nil ?_
 refine WX.sel [0, 1, 2, 4, 5, 6, 7, 8, 9, 23, 28] rfl ?_
 refine WX.next ?_
 refine WC.seq ?_
 refine WC.region ?_
 refine WO.v (R.assign rfl) rfl ?_
 refine WO.nil ?_
 refine WX.sel [0, 1, 2, 4, 5, 6, 7, 8, 9, 10, 23, 28] rfl ?_
 refine WX.next ?_
 refine WC.seq ?_
 refine WC.region ?_
 refine WO.v (R.assign rfl) rfl ?_
 refine WO.nil ?_
 refine WX.sel [0, 1, 2, 4, 5, 6, 7, 8, 9, 10, 11, 23, 28] rfl ?_
 refine WX.next ?_
 refine WC.seq ?_
 refine WC.seq ?_
 refine WC.region ?_
 refine WO.v (R.move rfl) rfl ?_
 refine WO.v (R.eql rfl rfl) rfl ?_
 refine WO.nil ?_
 refine WX.sel [0, 1, 2, 4, 5, 6, 7, 8, 9, 10, 11, 23, 28, 64] rfl ?_
 refine WX.next ?_
 refine WC.cutEndK [0, 1, 2, 4, 5, 6, 7, 8, 9, 23, 28, 64] rfl [(10, (.int .i64 ((cltR c.kind).1))), (11, (.int .i64 ((if c.kind = 8 then (3 : Int) else 8))))] (fun w' => Kp [] w91 w') ?_ ?_
 refine WC.cond rfl (fun q106 => ?_) (fun q106 => ?_)
 have p106 : c.kind = (8 : Int) := of_decide_eq_true q106
 refine WC.seq ?_
 refine WC.region ?_
 refine WO.v (R.assign rfl) rfl ?_
 refine WO.nil ?_
 refine WX.sel [0, 1, 2, 4, 5, 6, 7, 8, 9, 10, 11, 23, 28, 64] rfl ?_
 refine WX.next ?_
 refine WC.region ?_
 refine WO.v (R.assign rfl) rfl ?_
 refine WO.nil ?_
 refine WX.sel [0, 1, 2, 4, 5, 6, 7, 8, 9, 10, 11, 23, 28, 64] rfl ?_
 have E107 : (2 : Int) = (cltR c.kind).1 := by simp only [cltR]; rw [if_pos (by assumption)]
 have E108 : (3 : Int) = (if c.kind = 8 then (3 : Int) else 8) := by rw [if_pos (by assumption)]
 exact WX.cutDoneK [0, 1, 2, 4, 5, 6, 7, 8, 9, 23, 28, 64] rfl ⟨⟨_, rfl, vi E107⟩, ⟨_, rfl, vi E108⟩, trivial⟩ (Kp.refl _)
 have p106 : ¬ (c.kind = (8 : Int)) := of_decide_eq_false q106
 refine WC.skip ?_
 have E109 : (0 : Int) = (cltR c.kind).1 := by simp only [cltR]; rw [if_neg (by assumption)]
 have E110 : (8 : Int) = (if c.kind = 8 then (3 : Int) else 8) := by rw [if_neg (by assumption)]
 exact WX.cutDoneK [0, 1, 2, 4, 5, 6, 7, 8, 9, 23, 28, 64] rfl ⟨⟨_, rfl, vi E109⟩, ⟨_, rfl, vi E110⟩, trivial⟩ (Kp.refl _)
 rintro w111 k111
 have z111 := k111.size
 have b111 := old_kp0 b91 k111
 have y111 := b111.size
 refine WX.next ?_
 refine WC.seq ?_
 refine WC.seq ?_
 refine WC.region ?_
 refine WO.v (R.move rfl) rfl ?_
 refine WO.v (R.eql rfl rfl) rfl ?_
 refine WO.nil ?_
 refine WX.sel [0, 1, 2, 4, 5, 6, 7, 8, 9, 10, 11, 23, 28, 64, 66] rfl ?_
 refine WX.next ?_
 refine WC.cutEndK [0, 1, 2, 4, 5, 6, 7, 8, 9, 10, 23, 28, 64, 66] rfl [(11, (.int .i64 ((cltR c.kind).2)))] (fun w' => Kp [] w111 w') ?_ ?_
 refine WC.cond rfl (fun q112 => ?_) (fun q112 => ?_)
 have p112 : c.kind = (12 : Int) := of_decide_eq_true q112
 refine WC.region ?_
 refine WO.v (R.assign rfl) rfl ?_
 refine WO.nil ?_
 refine WX.sel [0, 1, 2, 4, 5, 6, 7, 8, 9, 10, 11, 23, 28, 64, 66] rfl ?_
 have E113 : (64 : Int) = (cltR c.kind).2 := by simp only [cltR]; rw [if_neg (by omega), if_pos (by assumption)]
 exact WX.cutDoneK [0, 1, 2, 4, 5, 6, 7, 8, 9, 10, 23, 28, 64, 66] rfl ⟨⟨_, rfl, vi E113⟩, trivial⟩ (Kp.refl _)
 have p112 : ¬ (c.kind = (12 : Int)) := of_decide_eq_false q112
 refine WC.skip ?_
 have E114 : ((if c.kind = 8 then (3 : Int) else 8)) = (cltR c.kind).2 := by simp only [cltR]; rw [if_neg (show ¬ c.kind = 12 by assumption)]
 exact WX.cutDoneK [0, 1, 2, 4, 5, 6, 7, 8, 9, 10, 23, 28, 64, 66] rfl ⟨⟨_, rfl, vi E114⟩, trivial⟩ (Kp.refl _)
 rintro w115 k115
 have z115 := k115.size
 have b115 := old_kp0 b111 k115
 have y115 := b115.size
 refine WX.next ?_
 refine WC.seq ?_
 refine WC.region ?_
 refine WO.v (fa24_5 rfl) rfl ?_
 have B116 := (((((B21).kp0 k23).kp0 k39).kp0 k91).kp0 k111).kp0 k115
 refine WO.v (R.loadB rfl B116 rfl Try.underlying3 rfl) rfl ?_
 refine WO.v (R.move rfl) rfl ?_
 refine WO.v (R.eql rfl rfl) rfl ?_
 refine WO.v (R.move rfl) rfl ?_
 refine WO.cutP 3 [(74, (.bool ((decide (c.kind = (6 : Int))) || (decide (c.kind = (8 : Int))))))] (fun w' => w115 = w') ?_ ?_
 rcases Bool.eq_false_or_eq_true (decide (c.kind = (6 : Int))) with hb117 | hb117
 have phb117 : c.kind = (6 : Int) := of_decide_eq_true hb117
 refine WO.off rfl rfl hb117 rfl ?_
 refine WO.off rfl rfl hb117 rfl ?_
 refine WO.v (R.pickT rfl hb117 rfl) rfl ?_
 refine WO.nil ?_
 exact WX.cutDoneP 3 rfl rfl ⟨⟨_, rfl, vb (bor_on hb117)⟩, trivial⟩ (rfl)
 have phb117 : ¬ (c.kind = (6 : Int)) := of_decide_eq_false hb117
 refine WO.on rfl rfl hb117 ?_
 refine WO.v (R.move rfl) rfl ?_
 refine WO.on rfl rfl hb117 ?_
 refine WO.v (R.eql rfl rfl) rfl ?_
 refine WO.v (R.pickF rfl hb117 rfl) rfl ?_
 refine WO.nil ?_
 exact WX.cutDoneP 3 rfl rfl ⟨⟨_, rfl, vb (bor_off hb117)⟩, trivial⟩ (rfl)
 rintro _ rfl
 refine WO.v (R.move rfl) rfl ?_
 refine WO.cutP 3 [(78, (.bool (((decide (c.kind = (6 : Int))) || (decide (c.kind = (8 : Int)))) || (decide (c.kind = (12 : Int))))))] (fun w' => w115 = w') ?_ ?_
 rcases Bool.eq_false_or_eq_true ((decide (c.kind = (6 : Int))) || (decide (c.kind = (8 : Int)))) with hb118 | hb118
 have phb118 : (c.kind = (6 : Int)) ∨ (c.kind = (8 : Int)) := Or.imp (fun h => of_decide_eq_true h) (fun h => of_decide_eq_true h) (bor_t hb118)
 refine WO.off rfl rfl hb118 rfl ?_
 refine WO.off rfl rfl hb118 rfl ?_
 refine WO.v (R.pickT rfl hb118 rfl) rfl ?_
 refine WO.nil ?_
 exact WX.cutDoneP 3 rfl rfl ⟨⟨_, rfl, vb (bor_on hb118)⟩, trivial⟩ (rfl)
 have phb118 : (¬ (c.kind = (6 : Int))) ∧ (¬ (c.kind = (8 : Int))) := ⟨of_decide_eq_false (bor_f hb118).1, of_decide_eq_false (bor_f hb118).2⟩
 refine WO.on rfl rfl hb118 ?_
 refine WO.v (R.move rfl) rfl ?_
 refine WO.on rfl rfl hb118 ?_
 refine WO.v (R.eql rfl rfl) rfl ?_
 refine WO.v (R.pickF rfl hb118 rfl) rfl ?_
 refine WO.nil ?_
 exact WX.cutDoneP 3 rfl rfl ⟨⟨_, rfl, vb (bor_off hb118)⟩, trivial⟩ (rfl)
 rintro _ rfl
 refine WO.v (R.move rfl) rfl ?_
 refine WO.v (R.move rfl) rfl ?_
 refine WO.c (E.call rfl rfl Try.func49 rfl rfl) (nd_s (n := c.n) (used := (((decide (c.kind = (6 : Int))) || (decide (c.kind = (8 : Int)))) || (decide (c.kind = (12 : Int))))) (lo := ((cltR c.kind).1)) (hi := ((cltR c.kind).2)) ) rfl ?_
 rintro _ w119 ⟨rfl, k119⟩
 have z119 := k119.size
 have b119 := old_kp0 b115 k119
 have y119 := b119.size
 refine WO.v (R.assign rfl) rfl ?_
 refine WO.nil ?_
 refine WX.sel [0, 1, 2, 4, 5, 6, 7, 8, 9, 10, 11, 12, 23, 28, 64, 66] rfl ?_
 refine WX.next ?_
 refine WC.seq ?_
 refine WC.region ?_
 refine WO.v (fa24_6 rfl) rfl ?_
 have B120 := (B116).kp0 k119
 refine WO.v (R.loadB rfl B120 rfl Try.underlying22 rfl) rfl ?_
 refine WO.v (R.len rfl Try.underlying22) rfl ?_
 refine WO.v (R.eql rfl rfl) rfl ?_
 refine WO.v (R.assign rfl) rfl ?_
 refine WO.nil ?_
 refine WX.sel [0, 1, 2, 4, 5, 6, 7, 8, 9, 10, 11, 12, 13, 23, 28, 64, 66] rfl ?_
 refine WX.next ?_
 refine WC.seq ?_
 refine WC.seq ?_
 refine WC.region ?_
 refine WO.v (R.move rfl) rfl ?_
 refine WO.v (R.eql rfl rfl) rfl ?_
 refine WO.nil ?_
 refine WX.sel [0, 1, 2, 4, 5, 6, 7, 8, 9, 10, 11, 12, 13, 23, 28, 64, 66, 87] rfl ?_
 refine WX.next ?_
 refine WC.cutEndK [0, 1, 2, 4, 5, 6, 7, 8, 9, 10, 11, 12, 23, 28, 64, 66, 87] rfl [(13, (.bool (chF c)))] (fun w' => Kp [] w119 w') ?_ ?_
 refine WC.cond rfl (fun q121 => ?_) (fun q121 => ?_)
 have p121 : c.kind = (3 : Int) := of_decide_eq_true q121
 refine WC.region ?_
 refine WO.v (fa24_6 rfl) rfl ?_
 refine WO.v (R.loadB rfl B120 rfl Try.underlying22 rfl) rfl ?_
 refine WO.c (E.call rfl rfl Try.func47 rfl rfl) (row5_s (l := c.chunks) (a_l := a7) (c_l := c8) ((sl_old s9 b119).mono (lo' := 0) (hi' := w119.heap.size) (Nat.zero_le _) (by omega))) rfl ?_
 rintro _ w122 ⟨rfl, k122⟩
 have z122 := k122.size
 have b122 := old_kp0 b119 k122
 have y122 := b122.size
 refine WO.v (R.assign rfl) rfl ?_
 refine WO.nil ?_
 refine WX.sel [0, 1, 2, 4, 5, 6, 7, 8, 9, 10, 11, 12, 13, 23, 28, 64, 66, 87] rfl ?_
 have E123 : (rowF (c.chunks)) = chF c := by rw [chF, if_pos (by assumption)]
 exact WX.cutDoneK [0, 1, 2, 4, 5, 6, 7, 8, 9, 10, 11, 12, 23, 28, 64, 66, 87] rfl ⟨⟨_, rfl, vb E123⟩, trivial⟩ ((Kp.refl _).step k122 (by simp))
 have p121 : ¬ (c.kind = (3 : Int)) := of_decide_eq_false q121
 refine WC.skip ?_
 have E124 : (decide (((c.chunks.length : Nat) : Int) = (0 : Int))) = chF c := by rw [chF, if_neg (by assumption)]
 exact WX.cutDoneK [0, 1, 2, 4, 5, 6, 7, 8, 9, 10, 11, 12, 23, 28, 64, 66, 87] rfl ⟨⟨_, rfl, vb E124⟩, trivial⟩ (Kp.refl _)
 rintro w125 k125
 have z125 := k125.size
 have b125 := old_kp0 b119 k125
 have y125 := b125.size
 refine WX.next ?_
 refine WC.seq ?_
 refine WC.region ?_
 refine WO.v (fa24_7 rfl) rfl ?_
 have B126 := (B120).kp0 k125
 refine WO.v (R.loadB rfl B126 rfl Try.underlying9 rfl) rfl ?_
 refine WO.v (R.lenS rfl Try.underlying9) rfl ?_
 refine WO.v (R.eql rfl rfl) rfl ?_
 refine WO.v (R.move rfl) rfl ?_
 refine WO.cutP 9 [(104, (.bool ((decide (((c.text.b.length : Nat) : Int) = (0 : Int))) || ((decide (c.kind = (11 : Int))) && (decide (((c.text.b.length : Nat) : Int) ≤ (16 : Int)))))))] (fun w' => w125 = w') ?_ ?_
 rcases Bool.eq_false_or_eq_true (decide (((c.text.b.length : Nat) : Int) = (0 : Int))) with hb127 | hb127
 have phb127 : ((c.text.b.length : Nat) : Int) = (0 : Int) := of_decide_eq_true hb127
 refine WO.off rfl rfl hb127 rfl ?_
 refine WO.off rfl rfl hb127 rfl ?_
 refine WO.off rfl rfl hb127 rfl ?_
 refine WO.offU rfl rfl rfl ?_
 refine WO.offU rfl rfl rfl ?_
 refine WO.offU rfl rfl rfl ?_
 refine WO.offU rfl rfl rfl ?_
 refine WO.off rfl rfl hb127 rfl ?_
 refine WO.v (R.pickT rfl hb127 rfl) rfl ?_
 refine WO.nil ?_
 exact WX.cutDoneP 9 rfl rfl ⟨⟨_, rfl, vb (bor_on hb127)⟩, trivial⟩ (rfl)
 have phb127 : ¬ (((c.text.b.length : Nat) : Int) = (0 : Int)) := of_decide_eq_false hb127
 refine WO.on rfl rfl hb127 ?_
 refine WO.v (R.move rfl) rfl ?_
 refine WO.on rfl rfl hb127 ?_
 refine WO.v (R.eql rfl rfl) rfl ?_
 refine WO.on rfl rfl hb127 ?_
 refine WO.v (R.move rfl) rfl ?_
 refine WO.cutP 5 [(103, (.bool ((decide (c.kind = (11 : Int))) && (decide (((c.text.b.length : Nat) : Int) ≤ (16 : Int))))))] (fun w' => w125 = w') ?_ ?_
 rcases Bool.eq_false_or_eq_true (decide (c.kind = (11 : Int))) with hb128 | hb128
 have phb128 : c.kind = (11 : Int) := of_decide_eq_true hb128
 refine WO.on rfl rfl hb128 ?_
 refine WO.v (fa24_7 rfl) rfl ?_
 refine WO.on rfl rfl hb128 ?_
 refine WO.v (R.loadB rfl B126 rfl Try.underlying9 rfl) rfl ?_
 refine WO.on rfl rfl hb128 ?_
 refine WO.v (R.lenS rfl Try.underlying9) rfl ?_
 refine WO.on rfl rfl hb128 ?_
 refine WO.v (R.leq rfl rfl) rfl ?_
 refine WO.on rfl rfl hb127 ?_
 refine WO.v (R.pickT rfl hb128 rfl) rfl ?_
 refine WO.nil ?_
 exact WX.cutDoneP 5 rfl rfl ⟨⟨_, rfl, vb (band_on hb128)⟩, trivial⟩ (rfl)
 have phb128 : ¬ (c.kind = (11 : Int)) := of_decide_eq_false hb128
 refine WO.off rfl rfl hb128 rfl ?_
 refine WO.off rfl rfl hb128 rfl ?_
 refine WO.off rfl rfl hb128 rfl ?_
 refine WO.off rfl rfl hb128 rfl ?_
 refine WO.on rfl rfl hb127 ?_
 refine WO.v (R.pickF rfl hb128 rfl) rfl ?_
 refine WO.nil ?_
 exact WX.cutDoneP 5 rfl rfl ⟨⟨_, rfl, vb (band_off hb128)⟩, trivial⟩ (rfl)
 rintro _ rfl
 refine WO.v (R.pickF rfl hb127 rfl) rfl ?_
 refine WO.nil ?_
 exact WX.cutDoneP 5 rfl rfl ⟨⟨_, rfl, vb (bor_off hb127)⟩, trivial⟩ (rfl)
 rintro _ rfl
 refine WO.v (R.assign rfl) rfl ?_
 refine WO.nil ?_
 refine WX.sel [0, 1, 2, 4, 5, 6, 7, 8, 9, 10, 11, 12, 13, 14, 23, 28, 64, 66, 87] rfl ?_
 refine WX.next ?_
 refine WC.seq ?_
 refine WC.seq ?_
 refine WC.region ?_
 refine WO.v (R.move rfl) rfl ?_
 refine WO.v (R.not rfl) rfl ?_
 refine WO.v (R.move rfl) rfl ?_
 refine WO.cutP 3 [(110, (.bool ((!(ndF (c.client) ((!(decide (c.kind = (8 : Int))))) ((1 : Int)) ((8 : Int)))) || (!(ndF (c.seq) (((!(decide (c.kind = (8 : Int)))) && (!(decide (c.kind = (1 : Int)))))) ((1 : Int)) ((1048576 : Int)))))))] (fun w' => w125 = w') ?_ ?_
 rcases Bool.eq_false_or_eq_true (!(ndF (c.client) ((!(decide (c.kind = (8 : Int))))) ((1 : Int)) ((8 : Int)))) with hb129 | hb129
 have phb129 : (ndF (c.client) ((!(decide (c.kind = (8 : Int))))) ((1 : Int)) ((8 : Int))) = false := (bnot_t hb129)
 refine WO.off rfl rfl hb129 rfl ?_
 refine WO.off rfl rfl hb129 rfl ?_
 refine WO.v (R.pickT rfl hb129 rfl) rfl ?_
 refine WO.nil ?_
 exact WX.cutDoneP 3 rfl rfl ⟨⟨_, rfl, vb (bor_on hb129)⟩, trivial⟩ (rfl)
 have phb129 : (ndF (c.client) ((!(decide (c.kind = (8 : Int))))) ((1 : Int)) ((8 : Int))) = true := (bnot_f hb129)
 refine WO.on rfl rfl hb129 ?_
 refine WO.v (R.move rfl) rfl ?_
 refine WO.on rfl rfl hb129 ?_
 refine WO.v (R.not rfl) rfl ?_
 refine WO.v (R.pickF rfl hb129 rfl) rfl ?_
 refine WO.nil ?_
 exact WX.cutDoneP 3 rfl rfl ⟨⟨_, rfl, vb (bor_off hb129)⟩, trivial⟩ (rfl)
 rintro _ rfl
 refine WO.v (R.move rfl) rfl ?_
 refine WO.cutP 3 [(114, (.bool (((!(ndF (c.client) ((!(decide (c.kind = (8 : Int))))) ((1 : Int)) ((8 : Int)))) || (!(ndF (c.seq) (((!(decide (c.kind = (8 : Int)))) && (!(decide (c.kind = (1 : Int)))))) ((1 : Int)) ((1048576 : Int))))) || (!(ndF (c.set) (((decide (((2 : Int)) ≤ (c.kind))) && (decide ((c.kind) ≤ ((4 : Int)))))) ((1 : Int)) ((8 : Int)))))))] (fun w' => w125 = w') ?_ ?_
 rcases Bool.eq_false_or_eq_true ((!(ndF (c.client) ((!(decide (c.kind = (8 : Int))))) ((1 : Int)) ((8 : Int)))) || (!(ndF (c.seq) (((!(decide (c.kind = (8 : Int)))) && (!(decide (c.kind = (1 : Int)))))) ((1 : Int)) ((1048576 : Int))))) with hb130 | hb130
 have phb130 : ((ndF (c.client) ((!(decide (c.kind = (8 : Int))))) ((1 : Int)) ((8 : Int))) = false) ∨ ((ndF (c.seq) (((!(decide (c.kind = (8 : Int)))) && (!(decide (c.kind = (1 : Int)))))) ((1 : Int)) ((1048576 : Int))) = false) := Or.imp (fun h => (bnot_t h)) (fun h => (bnot_t h)) (bor_t hb130)
 refine WO.off rfl rfl hb130 rfl ?_
 refine WO.off rfl rfl hb130 rfl ?_
 refine WO.v (R.pickT rfl hb130 rfl) rfl ?_
 refine WO.nil ?_
 exact WX.cutDoneP 3 rfl rfl ⟨⟨_, rfl, vb (bor_on hb130)⟩, trivial⟩ (rfl)
 have phb130 : ((ndF (c.client) ((!(decide (c.kind = (8 : Int))))) ((1 : Int)) ((8 : Int))) = true) ∧ ((ndF (c.seq) (((!(decide (c.kind = (8 : Int)))) && (!(decide (c.kind = (1 : Int)))))) ((1 : Int)) ((1048576 : Int))) = true) := ⟨(bnot_f (bor_f hb130).1), (bnot_f (bor_f hb130).2)⟩
 refine WO.on rfl rfl hb130 ?_
 refine WO.v (R.move rfl) rfl ?_
 refine WO.on rfl rfl hb130 ?_
 refine WO.v (R.not rfl) rfl ?_
 refine WO.v (R.pickF rfl hb130 rfl) rfl ?_
 refine WO.nil ?_
 exact WX.cutDoneP 3 rfl rfl ⟨⟨_, rfl, vb (bor_off hb130)⟩, trivial⟩ (rfl)
 rintro _ rfl
 refine WO.v (R.move rfl) rfl ?_
 refine WO.cutP 3 [(118, (.bool ((((!(ndF (c.client) ((!(decide (c.kind = (8 : Int))))) ((1 : Int)) ((8 : Int)))) || (!(ndF (c.seq) (((!(decide (c.kind = (8 : Int)))) && (!(decide (c.kind = (1 : Int)))))) ((1 : Int)) ((1048576 : Int))))) || (!(ndF (c.set) (((decide (((2 : Int)) ≤ (c.kind))) && (decide ((c.kind) ≤ ((4 : Int)))))) ((1 : Int)) ((8 : Int))))) || (!(ndF (c.id) ((((((decide (c.kind = (5 : Int)))) || (decide (c.kind = (7 : Int))))) || ((decide (((9 : Int)) ≤ (c.kind))) && (decide ((c.kind) ≤ ((11 : Int))))))) ((1 : Int)) ((1048576 : Int)))))))] (fun w' => w125 = w') ?_ ?_
 rcases Bool.eq_false_or_eq_true (((!(ndF (c.client) ((!(decide (c.kind = (8 : Int))))) ((1 : Int)) ((8 : Int)))) || (!(ndF (c.seq) (((!(decide (c.kind = (8 : Int)))) && (!(decide (c.kind = (1 : Int)))))) ((1 : Int)) ((1048576 : Int))))) || (!(ndF (c.set) (((decide (((2 : Int)) ≤ (c.kind))) && (decide ((c.kind) ≤ ((4 : Int)))))) ((1 : Int)) ((8 : Int))))) with hb131 | hb131
 have phb131 : (((ndF (c.client) ((!(decide (c.kind = (8 : Int))))) ((1 : Int)) ((8 : Int))) = false) ∨ ((ndF (c.seq) (((!(decide (c.kind = (8 : Int)))) && (!(decide (c.kind = (1 : Int)))))) ((1 : Int)) ((1048576 : Int))) = false)) ∨ ((ndF (c.set) (((decide (((2 : Int)) ≤ (c.kind))) && (decide ((c.kind) ≤ ((4 : Int)))))) ((1 : Int)) ((8 : Int))) = false) := Or.imp (fun h => Or.imp (fun h => (bnot_t h)) (fun h => (bnot_t h)) (bor_t h)) (fun h => (bnot_t h)) (bor_t hb131)
 refine WO.off rfl rfl hb131 rfl ?_
 refine WO.off rfl rfl hb131 rfl ?_
 refine WO.v (R.pickT rfl hb131 rfl) rfl ?_
 refine WO.nil ?_
 exact WX.cutDoneP 3 rfl rfl ⟨⟨_, rfl, vb (bor_on hb131)⟩, trivial⟩ (rfl)
 have phb131 : (((ndF (c.client) ((!(decide (c.kind = (8 : Int))))) ((1 : Int)) ((8 : Int))) = true) ∧ ((ndF (c.seq) (((!(decide (c.kind = (8 : Int)))) && (!(decide (c.kind = (1 : Int)))))) ((1 : Int)) ((1048576 : Int))) = true)) ∧ ((ndF (c.set) (((decide (((2 : Int)) ≤ (c.kind))) && (decide ((c.kind) ≤ ((4 : Int)))))) ((1 : Int)) ((8 : Int))) = true) := ⟨⟨(bnot_f (bor_f (bor_f hb131).1).1), (bnot_f (bor_f (bor_f hb131).1).2)⟩, (bnot_f (bor_f hb131).2)⟩
 refine WO.on rfl rfl hb131 ?_
 refine WO.v (R.move rfl) rfl ?_
 refine WO.on rfl rfl hb131 ?_
 refine WO.v (R.not rfl) rfl ?_
 refine WO.v (R.pickF rfl hb131 rfl) rfl ?_
 refine WO.nil ?_
 exact WX.cutDoneP 3 rfl rfl ⟨⟨_, rfl, vb (bor_off hb131)⟩, trivial⟩ (rfl)
 rintro _ rfl
 refine WO.v (R.move rfl) rfl ?_
 refine WO.cutP 3 [(122, (.bool (((((!(ndF (c.client) ((!(decide (c.kind = (8 : Int))))) ((1 : Int)) ((8 : Int)))) || (!(ndF (c.seq) (((!(decide (c.kind = (8 : Int)))) && (!(decide (c.kind = (1 : Int)))))) ((1 : Int)) ((1048576 : Int))))) || (!(ndF (c.set) (((decide (((2 : Int)) ≤ (c.kind))) && (decide ((c.kind) ≤ ((4 : Int)))))) ((1 : Int)) ((8 : Int))))) || (!(ndF (c.id) ((((((decide (c.kind = (5 : Int)))) || (decide (c.kind = (7 : Int))))) || ((decide (((9 : Int)) ≤ (c.kind))) && (decide ((c.kind) ≤ ((11 : Int))))))) ((1 : Int)) ((1048576 : Int))))) || (!(ndF (c.n) ((((decide (c.kind = (6 : Int))) || (decide (c.kind = (8 : Int)))) || (decide (c.kind = (12 : Int))))) (((cltR c.kind).1)) (((cltR c.kind).2)))))))] (fun w' => w125 = w') ?_ ?_
 rcases Bool.eq_false_or_eq_true ((((!(ndF (c.client) ((!(decide (c.kind = (8 : Int))))) ((1 : Int)) ((8 : Int)))) || (!(ndF (c.seq) (((!(decide (c.kind = (8 : Int)))) && (!(decide (c.kind = (1 : Int)))))) ((1 : Int)) ((1048576 : Int))))) || (!(ndF (c.set) (((decide (((2 : Int)) ≤ (c.kind))) && (decide ((c.kind) ≤ ((4 : Int)))))) ((1 : Int)) ((8 : Int))))) || (!(ndF (c.id) ((((((decide (c.kind = (5 : Int)))) || (decide (c.kind = (7 : Int))))) || ((decide (((9 : Int)) ≤ (c.kind))) && (decide ((c.kind) ≤ ((11 : Int))))))) ((1 : Int)) ((1048576 : Int))))) with hb132 | hb132
 have phb132 : ((((ndF (c.client) ((!(decide (c.kind = (8 : Int))))) ((1 : Int)) ((8 : Int))) = false) ∨ ((ndF (c.seq) (((!(decide (c.kind = (8 : Int)))) && (!(decide (c.kind = (1 : Int)))))) ((1 : Int)) ((1048576 : Int))) = false)) ∨ ((ndF (c.set) (((decide (((2 : Int)) ≤ (c.kind))) && (decide ((c.kind) ≤ ((4 : Int)))))) ((1 : Int)) ((8 : Int))) = false)) ∨ ((ndF (c.id) ((((((decide (c.kind = (5 : Int)))) || (decide (c.kind = (7 : Int))))) || ((decide (((9 : Int)) ≤ (c.kind))) && (decide ((c.kind) ≤ ((11 : Int))))))) ((1 : Int)) ((1048576 : Int))) = false) := Or.imp (fun h => Or.imp (fun h => Or.imp (fun h => (bnot_t h)) (fun h => (bnot_t h)) (bor_t h)) (fun h => (bnot_t h)) (bor_t h)) (fun h => (bnot_t h)) (bor_t hb132)
 refine WO.off rfl rfl hb132 rfl ?_
 refine WO.off rfl rfl hb132 rfl ?_
 refine WO.v (R.pickT rfl hb132 rfl) rfl ?_
 refine WO.nil ?_
 exact WX.cutDoneP 3 rfl rfl ⟨⟨_, rfl, vb (bor_on hb132)⟩, trivial⟩ (rfl)
 have phb132 : ((((ndF (c.client) ((!(decide (c.kind = (8 : Int))))) ((1 : Int)) ((8 : Int))) = true) ∧ ((ndF (c.seq) (((!(decide (c.kind = (8 : Int)))) && (!(decide (c.kind = (1 : Int)))))) ((1 : Int)) ((1048576 : Int))) = true)) ∧ ((ndF (c.set) (((decide (((2 : Int)) ≤ (c.kind))) && (decide ((c.kind) ≤ ((4 : Int)))))) ((1 : Int)) ((8 : Int))) = true)) ∧ ((ndF (c.id) ((((((decide (c.kind = (5 : Int)))) || (decide (c.kind = (7 : Int))))) || ((decide (((9 : Int)) ≤ (c.kind))) && (decide ((c.kind) ≤ ((11 : Int))))))) ((1 : Int)) ((1048576 : Int))) = true) := ⟨⟨⟨(bnot_f (bor_f (bor_f (bor_f hb132).1).1).1), (bnot_f (bor_f (bor_f (bor_f hb132).1).1).2)⟩, (bnot_f (bor_f (bor_f hb132).1).2)⟩, (bnot_f (bor_f hb132).2)⟩
 refine WO.on rfl rfl hb132 ?_
 refine WO.v (R.move rfl) rfl ?_
 refine WO.on rfl rfl hb132 ?_
 refine WO.v (R.not rfl) rfl ?_
 refine WO.v (R.pickF rfl hb132 rfl) rfl ?_
 refine WO.nil ?_
 exact WX.cutDoneP 3 rfl rfl ⟨⟨_, rfl, vb (bor_off hb132)⟩, trivial⟩ (rfl)
 rintro _ rfl
 refine WO.v (R.move rfl) rfl ?_
 refine WO.cutP 3 [(126, (.bool ((((((!(ndF (c.client) ((!(decide (c.kind = (8 : Int))))) ((1 : Int)) ((8 : Int)))) || (!(ndF (c.seq) (((!(decide (c.kind = (8 : Int)))) && (!(decide (c.kind = (1 : Int)))))) ((1 : Int)) ((1048576 : Int))))) || (!(ndF (c.set) (((decide (((2 : Int)) ≤ (c.kind))) && (decide ((c.kind) ≤ ((4 : Int)))))) ((1 : Int)) ((8 : Int))))) || (!(ndF (c.id) ((((((decide (c.kind = (5 : Int)))) || (decide (c.kind = (7 : Int))))) || ((decide (((9 : Int)) ≤ (c.kind))) && (decide ((c.kind) ≤ ((11 : Int))))))) ((1 : Int)) ((1048576 : Int))))) || (!(ndF (c.n) ((((decide (c.kind = (6 : Int))) || (decide (c.kind = (8 : Int)))) || (decide (c.kind = (12 : Int))))) (((cltR c.kind).1)) (((cltR c.kind).2))))) || (!(chF c)))))] (fun w' => w125 = w') ?_ ?_
 rcases Bool.eq_false_or_eq_true (((((!(ndF (c.client) ((!(decide (c.kind = (8 : Int))))) ((1 : Int)) ((8 : Int)))) || (!(ndF (c.seq) (((!(decide (c.kind = (8 : Int)))) && (!(decide (c.kind = (1 : Int)))))) ((1 : Int)) ((1048576 : Int))))) || (!(ndF (c.set) (((decide (((2 : Int)) ≤ (c.kind))) && (decide ((c.kind) ≤ ((4 : Int)))))) ((1 : Int)) ((8 : Int))))) || (!(ndF (c.id) ((((((decide (c.kind = (5 : Int)))) || (decide (c.kind = (7 : Int))))) || ((decide (((9 : Int)) ≤ (c.kind))) && (decide ((c.kind) ≤ ((11 : Int))))))) ((1 : Int)) ((1048576 : Int))))) || (!(ndF (c.n) ((((decide (c.kind = (6 : Int))) || (decide (c.kind = (8 : Int)))) || (decide (c.kind = (12 : Int))))) (((cltR c.kind).1)) (((cltR c.kind).2))))) with hb133 | hb133
 have phb133 : (((((ndF (c.client) ((!(decide (c.kind = (8 : Int))))) ((1 : Int)) ((8 : Int))) = false) ∨ ((ndF (c.seq) (((!(decide (c.kind = (8 : Int)))) && (!(decide (c.kind = (1 : Int)))))) ((1 : Int)) ((1048576 : Int))) = false)) ∨ ((ndF (c.set) (((decide (((2 : Int)) ≤ (c.kind))) && (decide ((c.kind) ≤ ((4 : Int)))))) ((1 : Int)) ((8 : Int))) = false)) ∨ ((ndF (c.id) ((((((decide (c.kind = (5 : Int)))) || (decide (c.kind = (7 : Int))))) || ((decide (((9 : Int)) ≤ (c.kind))) && (decide ((c.kind) ≤ ((11 : Int))))))) ((1 : Int)) ((1048576 : Int))) = false)) ∨ ((ndF (c.n) ((((decide (c.kind = (6 : Int))) || (decide (c.kind = (8 : Int)))) || (decide (c.kind = (12 : Int))))) (((cltR c.kind).1)) (((cltR c.kind).2))) = false) := Or.imp (fun h => Or.imp (fun h => Or.imp (fun h => Or.imp (fun h => (bnot_t h)) (fun h => (bnot_t h)) (bor_t h)) (fun h => (bnot_t h)) (bor_t h)) (fun h => (bnot_t h)) (bor_t h)) (fun h => (bnot_t h)) (bor_t hb133)
 refine WO.off rfl rfl hb133 rfl ?_
 refine WO.off rfl rfl hb133 rfl ?_
 refine WO.v (R.pickT rfl hb133 rfl) rfl ?_
 refine WO.nil ?_
 exact WX.cutDoneP 3 rfl rfl ⟨⟨_, rfl, vb (bor_on hb133)⟩, trivial⟩ (rfl)
 have phb133 : (((((ndF (c.client) ((!(decide (c.kind = (8 : Int))))) ((1 : Int)) ((8 : Int))) = true) ∧ ((ndF (c.seq) (((!(decide (c.kind = (8 : Int)))) && (!(decide (c.kind = (1 : Int)))))) ((1 : Int)) ((1048576 : Int))) = true)) ∧ ((ndF (c.set) (((decide (((2 : Int)) ≤ (c.kind))) && (decide ((c.kind) ≤ ((4 : Int)))))) ((1 : Int)) ((8 : Int))) = true)) ∧ ((ndF (c.id) ((((((decide (c.kind = (5 : Int)))) || (decide (c.kind = (7 : Int))))) || ((decide (((9 : Int)) ≤ (c.kind))) && (decide ((c.kind) ≤ ((11 : Int))))))) ((1 : Int)) ((1048576 : Int))) = true)) ∧ ((ndF (c.n) ((((decide (c.kind = (6 : Int))) || (decide (c.kind = (8 : Int)))) || (decide (c.kind = (12 : Int))))) (((cltR c.kind).1)) (((cltR c.kind).2))) = true) := ⟨⟨⟨⟨(bnot_f (bor_f (bor_f (bor_f (bor_f hb133).1).1).1).1), (bnot_f (bor_f (bor_f (bor_f (bor_f hb133).1).1).1).2)⟩, (bnot_f (bor_f (bor_f (bor_f hb133).1).1).2)⟩, (bnot_f (bor_f (bor_f hb133).1).2)⟩, (bnot_f (bor_f hb133).2)⟩
 refine WO.on rfl rfl hb133 ?_
 refine WO.v (R.move rfl) rfl ?_
 refine WO.on rfl rfl hb133 ?_
 refine WO.v (R.not rfl) rfl ?_
 refine WO.v (R.pickF rfl hb133 rfl) rfl ?_
 refine WO.nil ?_
 exact WX.cutDoneP 3 rfl rfl ⟨⟨_, rfl, vb (bor_off hb133)⟩, trivial⟩ (rfl)
 rintro _ rfl
 refine WO.v (R.move rfl) rfl ?_
 refine WO.cutP 3 [(130, (.bool (((((((!(ndF (c.client) ((!(decide (c.kind = (8 : Int))))) ((1 : Int)) ((8 : Int)))) || (!(ndF (c.seq) (((!(decide (c.kind = (8 : Int)))) && (!(decide (c.kind = (1 : Int)))))) ((1 : Int)) ((1048576 : Int))))) || (!(ndF (c.set) (((decide (((2 : Int)) ≤ (c.kind))) && (decide ((c.kind) ≤ ((4 : Int)))))) ((1 : Int)) ((8 : Int))))) || (!(ndF (c.id) ((((((decide (c.kind = (5 : Int)))) || (decide (c.kind = (7 : Int))))) || ((decide (((9 : Int)) ≤ (c.kind))) && (decide ((c.kind) ≤ ((11 : Int))))))) ((1 : Int)) ((1048576 : Int))))) || (!(ndF (c.n) ((((decide (c.kind = (6 : Int))) || (decide (c.kind = (8 : Int)))) || (decide (c.kind = (12 : Int))))) (((cltR c.kind).1)) (((cltR c.kind).2))))) || (!(chF c))) || (!((decide (((c.text.b.length : Nat) : Int) = (0 : Int))) || ((decide (c.kind = (11 : Int))) && (decide (((c.text.b.length : Nat) : Int) ≤ (16 : Int)))))))))] (fun w' => w125 = w') ?_ ?_
 rcases Bool.eq_false_or_eq_true ((((((!(ndF (c.client) ((!(decide (c.kind = (8 : Int))))) ((1 : Int)) ((8 : Int)))) || (!(ndF (c.seq) (((!(decide (c.kind = (8 : Int)))) && (!(decide (c.kind = (1 : Int)))))) ((1 : Int)) ((1048576 : Int))))) || (!(ndF (c.set) (((decide (((2 : Int)) ≤ (c.kind))) && (decide ((c.kind) ≤ ((4 : Int)))))) ((1 : Int)) ((8 : Int))))) || (!(ndF (c.id) ((((((decide (c.kind = (5 : Int)))) || (decide (c.kind = (7 : Int))))) || ((decide (((9 : Int)) ≤ (c.kind))) && (decide ((c.kind) ≤ ((11 : Int))))))) ((1 : Int)) ((1048576 : Int))))) || (!(ndF (c.n) ((((decide (c.kind = (6 : Int))) || (decide (c.kind = (8 : Int)))) || (decide (c.kind = (12 : Int))))) (((cltR c.kind).1)) (((cltR c.kind).2))))) || (!(chF c))) with hb134 | hb134
 have phb134 : ((((((ndF (c.client) ((!(decide (c.kind = (8 : Int))))) ((1 : Int)) ((8 : Int))) = false) ∨ ((ndF (c.seq) (((!(decide (c.kind = (8 : Int)))) && (!(decide (c.kind = (1 : Int)))))) ((1 : Int)) ((1048576 : Int))) = false)) ∨ ((ndF (c.set) (((decide (((2 : Int)) ≤ (c.kind))) && (decide ((c.kind) ≤ ((4 : Int)))))) ((1 : Int)) ((8 : Int))) = false)) ∨ ((ndF (c.id) ((((((decide (c.kind = (5 : Int)))) || (decide (c.kind = (7 : Int))))) || ((decide (((9 : Int)) ≤ (c.kind))) && (decide ((c.kind) ≤ ((11 : Int))))))) ((1 : Int)) ((1048576 : Int))) = false)) ∨ ((ndF (c.n) ((((decide (c.kind = (6 : Int))) || (decide (c.kind = (8 : Int)))) || (decide (c.kind = (12 : Int))))) (((cltR c.kind).1)) (((cltR c.kind).2))) = false)) ∨ ((chF c) = false) := Or.imp (fun h => Or.imp (fun h => Or.imp (fun h => Or.imp (fun h => Or.imp (fun h => (bnot_t h)) (fun h => (bnot_t h)) (bor_t h)) (fun h => (bnot_t h)) (bor_t h)) (fun h => (bnot_t h)) (bor_t h)) (fun h => (bnot_t h)) (bor_t h)) (fun h => (bnot_t h)) (bor_t hb134)
 refine WO.off rfl rfl hb134 rfl ?_
 refine WO.off rfl rfl hb134 rfl ?_
 refine WO.v (R.pickT rfl hb134 rfl) rfl ?_
 refine WO.nil ?_
 exact WX.cutDoneP 3 rfl rfl ⟨⟨_, rfl, vb (bor_on hb134)⟩, trivial⟩ (rfl)
 have phb134 : ((((((ndF (c.client) ((!(decide (c.kind = (8 : Int))))) ((1 : Int)) ((8 : Int))) = true) ∧ ((ndF (c.seq) (((!(decide (c.kind = (8 : Int)))) && (!(decide (c.kind = (1 : Int)))))) ((1 : Int)) ((1048576 : Int))) = true)) ∧ ((ndF (c.set) (((decide (((2 : Int)) ≤ (c.kind))) && (decide ((c.kind) ≤ ((4 : Int)))))) ((1 : Int)) ((8 : Int))) = true)) ∧ ((ndF (c.id) ((((((decide (c.kind = (5 : Int)))) || (decide (c.kind = (7 : Int))))) || ((decide (((9 : Int)) ≤ (c.kind))) && (decide ((c.kind) ≤ ((11 : Int))))))) ((1 : Int)) ((1048576 : Int))) = true)) ∧ ((ndF (c.n) ((((decide (c.kind = (6 : Int))) || (decide (c.kind = (8 : Int)))) || (decide (c.kind = (12 : Int))))) (((cltR c.kind).1)) (((cltR c.kind).2))) = true)) ∧ ((chF c) = true) := ⟨⟨⟨⟨⟨(bnot_f (bor_f (bor_f (bor_f (bor_f (bor_f hb134).1).1).1).1).1), (bnot_f (bor_f (bor_f (bor_f (bor_f (bor_f hb134).1).1).1).1).2)⟩, (bnot_f (bor_f (bor_f (bor_f (bor_f hb134).1).1).1).2)⟩, (bnot_f (bor_f (bor_f (bor_f hb134).1).1).2)⟩, (bnot_f (bor_f (bor_f hb134).1).2)⟩, (bnot_f (bor_f hb134).2)⟩
 refine WO.on rfl rfl hb134 ?_
 refine WO.v (R.move rfl) rfl ?_
 refine WO.on rfl rfl hb134 ?_
 refine WO.v (R.not rfl) rfl ?_
 refine WO.v (R.pickF rfl hb134 rfl) rfl ?_
 refine WO.nil ?_
 exact WX.cutDoneP 3 rfl rfl ⟨⟨_, rfl, vb (bor_off hb134)⟩, trivial⟩ (rfl)
 rintro _ rfl
 refine WO.nil ?_
 refine WX.sel [0, 1, 2, 4, 5, 6, 7, 8, 9, 10, 11, 12, 13, 14, 23, 28, 64, 66, 87, 130] rfl ?_
 refine WX.next ?_
 refine WC.cond rfl (fun q135 => ?_) (fun q135 => ?_)
 have p135 : (((((((ndF (c.client) ((!(decide (c.kind = (8 : Int))))) ((1 : Int)) ((8 : Int))) = false) ∨ ((ndF (c.seq) (((!(decide (c.kind = (8 : Int)))) && (!(decide (c.kind = (1 : Int)))))) ((1 : Int)) ((1048576 : Int))) = false)) ∨ ((ndF (c.set) (((decide (((2 : Int)) ≤ (c.kind))) && (decide ((c.kind) ≤ ((4 : Int)))))) ((1 : Int)) ((8 : Int))) = false)) ∨ ((ndF (c.id) ((((((decide (c.kind = (5 : Int)))) || (decide (c.kind = (7 : Int))))) || ((decide (((9 : Int)) ≤ (c.kind))) && (decide ((c.kind) ≤ ((11 : Int))))))) ((1 : Int)) ((1048576 : Int))) = false)) ∨ ((ndF (c.n) ((((decide (c.kind = (6 : Int))) || (decide (c.kind = (8 : Int)))) || (decide (c.kind = (12 : Int))))) (((cltR c.kind).1)) (((cltR c.kind).2))) = false)) ∨ ((chF c) = false)) ∨ ((¬ (((c.text.b.length : Nat) : Int) = (0 : Int))) ∧ ((¬ (c.kind = (11 : Int))) ∨ (¬ (((c.text.b.length : Nat) : Int) ≤ (16 : Int))))) := Or.imp (fun h => Or.imp (fun h => Or.imp (fun h => Or.imp (fun h => Or.imp (fun h => Or.imp (fun h => (bnot_t h)) (fun h => (bnot_t h)) (bor_t h)) (fun h => (bnot_t h)) (bor_t h)) (fun h => (bnot_t h)) (bor_t h)) (fun h => (bnot_t h)) (bor_t h)) (fun h => (bnot_t h)) (bor_t h)) (fun h => ⟨of_decide_eq_false (bor_f (bnot_t h)).1, Or.imp (fun h => of_decide_eq_false h) (fun h => of_decide_eq_false h) (band_f (bor_f (bnot_t h)).2)⟩) (bor_t q135)
 refine WC.seq ?_
 refine WC.region ?_
 refine WO.v (R.assign rfl) rfl ?_
 refine WO.nil ?_
 refine WX.sel [0, 1, 2, 4, 5, 6, 7, 8, 9, 10, 11, 12, 13, 14, 23, 28, 64, 66, 87, 130] rfl ?_
 refine WX.next ?_
 refine WC.ret ?_
 refine WX.thenRet ?_
 have e0 : (1 : Int) = (mayC c v) := by first | exact mayc1 q15 | exact mayc10 q15 (by omega) | exact mayc1f q15 (by omega) (by rw [← fits_ref, ← nots7]; exact q135) | exact mayc0 q15 (by omega) (by rw [← fits_ref, ← nots7]; exact q135)
 refine WX.ret1 Try.results28 rfl ?_
 exact ⟨by rw [e0], Kp.of_below b125⟩
 have p135 : (((((((ndF (c.client) ((!(decide (c.kind = (8 : Int))))) ((1 : Int)) ((8 : Int))) = true) ∧ ((ndF (c.seq) (((!(decide (c.kind = (8 : Int)))) && (!(decide (c.kind = (1 : Int)))))) ((1 : Int)) ((1048576 : Int))) = true)) ∧ ((ndF (c.set) (((decide (((2 : Int)) ≤ (c.kind))) && (decide ((c.kind) ≤ ((4 : Int)))))) ((1 : Int)) ((8 : Int))) = true)) ∧ ((ndF (c.id) ((((((decide (c.kind = (5 : Int)))) || (decide (c.kind = (7 : Int))))) || ((decide (((9 : Int)) ≤ (c.kind))) && (decide ((c.kind) ≤ ((11 : Int))))))) ((1 : Int)) ((1048576 : Int))) = true)) ∧ ((ndF (c.n) ((((decide (c.kind = (6 : Int))) || (decide (c.kind = (8 : Int)))) || (decide (c.kind = (12 : Int))))) (((cltR c.kind).1)) (((cltR c.kind).2))) = true)) ∧ ((chF c) = true)) ∧ ((((c.text.b.length : Nat) : Int) = (0 : Int)) ∨ ((c.kind = (11 : Int)) ∧ (((c.text.b.length : Nat) : Int) ≤ (16 : Int)))) := ⟨⟨⟨⟨⟨⟨(bnot_f (bor_f (bor_f (bor_f (bor_f (bor_f (bor_f q135).1).1).1).1).1).1), (bnot_f (bor_f (bor_f (bor_f (bor_f (bor_f (bor_f q135).1).1).1).1).1).2)⟩, (bnot_f (bor_f (bor_f (bor_f (bor_f (bor_f q135).1).1).1).1).2)⟩, (bnot_f (bor_f (bor_f (bor_f (bor_f q135).1).1).1).2)⟩, (bnot_f (bor_f (bor_f (bor_f q135).1).1).2)⟩, (bnot_f (bor_f (bor_f q135).1).2)⟩, Or.imp (fun h => of_decide_eq_true h) (fun h => ⟨of_decide_eq_true (band_t h).1, of_decide_eq_true (band_t h).2⟩) (bor_t (bnot_f (bor_f q135).2))⟩
 refine WC.skip ?_
 refine WX.next ?_
 refine WC.seq ?_
 refine WC.region ?_
 refine WO.v (R.assign rfl) rfl ?_
 refine WO.nil ?_
 refine WX.sel [0, 1, 2, 4, 5, 6, 7, 8, 9, 10, 11, 12, 13, 14, 23, 28, 64, 66, 87, 130] rfl ?_
 refine WX.next ?_
 refine WC.ret ?_
 have e0 : (0 : Int) = (mayC c v) := by first | exact mayc1 q15 | exact mayc10 q15 (by omega) | exact mayc1f q15 (by omega) (by rw [← fits_ref, ← nots7]; exact q135) | exact mayc0 q15 (by omega) (by rw [← fits_ref, ← nots7]; exact q135)
 refine WX.ret1 Try.results28 rfl ?_
 exact ⟨by rw [e0], Kp.of_below b125⟩

set_option maxRecDepth 100000 in
set_option maxHeartbeats 400000 in
theorem cloneInt_s {w : World} {a_l : Option Addr} {c_l : Nat} {l : List Int} (h_l : Sl false 0 w.heap.size w (.slice a_l l.length c_l) l) :
    Ret Try.prog 43 [.slice a_l l.length c_l].toArray w fun r w' => ∃ (ra0 : Option Addr) (rc0 : Nat), r = .slice ra0 (l).length rc0 ∧ Sl true w.heap.size w'.heap.size w' (.slice ra0 (l).length rc0) (l) ∧ Kp [] w w' := by
 have len_l : (l).length * 8 ≤ 140737488355328 := h_l.lenle
 refine Ret.enter Try.func43 rfl Try.ntmps43 rfl rfl ?_
 refine WC.sel [0] rfl ?_
 refine WC.seq ?_
 refine WC.region ?_
 refine WO.v (R.assign rfl) rfl ?_
 refine WO.nil ?_
 refine WX.sel [0, 2] rfl ?_
 refine WX.next ?_
 refine WC.seq ?_
 refine WC.seq ?_
 refine WC.region ?_
 refine WO.v (R.move rfl) rfl ?_
 refine WO.v (R.eqlNil rfl rfl Try.underlying22) rfl ?_
 refine WO.nil ?_
 refine WX.sel [0, 2, 4] rfl ?_
 refine WX.next ?_
 refine WC.cond rfl (fun q1 => ?_) (fun q1 => ?_)
 have p1 : (a_l.isNone) = true := q1
 refine WC.seq ?_
 refine WC.region ?_
 refine WO.v (R.assign rfl) rfl ?_
 refine WO.nil ?_
 refine WX.sel [0, 2, 4] rfl ?_
 refine WX.next ?_
 refine WC.ret ?_
 refine WX.thenRet ?_
 have e0 : ([] : List Int) = (l) := by first | exact (Sl.isNone h_l q1).symm | rfl
 have n0 : 0 = (l).length := by rw [← e0]; simp only [List.length_nil]
 have f0 : Sl true w.heap.size w.heap.size w (.slice none 0 0) ([] : List Int) := (Sl.nil _ _ _ _)
 refine WX.ret1 Try.results43 rfl ?_
 exact ⟨none, 0, by rw [n0], (sl_n f0 e0 n0), Kp.refl _⟩
 have p1 : (a_l.isNone) = false := q1
 refine WC.skip ?_
 refine WX.next ?_
 refine WC.seq ?_
 refine WC.region ?_
 refine WO.buildSlice (parts := []) (vss := []) Try.underlying22 sz3 zr3 rfl rfl (by simp) rfl rfl rfl ?_
 intro w2 n2
 have z2 := n2.lt
 have b2 := old_kp0 (Below.refl w.heap.size w) n2.kp
 have y2 := b2.size
 have ac3 : Ac (α := Int) (w.heap.size) true (w.heap.size) (w2.heap.size) (w2.heap.size) w2 (.slice (some ⟨w.heap.size, 0, none⟩) 0 0) ([] : List Int) := Ac.lit (α := Int) (ys := ([] : List Int)) (css := []) n2.blk (.nil) (by omega) (by omega) (by simp [maxLen]) (by show 0 * 8 ≤ 140737488355328; decide) rfl
 have lenac3 : ([] : List Int).length = 0 := rfl
 refine WO.v (R.move rfl) rfl ?_
 have ac9 : Ac (α := Int) (w2.heap.size) true (w.heap.size) (w2.heap.size) (w2.heap.size) w2 (.slice (some ⟨w.heap.size, 0, none⟩) 0 0) ([] : List Int) := Ac.empty _ _ _ _ _ _ _
 have bd4 := ac9.bd
 have ty10 := ac9.ty
 have lenac9 : (([] : List Int)).length * 8 ≤ 140737488355328 := ac9.lenle
 have lxac9 : (([] : List Int) ++ l).length = ([] : List Int).length + l.length := List.length_append
 refine WO.append rfl ac9 (by omega) (by omega) (by omega) rfl rfl (ys := l) (Src.flat (((sl_old h_l b2).mono (lo' := 0) (hi' := w2.heap.size) (Nat.zero_le _) (by omega))) (fun h => h)) (.inl rfl) Try.underlying22 inf3 rfl rfl rfl (by decide) (by omega) (by omega) rfl ?_
 intro a6 c7 w5 h8 k5 or11
 have z5 := k5.size
 have b5 := old_kp b2 k5 (fun g hg => by have := bd4 g hg; omega)
 have y5 := b5.size
 refine WO.v (R.assign rfl) rfl ?_
 refine WO.nil ?_
 refine WX.sel [0, 2, 4] rfl ?_
 refine WX.next ?_
 refine WC.ret ?_
 have e0 : (([] : List Int) ++ l) = (l) := by first | exact (Sl.isNone h_l q1).symm | rfl
 have n0 : (([] : List Int) ++ l).length = (l).length := by rw [e0]
 have f0 : Sl true w.heap.size w5.heap.size w5 (.slice a6 (([] : List Int) ++ l).length c7) (([] : List Int) ++ l) := ((h8).own (L := w.heap.size) (H := w5.heap.size) (by omega) (by omega) (by omega) (by omega))
 refine WX.ret1 Try.results43 rfl ?_
 exact ⟨a6, c7, by rw [n0], (sl_n f0 e0 n0), Kp.of_below b5⟩

set_option maxRecDepth 100000 in
set_option maxHeartbeats 400000 in
theorem proj_s {w : World} {cs_c : List Value} {c : Command} (v : Int) (h_c : Rp.rp false 0 w.heap.size w cs_c c) :
    Ret Try.prog 19 [.agg cs_c.toArray, .int .i64 v].toArray w fun r w' => ∃ (rs0 : List Value), r = .agg rs0.toArray ∧ Rp.rp false 0 w'.heap.size w' rs0 (projF c v) ∧ Kp [] w w' := by
 obtain ⟨a7, c8, rfl, i1, i2, i3, i4, i5, i6, s9, i10⟩ := Command.el h_c
 have ls9 : (c.chunks).length * 8 ≤ 140737488355328 := s9.lenle
 refine Ret.enter Try.func19 rfl Try.ntmps19 rfl rfl ?_
 refine WC.sel [0, 1] rfl ?_
 refine WC.seq ?_
 refine WC.region ?_
 refine WO.box rfl rfl rfl ?_
 intro w11 n11
 have z11 := n11.lt
 have b11 := old_kp0 (Below.refl w.heap.size w) n11.kp
 have y11 := b11.size
 refine WO.alloc zr24 rfl ?_
 intro w12 n12
 have z12 := n12.lt
 have b12 := old_kp0 b11 n12.kp
 have y12 := b12.size
 refine WO.nil ?_
 refine WX.sel [0, 1, 2, 4] rfl ?_
 refine WX.next ?_
 refine WC.seq ?_
 refine WC.region ?_
 refine WO.v (fa24_6 rfl) rfl ?_
 have B13 := (n11.blk).kp0 n12.kp
 refine WO.v (R.loadB rfl B13 rfl Try.underlying22 rfl) rfl ?_
 refine WO.c (E.call rfl rfl Try.func43 rfl rfl) (cloneInt_s (l := c.chunks) (a_l := a7) (c_l := c8) ((sl_old s9 b12).mono (lo' := 0) (hi' := w12.heap.size) (Nat.zero_le _) (by omega))) rfl ?_
 rintro _ w14 ⟨a15, c16, rfl, s17, k14⟩
 have ls17 : ((c.chunks)).length * 8 ≤ 140737488355328 := s17.lenle
 have z14 := k14.size
 have b14 := old_kp0 b12 k14
 have y14 := b14.size
 refine WO.v (fa24_6 rfl) rfl ?_
 have B18 := (B13).kp0 k14
 refine WO.storeB (cs' := [_, _, _, _, _, _, _, _]) rfl rfl B18 rfl rfl sz22 rfl ?_
 intro w19 k19 B19 z_19
 have z19 := z_19.symm
 have b19 := old_kp b14 k19 (mem1 (by omega))
 have y19 := b19.size
 refine WO.nil ?_
 refine WX.sel [0, 1, 2, 4] rfl ?_
 refine WX.next ?_
 refine WC.seq ?_
 refine WC.seq ?_
 refine WC.region ?_
 refine WO.v (R.move rfl) rfl ?_
 refine WO.v (R.lss rfl rfl) rfl ?_
 refine WO.nil ?_
 refine WX.sel [0, 1, 2, 4, 10] rfl ?_
 refine WX.next ?_
 refine WC.cond rfl (fun q20 => ?_) (fun q20 => ?_)
 have p20 : v < (3 : Int) := of_decide_eq_true q20
 refine WC.region ?_
 refine WO.v (fa24_7 rfl) rfl ?_
 refine WO.storeB (cs' := [_, _, _, _, _, _, _, _]) rfl rfl B19 rfl rfl sz9 rfl ?_
 intro w21 k21 B21 z_21
 have z21 := z_21.symm
 have b21 := old_kp b19 k21 (mem1 (by omega))
 have y21 := b21.size
 refine WO.nil ?_
 refine WX.sel [0, 1, 2, 4, 10] rfl ?_
 refine WX.next ?_
 refine WC.seq ?_
 refine WC.region ?_
 refine WO.v (R.loadBN (vs := [_, _, _, _, _, _, _, _]) rfl B21 rfl Try.underlying24 rfl sz24) rfl ?_
 have B22 := (((n12.blk).kp0 k14).kp1 k19 (by omega)).kp1 k21 (by omega)
 refine WO.storeBN rfl rfl B22 rfl (by first | (simp [Value.oneCell']; done) | simp [Value.oneCell', Str.val]) sz24 ?_
 intro w23 k23 B23 z_23
 have z23 := z_23.symm
 have b23 := old_kp b21 k23 (mem1 (by omega))
 have y23 := b23.size
 refine WO.nil ?_
 refine WX.sel [0, 1, 2, 4, 10] rfl ?_
 refine WX.next ?_
 refine WC.ret ?_
 have e0 : (⟨c.kind, c.client, c.seq, c.set, c.id, c.n, ((c.chunks)), (⟨[]⟩ : Str)⟩ : Command) = (projF c v) := by first | (rw [projF, if_pos (by assumption)]; done) | (rw [projF, if_neg (by assumption)]; done)
 have f0 : Rp.rp false 0 w23.heap.size w23 [(.int .i64 c.kind), (.int .i64 c.client), (.int .i64 c.seq), (.int .i64 c.set), (.int .i64 c.id), (.int .i64 c.n), (.slice a15 ((c.chunks)).length c16), (⟨[]⟩ : Str).val] (⟨c.kind, c.client, c.seq, c.set, c.id, c.n, ((c.chunks)), (⟨[]⟩ : Str)⟩ : Command) := (Command.mk_ (i1) (i2) (i3) (i4) (i5) (i6) (((sl_kp (sl_kp (sl_kp (s17) k19 (by omega) (mem1 (by omega))) k21 (by omega) (mem1 (by omega))) k23 (by omega) (mem1 (by omega))).weak).mono (lo' := 0) (hi' := w23.heap.size) (Nat.zero_le _) (by omega)) (by simp))
 refine WX.retC Try.results19 rfl B23 Try.underlying24 rfl sz24 ?_
 exact ⟨[(.int .i64 c.kind), (.int .i64 c.client), (.int .i64 c.seq), (.int .i64 c.set), (.int .i64 c.id), (.int .i64 c.n), (.slice a15 ((c.chunks)).length c16), (⟨[]⟩ : Str).val], by rfl, (Eq.mp (congrArg (Rp.rp _ _ _ _ _) e0) f0), Kp.of_below b23⟩
 have p20 : ¬ (v < (3 : Int)) := of_decide_eq_false q20
 refine WC.skip ?_
 refine WX.next ?_
 refine WC.seq ?_
 refine WC.region ?_
 refine WO.v (R.loadBN (vs := [_, _, _, _, _, _, _, _]) rfl B19 rfl Try.underlying24 rfl sz24) rfl ?_
 have B24 := ((n12.blk).kp0 k14).kp1 k19 (by omega)
 refine WO.storeBN rfl rfl B24 rfl (by simp [Value.oneCell', Str.val]) sz24 ?_
 intro w25 k25 B25 z_25
 have z25 := z_25.symm
 have b25 := old_kp b19 k25 (mem1 (by omega))
 have y25 := b25.size
 refine WO.nil ?_
 refine WX.sel [0, 1, 2, 4, 10] rfl ?_
 refine WX.next ?_
 refine WC.ret ?_
 have e0 : (⟨c.kind, c.client, c.seq, c.set, c.id, c.n, ((c.chunks)), c.text⟩ : Command) = (projF c v) := by first | (rw [projF, if_pos (by assumption)]; done) | (rw [projF, if_neg (by assumption)]; done)
 have f0 : Rp.rp false 0 w25.heap.size w25 [(.int .i64 c.kind), (.int .i64 c.client), (.int .i64 c.seq), (.int .i64 c.set), (.int .i64 c.id), (.int .i64 c.n), (.slice a15 ((c.chunks)).length c16), c.text.val] (⟨c.kind, c.client, c.seq, c.set, c.id, c.n, ((c.chunks)), c.text⟩ : Command) := (Command.mk_ (i1) (i2) (i3) (i4) (i5) (i6) (((sl_kp (sl_kp (s17) k19 (by omega) (mem1 (by omega))) k25 (by omega) (mem1 (by omega))).weak).mono (lo' := 0) (hi' := w25.heap.size) (Nat.zero_le _) (by omega)) i10)
 refine WX.retC Try.results19 rfl B25 Try.underlying24 rfl sz24 ?_
 exact ⟨[(.int .i64 c.kind), (.int .i64 c.client), (.int .i64 c.seq), (.int .i64 c.set), (.int .i64 c.id), (.int .i64 c.n), (.slice a15 ((c.chunks)).length c16), c.text.val], by rfl, (Eq.mp (congrArg (Rp.rp _ _ _ _ _) e0) f0), Kp.of_below b25⟩

set_option maxRecDepth 100000 in
set_option maxHeartbeats 400000 in
theorem projR_s {w : World} {cs_c : List Value} {c : Command} (v : Int) (h_c : Rp.rp false 0 w.heap.size w cs_c c) :
    Ret Try.prog 26 [.agg cs_c.toArray, .int .i64 v].toArray w fun r w' => ∃ (rs0 : List Value), r = .agg rs0.toArray ∧ Rp.rp false 0 w'.heap.size w' rs0 (projF c v) ∧ Kp [] w w' := by
 obtain ⟨a7, c8, rfl, i1, i2, i3, i4, i5, i6, s9, i10⟩ := Command.el h_c
 have ls9 : (c.chunks).length * 8 ≤ 140737488355328 := s9.lenle
 refine Ret.enter Try.func26 rfl Try.ntmps26 rfl rfl ?_
 refine WC.sel [0, 1] rfl ?_
 refine WC.seq ?_
 refine WC.region ?_
 refine WO.box rfl rfl rfl ?_
 intro w11 n11
 have z11 := n11.lt
 have b11 := old_kp0 (Below.refl w.heap.size w) n11.kp
 have y11 := b11.size
 refine WO.alloc zr24 rfl ?_
 intro w12 n12
 have z12 := n12.lt
 have b12 := old_kp0 b11 n12.kp
 have y12 := b12.size
 refine WO.nil ?_
 refine WX.sel [0, 1, 2, 4] rfl ?_
 refine WX.next ?_
 refine WC.seq ?_
 refine WC.seq ?_
 refine WC.region ?_
 refine WO.v (R.move rfl) rfl ?_
 refine WO.v (R.lss rfl rfl) rfl ?_
 refine WO.nil ?_
 refine WX.sel [0, 1, 2, 4, 6] rfl ?_
 refine WX.next ?_
 refine WC.cond rfl (fun q13 => ?_) (fun q13 => ?_)
 have p13 : v < (3 : Int) := of_decide_eq_true q13
 refine WC.region ?_
 refine WO.v (fa24_7 rfl) rfl ?_
 have B14 := (n11.blk).kp0 n12.kp
 refine WO.storeB (cs' := [_, _, _, _, _, _, _, _]) rfl rfl B14 rfl rfl sz9 rfl ?_
 intro w15 k15 B15 z_15
 have z15 := z_15.symm
 have b15 := old_kp b12 k15 (mem1 (by omega))
 have y15 := b15.size
 refine WO.nil ?_
 refine WX.sel [0, 1, 2, 4, 6] rfl ?_
 refine WX.next ?_
 refine WC.seq ?_
 refine WC.region ?_
 refine WO.v (R.loadBN (vs := [_, _, _, _, _, _, _, _]) rfl B15 rfl Try.underlying24 rfl sz24) rfl ?_
 have B16 := (n12.blk).kp1 k15 (by omega)
 refine WO.storeBN rfl rfl B16 rfl (by first | (simp [Value.oneCell']; done) | simp [Value.oneCell', Str.val]) sz24 ?_
 intro w17 k17 B17 z_17
 have z17 := z_17.symm
 have b17 := old_kp b15 k17 (mem1 (by omega))
 have y17 := b17.size
 refine WO.nil ?_
 refine WX.sel [0, 1, 2, 4, 6] rfl ?_
 refine WX.next ?_
 refine WC.ret ?_
 have e0 : (⟨c.kind, c.client, c.seq, c.set, c.id, c.n, c.chunks, (⟨[]⟩ : Str)⟩ : Command) = (projF c v) := by first | (rw [projF, if_pos (by assumption)]; done) | (rw [projF, if_neg (by assumption)]; done)
 have f0 : Rp.rp false 0 w17.heap.size w17 [(.int .i64 c.kind), (.int .i64 c.client), (.int .i64 c.seq), (.int .i64 c.set), (.int .i64 c.id), (.int .i64 c.n), (.slice a7 c.chunks.length c8), (⟨[]⟩ : Str).val] (⟨c.kind, c.client, c.seq, c.set, c.id, c.n, c.chunks, (⟨[]⟩ : Str)⟩ : Command) := (Command.mk_ (i1) (i2) (i3) (i4) (i5) (i6) ((sl_old s9 b17).mono (lo' := 0) (hi' := w17.heap.size) (Nat.zero_le _) (by omega)) (by simp))
 refine WX.retC Try.results26 rfl B17 Try.underlying24 rfl sz24 ?_
 exact ⟨[(.int .i64 c.kind), (.int .i64 c.client), (.int .i64 c.seq), (.int .i64 c.set), (.int .i64 c.id), (.int .i64 c.n), (.slice a7 c.chunks.length c8), (⟨[]⟩ : Str).val], by rfl, (Eq.mp (congrArg (Rp.rp _ _ _ _ _) e0) f0), Kp.of_below b17⟩
 have p13 : ¬ (v < (3 : Int)) := of_decide_eq_false q13
 refine WC.skip ?_
 refine WX.next ?_
 refine WC.seq ?_
 refine WC.region ?_
 have B18 := (n11.blk).kp0 n12.kp
 refine WO.v (R.loadBN (vs := [_, _, _, _, _, _, _, _]) rfl B18 rfl Try.underlying24 rfl sz24) rfl ?_
 refine WO.storeBN rfl rfl n12.blk rfl (by simp [Value.oneCell', Str.val]) sz24 ?_
 intro w19 k19 B19 z_19
 have z19 := z_19.symm
 have b19 := old_kp b12 k19 (mem1 (by omega))
 have y19 := b19.size
 refine WO.nil ?_
 refine WX.sel [0, 1, 2, 4, 6] rfl ?_
 refine WX.next ?_
 refine WC.ret ?_
 have e0 : c = (projF c v) := by first | (rw [projF, if_pos (by assumption)]; done) | (rw [projF, if_neg (by assumption)]; done)
 have f0 : Rp.rp false 0 w19.heap.size w19 [(.int .i64 c.kind), (.int .i64 c.client), (.int .i64 c.seq), (.int .i64 c.set), (.int .i64 c.id), (.int .i64 c.n), (.slice a7 c.chunks.length c8), c.text.val] c := (Command.mk_ (i1) (i2) (i3) (i4) (i5) (i6) ((sl_old s9 b19).mono (lo' := 0) (hi' := w19.heap.size) (Nat.zero_le _) (by omega)) i10)
 refine WX.retC Try.results26 rfl B19 Try.underlying24 rfl sz24 ?_
 exact ⟨[(.int .i64 c.kind), (.int .i64 c.client), (.int .i64 c.seq), (.int .i64 c.set), (.int .i64 c.id), (.int .i64 c.n), (.slice a7 c.chunks.length c8), c.text.val], by rfl, (Eq.mp (congrArg (Rp.rp _ _ _ _ _) e0) f0), Kp.of_below b19⟩

set_option maxRecDepth 100000 in
set_option maxHeartbeats 400000 in
theorem same5_s {w : World} {cs_a : List Value} {a : Command} {cs_b : List Value} {b : Command} (h_a : Rp.rp false 0 w.heap.size w cs_a a) (h_b : Rp.rp false 0 w.heap.size w cs_b b) :
    Ret Try.prog 16 [.agg cs_a.toArray, .agg cs_b.toArray].toArray w fun r w' => r = .bool (decide (a = b)) ∧ Kp [] w w' := by
 obtain ⟨a7, c8, rfl, i1, i2, i3, i4, i5, i6, s9, i10⟩ := Command.el h_a
 have ls9 : (a.chunks).length * 8 ≤ 140737488355328 := s9.lenle
 obtain ⟨a17, c18, rfl, i11, i12, i13, i14, i15, i16, s19, i20⟩ := Command.el h_b
 have ls19 : (b.chunks).length * 8 ≤ 140737488355328 := s19.lenle
 refine Ret.enter Try.func16 rfl Try.ntmps16 rfl rfl ?_
 refine WC.sel [0, 1] rfl ?_
 refine WC.seq ?_
 refine WC.region ?_
 refine WO.box rfl rfl rfl ?_
 intro w21 n21
 have z21 := n21.lt
 have b21 := old_kp0 (Below.refl w.heap.size w) n21.kp
 have y21 := b21.size
 refine WO.box rfl rfl rfl ?_
 intro w22 n22
 have z22 := n22.lt
 have b22 := old_kp0 b21 n22.kp
 have y22 := b22.size
 refine WO.v (R.assign rfl) rfl ?_
 refine WO.nil ?_
 refine WX.sel [0, 1, 2, 3, 4] rfl ?_
 refine WX.next ?_
 refine WC.seq ?_
 refine WC.region ?_
 refine WO.v (fa24_6 rfl) rfl ?_
 have B23 := (n21.blk).kp0 n22.kp
 refine WO.v (R.loadB rfl B23 rfl Try.underlying22 rfl) rfl ?_
 refine WO.v (fa24_6 rfl) rfl ?_
 refine WO.v (R.loadB rfl n22.blk rfl Try.underlying22 rfl) rfl ?_
 refine WO.c (E.call rfl rfl Try.func22 rfl rfl) (ints_s (l := a.chunks) (a_l := a7) (c_l := c8) (m := b.chunks) (a_m := a17) (c_m := c18) ((sl_old s9 b22).mono (lo' := 0) (hi' := w22.heap.size) (Nat.zero_le _) (by omega)) ((sl_old s19 b22).mono (lo' := 0) (hi' := w22.heap.size) (Nat.zero_le _) (by omega))) rfl ?_
 rintro _ w24 ⟨rfl, k24⟩
 have z24 := k24.size
 have b24 := old_kp0 b22 k24
 have y24 := b24.size
 refine WO.v (R.assign rfl) rfl ?_
 refine WO.nil ?_
 refine WX.sel [0, 1, 2, 3, 4, 5] rfl ?_
 refine WX.next ?_
 refine WC.seq ?_
 refine WC.region ?_
 refine WO.v (R.move rfl) rfl ?_
 refine WO.v (R.move rfl) rfl ?_
 refine WO.cutP 6 [(18, (.bool ((decide ((a.chunks) = (b.chunks))) && (decide (a.kind = b.kind)))))] (fun w' => w24 = w') ?_ ?_
 rcases Bool.eq_false_or_eq_true (decide ((a.chunks) = (b.chunks))) with hb25 | hb25
 have phb25 : (decide ((a.chunks) = (b.chunks))) = true := hb25
 refine WO.on rfl rfl hb25 ?_
 refine WO.v (fa24_0 rfl) rfl ?_
 refine WO.on rfl rfl hb25 ?_
 have B26 := (B23).kp0 k24
 refine WO.v (R.loadB rfl B26 rfl Try.underlying3 rfl) rfl ?_
 refine WO.on rfl rfl hb25 ?_
 refine WO.v (fa24_0 rfl) rfl ?_
 refine WO.on rfl rfl hb25 ?_
 have B27 := (n22.blk).kp0 k24
 refine WO.v (R.loadB rfl B27 rfl Try.underlying3 rfl) rfl ?_
 refine WO.on rfl rfl hb25 ?_
 refine WO.v (R.eql rfl rfl) rfl ?_
 refine WO.v (R.pickT rfl hb25 rfl) rfl ?_
 refine WO.nil ?_
 exact WX.cutDoneP 6 rfl rfl ⟨⟨_, rfl, vb (band_on hb25)⟩, trivial⟩ (rfl)
 have phb25 : (decide ((a.chunks) = (b.chunks))) = false := hb25
 refine WO.off rfl rfl hb25 rfl ?_
 refine WO.off rfl rfl hb25 rfl ?_
 refine WO.off rfl rfl hb25 rfl ?_
 refine WO.off rfl rfl hb25 rfl ?_
 refine WO.off rfl rfl hb25 rfl ?_
 refine WO.v (R.pickF rfl hb25 rfl) rfl ?_
 refine WO.nil ?_
 exact WX.cutDoneP 6 rfl rfl ⟨⟨_, rfl, vb (band_off hb25)⟩, trivial⟩ (rfl)
 rintro _ rfl
 refine WO.v (R.move rfl) rfl ?_
 refine WO.cutP 6 [(25, (.bool (((decide ((a.chunks) = (b.chunks))) && (decide (a.kind = b.kind))) && (decide (a.client = b.client)))))] (fun w' => w24 = w') ?_ ?_
 rcases Bool.eq_false_or_eq_true ((decide ((a.chunks) = (b.chunks))) && (decide (a.kind = b.kind))) with hb28 | hb28
 have phb28 : ((decide ((a.chunks) = (b.chunks))) = true) ∧ (a.kind = b.kind) := ⟨(band_t hb28).1, of_decide_eq_true (band_t hb28).2⟩
 refine WO.on rfl rfl hb28 ?_
 refine WO.v (fa24_1 rfl) rfl ?_
 refine WO.on rfl rfl hb28 ?_
 have B29 := (B23).kp0 k24
 refine WO.v (R.loadB rfl B29 rfl Try.underlying3 rfl) rfl ?_
 refine WO.on rfl rfl hb28 ?_
 refine WO.v (fa24_1 rfl) rfl ?_
 refine WO.on rfl rfl hb28 ?_
 have B30 := (n22.blk).kp0 k24
 refine WO.v (R.loadB rfl B30 rfl Try.underlying3 rfl) rfl ?_
 refine WO.on rfl rfl hb28 ?_
 refine WO.v (R.eql rfl rfl) rfl ?_
 refine WO.v (R.pickT rfl hb28 rfl) rfl ?_
 refine WO.nil ?_
 exact WX.cutDoneP 6 rfl rfl ⟨⟨_, rfl, vb (band_on hb28)⟩, trivial⟩ (rfl)
 have phb28 : ((decide ((a.chunks) = (b.chunks))) = false) ∨ (¬ (a.kind = b.kind)) := Or.imp (fun h => h) (fun h => of_decide_eq_false h) (band_f hb28)
 refine WO.off rfl rfl hb28 rfl ?_
 refine WO.off rfl rfl hb28 rfl ?_
 refine WO.off rfl rfl hb28 rfl ?_
 refine WO.off rfl rfl hb28 rfl ?_
 refine WO.off rfl rfl hb28 rfl ?_
 refine WO.v (R.pickF rfl hb28 rfl) rfl ?_
 refine WO.nil ?_
 exact WX.cutDoneP 6 rfl rfl ⟨⟨_, rfl, vb (band_off hb28)⟩, trivial⟩ (rfl)
 rintro _ rfl
 refine WO.v (R.move rfl) rfl ?_
 refine WO.cutP 6 [(32, (.bool ((((decide ((a.chunks) = (b.chunks))) && (decide (a.kind = b.kind))) && (decide (a.client = b.client))) && (decide (a.seq = b.seq)))))] (fun w' => w24 = w') ?_ ?_
 rcases Bool.eq_false_or_eq_true (((decide ((a.chunks) = (b.chunks))) && (decide (a.kind = b.kind))) && (decide (a.client = b.client))) with hb31 | hb31
 have phb31 : (((decide ((a.chunks) = (b.chunks))) = true) ∧ (a.kind = b.kind)) ∧ (a.client = b.client) := ⟨⟨(band_t (band_t hb31).1).1, of_decide_eq_true (band_t (band_t hb31).1).2⟩, of_decide_eq_true (band_t hb31).2⟩
 refine WO.on rfl rfl hb31 ?_
 refine WO.v (fa24_2 rfl) rfl ?_
 refine WO.on rfl rfl hb31 ?_
 have B32 := (B23).kp0 k24
 refine WO.v (R.loadB rfl B32 rfl Try.underlying3 rfl) rfl ?_
 refine WO.on rfl rfl hb31 ?_
 refine WO.v (fa24_2 rfl) rfl ?_
 refine WO.on rfl rfl hb31 ?_
 have B33 := (n22.blk).kp0 k24
 refine WO.v (R.loadB rfl B33 rfl Try.underlying3 rfl) rfl ?_
 refine WO.on rfl rfl hb31 ?_
 refine WO.v (R.eql rfl rfl) rfl ?_
 refine WO.v (R.pickT rfl hb31 rfl) rfl ?_
 refine WO.nil ?_
 exact WX.cutDoneP 6 rfl rfl ⟨⟨_, rfl, vb (band_on hb31)⟩, trivial⟩ (rfl)
 have phb31 : (((decide ((a.chunks) = (b.chunks))) = false) ∨ (¬ (a.kind = b.kind))) ∨ (¬ (a.client = b.client)) := Or.imp (fun h => Or.imp (fun h => h) (fun h => of_decide_eq_false h) (band_f h)) (fun h => of_decide_eq_false h) (band_f hb31)
 refine WO.off rfl rfl hb31 rfl ?_
 refine WO.off rfl rfl hb31 rfl ?_
 refine WO.off rfl rfl hb31 rfl ?_
 refine WO.off rfl rfl hb31 rfl ?_
 refine WO.off rfl rfl hb31 rfl ?_
 refine WO.v (R.pickF rfl hb31 rfl) rfl ?_
 refine WO.nil ?_
 exact WX.cutDoneP 6 rfl rfl ⟨⟨_, rfl, vb (band_off hb31)⟩, trivial⟩ (rfl)
 rintro _ rfl
 refine WO.v (R.move rfl) rfl ?_
 refine WO.cutP 6 [(39, (.bool (((((decide ((a.chunks) = (b.chunks))) && (decide (a.kind = b.kind))) && (decide (a.client = b.client))) && (decide (a.seq = b.seq))) && (decide (a.set = b.set)))))] (fun w' => w24 = w') ?_ ?_
 rcases Bool.eq_false_or_eq_true ((((decide ((a.chunks) = (b.chunks))) && (decide (a.kind = b.kind))) && (decide (a.client = b.client))) && (decide (a.seq = b.seq))) with hb34 | hb34
 have phb34 : ((((decide ((a.chunks) = (b.chunks))) = true) ∧ (a.kind = b.kind)) ∧ (a.client = b.client)) ∧ (a.seq = b.seq) := ⟨⟨⟨(band_t (band_t (band_t hb34).1).1).1, of_decide_eq_true (band_t (band_t (band_t hb34).1).1).2⟩, of_decide_eq_true (band_t (band_t hb34).1).2⟩, of_decide_eq_true (band_t hb34).2⟩
 refine WO.on rfl rfl hb34 ?_
 refine WO.v (fa24_3 rfl) rfl ?_
 refine WO.on rfl rfl hb34 ?_
 have B35 := (B23).kp0 k24
 refine WO.v (R.loadB rfl B35 rfl Try.underlying3 rfl) rfl ?_
 refine WO.on rfl rfl hb34 ?_
 refine WO.v (fa24_3 rfl) rfl ?_
 refine WO.on rfl rfl hb34 ?_
 have B36 := (n22.blk).kp0 k24
 refine WO.v (R.loadB rfl B36 rfl Try.underlying3 rfl) rfl ?_
 refine WO.on rfl rfl hb34 ?_
 refine WO.v (R.eql rfl rfl) rfl ?_
 refine WO.v (R.pickT rfl hb34 rfl) rfl ?_
 refine WO.nil ?_
 exact WX.cutDoneP 6 rfl rfl ⟨⟨_, rfl, vb (band_on hb34)⟩, trivial⟩ (rfl)
 have phb34 : ((((decide ((a.chunks) = (b.chunks))) = false) ∨ (¬ (a.kind = b.kind))) ∨ (¬ (a.client = b.client))) ∨ (¬ (a.seq = b.seq)) := Or.imp (fun h => Or.imp (fun h => Or.imp (fun h => h) (fun h => of_decide_eq_false h) (band_f h)) (fun h => of_decide_eq_false h) (band_f h)) (fun h => of_decide_eq_false h) (band_f hb34)
 refine WO.off rfl rfl hb34 rfl ?_
 refine WO.off rfl rfl hb34 rfl ?_
 refine WO.off rfl rfl hb34 rfl ?_
 refine WO.off rfl rfl hb34 rfl ?_
 refine WO.off rfl rfl hb34 rfl ?_
 refine WO.v (R.pickF rfl hb34 rfl) rfl ?_
 refine WO.nil ?_
 exact WX.cutDoneP 6 rfl rfl ⟨⟨_, rfl, vb (band_off hb34)⟩, trivial⟩ (rfl)
 rintro _ rfl
 refine WO.v (R.move rfl) rfl ?_
 refine WO.cutP 6 [(46, (.bool ((((((decide ((a.chunks) = (b.chunks))) && (decide (a.kind = b.kind))) && (decide (a.client = b.client))) && (decide (a.seq = b.seq))) && (decide (a.set = b.set))) && (decide (a.id = b.id)))))] (fun w' => w24 = w') ?_ ?_
 rcases Bool.eq_false_or_eq_true (((((decide ((a.chunks) = (b.chunks))) && (decide (a.kind = b.kind))) && (decide (a.client = b.client))) && (decide (a.seq = b.seq))) && (decide (a.set = b.set))) with hb37 | hb37
 have phb37 : (((((decide ((a.chunks) = (b.chunks))) = true) ∧ (a.kind = b.kind)) ∧ (a.client = b.client)) ∧ (a.seq = b.seq)) ∧ (a.set = b.set) := ⟨⟨⟨⟨(band_t (band_t (band_t (band_t hb37).1).1).1).1, of_decide_eq_true (band_t (band_t (band_t (band_t hb37).1).1).1).2⟩, of_decide_eq_true (band_t (band_t (band_t hb37).1).1).2⟩, of_decide_eq_true (band_t (band_t hb37).1).2⟩, of_decide_eq_true (band_t hb37).2⟩
 refine WO.on rfl rfl hb37 ?_
 refine WO.v (fa24_4 rfl) rfl ?_
 refine WO.on rfl rfl hb37 ?_
 have B38 := (B23).kp0 k24
 refine WO.v (R.loadB rfl B38 rfl Try.underlying3 rfl) rfl ?_
 refine WO.on rfl rfl hb37 ?_
 refine WO.v (fa24_4 rfl) rfl ?_
 refine WO.on rfl rfl hb37 ?_
 have B39 := (n22.blk).kp0 k24
 refine WO.v (R.loadB rfl B39 rfl Try.underlying3 rfl) rfl ?_
 refine WO.on rfl rfl hb37 ?_
 refine WO.v (R.eql rfl rfl) rfl ?_
 refine WO.v (R.pickT rfl hb37 rfl) rfl ?_
 refine WO.nil ?_
 exact WX.cutDoneP 6 rfl rfl ⟨⟨_, rfl, vb (band_on hb37)⟩, trivial⟩ (rfl)
 have phb37 : (((((decide ((a.chunks) = (b.chunks))) = false) ∨ (¬ (a.kind = b.kind))) ∨ (¬ (a.client = b.client))) ∨ (¬ (a.seq = b.seq))) ∨ (¬ (a.set = b.set)) := Or.imp (fun h => Or.imp (fun h => Or.imp (fun h => Or.imp (fun h => h) (fun h => of_decide_eq_false h) (band_f h)) (fun h => of_decide_eq_false h) (band_f h)) (fun h => of_decide_eq_false h) (band_f h)) (fun h => of_decide_eq_false h) (band_f hb37)
 refine WO.off rfl rfl hb37 rfl ?_
 refine WO.off rfl rfl hb37 rfl ?_
 refine WO.off rfl rfl hb37 rfl ?_
 refine WO.off rfl rfl hb37 rfl ?_
 refine WO.off rfl rfl hb37 rfl ?_
 refine WO.v (R.pickF rfl hb37 rfl) rfl ?_
 refine WO.nil ?_
 exact WX.cutDoneP 6 rfl rfl ⟨⟨_, rfl, vb (band_off hb37)⟩, trivial⟩ (rfl)
 rintro _ rfl
 refine WO.v (R.move rfl) rfl ?_
 refine WO.cutP 6 [(53, (.bool (((((((decide ((a.chunks) = (b.chunks))) && (decide (a.kind = b.kind))) && (decide (a.client = b.client))) && (decide (a.seq = b.seq))) && (decide (a.set = b.set))) && (decide (a.id = b.id))) && (decide (a.n = b.n)))))] (fun w' => w24 = w') ?_ ?_
 rcases Bool.eq_false_or_eq_true ((((((decide ((a.chunks) = (b.chunks))) && (decide (a.kind = b.kind))) && (decide (a.client = b.client))) && (decide (a.seq = b.seq))) && (decide (a.set = b.set))) && (decide (a.id = b.id))) with hb40 | hb40
 have phb40 : ((((((decide ((a.chunks) = (b.chunks))) = true) ∧ (a.kind = b.kind)) ∧ (a.client = b.client)) ∧ (a.seq = b.seq)) ∧ (a.set = b.set)) ∧ (a.id = b.id) := ⟨⟨⟨⟨⟨(band_t (band_t (band_t (band_t (band_t hb40).1).1).1).1).1, of_decide_eq_true (band_t (band_t (band_t (band_t (band_t hb40).1).1).1).1).2⟩, of_decide_eq_true (band_t (band_t (band_t (band_t hb40).1).1).1).2⟩, of_decide_eq_true (band_t (band_t (band_t hb40).1).1).2⟩, of_decide_eq_true (band_t (band_t hb40).1).2⟩, of_decide_eq_true (band_t hb40).2⟩
 refine WO.on rfl rfl hb40 ?_
 refine WO.v (fa24_5 rfl) rfl ?_
 refine WO.on rfl rfl hb40 ?_
 have B41 := (B23).kp0 k24
 refine WO.v (R.loadB rfl B41 rfl Try.underlying3 rfl) rfl ?_
 refine WO.on rfl rfl hb40 ?_
 refine WO.v (fa24_5 rfl) rfl ?_
 refine WO.on rfl rfl hb40 ?_
 have B42 := (n22.blk).kp0 k24
 refine WO.v (R.loadB rfl B42 rfl Try.underlying3 rfl) rfl ?_
 refine WO.on rfl rfl hb40 ?_
 refine WO.v (R.eql rfl rfl) rfl ?_
 refine WO.v (R.pickT rfl hb40 rfl) rfl ?_
 refine WO.nil ?_
 exact WX.cutDoneP 6 rfl rfl ⟨⟨_, rfl, vb (band_on hb40)⟩, trivial⟩ (rfl)
 have phb40 : ((((((decide ((a.chunks) = (b.chunks))) = false) ∨ (¬ (a.kind = b.kind))) ∨ (¬ (a.client = b.client))) ∨ (¬ (a.seq = b.seq))) ∨ (¬ (a.set = b.set))) ∨ (¬ (a.id = b.id)) := Or.imp (fun h => Or.imp (fun h => Or.imp (fun h => Or.imp (fun h => Or.imp (fun h => h) (fun h => of_decide_eq_false h) (band_f h)) (fun h => of_decide_eq_false h) (band_f h)) (fun h => of_decide_eq_false h) (band_f h)) (fun h => of_decide_eq_false h) (band_f h)) (fun h => of_decide_eq_false h) (band_f hb40)
 refine WO.off rfl rfl hb40 rfl ?_
 refine WO.off rfl rfl hb40 rfl ?_
 refine WO.off rfl rfl hb40 rfl ?_
 refine WO.off rfl rfl hb40 rfl ?_
 refine WO.off rfl rfl hb40 rfl ?_
 refine WO.v (R.pickF rfl hb40 rfl) rfl ?_
 refine WO.nil ?_
 exact WX.cutDoneP 6 rfl rfl ⟨⟨_, rfl, vb (band_off hb40)⟩, trivial⟩ (rfl)
 rintro _ rfl
 refine WO.v (R.move rfl) rfl ?_
 refine WO.cutP 6 [(60, (.bool ((((((((decide ((a.chunks) = (b.chunks))) && (decide (a.kind = b.kind))) && (decide (a.client = b.client))) && (decide (a.seq = b.seq))) && (decide (a.set = b.set))) && (decide (a.id = b.id))) && (decide (a.n = b.n))) && (decide (a.text = b.text)))))] (fun w' => w24 = w') ?_ ?_
 rcases Bool.eq_false_or_eq_true (((((((decide ((a.chunks) = (b.chunks))) && (decide (a.kind = b.kind))) && (decide (a.client = b.client))) && (decide (a.seq = b.seq))) && (decide (a.set = b.set))) && (decide (a.id = b.id))) && (decide (a.n = b.n))) with hb43 | hb43
 have phb43 : (((((((decide ((a.chunks) = (b.chunks))) = true) ∧ (a.kind = b.kind)) ∧ (a.client = b.client)) ∧ (a.seq = b.seq)) ∧ (a.set = b.set)) ∧ (a.id = b.id)) ∧ (a.n = b.n) := ⟨⟨⟨⟨⟨⟨(band_t (band_t (band_t (band_t (band_t (band_t hb43).1).1).1).1).1).1, of_decide_eq_true (band_t (band_t (band_t (band_t (band_t (band_t hb43).1).1).1).1).1).2⟩, of_decide_eq_true (band_t (band_t (band_t (band_t (band_t hb43).1).1).1).1).2⟩, of_decide_eq_true (band_t (band_t (band_t (band_t hb43).1).1).1).2⟩, of_decide_eq_true (band_t (band_t (band_t hb43).1).1).2⟩, of_decide_eq_true (band_t (band_t hb43).1).2⟩, of_decide_eq_true (band_t hb43).2⟩
 refine WO.on rfl rfl hb43 ?_
 refine WO.v (fa24_7 rfl) rfl ?_
 refine WO.on rfl rfl hb43 ?_
 have B44 := (B23).kp0 k24
 refine WO.v (R.loadB rfl B44 rfl Try.underlying9 rfl) rfl ?_
 refine WO.on rfl rfl hb43 ?_
 refine WO.v (fa24_7 rfl) rfl ?_
 refine WO.on rfl rfl hb43 ?_
 have B45 := (n22.blk).kp0 k24
 refine WO.v (R.loadB rfl B45 rfl Try.underlying9 rfl) rfl ?_
 refine WO.on rfl rfl hb43 ?_
 refine WO.v (R.eqlS rfl rfl) rfl ?_
 refine WO.v (R.pickT rfl hb43 rfl) rfl ?_
 refine WO.nil ?_
 exact WX.cutDoneP 6 rfl rfl ⟨⟨_, rfl, vb (band_on hb43)⟩, trivial⟩ (rfl)
 have phb43 : (((((((decide ((a.chunks) = (b.chunks))) = false) ∨ (¬ (a.kind = b.kind))) ∨ (¬ (a.client = b.client))) ∨ (¬ (a.seq = b.seq))) ∨ (¬ (a.set = b.set))) ∨ (¬ (a.id = b.id))) ∨ (¬ (a.n = b.n)) := Or.imp (fun h => Or.imp (fun h => Or.imp (fun h => Or.imp (fun h => Or.imp (fun h => Or.imp (fun h => h) (fun h => of_decide_eq_false h) (band_f h)) (fun h => of_decide_eq_false h) (band_f h)) (fun h => of_decide_eq_false h) (band_f h)) (fun h => of_decide_eq_false h) (band_f h)) (fun h => of_decide_eq_false h) (band_f h)) (fun h => of_decide_eq_false h) (band_f hb43)
 refine WO.off rfl rfl hb43 rfl ?_
 refine WO.off rfl rfl hb43 rfl ?_
 refine WO.off rfl rfl hb43 rfl ?_
 refine WO.off rfl rfl hb43 rfl ?_
 refine WO.off rfl rfl hb43 rfl ?_
 refine WO.v (R.pickF rfl hb43 rfl) rfl ?_
 refine WO.nil ?_
 exact WX.cutDoneP 6 rfl rfl ⟨⟨_, rfl, vb (band_off hb43)⟩, trivial⟩ (rfl)
 rintro _ rfl
 refine WO.v (R.assign rfl) rfl ?_
 refine WO.nil ?_
 refine WX.sel [0, 1, 2, 3, 4, 5] rfl ?_
 refine WX.next ?_
 refine WC.ret ?_
 have e0 : ((((((((decide ((a.chunks) = (b.chunks))) && (decide (a.kind = b.kind))) && (decide (a.client = b.client))) && (decide (a.seq = b.seq))) && (decide (a.set = b.set))) && (decide (a.id = b.id))) && (decide (a.n = b.n))) && (decide (a.text = b.text))) = (decide (a = b)) := by exact cmd_same
 refine WX.ret1 Try.results16 rfl ?_
 exact ⟨by rw [e0], Kp.of_below b24⟩

set_option maxRecDepth 100000 in
set_option maxHeartbeats 400000 in
theorem for_s {w : World} {cs_c : List Value} {c : Command} (v : Int) (h_c : Rp.rp false 0 w.heap.size w cs_c c) :
    Ret Try.prog 33 [.agg cs_c.toArray, .int .i64 v].toArray w fun r w' => r = .bool (forF c v) ∧ Kp [] w w' := by
 obtain ⟨a7, c8, rfl, i1, i2, i3, i4, i5, i6, s9, i10⟩ := Command.el h_c
 have ls9 : (c.chunks).length * 8 ≤ 140737488355328 := s9.lenle
 refine Ret.enter Try.func33 rfl Try.ntmps33 rfl rfl ?_
 refine WC.sel [0, 1] rfl ?_
 refine WC.seq ?_
 refine WC.region ?_
 refine WO.box rfl rfl rfl ?_
 intro w11 n11
 have z11 := n11.lt
 have b11 := old_kp0 (Below.refl w.heap.size w) n11.kp
 have y11 := b11.size
 refine WO.v (R.assign rfl) rfl ?_
 refine WO.nil ?_
 refine WX.sel [0, 1, 2, 4] rfl ?_
 refine WX.next ?_
 refine WC.seq ?_
 refine WC.region ?_
 refine WO.v (fa24_0 rfl) rfl ?_
 refine WO.v (R.loadB rfl n11.blk rfl Try.underlying3 rfl) rfl ?_
 refine WO.c (E.call rfl rfl Try.func18 rfl rfl) (need_s (k := c.kind) ) rfl ?_
 rintro _ w12 ⟨rfl, k12⟩
 have z12 := k12.size
 have b12 := old_kp0 b11 k12
 have y12 := b12.size
 refine WO.v (R.assign rfl) rfl ?_
 refine WO.nil ?_
 refine WX.sel [0, 1, 2, 4, 5] rfl ?_
 refine WX.next ?_
 refine WC.seq ?_
 refine WC.seq ?_
 refine WC.region ?_
 refine WO.v (fa24_0 rfl) rfl ?_
 have B13 := (n11.blk).kp0 k12
 refine WO.v (R.loadB rfl B13 rfl Try.underlying3 rfl) rfl ?_
 refine WO.v (R.lss rfl rfl) rfl ?_
 refine WO.v (R.move rfl) rfl ?_
 refine WO.cutP 4 [(18, (.bool ((decide (c.kind < (1 : Int))) || (decide ((99 : Int) < c.kind)))))] (fun w' => w12 = w') ?_ ?_
 rcases Bool.eq_false_or_eq_true (decide (c.kind < (1 : Int))) with hb14 | hb14
 have phb14 : c.kind < (1 : Int) := of_decide_eq_true hb14
 refine WO.off rfl rfl hb14 rfl ?_
 refine WO.off rfl rfl hb14 rfl ?_
 refine WO.off rfl rfl hb14 rfl ?_
 refine WO.v (R.pickT rfl hb14 rfl) rfl ?_
 refine WO.nil ?_
 exact WX.cutDoneP 4 rfl rfl ⟨⟨_, rfl, vb (bor_on hb14)⟩, trivial⟩ (rfl)
 have phb14 : ¬ (c.kind < (1 : Int)) := of_decide_eq_false hb14
 refine WO.on rfl rfl hb14 ?_
 refine WO.v (fa24_0 rfl) rfl ?_
 refine WO.on rfl rfl hb14 ?_
 refine WO.v (R.loadB rfl B13 rfl Try.underlying3 rfl) rfl ?_
 refine WO.on rfl rfl hb14 ?_
 refine WO.v (R.gtr rfl rfl) rfl ?_
 refine WO.v (R.pickF rfl hb14 rfl) rfl ?_
 refine WO.nil ?_
 exact WX.cutDoneP 4 rfl rfl ⟨⟨_, rfl, vb (bor_off hb14)⟩, trivial⟩ (rfl)
 rintro _ rfl
 refine WO.v (R.move rfl) rfl ?_
 refine WO.cutP 8 [(27, (.bool (((decide (c.kind < (1 : Int))) || (decide ((99 : Int) < c.kind))) || ((!(decide (needF (c.kind) = (0 : Int)))) && (decide (needF (c.kind) ≤ v))))))] (fun w' => w12 = w') ?_ ?_
 rcases Bool.eq_false_or_eq_true ((decide (c.kind < (1 : Int))) || (decide ((99 : Int) < c.kind))) with hb15 | hb15
 have phb15 : (c.kind < (1 : Int)) ∨ ((99 : Int) < c.kind) := Or.imp (fun h => of_decide_eq_true h) (fun h => of_decide_eq_true h) (bor_t hb15)
 refine WO.off rfl rfl hb15 rfl ?_
 refine WO.off rfl rfl hb15 rfl ?_
 refine WO.off rfl rfl hb15 rfl ?_
 refine WO.offU rfl rfl rfl ?_
 refine WO.offU rfl rfl rfl ?_
 refine WO.offU rfl rfl rfl ?_
 refine WO.off rfl rfl hb15 rfl ?_
 refine WO.v (R.pickT rfl hb15 rfl) rfl ?_
 refine WO.nil ?_
 exact WX.cutDoneP 8 rfl rfl ⟨⟨_, rfl, vb (bor_on hb15)⟩, trivial⟩ (rfl)
 have phb15 : (¬ (c.kind < (1 : Int))) ∧ (¬ ((99 : Int) < c.kind)) := ⟨of_decide_eq_false (bor_f hb15).1, of_decide_eq_false (bor_f hb15).2⟩
 refine WO.on rfl rfl hb15 ?_
 refine WO.v (R.move rfl) rfl ?_
 refine WO.on rfl rfl hb15 ?_
 refine WO.v (R.neq rfl rfl) rfl ?_
 refine WO.on rfl rfl hb15 ?_
 refine WO.v (R.move rfl) rfl ?_
 refine WO.cutP 4 [(26, (.bool ((!(decide (needF (c.kind) = (0 : Int)))) && (decide (needF (c.kind) ≤ v)))))] (fun w' => w12 = w') ?_ ?_
 rcases Bool.eq_false_or_eq_true (!(decide (needF (c.kind) = (0 : Int)))) with hb16 | hb16
 have phb16 : ¬ (needF (c.kind) = (0 : Int)) := of_decide_eq_false (bnot_t hb16)
 refine WO.on rfl rfl hb16 ?_
 refine WO.v (R.move rfl) rfl ?_
 refine WO.on rfl rfl hb16 ?_
 refine WO.v (R.move rfl) rfl ?_
 refine WO.on rfl rfl hb16 ?_
 refine WO.v (R.leq rfl rfl) rfl ?_
 refine WO.on rfl rfl hb15 ?_
 refine WO.v (R.pickT rfl hb16 rfl) rfl ?_
 refine WO.nil ?_
 exact WX.cutDoneP 4 rfl rfl ⟨⟨_, rfl, vb (band_on hb16)⟩, trivial⟩ (rfl)
 have phb16 : needF (c.kind) = (0 : Int) := of_decide_eq_true (bnot_f hb16)
 refine WO.off rfl rfl hb16 rfl ?_
 refine WO.off rfl rfl hb16 rfl ?_
 refine WO.off rfl rfl hb16 rfl ?_
 refine WO.on rfl rfl hb15 ?_
 refine WO.v (R.pickF rfl hb16 rfl) rfl ?_
 refine WO.nil ?_
 exact WX.cutDoneP 4 rfl rfl ⟨⟨_, rfl, vb (band_off hb16)⟩, trivial⟩ (rfl)
 rintro _ rfl
 refine WO.v (R.pickF rfl hb15 rfl) rfl ?_
 refine WO.nil ?_
 exact WX.cutDoneP 5 rfl rfl ⟨⟨_, rfl, vb (bor_off hb15)⟩, trivial⟩ (rfl)
 rintro _ rfl
 refine WO.nil ?_
 refine WX.sel [0, 1, 2, 4, 5, 27] rfl ?_
 refine WX.next ?_
 refine WC.cond rfl (fun q17 => ?_) (fun q17 => ?_)
 have p17 : ((c.kind < (1 : Int)) ∨ ((99 : Int) < c.kind)) ∨ ((¬ (needF (c.kind) = (0 : Int))) ∧ (needF (c.kind) ≤ v)) := Or.imp (fun h => Or.imp (fun h => of_decide_eq_true h) (fun h => of_decide_eq_true h) (bor_t h)) (fun h => ⟨of_decide_eq_false (bnot_t (band_t h).1), of_decide_eq_true (band_t h).2⟩) (bor_t q17)
 refine WC.seq ?_
 refine WC.region ?_
 refine WO.v (R.assign rfl) rfl ?_
 refine WO.nil ?_
 refine WX.sel [0, 1, 2, 4, 5, 27] rfl ?_
 refine WX.next ?_
 refine WC.ret ?_
 refine WX.thenRet ?_
 have e0 : false = (forF c v) := by first | exact for_kind (by omega) | exact for_num (by omega) | exact for_row (by assumption) | exact for_lo (by omega) (by omega) (by assumption) (by omega) | exact for_hi (by omega) (by omega) (by assumption) (by omega) | exact for_lo (by omega) (by omega) (by omega) (by omega) | exact for_hi (by omega) (by omega) (by omega) (by omega)
 refine WX.ret1 Try.results33 rfl ?_
 exact ⟨by rw [e0], Kp.of_below b12⟩
 have p17 : ((¬ (c.kind < (1 : Int))) ∧ (¬ ((99 : Int) < c.kind))) ∧ ((needF (c.kind) = (0 : Int)) ∨ (¬ (needF (c.kind) ≤ v))) := ⟨⟨of_decide_eq_false (bor_f (bor_f q17).1).1, of_decide_eq_false (bor_f (bor_f q17).1).2⟩, Or.imp (fun h => of_decide_eq_true (bnot_f h)) (fun h => of_decide_eq_false h) (band_f (bor_f q17).2)⟩
 refine WC.skip ?_
 refine WX.next ?_
 refine WC.seq ?_
 refine WC.seq ?_
 refine WC.region ?_
 refine WO.v (fa24_1 rfl) rfl ?_
 refine WO.v (R.loadB rfl B13 rfl Try.underlying3 rfl) rfl ?_
 refine WO.v (fa24_2 rfl) rfl ?_
 refine WO.v (R.loadB rfl B13 rfl Try.underlying3 rfl) rfl ?_
 refine WO.v (fa24_3 rfl) rfl ?_
 refine WO.v (R.loadB rfl B13 rfl Try.underlying3 rfl) rfl ?_
 refine WO.v (fa24_4 rfl) rfl ?_
 refine WO.v (R.loadB rfl B13 rfl Try.underlying3 rfl) rfl ?_
 refine WO.v (fa24_5 rfl) rfl ?_
 refine WO.v (R.loadB rfl B13 rfl Try.underlying3 rfl) rfl ?_
 refine WO.v (R.buildL (parts := [_, _, _, _, _]) (cells := #[(.int .i64 c.client), (.int .i64 c.seq), (.int .i64 c.set), (.int .i64 c.id), (.int .i64 c.n)]) rfl (by kernel_rfl)) rfl ?_
 refine WO.v (R.move rfl) rfl ?_
 refine WO.nil ?_
 refine WX.sel [0, 1, 2, 4, 5, 27, 38, 39] rfl ?_
 refine WX.next ?_
 refine WC.block ?_
 refine WC.unroll ?_
 refine WC.seq ?_
 refine WC.region ?_
 refine WO.v (R.lss rfl rfl) rfl ?_
 refine WO.nil ?_
 refine WX.sel [0, 1, 2, 4, 5, 27, 38, 39, 40] rfl ?_
 refine WX.next ?_
 refine WC.seq ?_
 refine WC.cond rfl (fun q18 => ?_) (fun q18 => ?_)
 have p18 : (0 : Int) < (5 : Int) := of_decide_eq_true q18
 refine WC.skip ?_
 refine WX.next ?_
 refine WC.seq ?_
 refine WC.block ?_
 refine WC.seq ?_
 refine WC.region ?_
 refine WO.v (R.indexAgg (cs := [_, _, _, _, _]) (i := 0) rfl rfl Try.underlying79 Try.underlying3 rfl sz3 (by omega) rfl) rfl ?_
 refine WO.v (R.assign rfl) rfl ?_
 refine WO.nil ?_
 refine WX.sel [0, 1, 2, 4, 5, 7, 27, 38, 39, 40] rfl ?_
 refine WX.next ?_
 refine WC.seq ?_
 refine WC.region ?_
 refine WO.v (R.move rfl) rfl ?_
 refine WO.v (R.lss rfl rfl) rfl ?_
 refine WO.v (R.move rfl) rfl ?_
 refine WO.cutP 3 [(47, (.bool ((decide (c.client < (0 : Int))) || (decide ((1048576 : Int) < c.client)))))] (fun w' => w12 = w') ?_ ?_
 rcases Bool.eq_false_or_eq_true (decide (c.client < (0 : Int))) with hb19 | hb19
 have phb19 : c.client < (0 : Int) := of_decide_eq_true hb19
 refine WO.off rfl rfl hb19 rfl ?_
 refine WO.off rfl rfl hb19 rfl ?_
 refine WO.v (R.pickT rfl hb19 rfl) rfl ?_
 refine WO.nil ?_
 exact WX.cutDoneP 3 rfl rfl ⟨⟨_, rfl, vb (bor_on hb19)⟩, trivial⟩ (rfl)
 have phb19 : ¬ (c.client < (0 : Int)) := of_decide_eq_false hb19
 refine WO.on rfl rfl hb19 ?_
 refine WO.v (R.move rfl) rfl ?_
 refine WO.on rfl rfl hb19 ?_
 refine WO.v (R.gtr rfl rfl) rfl ?_
 refine WO.v (R.pickF rfl hb19 rfl) rfl ?_
 refine WO.nil ?_
 exact WX.cutDoneP 3 rfl rfl ⟨⟨_, rfl, vb (bor_off hb19)⟩, trivial⟩ (rfl)
 rintro _ rfl
 refine WO.nil ?_
 refine WX.sel [0, 1, 2, 4, 5, 7, 27, 38, 39, 40, 47] rfl ?_
 refine WX.next ?_
 refine WC.cond rfl (fun q20 => ?_) (fun q20 => ?_)
 have p20 : (c.client < (0 : Int)) ∨ ((1048576 : Int) < c.client) := Or.imp (fun h => of_decide_eq_true h) (fun h => of_decide_eq_true h) (bor_t q20)
 refine WC.seq ?_
 refine WC.region ?_
 refine WO.v (R.assign rfl) rfl ?_
 refine WO.nil ?_
 refine WX.sel [0, 1, 2, 4, 5, 7, 27, 38, 39, 40, 47] rfl ?_
 refine WX.next ?_
 refine WC.ret ?_
 refine WX.blkRet ?_
 refine WX.thenRet ?_
 refine WX.unrRet ?_
 refine WX.blkRet ?_
 refine WX.thenRet ?_
 have e0 : false = (forF c v) := by first | exact for_kind (by omega) | exact for_num (by omega) | exact for_row (by assumption) | exact for_lo (by omega) (by omega) (by assumption) (by omega) | exact for_hi (by omega) (by omega) (by assumption) (by omega) | exact for_lo (by omega) (by omega) (by omega) (by omega) | exact for_hi (by omega) (by omega) (by omega) (by omega)
 refine WX.ret1 Try.results33 rfl ?_
 exact ⟨by rw [e0], Kp.of_below b12⟩
 have p20 : (¬ (c.client < (0 : Int))) ∧ (¬ ((1048576 : Int) < c.client)) := ⟨of_decide_eq_false (bor_f q20).1, of_decide_eq_false (bor_f q20).2⟩
 refine WC.skip ?_
 refine WX.blkNormal ?_
 refine WX.next ?_
 refine WC.region ?_
 refine WO.v (R.inc (m := 0) rfl (by omega)) rfl ?_
 refine WO.v (R.move rfl) rfl ?_
 refine WO.nil ?_
 refine WX.sel [0, 1, 2, 4, 5, 7, 27, 38, 39, 40, 47] rfl ?_
 refine WX.unrNext ?_
 refine WC.seq ?_
 refine WC.region ?_
 refine WO.v (R.lss rfl rfl) rfl ?_
 refine WO.nil ?_
 refine WX.sel [0, 1, 2, 4, 5, 7, 27, 38, 39, 40, 47] rfl ?_
 refine WX.next ?_
 refine WC.seq ?_
 refine WC.cond rfl (fun q21 => ?_) (fun q21 => ?_)
 have p21 : ((1 : Nat) : Int) < (5 : Int) := of_decide_eq_true q21
 refine WC.skip ?_
 refine WX.next ?_
 refine WC.seq ?_
 refine WC.block ?_
 refine WC.seq ?_
 refine WC.region ?_
 refine WO.v (R.indexAgg (cs := [_, _, _, _, _]) (i := 1) rfl rfl Try.underlying79 Try.underlying3 rfl sz3 (by omega) rfl) rfl ?_
 refine WO.v (R.assign rfl) rfl ?_
 refine WO.nil ?_
 refine WX.sel [0, 1, 2, 4, 5, 7, 27, 38, 39, 40, 47] rfl ?_
 refine WX.next ?_
 refine WC.seq ?_
 refine WC.region ?_
 refine WO.v (R.move rfl) rfl ?_
 refine WO.v (R.lss rfl rfl) rfl ?_
 refine WO.v (R.move rfl) rfl ?_
 refine WO.cutP 3 [(47, (.bool ((decide (c.seq < (0 : Int))) || (decide ((1048576 : Int) < c.seq)))))] (fun w' => w12 = w') ?_ ?_
 rcases Bool.eq_false_or_eq_true (decide (c.seq < (0 : Int))) with hb22 | hb22
 have phb22 : c.seq < (0 : Int) := of_decide_eq_true hb22
 refine WO.off rfl rfl hb22 rfl ?_
 refine WO.off rfl rfl hb22 rfl ?_
 refine WO.v (R.pickT rfl hb22 rfl) rfl ?_
 refine WO.nil ?_
 exact WX.cutDoneP 3 rfl rfl ⟨⟨_, rfl, vb (bor_on hb22)⟩, trivial⟩ (rfl)
 have phb22 : ¬ (c.seq < (0 : Int)) := of_decide_eq_false hb22
 refine WO.on rfl rfl hb22 ?_
 refine WO.v (R.move rfl) rfl ?_
 refine WO.on rfl rfl hb22 ?_
 refine WO.v (R.gtr rfl rfl) rfl ?_
 refine WO.v (R.pickF rfl hb22 rfl) rfl ?_
 refine WO.nil ?_
 exact WX.cutDoneP 3 rfl rfl ⟨⟨_, rfl, vb (bor_off hb22)⟩, trivial⟩ (rfl)
 rintro _ rfl
 refine WO.nil ?_
 refine WX.sel [0, 1, 2, 4, 5, 7, 27, 38, 39, 40, 47] rfl ?_
 refine WX.next ?_
 refine WC.cond rfl (fun q23 => ?_) (fun q23 => ?_)
 have p23 : (c.seq < (0 : Int)) ∨ ((1048576 : Int) < c.seq) := Or.imp (fun h => of_decide_eq_true h) (fun h => of_decide_eq_true h) (bor_t q23)
 refine WC.seq ?_
 refine WC.region ?_
 refine WO.v (R.assign rfl) rfl ?_
 refine WO.nil ?_
 refine WX.sel [0, 1, 2, 4, 5, 7, 27, 38, 39, 40, 47] rfl ?_
 refine WX.next ?_
 refine WC.ret ?_
 refine WX.blkRet ?_
 refine WX.thenRet ?_
 refine WX.unrRet ?_
 refine WX.blkRet ?_
 refine WX.thenRet ?_
 have e0 : false = (forF c v) := by first | exact for_kind (by omega) | exact for_num (by omega) | exact for_row (by assumption) | exact for_lo (by omega) (by omega) (by assumption) (by omega) | exact for_hi (by omega) (by omega) (by assumption) (by omega) | exact for_lo (by omega) (by omega) (by omega) (by omega) | exact for_hi (by omega) (by omega) (by omega) (by omega)
 refine WX.ret1 Try.results33 rfl ?_
 exact ⟨by rw [e0], Kp.of_below b12⟩
 have p23 : (¬ (c.seq < (0 : Int))) ∧ (¬ ((1048576 : Int) < c.seq)) := ⟨of_decide_eq_false (bor_f q23).1, of_decide_eq_false (bor_f q23).2⟩
 refine WC.skip ?_
 refine WX.blkNormal ?_
 refine WX.next ?_
 refine WC.region ?_
 refine WO.v (R.inc (m := 1) rfl (by omega)) rfl ?_
 refine WO.v (R.move rfl) rfl ?_
 refine WO.nil ?_
 refine WX.sel [0, 1, 2, 4, 5, 7, 27, 38, 39, 40, 47] rfl ?_
 refine WX.unrNext ?_
 refine WC.seq ?_
 refine WC.region ?_
 refine WO.v (R.lss rfl rfl) rfl ?_
 refine WO.nil ?_
 refine WX.sel [0, 1, 2, 4, 5, 7, 27, 38, 39, 40, 47] rfl ?_
 refine WX.next ?_
 refine WC.seq ?_
 refine WC.cond rfl (fun q24 => ?_) (fun q24 => ?_)
 have p24 : ((2 : Nat) : Int) < (5 : Int) := of_decide_eq_true q24
 refine WC.skip ?_
 refine WX.next ?_
 refine WC.seq ?_
 refine WC.block ?_
 refine WC.seq ?_
 refine WC.region ?_
 refine WO.v (R.indexAgg (cs := [_, _, _, _, _]) (i := 2) rfl rfl Try.underlying79 Try.underlying3 rfl sz3 (by omega) rfl) rfl ?_
 refine WO.v (R.assign rfl) rfl ?_
 refine WO.nil ?_
 refine WX.sel [0, 1, 2, 4, 5, 7, 27, 38, 39, 40, 47] rfl ?_
 refine WX.next ?_
 refine WC.seq ?_
 refine WC.region ?_
 refine WO.v (R.move rfl) rfl ?_
 refine WO.v (R.lss rfl rfl) rfl ?_
 refine WO.v (R.move rfl) rfl ?_
 refine WO.cutP 3 [(47, (.bool ((decide (c.set < (0 : Int))) || (decide ((1048576 : Int) < c.set)))))] (fun w' => w12 = w') ?_ ?_
 rcases Bool.eq_false_or_eq_true (decide (c.set < (0 : Int))) with hb25 | hb25
 have phb25 : c.set < (0 : Int) := of_decide_eq_true hb25
 refine WO.off rfl rfl hb25 rfl ?_
 refine WO.off rfl rfl hb25 rfl ?_
 refine WO.v (R.pickT rfl hb25 rfl) rfl ?_
 refine WO.nil ?_
 exact WX.cutDoneP 3 rfl rfl ⟨⟨_, rfl, vb (bor_on hb25)⟩, trivial⟩ (rfl)
 have phb25 : ¬ (c.set < (0 : Int)) := of_decide_eq_false hb25
 refine WO.on rfl rfl hb25 ?_
 refine WO.v (R.move rfl) rfl ?_
 refine WO.on rfl rfl hb25 ?_
 refine WO.v (R.gtr rfl rfl) rfl ?_
 refine WO.v (R.pickF rfl hb25 rfl) rfl ?_
 refine WO.nil ?_
 exact WX.cutDoneP 3 rfl rfl ⟨⟨_, rfl, vb (bor_off hb25)⟩, trivial⟩ (rfl)
 rintro _ rfl
 refine WO.nil ?_
 refine WX.sel [0, 1, 2, 4, 5, 7, 27, 38, 39, 40, 47] rfl ?_
 refine WX.next ?_
 refine WC.cond rfl (fun q26 => ?_) (fun q26 => ?_)
 have p26 : (c.set < (0 : Int)) ∨ ((1048576 : Int) < c.set) := Or.imp (fun h => of_decide_eq_true h) (fun h => of_decide_eq_true h) (bor_t q26)
 refine WC.seq ?_
 refine WC.region ?_
 refine WO.v (R.assign rfl) rfl ?_
 refine WO.nil ?_
 refine WX.sel [0, 1, 2, 4, 5, 7, 27, 38, 39, 40, 47] rfl ?_
 refine WX.next ?_
 refine WC.ret ?_
 refine WX.blkRet ?_
 refine WX.thenRet ?_
 refine WX.unrRet ?_
 refine WX.blkRet ?_
 refine WX.thenRet ?_
 have e0 : false = (forF c v) := by first | exact for_kind (by omega) | exact for_num (by omega) | exact for_row (by assumption) | exact for_lo (by omega) (by omega) (by assumption) (by omega) | exact for_hi (by omega) (by omega) (by assumption) (by omega) | exact for_lo (by omega) (by omega) (by omega) (by omega) | exact for_hi (by omega) (by omega) (by omega) (by omega)
 refine WX.ret1 Try.results33 rfl ?_
 exact ⟨by rw [e0], Kp.of_below b12⟩
 have p26 : (¬ (c.set < (0 : Int))) ∧ (¬ ((1048576 : Int) < c.set)) := ⟨of_decide_eq_false (bor_f q26).1, of_decide_eq_false (bor_f q26).2⟩
 refine WC.skip ?_
 refine WX.blkNormal ?_
 refine WX.next ?_
 refine WC.region ?_
 refine WO.v (R.inc (m := 2) rfl (by omega)) rfl ?_
 refine WO.v (R.move rfl) rfl ?_
 refine WO.nil ?_
 refine WX.sel [0, 1, 2, 4, 5, 7, 27, 38, 39, 40, 47] rfl ?_
 refine WX.unrNext ?_
 refine WC.seq ?_
 refine WC.region ?_
 refine WO.v (R.lss rfl rfl) rfl ?_
 refine WO.nil ?_
 refine WX.sel [0, 1, 2, 4, 5, 7, 27, 38, 39, 40, 47] rfl ?_
 refine WX.next ?_
 refine WC.seq ?_
 refine WC.cond rfl (fun q27 => ?_) (fun q27 => ?_)
 have p27 : ((3 : Nat) : Int) < (5 : Int) := of_decide_eq_true q27
 refine WC.skip ?_
 refine WX.next ?_
 refine WC.seq ?_
 refine WC.block ?_
 refine WC.seq ?_
 refine WC.region ?_
 refine WO.v (R.indexAgg (cs := [_, _, _, _, _]) (i := 3) rfl rfl Try.underlying79 Try.underlying3 rfl sz3 (by omega) rfl) rfl ?_
 refine WO.v (R.assign rfl) rfl ?_
 refine WO.nil ?_
 refine WX.sel [0, 1, 2, 4, 5, 7, 27, 38, 39, 40, 47] rfl ?_
 refine WX.next ?_
 refine WC.seq ?_
 refine WC.region ?_
 refine WO.v (R.move rfl) rfl ?_
 refine WO.v (R.lss rfl rfl) rfl ?_
 refine WO.v (R.move rfl) rfl ?_
 refine WO.cutP 3 [(47, (.bool ((decide (c.id < (0 : Int))) || (decide ((1048576 : Int) < c.id)))))] (fun w' => w12 = w') ?_ ?_
 rcases Bool.eq_false_or_eq_true (decide (c.id < (0 : Int))) with hb28 | hb28
 have phb28 : c.id < (0 : Int) := of_decide_eq_true hb28
 refine WO.off rfl rfl hb28 rfl ?_
 refine WO.off rfl rfl hb28 rfl ?_
 refine WO.v (R.pickT rfl hb28 rfl) rfl ?_
 refine WO.nil ?_
 exact WX.cutDoneP 3 rfl rfl ⟨⟨_, rfl, vb (bor_on hb28)⟩, trivial⟩ (rfl)
 have phb28 : ¬ (c.id < (0 : Int)) := of_decide_eq_false hb28
 refine WO.on rfl rfl hb28 ?_
 refine WO.v (R.move rfl) rfl ?_
 refine WO.on rfl rfl hb28 ?_
 refine WO.v (R.gtr rfl rfl) rfl ?_
 refine WO.v (R.pickF rfl hb28 rfl) rfl ?_
 refine WO.nil ?_
 exact WX.cutDoneP 3 rfl rfl ⟨⟨_, rfl, vb (bor_off hb28)⟩, trivial⟩ (rfl)
 rintro _ rfl
 refine WO.nil ?_
 refine WX.sel [0, 1, 2, 4, 5, 7, 27, 38, 39, 40, 47] rfl ?_
 refine WX.next ?_
 refine WC.cond rfl (fun q29 => ?_) (fun q29 => ?_)
 have p29 : (c.id < (0 : Int)) ∨ ((1048576 : Int) < c.id) := Or.imp (fun h => of_decide_eq_true h) (fun h => of_decide_eq_true h) (bor_t q29)
 refine WC.seq ?_
 refine WC.region ?_
 refine WO.v (R.assign rfl) rfl ?_
 refine WO.nil ?_
 refine WX.sel [0, 1, 2, 4, 5, 7, 27, 38, 39, 40, 47] rfl ?_
 refine WX.next ?_
 refine WC.ret ?_
 refine WX.blkRet ?_
 refine WX.thenRet ?_
 refine WX.unrRet ?_
 refine WX.blkRet ?_
 refine WX.thenRet ?_
 have e0 : false = (forF c v) := by first | exact for_kind (by omega) | exact for_num (by omega) | exact for_row (by assumption) | exact for_lo (by omega) (by omega) (by assumption) (by omega) | exact for_hi (by omega) (by omega) (by assumption) (by omega) | exact for_lo (by omega) (by omega) (by omega) (by omega) | exact for_hi (by omega) (by omega) (by omega) (by omega)
 refine WX.ret1 Try.results33 rfl ?_
 exact ⟨by rw [e0], Kp.of_below b12⟩
 have p29 : (¬ (c.id < (0 : Int))) ∧ (¬ ((1048576 : Int) < c.id)) := ⟨of_decide_eq_false (bor_f q29).1, of_decide_eq_false (bor_f q29).2⟩
 refine WC.skip ?_
 refine WX.blkNormal ?_
 refine WX.next ?_
 refine WC.region ?_
 refine WO.v (R.inc (m := 3) rfl (by omega)) rfl ?_
 refine WO.v (R.move rfl) rfl ?_
 refine WO.nil ?_
 refine WX.sel [0, 1, 2, 4, 5, 7, 27, 38, 39, 40, 47] rfl ?_
 refine WX.unrNext ?_
 refine WC.seq ?_
 refine WC.region ?_
 refine WO.v (R.lss rfl rfl) rfl ?_
 refine WO.nil ?_
 refine WX.sel [0, 1, 2, 4, 5, 7, 27, 38, 39, 40, 47] rfl ?_
 refine WX.next ?_
 refine WC.seq ?_
 refine WC.cond rfl (fun q30 => ?_) (fun q30 => ?_)
 have p30 : ((4 : Nat) : Int) < (5 : Int) := of_decide_eq_true q30
 refine WC.skip ?_
 refine WX.next ?_
 refine WC.seq ?_
 refine WC.block ?_
 refine WC.seq ?_
 refine WC.region ?_
 refine WO.v (R.indexAgg (cs := [_, _, _, _, _]) (i := 4) rfl rfl Try.underlying79 Try.underlying3 rfl sz3 (by omega) rfl) rfl ?_
 refine WO.v (R.assign rfl) rfl ?_
 refine WO.nil ?_
 refine WX.sel [0, 1, 2, 4, 5, 7, 27, 38, 39, 40, 47] rfl ?_
 refine WX.next ?_
 refine WC.seq ?_
 refine WC.region ?_
 refine WO.v (R.move rfl) rfl ?_
 refine WO.v (R.lss rfl rfl) rfl ?_
 refine WO.v (R.move rfl) rfl ?_
 refine WO.cutP 3 [(47, (.bool ((decide (c.n < (0 : Int))) || (decide ((1048576 : Int) < c.n)))))] (fun w' => w12 = w') ?_ ?_
 rcases Bool.eq_false_or_eq_true (decide (c.n < (0 : Int))) with hb31 | hb31
 have phb31 : c.n < (0 : Int) := of_decide_eq_true hb31
 refine WO.off rfl rfl hb31 rfl ?_
 refine WO.off rfl rfl hb31 rfl ?_
 refine WO.v (R.pickT rfl hb31 rfl) rfl ?_
 refine WO.nil ?_
 exact WX.cutDoneP 3 rfl rfl ⟨⟨_, rfl, vb (bor_on hb31)⟩, trivial⟩ (rfl)
 have phb31 : ¬ (c.n < (0 : Int)) := of_decide_eq_false hb31
 refine WO.on rfl rfl hb31 ?_
 refine WO.v (R.move rfl) rfl ?_
 refine WO.on rfl rfl hb31 ?_
 refine WO.v (R.gtr rfl rfl) rfl ?_
 refine WO.v (R.pickF rfl hb31 rfl) rfl ?_
 refine WO.nil ?_
 exact WX.cutDoneP 3 rfl rfl ⟨⟨_, rfl, vb (bor_off hb31)⟩, trivial⟩ (rfl)
 rintro _ rfl
 refine WO.nil ?_
 refine WX.sel [0, 1, 2, 4, 5, 7, 27, 38, 39, 40, 47] rfl ?_
 refine WX.next ?_
 refine WC.cond rfl (fun q32 => ?_) (fun q32 => ?_)
 have p32 : (c.n < (0 : Int)) ∨ ((1048576 : Int) < c.n) := Or.imp (fun h => of_decide_eq_true h) (fun h => of_decide_eq_true h) (bor_t q32)
 refine WC.seq ?_
 refine WC.region ?_
 refine WO.v (R.assign rfl) rfl ?_
 refine WO.nil ?_
 refine WX.sel [0, 1, 2, 4, 5, 7, 27, 38, 39, 40, 47] rfl ?_
 refine WX.next ?_
 refine WC.ret ?_
 refine WX.blkRet ?_
 refine WX.thenRet ?_
 refine WX.unrRet ?_
 refine WX.blkRet ?_
 refine WX.thenRet ?_
 have e0 : false = (forF c v) := by first | exact for_kind (by omega) | exact for_num (by omega) | exact for_row (by assumption) | exact for_lo (by omega) (by omega) (by assumption) (by omega) | exact for_hi (by omega) (by omega) (by assumption) (by omega) | exact for_lo (by omega) (by omega) (by omega) (by omega) | exact for_hi (by omega) (by omega) (by omega) (by omega)
 refine WX.ret1 Try.results33 rfl ?_
 exact ⟨by rw [e0], Kp.of_below b12⟩
 have p32 : (¬ (c.n < (0 : Int))) ∧ (¬ ((1048576 : Int) < c.n)) := ⟨of_decide_eq_false (bor_f q32).1, of_decide_eq_false (bor_f q32).2⟩
 refine WC.skip ?_
 refine WX.blkNormal ?_
 refine WX.next ?_
 refine WC.region ?_
 refine WO.v (R.inc (m := 4) rfl (by omega)) rfl ?_
 refine WO.v (R.move rfl) rfl ?_
 refine WO.nil ?_
 refine WX.sel [0, 1, 2, 4, 5, 7, 27, 38, 39, 40, 47] rfl ?_
 refine WX.unrNext ?_
 refine WC.seq ?_
 refine WC.region ?_
 refine WO.v (R.lss rfl rfl) rfl ?_
 refine WO.nil ?_
 refine WX.sel [0, 1, 2, 4, 5, 7, 27, 38, 39, 40, 47] rfl ?_
 refine WX.next ?_
 refine WC.seq ?_
 refine WC.cond rfl (fun q33 => ?_) (fun q33 => ?_)
 have p33 : ((5 : Nat) : Int) < (5 : Int) := of_decide_eq_true q33
 exact False.elim (by omega)
 have p33 : ¬ (((5 : Nat) : Int) < (5 : Int)) := of_decide_eq_false q33
 refine WC.exit ?_
 refine WX.thenExit ?_
 refine WX.unrExit ?_
 refine WX.blkHit ?_
 refine WX.next ?_
 refine WC.seq ?_
 refine WC.seq ?_
 refine WC.region ?_
 refine WO.v (fa24_6 rfl) rfl ?_
 refine WO.v (R.loadB rfl B13 rfl Try.underlying22 rfl) rfl ?_
 refine WO.v (R.len rfl Try.underlying22) rfl ?_
 refine WO.v (R.gtr rfl rfl) rfl ?_
 refine WO.v (R.move rfl) rfl ?_
 refine WO.cutP 5 [(58, (.bool ((decide ((0 : Int) < ((c.chunks.length : Nat) : Int))) && (!(rowF (c.chunks))))))] (fun w' => Kp [] w12 w') ?_ ?_
 rcases Bool.eq_false_or_eq_true (decide ((0 : Int) < ((c.chunks.length : Nat) : Int))) with hb34 | hb34
 have phb34 : (0 : Int) < ((c.chunks.length : Nat) : Int) := of_decide_eq_true hb34
 refine WO.on rfl rfl hb34 ?_
 refine WO.v (fa24_6 rfl) rfl ?_
 refine WO.on rfl rfl hb34 ?_
 refine WO.v (R.loadB rfl B13 rfl Try.underlying22 rfl) rfl ?_
 refine WO.on rfl rfl hb34 ?_
 refine WO.c (E.call rfl rfl Try.func44 rfl rfl) (row_s (l := c.chunks) (a_l := a7) (c_l := c8) ((sl_old s9 b12).mono (lo' := 0) (hi' := w12.heap.size) (Nat.zero_le _) (by omega))) rfl ?_
 rintro _ w35 ⟨rfl, k35⟩
 have z35 := k35.size
 have b35 := old_kp0 b12 k35
 have y35 := b35.size
 refine WO.on rfl rfl hb34 ?_
 refine WO.v (R.not rfl) rfl ?_
 refine WO.v (R.pickT rfl hb34 rfl) rfl ?_
 refine WO.nil ?_
 exact WX.cutDoneP 5 rfl rfl ⟨⟨_, rfl, vb (band_on hb34)⟩, trivial⟩ ((Kp.refl _).step k35 (by simp))
 have phb34 : ¬ ((0 : Int) < ((c.chunks.length : Nat) : Int)) := of_decide_eq_false hb34
 refine WO.off rfl rfl hb34 rfl ?_
 refine WO.off rfl rfl hb34 rfl ?_
 refine WO.off rfl rfl hb34 rfl ?_
 refine WO.off rfl rfl hb34 rfl ?_
 refine WO.v (R.pickF rfl hb34 rfl) rfl ?_
 refine WO.nil ?_
 exact WX.cutDoneP 5 rfl rfl ⟨⟨_, rfl, vb (band_off hb34)⟩, trivial⟩ (Kp.refl _)
 intro w36 k36
 have z36 := k36.size
 have b36 := old_kp0 b12 k36
 have y36 := b36.size
 refine WO.nil ?_
 refine WX.sel [0, 1, 2, 4, 5, 7, 27, 38, 39, 40, 47, 58] rfl ?_
 refine WX.next ?_
 refine WC.cond rfl (fun q37 => ?_) (fun q37 => ?_)
 have p37 : ((0 : Int) < ((c.chunks.length : Nat) : Int)) ∧ ((rowF (c.chunks)) = false) := ⟨of_decide_eq_true (band_t q37).1, (bnot_t (band_t q37).2)⟩
 refine WC.seq ?_
 refine WC.region ?_
 refine WO.v (R.assign rfl) rfl ?_
 refine WO.nil ?_
 refine WX.sel [0, 1, 2, 4, 5, 7, 27, 38, 39, 40, 47, 58] rfl ?_
 refine WX.next ?_
 refine WC.ret ?_
 refine WX.thenRet ?_
 have e0 : false = (forF c v) := by first | exact for_kind (by omega) | exact for_num (by omega) | exact for_row (by assumption) | exact for_lo (by omega) (by omega) (by assumption) (by omega) | exact for_hi (by omega) (by omega) (by assumption) (by omega) | exact for_lo (by omega) (by omega) (by omega) (by omega) | exact for_hi (by omega) (by omega) (by omega) (by omega)
 refine WX.ret1 Try.results33 rfl ?_
 exact ⟨by rw [e0], Kp.of_below b36⟩
 have p37 : (¬ ((0 : Int) < ((c.chunks.length : Nat) : Int))) ∨ ((rowF (c.chunks)) = true) := Or.imp (fun h => of_decide_eq_false h) (fun h => (bnot_f h)) (band_f q37)
 refine WC.skip ?_
 refine WX.next ?_
 refine WC.seq ?_
 refine WC.seq ?_
 refine WC.region ?_
 refine WO.v (R.move rfl) rfl ?_
 refine WO.v (R.lss rfl rfl) rfl ?_
 refine WO.nil ?_
 refine WX.sel [0, 1, 2, 4, 5, 7, 27, 38, 39, 40, 47, 58, 60] rfl ?_
 refine WX.next ?_
 refine WC.cond rfl (fun q38 => ?_) (fun q38 => ?_)
 have p38 : v < (3 : Int) := of_decide_eq_true q38
 refine WC.seq ?_
 refine WC.region ?_
 refine WO.v (fa24_7 rfl) rfl ?_
 have B39 := (B13).kp0 k36
 refine WO.v (R.loadB rfl B39 rfl Try.underlying9 rfl) rfl ?_
 refine WO.v (R.eqlS rfl (by rfl)) rfl ?_
 refine WO.v (R.assign rfl) rfl ?_
 refine WO.nil ?_
 refine WX.sel [0, 1, 2, 4, 5, 7, 27, 38, 39, 40, 47, 58, 60] rfl ?_
 refine WX.next ?_
 refine WC.ret ?_
 refine WX.thenRet ?_
 have e0 : (decide (c.text = (⟨[]⟩ : Str))) = (forF c v) := by first | exact for_kind (by omega) | exact for_num (by omega) | exact for_row (by assumption) | exact for_lo (by omega) (by omega) (by assumption) (by omega) | exact for_hi (by omega) (by omega) (by assumption) (by omega) | exact for_lo (by omega) (by omega) (by omega) (by omega) | exact for_hi (by omega) (by omega) (by omega) (by omega)
 refine WX.ret1 Try.results33 rfl ?_
 exact ⟨by rw [e0], Kp.of_below b36⟩
 have p38 : ¬ (v < (3 : Int)) := of_decide_eq_false q38
 refine WC.skip ?_
 refine WX.next ?_
 refine WC.seq ?_
 refine WC.region ?_
 refine WO.v (fa24_7 rfl) rfl ?_
 have B40 := (B13).kp0 k36
 refine WO.v (R.loadB rfl B40 rfl Try.underlying9 rfl) rfl ?_
 refine WO.v (R.lenS rfl Try.underlying9) rfl ?_
 refine WO.v (R.leq rfl rfl) rfl ?_
 refine WO.v (R.assign rfl) rfl ?_
 refine WO.nil ?_
 refine WX.sel [0, 1, 2, 4, 5, 7, 27, 38, 39, 40, 47, 58, 60] rfl ?_
 refine WX.next ?_
 refine WC.ret ?_
 have e0 : (decide (((c.text.b.length : Nat) : Int) ≤ (16 : Int))) = (forF c v) := by first | exact for_kind (by omega) | exact for_num (by omega) | exact for_row (by assumption) | exact for_lo (by omega) (by omega) (by assumption) (by omega) | exact for_hi (by omega) (by omega) (by assumption) (by omega) | exact for_lo (by omega) (by omega) (by omega) (by omega) | exact for_hi (by omega) (by omega) (by omega) (by omega)
 refine WX.ret1 Try.results33 rfl ?_
 exact ⟨by rw [e0], Kp.of_below b36⟩
 have p30 : ¬ (((4 : Nat) : Int) < (5 : Int)) := of_decide_eq_false q30
 exact False.elim (by omega)
 have p27 : ¬ (((3 : Nat) : Int) < (5 : Int)) := of_decide_eq_false q27
 exact False.elim (by omega)
 have p24 : ¬ (((2 : Nat) : Int) < (5 : Int)) := of_decide_eq_false q24
 exact False.elim (by omega)
 have p21 : ¬ (((1 : Nat) : Int) < (5 : Int)) := of_decide_eq_false q21
 exact False.elim (by omega)
 have p18 : ¬ ((0 : Int) < (5 : Int)) := of_decide_eq_false q18
 exact False.elim (by omega)

set_option maxRecDepth 100000 in
set_option maxHeartbeats 400000 in
theorem forR_s {w : World} {cs_c : List Value} {c : Command} (v : Int) (h_c : Rp.rp false 0 w.heap.size w cs_c c) :
    Ret Try.prog 38 [.agg cs_c.toArray, .int .i64 v].toArray w fun r w' => r = .bool (forF c v) ∧ Kp [] w w' := by
 obtain ⟨a7, c8, rfl, i1, i2, i3, i4, i5, i6, s9, i10⟩ := Command.el h_c
 have ls9 : (c.chunks).length * 8 ≤ 140737488355328 := s9.lenle
 refine Ret.enter Try.func38 rfl Try.ntmps38 rfl rfl ?_
 refine WC.sel [0, 1] rfl ?_
 refine WC.seq ?_
 refine WC.region ?_
 refine WO.box rfl rfl rfl ?_
 intro w11 n11
 have z11 := n11.lt
 have b11 := old_kp0 (Below.refl w.heap.size w) n11.kp
 have y11 := b11.size
 refine WO.v (R.assign rfl) rfl ?_
 refine WO.nil ?_
 refine WX.sel [0, 1, 2, 4] rfl ?_
 refine WX.next ?_
 refine WC.seq ?_
 refine WC.region ?_
 refine WO.v (fa24_1 rfl) rfl ?_
 refine WO.v (R.loadB rfl n11.blk rfl Try.underlying3 rfl) rfl ?_
 refine WO.c (E.call rfl rfl Try.func37 rfl rfl) (in5_s (n := c.client) (a := (0 : Int)) (b := (1048576 : Int)) ) rfl ?_
 rintro _ _ ⟨rfl, rfl⟩
 refine WO.v (R.move rfl) rfl ?_
 refine WO.cutP 4 [(16, (.bool (((decide (((0 : Int)) ≤ (c.client))) && (decide ((c.client) ≤ ((1048576 : Int))))) && ((decide (((0 : Int)) ≤ (c.seq))) && (decide ((c.seq) ≤ ((1048576 : Int))))))))] (fun w' => w11 = w') ?_ ?_
 rcases Bool.eq_false_or_eq_true ((decide (((0 : Int)) ≤ (c.client))) && (decide ((c.client) ≤ ((1048576 : Int))))) with hb12 | hb12
 have phb12 : (((0 : Int)) ≤ (c.client)) ∧ ((c.client) ≤ ((1048576 : Int))) := ⟨of_decide_eq_true (band_t hb12).1, of_decide_eq_true (band_t hb12).2⟩
 refine WO.on rfl rfl hb12 ?_
 refine WO.v (fa24_2 rfl) rfl ?_
 refine WO.on rfl rfl hb12 ?_
 refine WO.v (R.loadB rfl n11.blk rfl Try.underlying3 rfl) rfl ?_
 refine WO.on rfl rfl hb12 ?_
 refine WO.c (E.call rfl rfl Try.func37 rfl rfl) (in5_s (n := c.seq) (a := (0 : Int)) (b := (1048576 : Int)) ) rfl ?_
 rintro _ _ ⟨rfl, rfl⟩
 refine WO.v (R.pickT rfl hb12 rfl) rfl ?_
 refine WO.nil ?_
 exact WX.cutDoneP 4 rfl rfl ⟨⟨_, rfl, vb (band_on hb12)⟩, trivial⟩ (rfl)
 have phb12 : (¬ (((0 : Int)) ≤ (c.client))) ∨ (¬ ((c.client) ≤ ((1048576 : Int)))) := Or.imp (fun h => of_decide_eq_false h) (fun h => of_decide_eq_false h) (band_f hb12)
 refine WO.off rfl rfl hb12 rfl ?_
 refine WO.off rfl rfl hb12 rfl ?_
 refine WO.off rfl rfl hb12 rfl ?_
 refine WO.v (R.pickF rfl hb12 rfl) rfl ?_
 refine WO.nil ?_
 exact WX.cutDoneP 4 rfl rfl ⟨⟨_, rfl, vb (band_off hb12)⟩, trivial⟩ (rfl)
 rintro _ rfl
 refine WO.v (R.move rfl) rfl ?_
 refine WO.cutP 4 [(21, (.bool ((((decide (((0 : Int)) ≤ (c.client))) && (decide ((c.client) ≤ ((1048576 : Int))))) && ((decide (((0 : Int)) ≤ (c.seq))) && (decide ((c.seq) ≤ ((1048576 : Int)))))) && ((decide (((0 : Int)) ≤ (c.set))) && (decide ((c.set) ≤ ((1048576 : Int))))))))] (fun w' => w11 = w') ?_ ?_
 rcases Bool.eq_false_or_eq_true (((decide (((0 : Int)) ≤ (c.client))) && (decide ((c.client) ≤ ((1048576 : Int))))) && ((decide (((0 : Int)) ≤ (c.seq))) && (decide ((c.seq) ≤ ((1048576 : Int)))))) with hb13 | hb13
 have phb13 : ((((0 : Int)) ≤ (c.client)) ∧ ((c.client) ≤ ((1048576 : Int)))) ∧ ((((0 : Int)) ≤ (c.seq)) ∧ ((c.seq) ≤ ((1048576 : Int)))) := ⟨⟨of_decide_eq_true (band_t (band_t hb13).1).1, of_decide_eq_true (band_t (band_t hb13).1).2⟩, ⟨of_decide_eq_true (band_t (band_t hb13).2).1, of_decide_eq_true (band_t (band_t hb13).2).2⟩⟩
 refine WO.on rfl rfl hb13 ?_
 refine WO.v (fa24_3 rfl) rfl ?_
 refine WO.on rfl rfl hb13 ?_
 refine WO.v (R.loadB rfl n11.blk rfl Try.underlying3 rfl) rfl ?_
 refine WO.on rfl rfl hb13 ?_
 refine WO.c (E.call rfl rfl Try.func37 rfl rfl) (in5_s (n := c.set) (a := (0 : Int)) (b := (1048576 : Int)) ) rfl ?_
 rintro _ _ ⟨rfl, rfl⟩
 refine WO.v (R.pickT rfl hb13 rfl) rfl ?_
 refine WO.nil ?_
 exact WX.cutDoneP 4 rfl rfl ⟨⟨_, rfl, vb (band_on hb13)⟩, trivial⟩ (rfl)
 have phb13 : ((¬ (((0 : Int)) ≤ (c.client))) ∨ (¬ ((c.client) ≤ ((1048576 : Int))))) ∨ ((¬ (((0 : Int)) ≤ (c.seq))) ∨ (¬ ((c.seq) ≤ ((1048576 : Int))))) := Or.imp (fun h => Or.imp (fun h => of_decide_eq_false h) (fun h => of_decide_eq_false h) (band_f h)) (fun h => Or.imp (fun h => of_decide_eq_false h) (fun h => of_decide_eq_false h) (band_f h)) (band_f hb13)
 refine WO.off rfl rfl hb13 rfl ?_
 refine WO.off rfl rfl hb13 rfl ?_
 refine WO.off rfl rfl hb13 rfl ?_
 refine WO.v (R.pickF rfl hb13 rfl) rfl ?_
 refine WO.nil ?_
 exact WX.cutDoneP 4 rfl rfl ⟨⟨_, rfl, vb (band_off hb13)⟩, trivial⟩ (rfl)
 rintro _ rfl
 refine WO.v (R.move rfl) rfl ?_
 refine WO.cutP 4 [(26, (.bool (((((decide (((0 : Int)) ≤ (c.client))) && (decide ((c.client) ≤ ((1048576 : Int))))) && ((decide (((0 : Int)) ≤ (c.seq))) && (decide ((c.seq) ≤ ((1048576 : Int)))))) && ((decide (((0 : Int)) ≤ (c.set))) && (decide ((c.set) ≤ ((1048576 : Int)))))) && ((decide (((0 : Int)) ≤ (c.id))) && (decide ((c.id) ≤ ((1048576 : Int))))))))] (fun w' => w11 = w') ?_ ?_
 rcases Bool.eq_false_or_eq_true ((((decide (((0 : Int)) ≤ (c.client))) && (decide ((c.client) ≤ ((1048576 : Int))))) && ((decide (((0 : Int)) ≤ (c.seq))) && (decide ((c.seq) ≤ ((1048576 : Int)))))) && ((decide (((0 : Int)) ≤ (c.set))) && (decide ((c.set) ≤ ((1048576 : Int)))))) with hb14 | hb14
 have phb14 : (((((0 : Int)) ≤ (c.client)) ∧ ((c.client) ≤ ((1048576 : Int)))) ∧ ((((0 : Int)) ≤ (c.seq)) ∧ ((c.seq) ≤ ((1048576 : Int))))) ∧ ((((0 : Int)) ≤ (c.set)) ∧ ((c.set) ≤ ((1048576 : Int)))) := ⟨⟨⟨of_decide_eq_true (band_t (band_t (band_t hb14).1).1).1, of_decide_eq_true (band_t (band_t (band_t hb14).1).1).2⟩, ⟨of_decide_eq_true (band_t (band_t (band_t hb14).1).2).1, of_decide_eq_true (band_t (band_t (band_t hb14).1).2).2⟩⟩, ⟨of_decide_eq_true (band_t (band_t hb14).2).1, of_decide_eq_true (band_t (band_t hb14).2).2⟩⟩
 refine WO.on rfl rfl hb14 ?_
 refine WO.v (fa24_4 rfl) rfl ?_
 refine WO.on rfl rfl hb14 ?_
 refine WO.v (R.loadB rfl n11.blk rfl Try.underlying3 rfl) rfl ?_
 refine WO.on rfl rfl hb14 ?_
 refine WO.c (E.call rfl rfl Try.func37 rfl rfl) (in5_s (n := c.id) (a := (0 : Int)) (b := (1048576 : Int)) ) rfl ?_
 rintro _ _ ⟨rfl, rfl⟩
 refine WO.v (R.pickT rfl hb14 rfl) rfl ?_
 refine WO.nil ?_
 exact WX.cutDoneP 4 rfl rfl ⟨⟨_, rfl, vb (band_on hb14)⟩, trivial⟩ (rfl)
 have phb14 : (((¬ (((0 : Int)) ≤ (c.client))) ∨ (¬ ((c.client) ≤ ((1048576 : Int))))) ∨ ((¬ (((0 : Int)) ≤ (c.seq))) ∨ (¬ ((c.seq) ≤ ((1048576 : Int)))))) ∨ ((¬ (((0 : Int)) ≤ (c.set))) ∨ (¬ ((c.set) ≤ ((1048576 : Int))))) := Or.imp (fun h => Or.imp (fun h => Or.imp (fun h => of_decide_eq_false h) (fun h => of_decide_eq_false h) (band_f h)) (fun h => Or.imp (fun h => of_decide_eq_false h) (fun h => of_decide_eq_false h) (band_f h)) (band_f h)) (fun h => Or.imp (fun h => of_decide_eq_false h) (fun h => of_decide_eq_false h) (band_f h)) (band_f hb14)
 refine WO.off rfl rfl hb14 rfl ?_
 refine WO.off rfl rfl hb14 rfl ?_
 refine WO.off rfl rfl hb14 rfl ?_
 refine WO.v (R.pickF rfl hb14 rfl) rfl ?_
 refine WO.nil ?_
 exact WX.cutDoneP 4 rfl rfl ⟨⟨_, rfl, vb (band_off hb14)⟩, trivial⟩ (rfl)
 rintro _ rfl
 refine WO.v (R.move rfl) rfl ?_
 refine WO.cutP 4 [(31, (.bool ((((((decide (((0 : Int)) ≤ (c.client))) && (decide ((c.client) ≤ ((1048576 : Int))))) && ((decide (((0 : Int)) ≤ (c.seq))) && (decide ((c.seq) ≤ ((1048576 : Int)))))) && ((decide (((0 : Int)) ≤ (c.set))) && (decide ((c.set) ≤ ((1048576 : Int)))))) && ((decide (((0 : Int)) ≤ (c.id))) && (decide ((c.id) ≤ ((1048576 : Int)))))) && ((decide (((0 : Int)) ≤ (c.n))) && (decide ((c.n) ≤ ((1048576 : Int))))))))] (fun w' => w11 = w') ?_ ?_
 rcases Bool.eq_false_or_eq_true (((((decide (((0 : Int)) ≤ (c.client))) && (decide ((c.client) ≤ ((1048576 : Int))))) && ((decide (((0 : Int)) ≤ (c.seq))) && (decide ((c.seq) ≤ ((1048576 : Int)))))) && ((decide (((0 : Int)) ≤ (c.set))) && (decide ((c.set) ≤ ((1048576 : Int)))))) && ((decide (((0 : Int)) ≤ (c.id))) && (decide ((c.id) ≤ ((1048576 : Int)))))) with hb15 | hb15
 have phb15 : ((((((0 : Int)) ≤ (c.client)) ∧ ((c.client) ≤ ((1048576 : Int)))) ∧ ((((0 : Int)) ≤ (c.seq)) ∧ ((c.seq) ≤ ((1048576 : Int))))) ∧ ((((0 : Int)) ≤ (c.set)) ∧ ((c.set) ≤ ((1048576 : Int))))) ∧ ((((0 : Int)) ≤ (c.id)) ∧ ((c.id) ≤ ((1048576 : Int)))) := ⟨⟨⟨⟨of_decide_eq_true (band_t (band_t (band_t (band_t hb15).1).1).1).1, of_decide_eq_true (band_t (band_t (band_t (band_t hb15).1).1).1).2⟩, ⟨of_decide_eq_true (band_t (band_t (band_t (band_t hb15).1).1).2).1, of_decide_eq_true (band_t (band_t (band_t (band_t hb15).1).1).2).2⟩⟩, ⟨of_decide_eq_true (band_t (band_t (band_t hb15).1).2).1, of_decide_eq_true (band_t (band_t (band_t hb15).1).2).2⟩⟩, ⟨of_decide_eq_true (band_t (band_t hb15).2).1, of_decide_eq_true (band_t (band_t hb15).2).2⟩⟩
 refine WO.on rfl rfl hb15 ?_
 refine WO.v (fa24_5 rfl) rfl ?_
 refine WO.on rfl rfl hb15 ?_
 refine WO.v (R.loadB rfl n11.blk rfl Try.underlying3 rfl) rfl ?_
 refine WO.on rfl rfl hb15 ?_
 refine WO.c (E.call rfl rfl Try.func37 rfl rfl) (in5_s (n := c.n) (a := (0 : Int)) (b := (1048576 : Int)) ) rfl ?_
 rintro _ _ ⟨rfl, rfl⟩
 refine WO.v (R.pickT rfl hb15 rfl) rfl ?_
 refine WO.nil ?_
 exact WX.cutDoneP 4 rfl rfl ⟨⟨_, rfl, vb (band_on hb15)⟩, trivial⟩ (rfl)
 have phb15 : ((((¬ (((0 : Int)) ≤ (c.client))) ∨ (¬ ((c.client) ≤ ((1048576 : Int))))) ∨ ((¬ (((0 : Int)) ≤ (c.seq))) ∨ (¬ ((c.seq) ≤ ((1048576 : Int)))))) ∨ ((¬ (((0 : Int)) ≤ (c.set))) ∨ (¬ ((c.set) ≤ ((1048576 : Int)))))) ∨ ((¬ (((0 : Int)) ≤ (c.id))) ∨ (¬ ((c.id) ≤ ((1048576 : Int))))) := Or.imp (fun h => Or.imp (fun h => Or.imp (fun h => Or.imp (fun h => of_decide_eq_false h) (fun h => of_decide_eq_false h) (band_f h)) (fun h => Or.imp (fun h => of_decide_eq_false h) (fun h => of_decide_eq_false h) (band_f h)) (band_f h)) (fun h => Or.imp (fun h => of_decide_eq_false h) (fun h => of_decide_eq_false h) (band_f h)) (band_f h)) (fun h => Or.imp (fun h => of_decide_eq_false h) (fun h => of_decide_eq_false h) (band_f h)) (band_f hb15)
 refine WO.off rfl rfl hb15 rfl ?_
 refine WO.off rfl rfl hb15 rfl ?_
 refine WO.off rfl rfl hb15 rfl ?_
 refine WO.v (R.pickF rfl hb15 rfl) rfl ?_
 refine WO.nil ?_
 exact WX.cutDoneP 4 rfl rfl ⟨⟨_, rfl, vb (band_off hb15)⟩, trivial⟩ (rfl)
 rintro _ rfl
 refine WO.v (R.assign rfl) rfl ?_
 refine WO.nil ?_
 refine WX.sel [0, 1, 2, 4, 5] rfl ?_
 refine WX.next ?_
 refine WC.seq ?_
 refine WC.region ?_
 refine WO.v (fa24_6 rfl) rfl ?_
 refine WO.v (R.loadB rfl n11.blk rfl Try.underlying22 rfl) rfl ?_
 refine WO.v (R.len rfl Try.underlying22) rfl ?_
 refine WO.v (R.eql rfl rfl) rfl ?_
 refine WO.v (R.move rfl) rfl ?_
 refine WO.cutP 4 [(40, (.bool ((decide (((c.chunks.length : Nat) : Int) = (0 : Int))) || (rowF (c.chunks)))))] (fun w' => Kp [] w11 w') ?_ ?_
 rcases Bool.eq_false_or_eq_true (decide (((c.chunks.length : Nat) : Int) = (0 : Int))) with hb16 | hb16
 have phb16 : ((c.chunks.length : Nat) : Int) = (0 : Int) := of_decide_eq_true hb16
 refine WO.off rfl rfl hb16 rfl ?_
 refine WO.off rfl rfl hb16 rfl ?_
 refine WO.off rfl rfl hb16 rfl ?_
 refine WO.v (R.pickT rfl hb16 rfl) rfl ?_
 refine WO.nil ?_
 exact WX.cutDoneP 4 rfl rfl ⟨⟨_, rfl, vb (bor_on hb16)⟩, trivial⟩ (Kp.refl _)
 have phb16 : ¬ (((c.chunks.length : Nat) : Int) = (0 : Int)) := of_decide_eq_false hb16
 refine WO.on rfl rfl hb16 ?_
 refine WO.v (fa24_6 rfl) rfl ?_
 refine WO.on rfl rfl hb16 ?_
 refine WO.v (R.loadB rfl n11.blk rfl Try.underlying22 rfl) rfl ?_
 refine WO.on rfl rfl hb16 ?_
 refine WO.c (E.call rfl rfl Try.func47 rfl rfl) (row5_s (l := c.chunks) (a_l := a7) (c_l := c8) ((sl_old s9 b11).mono (lo' := 0) (hi' := w11.heap.size) (Nat.zero_le _) (by omega))) rfl ?_
 rintro _ w17 ⟨rfl, k17⟩
 have z17 := k17.size
 have b17 := old_kp0 b11 k17
 have y17 := b17.size
 refine WO.v (R.pickF rfl hb16 rfl) rfl ?_
 refine WO.nil ?_
 exact WX.cutDoneP 4 rfl rfl ⟨⟨_, rfl, vb (bor_off hb16)⟩, trivial⟩ ((Kp.refl _).step k17 (by simp))
 intro w18 k18
 have z18 := k18.size
 have b18 := old_kp0 b11 k18
 have y18 := b18.size
 refine WO.v (R.assign rfl) rfl ?_
 refine WO.nil ?_
 refine WX.sel [0, 1, 2, 4, 5, 6] rfl ?_
 refine WX.next ?_
 refine WC.seq ?_
 refine WC.region ?_
 refine WO.v (fa24_7 rfl) rfl ?_
 have B19 := (n11.blk).kp0 k18
 refine WO.v (R.loadB rfl B19 rfl Try.underlying9 rfl) rfl ?_
 refine WO.v (R.lenS rfl Try.underlying9) rfl ?_
 refine WO.v (R.eql rfl rfl) rfl ?_
 refine WO.v (R.move rfl) rfl ?_
 refine WO.cutP 9 [(54, (.bool ((decide (((c.text.b.length : Nat) : Int) = (0 : Int))) || ((decide ((3 : Int) ≤ v)) && (decide (((c.text.b.length : Nat) : Int) ≤ (16 : Int)))))))] (fun w' => w18 = w') ?_ ?_
 rcases Bool.eq_false_or_eq_true (decide (((c.text.b.length : Nat) : Int) = (0 : Int))) with hb20 | hb20
 have phb20 : ((c.text.b.length : Nat) : Int) = (0 : Int) := of_decide_eq_true hb20
 refine WO.off rfl rfl hb20 rfl ?_
 refine WO.off rfl rfl hb20 rfl ?_
 refine WO.off rfl rfl hb20 rfl ?_
 refine WO.offU rfl rfl rfl ?_
 refine WO.offU rfl rfl rfl ?_
 refine WO.offU rfl rfl rfl ?_
 refine WO.offU rfl rfl rfl ?_
 refine WO.off rfl rfl hb20 rfl ?_
 refine WO.v (R.pickT rfl hb20 rfl) rfl ?_
 refine WO.nil ?_
 exact WX.cutDoneP 9 rfl rfl ⟨⟨_, rfl, vb (bor_on hb20)⟩, trivial⟩ (rfl)
 have phb20 : ¬ (((c.text.b.length : Nat) : Int) = (0 : Int)) := of_decide_eq_false hb20
 refine WO.on rfl rfl hb20 ?_
 refine WO.v (R.move rfl) rfl ?_
 refine WO.on rfl rfl hb20 ?_
 refine WO.v (R.geq rfl rfl) rfl ?_
 refine WO.on rfl rfl hb20 ?_
 refine WO.v (R.move rfl) rfl ?_
 refine WO.cutP 5 [(53, (.bool ((decide ((3 : Int) ≤ v)) && (decide (((c.text.b.length : Nat) : Int) ≤ (16 : Int))))))] (fun w' => w18 = w') ?_ ?_
 rcases Bool.eq_false_or_eq_true (decide ((3 : Int) ≤ v)) with hb21 | hb21
 have phb21 : (3 : Int) ≤ v := of_decide_eq_true hb21
 refine WO.on rfl rfl hb21 ?_
 refine WO.v (fa24_7 rfl) rfl ?_
 refine WO.on rfl rfl hb21 ?_
 refine WO.v (R.loadB rfl B19 rfl Try.underlying9 rfl) rfl ?_
 refine WO.on rfl rfl hb21 ?_
 refine WO.v (R.lenS rfl Try.underlying9) rfl ?_
 refine WO.on rfl rfl hb21 ?_
 refine WO.v (R.leq rfl rfl) rfl ?_
 refine WO.on rfl rfl hb20 ?_
 refine WO.v (R.pickT rfl hb21 rfl) rfl ?_
 refine WO.nil ?_
 exact WX.cutDoneP 5 rfl rfl ⟨⟨_, rfl, vb (band_on hb21)⟩, trivial⟩ (rfl)
 have phb21 : ¬ ((3 : Int) ≤ v) := of_decide_eq_false hb21
 refine WO.off rfl rfl hb21 rfl ?_
 refine WO.off rfl rfl hb21 rfl ?_
 refine WO.off rfl rfl hb21 rfl ?_
 refine WO.off rfl rfl hb21 rfl ?_
 refine WO.on rfl rfl hb20 ?_
 refine WO.v (R.pickF rfl hb21 rfl) rfl ?_
 refine WO.nil ?_
 exact WX.cutDoneP 5 rfl rfl ⟨⟨_, rfl, vb (band_off hb21)⟩, trivial⟩ (rfl)
 rintro _ rfl
 refine WO.v (R.pickF rfl hb20 rfl) rfl ?_
 refine WO.nil ?_
 exact WX.cutDoneP 5 rfl rfl ⟨⟨_, rfl, vb (bor_off hb20)⟩, trivial⟩ (rfl)
 rintro _ rfl
 refine WO.v (R.assign rfl) rfl ?_
 refine WO.nil ?_
 refine WX.sel [0, 1, 2, 4, 5, 6, 7] rfl ?_
 refine WX.next ?_
 refine WC.seq ?_
 refine WC.region ?_
 refine WO.v (fa24_0 rfl) rfl ?_
 refine WO.v (R.loadB rfl B19 rfl Try.underlying3 rfl) rfl ?_
 refine WO.c (E.call rfl rfl Try.func27 rfl rfl) (needR_s (k := c.kind) ) rfl ?_
 rintro _ w22 ⟨rfl, k22⟩
 have z22 := k22.size
 have b22 := old_kp0 b18 k22
 have y22 := b22.size
 refine WO.v (R.assign rfl) rfl ?_
 refine WO.nil ?_
 refine WX.sel [0, 1, 2, 4, 5, 6, 7, 8] rfl ?_
 refine WX.next ?_
 refine WC.seq ?_
 refine WC.region ?_
 refine WO.v (fa24_0 rfl) rfl ?_
 have B23 := (B19).kp0 k22
 refine WO.v (R.loadB rfl B23 rfl Try.underlying3 rfl) rfl ?_
 refine WO.c (E.call rfl rfl Try.func37 rfl rfl) (in5_s (n := c.kind) (a := (1 : Int)) (b := (99 : Int)) ) rfl ?_
 rintro _ _ ⟨rfl, rfl⟩
 refine WO.v (R.move rfl) rfl ?_
 refine WO.cutP 8 [(69, (.bool (((decide (((1 : Int)) ≤ (c.kind))) && (decide ((c.kind) ≤ ((99 : Int))))) && ((decide (needF (c.kind) = (0 : Int))) || (decide (v < needF (c.kind)))))))] (fun w' => w22 = w') ?_ ?_
 rcases Bool.eq_false_or_eq_true ((decide (((1 : Int)) ≤ (c.kind))) && (decide ((c.kind) ≤ ((99 : Int))))) with hb24 | hb24
 have phb24 : (((1 : Int)) ≤ (c.kind)) ∧ ((c.kind) ≤ ((99 : Int))) := ⟨of_decide_eq_true (band_t hb24).1, of_decide_eq_true (band_t hb24).2⟩
 refine WO.on rfl rfl hb24 ?_
 refine WO.v (R.move rfl) rfl ?_
 refine WO.on rfl rfl hb24 ?_
 refine WO.v (R.eql rfl rfl) rfl ?_
 refine WO.on rfl rfl hb24 ?_
 refine WO.v (R.move rfl) rfl ?_
 refine WO.cutP 4 [(68, (.bool ((decide (needF (c.kind) = (0 : Int))) || (decide (v < needF (c.kind))))))] (fun w' => w22 = w') ?_ ?_
 rcases Bool.eq_false_or_eq_true (decide (needF (c.kind) = (0 : Int))) with hb25 | hb25
 have phb25 : needF (c.kind) = (0 : Int) := of_decide_eq_true hb25
 refine WO.off rfl rfl hb25 rfl ?_
 refine WO.off rfl rfl hb25 rfl ?_
 refine WO.off rfl rfl hb25 rfl ?_
 refine WO.on rfl rfl hb24 ?_
 refine WO.v (R.pickT rfl hb25 rfl) rfl ?_
 refine WO.nil ?_
 exact WX.cutDoneP 4 rfl rfl ⟨⟨_, rfl, vb (bor_on hb25)⟩, trivial⟩ (rfl)
 have phb25 : ¬ (needF (c.kind) = (0 : Int)) := of_decide_eq_false hb25
 refine WO.on rfl rfl hb25 ?_
 refine WO.v (R.move rfl) rfl ?_
 refine WO.on rfl rfl hb25 ?_
 refine WO.v (R.move rfl) rfl ?_
 refine WO.on rfl rfl hb25 ?_
 refine WO.v (R.gtr rfl rfl) rfl ?_
 refine WO.on rfl rfl hb24 ?_
 refine WO.v (R.pickF rfl hb25 rfl) rfl ?_
 refine WO.nil ?_
 exact WX.cutDoneP 4 rfl rfl ⟨⟨_, rfl, vb (bor_off hb25)⟩, trivial⟩ (rfl)
 rintro _ rfl
 refine WO.v (R.pickT rfl hb24 rfl) rfl ?_
 refine WO.nil ?_
 exact WX.cutDoneP 5 rfl rfl ⟨⟨_, rfl, vb (band_on hb24)⟩, trivial⟩ (rfl)
 have phb24 : (¬ (((1 : Int)) ≤ (c.kind))) ∨ (¬ ((c.kind) ≤ ((99 : Int)))) := Or.imp (fun h => of_decide_eq_false h) (fun h => of_decide_eq_false h) (band_f hb24)
 refine WO.off rfl rfl hb24 rfl ?_
 refine WO.off rfl rfl hb24 rfl ?_
 refine WO.off rfl rfl hb24 rfl ?_
 refine WO.offU rfl rfl rfl ?_
 refine WO.offU rfl rfl rfl ?_
 refine WO.offU rfl rfl rfl ?_
 refine WO.off rfl rfl hb24 rfl ?_
 refine WO.v (R.pickF rfl hb24 rfl) rfl ?_
 refine WO.nil ?_
 exact WX.cutDoneP 8 rfl rfl ⟨⟨_, rfl, vb (band_off hb24)⟩, trivial⟩ (rfl)
 rintro _ rfl
 refine WO.v (R.move rfl) rfl ?_
 refine WO.cutP 2 [(72, (.bool ((((decide (((1 : Int)) ≤ (c.kind))) && (decide ((c.kind) ≤ ((99 : Int))))) && ((decide (needF (c.kind) = (0 : Int))) || (decide (v < needF (c.kind))))) && ((((((decide (((0 : Int)) ≤ (c.client))) && (decide ((c.client) ≤ ((1048576 : Int))))) && ((decide (((0 : Int)) ≤ (c.seq))) && (decide ((c.seq) ≤ ((1048576 : Int)))))) && ((decide (((0 : Int)) ≤ (c.set))) && (decide ((c.set) ≤ ((1048576 : Int)))))) && ((decide (((0 : Int)) ≤ (c.id))) && (decide ((c.id) ≤ ((1048576 : Int)))))) && ((decide (((0 : Int)) ≤ (c.n))) && (decide ((c.n) ≤ ((1048576 : Int)))))))))] (fun w' => w22 = w') ?_ ?_
 rcases Bool.eq_false_or_eq_true (((decide (((1 : Int)) ≤ (c.kind))) && (decide ((c.kind) ≤ ((99 : Int))))) && ((decide (needF (c.kind) = (0 : Int))) || (decide (v < needF (c.kind))))) with hb26 | hb26
 have phb26 : ((((1 : Int)) ≤ (c.kind)) ∧ ((c.kind) ≤ ((99 : Int)))) ∧ ((needF (c.kind) = (0 : Int)) ∨ (v < needF (c.kind))) := ⟨⟨of_decide_eq_true (band_t (band_t hb26).1).1, of_decide_eq_true (band_t (band_t hb26).1).2⟩, Or.imp (fun h => of_decide_eq_true h) (fun h => of_decide_eq_true h) (bor_t (band_t hb26).2)⟩
 refine WO.on rfl rfl hb26 ?_
 refine WO.v (R.move rfl) rfl ?_
 refine WO.v (R.pickT rfl hb26 rfl) rfl ?_
 refine WO.nil ?_
 exact WX.cutDoneP 2 rfl rfl ⟨⟨_, rfl, vb (band_on hb26)⟩, trivial⟩ (rfl)
 have phb26 : ((¬ (((1 : Int)) ≤ (c.kind))) ∨ (¬ ((c.kind) ≤ ((99 : Int))))) ∨ ((¬ (needF (c.kind) = (0 : Int))) ∧ (¬ (v < needF (c.kind)))) := Or.imp (fun h => Or.imp (fun h => of_decide_eq_false h) (fun h => of_decide_eq_false h) (band_f h)) (fun h => ⟨of_decide_eq_false (bor_f h).1, of_decide_eq_false (bor_f h).2⟩) (band_f hb26)
 refine WO.off rfl rfl hb26 rfl ?_
 refine WO.v (R.pickF rfl hb26 rfl) rfl ?_
 refine WO.nil ?_
 exact WX.cutDoneP 2 rfl rfl ⟨⟨_, rfl, vb (band_off hb26)⟩, trivial⟩ (rfl)
 rintro _ rfl
 refine WO.v (R.move rfl) rfl ?_
 refine WO.cutP 2 [(75, (.bool (((((decide (((1 : Int)) ≤ (c.kind))) && (decide ((c.kind) ≤ ((99 : Int))))) && ((decide (needF (c.kind) = (0 : Int))) || (decide (v < needF (c.kind))))) && ((((((decide (((0 : Int)) ≤ (c.client))) && (decide ((c.client) ≤ ((1048576 : Int))))) && ((decide (((0 : Int)) ≤ (c.seq))) && (decide ((c.seq) ≤ ((1048576 : Int)))))) && ((decide (((0 : Int)) ≤ (c.set))) && (decide ((c.set) ≤ ((1048576 : Int)))))) && ((decide (((0 : Int)) ≤ (c.id))) && (decide ((c.id) ≤ ((1048576 : Int)))))) && ((decide (((0 : Int)) ≤ (c.n))) && (decide ((c.n) ≤ ((1048576 : Int))))))) && ((decide (((c.chunks.length : Nat) : Int) = (0 : Int))) || (rowF (c.chunks))))))] (fun w' => w22 = w') ?_ ?_
 rcases Bool.eq_false_or_eq_true ((((decide (((1 : Int)) ≤ (c.kind))) && (decide ((c.kind) ≤ ((99 : Int))))) && ((decide (needF (c.kind) = (0 : Int))) || (decide (v < needF (c.kind))))) && ((((((decide (((0 : Int)) ≤ (c.client))) && (decide ((c.client) ≤ ((1048576 : Int))))) && ((decide (((0 : Int)) ≤ (c.seq))) && (decide ((c.seq) ≤ ((1048576 : Int)))))) && ((decide (((0 : Int)) ≤ (c.set))) && (decide ((c.set) ≤ ((1048576 : Int)))))) && ((decide (((0 : Int)) ≤ (c.id))) && (decide ((c.id) ≤ ((1048576 : Int)))))) && ((decide (((0 : Int)) ≤ (c.n))) && (decide ((c.n) ≤ ((1048576 : Int))))))) with hb27 | hb27
 have phb27 : (((((1 : Int)) ≤ (c.kind)) ∧ ((c.kind) ≤ ((99 : Int)))) ∧ ((needF (c.kind) = (0 : Int)) ∨ (v < needF (c.kind)))) ∧ ((((((((0 : Int)) ≤ (c.client)) ∧ ((c.client) ≤ ((1048576 : Int)))) ∧ ((((0 : Int)) ≤ (c.seq)) ∧ ((c.seq) ≤ ((1048576 : Int))))) ∧ ((((0 : Int)) ≤ (c.set)) ∧ ((c.set) ≤ ((1048576 : Int))))) ∧ ((((0 : Int)) ≤ (c.id)) ∧ ((c.id) ≤ ((1048576 : Int))))) ∧ ((((0 : Int)) ≤ (c.n)) ∧ ((c.n) ≤ ((1048576 : Int))))) := ⟨⟨⟨of_decide_eq_true (band_t (band_t (band_t hb27).1).1).1, of_decide_eq_true (band_t (band_t (band_t hb27).1).1).2⟩, Or.imp (fun h => of_decide_eq_true h) (fun h => of_decide_eq_true h) (bor_t (band_t (band_t hb27).1).2)⟩, ⟨⟨⟨⟨⟨of_decide_eq_true (band_t (band_t (band_t (band_t (band_t (band_t hb27).2).1).1).1).1).1, of_decide_eq_true (band_t (band_t (band_t (band_t (band_t (band_t hb27).2).1).1).1).1).2⟩, ⟨of_decide_eq_true (band_t (band_t (band_t (band_t (band_t (band_t hb27).2).1).1).1).2).1, of_decide_eq_true (band_t (band_t (band_t (band_t (band_t (band_t hb27).2).1).1).1).2).2⟩⟩, ⟨of_decide_eq_true (band_t (band_t (band_t (band_t (band_t hb27).2).1).1).2).1, of_decide_eq_true (band_t (band_t (band_t (band_t (band_t hb27).2).1).1).2).2⟩⟩, ⟨of_decide_eq_true (band_t (band_t (band_t (band_t hb27).2).1).2).1, of_decide_eq_true (band_t (band_t (band_t (band_t hb27).2).1).2).2⟩⟩, ⟨of_decide_eq_true (band_t (band_t (band_t hb27).2).2).1, of_decide_eq_true (band_t (band_t (band_t hb27).2).2).2⟩⟩⟩
 refine WO.on rfl rfl hb27 ?_
 refine WO.v (R.move rfl) rfl ?_
 refine WO.v (R.pickT rfl hb27 rfl) rfl ?_
 refine WO.nil ?_
 exact WX.cutDoneP 2 rfl rfl ⟨⟨_, rfl, vb (band_on hb27)⟩, trivial⟩ (rfl)
 have phb27 : (((¬ (((1 : Int)) ≤ (c.kind))) ∨ (¬ ((c.kind) ≤ ((99 : Int))))) ∨ ((¬ (needF (c.kind) = (0 : Int))) ∧ (¬ (v < needF (c.kind))))) ∨ ((((((¬ (((0 : Int)) ≤ (c.client))) ∨ (¬ ((c.client) ≤ ((1048576 : Int))))) ∨ ((¬ (((0 : Int)) ≤ (c.seq))) ∨ (¬ ((c.seq) ≤ ((1048576 : Int)))))) ∨ ((¬ (((0 : Int)) ≤ (c.set))) ∨ (¬ ((c.set) ≤ ((1048576 : Int)))))) ∨ ((¬ (((0 : Int)) ≤ (c.id))) ∨ (¬ ((c.id) ≤ ((1048576 : Int)))))) ∨ ((¬ (((0 : Int)) ≤ (c.n))) ∨ (¬ ((c.n) ≤ ((1048576 : Int)))))) := Or.imp (fun h => Or.imp (fun h => Or.imp (fun h => of_decide_eq_false h) (fun h => of_decide_eq_false h) (band_f h)) (fun h => ⟨of_decide_eq_false (bor_f h).1, of_decide_eq_false (bor_f h).2⟩) (band_f h)) (fun h => Or.imp (fun h => Or.imp (fun h => Or.imp (fun h => Or.imp (fun h => Or.imp (fun h => of_decide_eq_false h) (fun h => of_decide_eq_false h) (band_f h)) (fun h => Or.imp (fun h => of_decide_eq_false h) (fun h => of_decide_eq_false h) (band_f h)) (band_f h)) (fun h => Or.imp (fun h => of_decide_eq_false h) (fun h => of_decide_eq_false h) (band_f h)) (band_f h)) (fun h => Or.imp (fun h => of_decide_eq_false h) (fun h => of_decide_eq_false h) (band_f h)) (band_f h)) (fun h => Or.imp (fun h => of_decide_eq_false h) (fun h => of_decide_eq_false h) (band_f h)) (band_f h)) (band_f hb27)
 refine WO.off rfl rfl hb27 rfl ?_
 refine WO.v (R.pickF rfl hb27 rfl) rfl ?_
 refine WO.nil ?_
 exact WX.cutDoneP 2 rfl rfl ⟨⟨_, rfl, vb (band_off hb27)⟩, trivial⟩ (rfl)
 rintro _ rfl
 refine WO.v (R.move rfl) rfl ?_
 refine WO.cutP 2 [(78, (.bool ((((((decide (((1 : Int)) ≤ (c.kind))) && (decide ((c.kind) ≤ ((99 : Int))))) && ((decide (needF (c.kind) = (0 : Int))) || (decide (v < needF (c.kind))))) && ((((((decide (((0 : Int)) ≤ (c.client))) && (decide ((c.client) ≤ ((1048576 : Int))))) && ((decide (((0 : Int)) ≤ (c.seq))) && (decide ((c.seq) ≤ ((1048576 : Int)))))) && ((decide (((0 : Int)) ≤ (c.set))) && (decide ((c.set) ≤ ((1048576 : Int)))))) && ((decide (((0 : Int)) ≤ (c.id))) && (decide ((c.id) ≤ ((1048576 : Int)))))) && ((decide (((0 : Int)) ≤ (c.n))) && (decide ((c.n) ≤ ((1048576 : Int))))))) && ((decide (((c.chunks.length : Nat) : Int) = (0 : Int))) || (rowF (c.chunks)))) && ((decide (((c.text.b.length : Nat) : Int) = (0 : Int))) || ((decide ((3 : Int) ≤ v)) && (decide (((c.text.b.length : Nat) : Int) ≤ (16 : Int))))))))] (fun w' => w22 = w') ?_ ?_
 rcases Bool.eq_false_or_eq_true (((((decide (((1 : Int)) ≤ (c.kind))) && (decide ((c.kind) ≤ ((99 : Int))))) && ((decide (needF (c.kind) = (0 : Int))) || (decide (v < needF (c.kind))))) && ((((((decide (((0 : Int)) ≤ (c.client))) && (decide ((c.client) ≤ ((1048576 : Int))))) && ((decide (((0 : Int)) ≤ (c.seq))) && (decide ((c.seq) ≤ ((1048576 : Int)))))) && ((decide (((0 : Int)) ≤ (c.set))) && (decide ((c.set) ≤ ((1048576 : Int)))))) && ((decide (((0 : Int)) ≤ (c.id))) && (decide ((c.id) ≤ ((1048576 : Int)))))) && ((decide (((0 : Int)) ≤ (c.n))) && (decide ((c.n) ≤ ((1048576 : Int))))))) && ((decide (((c.chunks.length : Nat) : Int) = (0 : Int))) || (rowF (c.chunks)))) with hb28 | hb28
 have phb28 : ((((((1 : Int)) ≤ (c.kind)) ∧ ((c.kind) ≤ ((99 : Int)))) ∧ ((needF (c.kind) = (0 : Int)) ∨ (v < needF (c.kind)))) ∧ ((((((((0 : Int)) ≤ (c.client)) ∧ ((c.client) ≤ ((1048576 : Int)))) ∧ ((((0 : Int)) ≤ (c.seq)) ∧ ((c.seq) ≤ ((1048576 : Int))))) ∧ ((((0 : Int)) ≤ (c.set)) ∧ ((c.set) ≤ ((1048576 : Int))))) ∧ ((((0 : Int)) ≤ (c.id)) ∧ ((c.id) ≤ ((1048576 : Int))))) ∧ ((((0 : Int)) ≤ (c.n)) ∧ ((c.n) ≤ ((1048576 : Int)))))) ∧ ((((c.chunks.length : Nat) : Int) = (0 : Int)) ∨ ((rowF (c.chunks)) = true)) := ⟨⟨⟨⟨of_decide_eq_true (band_t (band_t (band_t (band_t hb28).1).1).1).1, of_decide_eq_true (band_t (band_t (band_t (band_t hb28).1).1).1).2⟩, Or.imp (fun h => of_decide_eq_true h) (fun h => of_decide_eq_true h) (bor_t (band_t (band_t (band_t hb28).1).1).2)⟩, ⟨⟨⟨⟨⟨of_decide_eq_true (band_t (band_t (band_t (band_t (band_t (band_t (band_t hb28).1).2).1).1).1).1).1, of_decide_eq_true (band_t (band_t (band_t (band_t (band_t (band_t (band_t hb28).1).2).1).1).1).1).2⟩, ⟨of_decide_eq_true (band_t (band_t (band_t (band_t (band_t (band_t (band_t hb28).1).2).1).1).1).2).1, of_decide_eq_true (band_t (band_t (band_t (band_t (band_t (band_t (band_t hb28).1).2).1).1).1).2).2⟩⟩, ⟨of_decide_eq_true (band_t (band_t (band_t (band_t (band_t (band_t hb28).1).2).1).1).2).1, of_decide_eq_true (band_t (band_t (band_t (band_t (band_t (band_t hb28).1).2).1).1).2).2⟩⟩, ⟨of_decide_eq_true (band_t (band_t (band_t (band_t (band_t hb28).1).2).1).2).1, of_decide_eq_true (band_t (band_t (band_t (band_t (band_t hb28).1).2).1).2).2⟩⟩, ⟨of_decide_eq_true (band_t (band_t (band_t (band_t hb28).1).2).2).1, of_decide_eq_true (band_t (band_t (band_t (band_t hb28).1).2).2).2⟩⟩⟩, Or.imp (fun h => of_decide_eq_true h) (fun h => h) (bor_t (band_t hb28).2)⟩
 refine WO.on rfl rfl hb28 ?_
 refine WO.v (R.move rfl) rfl ?_
 refine WO.v (R.pickT rfl hb28 rfl) rfl ?_
 refine WO.nil ?_
 exact WX.cutDoneP 2 rfl rfl ⟨⟨_, rfl, vb (band_on hb28)⟩, trivial⟩ (rfl)
 have phb28 : ((((¬ (((1 : Int)) ≤ (c.kind))) ∨ (¬ ((c.kind) ≤ ((99 : Int))))) ∨ ((¬ (needF (c.kind) = (0 : Int))) ∧ (¬ (v < needF (c.kind))))) ∨ ((((((¬ (((0 : Int)) ≤ (c.client))) ∨ (¬ ((c.client) ≤ ((1048576 : Int))))) ∨ ((¬ (((0 : Int)) ≤ (c.seq))) ∨ (¬ ((c.seq) ≤ ((1048576 : Int)))))) ∨ ((¬ (((0 : Int)) ≤ (c.set))) ∨ (¬ ((c.set) ≤ ((1048576 : Int)))))) ∨ ((¬ (((0 : Int)) ≤ (c.id))) ∨ (¬ ((c.id) ≤ ((1048576 : Int)))))) ∨ ((¬ (((0 : Int)) ≤ (c.n))) ∨ (¬ ((c.n) ≤ ((1048576 : Int))))))) ∨ ((¬ (((c.chunks.length : Nat) : Int) = (0 : Int))) ∧ ((rowF (c.chunks)) = false)) := Or.imp (fun h => Or.imp (fun h => Or.imp (fun h => Or.imp (fun h => of_decide_eq_false h) (fun h => of_decide_eq_false h) (band_f h)) (fun h => ⟨of_decide_eq_false (bor_f h).1, of_decide_eq_false (bor_f h).2⟩) (band_f h)) (fun h => Or.imp (fun h => Or.imp (fun h => Or.imp (fun h => Or.imp (fun h => Or.imp (fun h => of_decide_eq_false h) (fun h => of_decide_eq_false h) (band_f h)) (fun h => Or.imp (fun h => of_decide_eq_false h) (fun h => of_decide_eq_false h) (band_f h)) (band_f h)) (fun h => Or.imp (fun h => of_decide_eq_false h) (fun h => of_decide_eq_false h) (band_f h)) (band_f h)) (fun h => Or.imp (fun h => of_decide_eq_false h) (fun h => of_decide_eq_false h) (band_f h)) (band_f h)) (fun h => Or.imp (fun h => of_decide_eq_false h) (fun h => of_decide_eq_false h) (band_f h)) (band_f h)) (band_f h)) (fun h => ⟨of_decide_eq_false (bor_f h).1, (bor_f h).2⟩) (band_f hb28)
 refine WO.off rfl rfl hb28 rfl ?_
 refine WO.v (R.pickF rfl hb28 rfl) rfl ?_
 refine WO.nil ?_
 exact WX.cutDoneP 2 rfl rfl ⟨⟨_, rfl, vb (band_off hb28)⟩, trivial⟩ (rfl)
 rintro _ rfl
 refine WO.v (R.assign rfl) rfl ?_
 refine WO.nil ?_
 refine WX.sel [0, 1, 2, 4, 5, 6, 7, 8] rfl ?_
 refine WX.next ?_
 refine WC.ret ?_
 have e0 : ((((((decide (((1 : Int)) ≤ (c.kind))) && (decide ((c.kind) ≤ ((99 : Int))))) && ((decide (needF (c.kind) = (0 : Int))) || (decide (v < needF (c.kind))))) && ((((((decide (((0 : Int)) ≤ (c.client))) && (decide ((c.client) ≤ ((1048576 : Int))))) && ((decide (((0 : Int)) ≤ (c.seq))) && (decide ((c.seq) ≤ ((1048576 : Int)))))) && ((decide (((0 : Int)) ≤ (c.set))) && (decide ((c.set) ≤ ((1048576 : Int)))))) && ((decide (((0 : Int)) ≤ (c.id))) && (decide ((c.id) ≤ ((1048576 : Int)))))) && ((decide (((0 : Int)) ≤ (c.n))) && (decide ((c.n) ≤ ((1048576 : Int))))))) && ((decide (((c.chunks.length : Nat) : Int) = (0 : Int))) || (rowF (c.chunks)))) && ((decide (((c.text.b.length : Nat) : Int) = (0 : Int))) || ((decide ((3 : Int) ≤ v)) && (decide (((c.text.b.length : Nat) : Int) ≤ (16 : Int)))))) = (forF c v) := by unfold forF numsF; rfl
 refine WX.ret1 Try.results38 rfl ?_
 exact ⟨by rw [e0], Kp.of_below b22⟩


end Go.Proofs.Ytfmlgeeogbhppaa
