/- Contracts of functions, walked operation by operation. -/
import Derived.Test.YtaenkjlhdlddgaaA8
namespace Go.Proofs.Ytaenkjlhdlddgaa
open Go.RowKit

theorem sess_step {B : Bool} {l : List Sess} {k : Nat} {x : Sess} (hx : l[k]? = some x) : (B && pairF sessOk Sess.client 8 (l.take (k + 1))) = (((((((B && pairF sessOk Sess.client 8 (l.take k)) && ((decide ((1 : Int) ≤ x.client)) && (decide (x.client ≤ (8 : Int))))) && ((decide ((0 : Int) ≤ x.seq)) && (decide (x.seq ≤ (1048576 : Int))))) && ((decide ((0 : Int) ≤ x.last.code)) && (decide (x.last.code ≤ (99 : Int))))) && ((decide ((0 : Int) ≤ x.last.n)) && (decide (x.last.n ≤ (1048576 : Int)))))) && (decide (((k : Nat) : Int) = (0 : Int)) || decide (lastK Sess.client 0 (l.take k) < x.client))) := by
  rw [pair_step hx]
  show (B && (_ && (((decide ((1 : Int) ≤ x.client)) && (decide (x.client ≤ (8 : Int)))) && ((((decide ((0 : Int) ≤ x.seq)) && (decide (x.seq ≤ (1048576 : Int)))) && ((decide ((0 : Int) ≤ x.last.code)) && (decide (x.last.code ≤ (99 : Int))))) && ((decide ((0 : Int) ≤ x.last.n)) && (decide (x.last.n ≤ (1048576 : Int)))))) && _)) = _
  cases B <;> cases pairF sessOk Sess.client 8 (l.take k) <;> cases ((decide ((1 : Int) ≤ x.client)) && (decide (x.client ≤ (8 : Int)))) <;> cases ((decide ((0 : Int) ≤ x.seq)) && (decide (x.seq ≤ (1048576 : Int)))) <;> cases ((decide ((0 : Int) ≤ x.last.code)) && (decide (x.last.code ≤ (99 : Int)))) <;> cases ((decide ((0 : Int) ≤ x.last.n)) && (decide (x.last.n ≤ (1048576 : Int)))) <;> rfl
theorem open_step {B : Bool} {l : List Opn} {k : Nat} {x : Opn} (hx : l[k]? = some x) : (B && pairF openOk Opn.set 8 (l.take (k + 1))) = ((((B && pairF openOk Opn.set 8 (l.take k)) && ((decide ((1 : Int) ≤ x.set)) && (decide (x.set ≤ (8 : Int))))) && ((decide ((1 : Int) ≤ x.client)) && (decide (x.client ≤ (8 : Int))))) && (decide (((k : Nat) : Int) = (0 : Int)) || decide (lastK Opn.set 0 (l.take k) < x.set))) := by
  rw [pair_step hx]
  show (B && (_ && (((decide ((1 : Int) ≤ x.set)) && (decide (x.set ≤ (8 : Int)))) && ((decide ((1 : Int) ≤ x.client)) && (decide (x.client ≤ (8 : Int))))) && _)) = _
  cases B <;> cases pairF openOk Opn.set 8 (l.take k) <;> cases ((decide ((1 : Int) ≤ x.set)) && (decide (x.set ≤ (8 : Int)))) <;> cases ((decide ((1 : Int) ≤ x.client)) && (decide (x.client ≤ (8 : Int)))) <;> rfl
def nairF (s : State) (v : Int) (l : List Snap) : Bool := pairF (snapR s.next v) Snap.id (IntKind.i64.wrap (s.next - 1)) l
theorem snap_step {B : Bool} {s : State} {v : Int} {l : List Snap} {k : Nat} {x : Snap} (hx : l[k]? = some x) : (B && nairF s v (l.take (k + 1))) = (((B && nairF s v (l.take k)) && snapR s.next v x) && (decide (((k : Nat) : Int) = (0 : Int)) || decide (lastK Snap.id 0 (l.take k) < x.id))) := by
  unfold nairF
  rw [pair_step hx]
  have e : (inB x.id 1 (IntKind.i64.wrap (s.next - 1)) && snapR s.next v x) = snapR s.next v x := by
    unfold snapR
    cases inB x.id 1 (IntKind.i64.wrap (s.next - 1)) <;> simp
  rw [e]
  cases B <;> cases pairF (snapR s.next v) Snap.id (IntKind.i64.wrap (s.next - 1)) (l.take k) <;> cases snapR s.next v x <;> rfl
theorem rising_mem {α : Type} {key : α → Int} {most : Int} : ∀ {l : List α} {a : Int}, 0 ≤ a → risingF key most a l = true → ∀ x ∈ l, 1 ≤ key x ∧ key x ≤ most
  | [], _, _, _, x, hx => by cases hx
  | y :: l, a, ha, h, x, hx => by
    rw [risingF, Bool.and_eq_true, inB, Bool.and_eq_true, decide_eq_true_eq, decide_eq_true_eq] at h
    rcases List.mem_cons.1 hx with rfl | hx
    · omega
    · exact rising_mem (by omega) h.2 x hx
theorem wrap_ok {z : Int} (h : I64 z) : IntKind.i64.wrap z = z := I64.wrap h
theorem tag_ok {v : Int} {x : Snap} : (decide (((x.tag.b.length : Nat) : Int) ≤ 16) && (decide (x.tag = ⟨[]⟩) || decide (3 ≤ v))) = decide (((x.tag.b.length : Nat) : Int) ≤ tagMax v) := by
  have e : x.tag = ⟨[]⟩ ↔ x.tag.b.length = 0 := by
    constructor
    · intro h; rw [h]; rfl
    · intro h; cases hx : x.tag with | mk b => rw [hx] at h; simp at h; rw [h]
  rw [Bool.eq_iff_iff, Bool.and_eq_true, Bool.or_eq_true, decide_eq_true_eq, decide_eq_true_eq, decide_eq_true_eq, decide_eq_true_eq, e, tagMax]
  split <;> omega
theorem chunksE_eq (l : List Int) : decide (chunksE l = 0) = rowF l := by
  unfold chunksE; cases rowF l <;> rfl
theorem snapR_eq {next v : Int} {x : Snap} (hw : IntKind.i64.wrap (next - 1) = next - 1) (h : 1 ≤ x.id ∧ x.id ≤ next - 1) : snapR next v x = snapOk v (tagMax v) x := by
  have e : inB x.id 1 (next - 1) = true := by rw [inB, Bool.and_eq_true, decide_eq_true_eq, decide_eq_true_eq]; exact h
  unfold snapR snapOk
  rw [hw, e, chunksE_eq, ← tag_ok]
  cases rowF x.chunks <;> cases inB x.set 1 8 <;> cases (!x.held || decide (2 ≤ v)) <;> simp
theorem quota_eq {q v : Int} : (((decide ((0 : Int) ≤ q)) && (decide (q ≤ (64 : Int)))) && (decide (q = (0 : Int)) || decide ((3 : Int) ≤ v))) = inB q 0 (if v < 3 then 0 else 64) := by
  rw [Bool.eq_iff_iff, inB]
  simp only [Bool.and_eq_true, Bool.or_eq_true, decide_eq_true_eq]
  split <;> omega
theorem mayR {s : State} {v : Int} {k k2 k3 : Nat} (h1 : s.sess.length ≤ k) (h2 : s.opens.length ≤ k2) (h3 : s.snaps.length ≤ k3) :
    (((ok0F s v && pairF sessOk Sess.client 8 (s.sess.take k)) && pairF openOk Opn.set 8 (s.opens.take k2)) && nairF s v (s.snaps.take k3)) = !(((!numbersF s v || !sessF s) || !opensF s) || !snapsF s v) := by
  rw [List.take_of_length_le h1, List.take_of_length_le h2, List.take_of_length_le h3]
  have e0 : ok0F s v = (numbersF s v && decide (((s.snaps.length : Nat) : Int) ≤ (16 : Int))) := by
    unfold ok0F numbersF
    rw [← quota_eq]
    show ((((_ && inB s.next 1 1048576) && _) && _) && _ && _) = _
    simp only [inB, Bool.and_assoc]
  have e1 : pairF sessOk Sess.client 8 s.sess = sessF s := rfl
  have e2 : pairF openOk Opn.set 8 s.opens = opensF s := rfl
  rw [e0, e1, e2]
  cases hn : numbersF s v with
  | false => simp
  | true =>
    have hnx : 1 ≤ s.next ∧ s.next ≤ 1048576 := by
      unfold numbersF at hn
      simp only [Bool.and_eq_true, inB, decide_eq_true_eq] at hn
      exact hn.1.1.2
    have hw : IntKind.i64.wrap (s.next - 1) = s.next - 1 := wrap_ok ⟨by omega, by omega⟩
    have e3 : (decide (((s.snaps.length : Nat) : Int) ≤ (16 : Int)) && nairF s v s.snaps) = snapsF s v := by
      unfold nairF pairF snapsF
      rw [hw]
      have ed : decide (16 < ((s.snaps.length : Nat) : Int)) = !decide (((s.snaps.length : Nat) : Int) ≤ (16 : Int)) := by
        rw [← decide_not, Bool.eq_iff_iff, decide_eq_true_eq, decide_eq_true_eq]; omega
      rw [ed]
      cases hr : risingF Snap.id (s.next - 1) 0 s.snaps with
      | false => simp
      | true =>
        have : s.snaps.all (snapR s.next v) = s.snaps.all (snapOk v (tagMax v)) := by
          rw [Bool.eq_iff_iff, List.all_eq_true, List.all_eq_true]
          constructor
          · intro h x hx; rw [← snapR_eq hw (rising_mem (Int.le_refl 0) hr x hx)]; exact h x hx
          · intro h x hx; rw [snapR_eq hw (rising_mem (Int.le_refl 0) hr x hx)]; exact h x hx
        rw [this]
        cases decide (((s.snaps.length : Nat) : Int) ≤ (16 : Int)) <;> simp
    rw [← e3]
    cases sessF s <;> cases opensF s <;> cases decide (((s.snaps.length : Nat) : Int) ≤ (16 : Int)) <;> cases nairF s v s.snaps <;> rfl
theorem mayR6 {s : State} {v : Int} {k k2 k3 : Nat} (hv : (!(inB v 1 3)) = false) (h1 : s.sess.length ≤ k) (h2 : s.opens.length ≤ k2) (h3 : s.snaps.length ≤ k3)
    (h : (!(((ok0F s v && pairF sessOk Sess.client 8 (s.sess.take k)) && pairF openOk Opn.set 8 (s.opens.take k2)) && nairF s v (s.snaps.take k3))) = true) : 6 = mayF s v := by
  rw [mayR h1 h2 h3, Bool.not_not] at h
  rw [mayF, hv, if_neg (by decide), if_pos h]
theorem mayR0 {s : State} {v : Int} {k k2 k3 : Nat} (hv : (!(inB v 1 3)) = false) (h1 : s.sess.length ≤ k) (h2 : s.opens.length ≤ k2) (h3 : s.snaps.length ≤ k3)
    (h : (!(((ok0F s v && pairF sessOk Sess.client 8 (s.sess.take k)) && pairF openOk Opn.set 8 (s.opens.take k2)) && nairF s v (s.snaps.take k3))) = false) : 0 = mayF s v := by
  rw [mayR h1 h2 h3, Bool.not_not] at h
  rw [mayF, hv, if_neg (by decide), h, if_neg (by decide)]

theorem fe46_0 {n : Nat} {fr : Fr} {w : World} {ty : TypeId} {x : Operand} {a : Addr} (hx : ev fr x = some (.pointer (some a))) : Runs Try.prog n fr w (.fieldAddr 46 x 0) ty (.pointer (some (a.add 0))) w := R.fieldAddr hx Try.underlying46 rfl rfl sz3
theorem fe51_0 {n : Nat} {fr : Fr} {w : World} {ty : TypeId} {x : Operand} {a : Addr} (hx : ev fr x = some (.pointer (some a))) : Runs Try.prog n fr w (.fieldAddr 51 x 0) ty (.pointer (some (a.add 0))) w := R.fieldAddr hx Try.underlying51 rfl rfl sz3
theorem fe53_0 {n : Nat} {fr : Fr} {w : World} {ty : TypeId} {x : Operand} {a : Addr} (hx : ev fr x = some (.pointer (some a))) : Runs Try.prog n fr w (.fieldAddr 53 x 0) ty (.pointer (some (a.add 0))) w := R.fieldAddr hx Try.underlying53 rfl rfl sz3

set_option maxRecDepth 100000 in
set_option maxHeartbeats 1000000 in
theorem may7_s {w : World} {cs_s : List Value} {s : State} (v : Int) (h_s : Rp.rp false 0 w.heap.size w cs_s s) :
    Ret Try.prog 13 [.agg cs_s.toArray, .int .i64 v].toArray w fun r w' => r = .int .i64 (mayF s v) ∧ Kp [] w w' := by
 obtain ⟨a5, c6, a8, c9, a11, c12, rfl, i1, i2, i3, i4, s7, s10, s13⟩ := State.el h_s
 have ls7 : (s.sess).length * 32 ≤ 140737488355328 := s7.lenle
 have ls10 : (s.opens).length * 16 ≤ 140737488355328 := s10.lenle
 have ls13 : (s.snaps).length * 64 ≤ 140737488355328 := s13.lenle
 refine Ret.enter Try.func13 rfl Try.ntmps13 rfl rfl ?_
 refine WC.sel [0, 1] rfl ?_
 refine WC.seq ?_
 refine WC.region ?_
 refine WO.box rfl rfl rfl ?_
 intro w14 n14
 have z14 : w.heap.size < w14.heap.size := n14.lt
 have b14 := old_kp0 (Below.refl w.heap.size w) n14.kp
 have y14 : w.heap.size ≤ w14.heap.size := b14.size
 refine WO.v (R.assign rfl) rfl ?_
 refine WO.nil ?_
 refine WX.sel [0, 1, 2, 4] rfl ?_
 refine WX.next ?_
 refine WC.seq ?_
 refine WC.seq ?_
 refine WC.region ?_
 refine WO.v (R.move rfl) rfl ?_
 refine WO.c (E.call rfl rfl Try.func28 rfl rfl) (in7_s (n := v) (a := (1 : Int)) (b := (3 : Int)) ) rfl ?_
 rintro _ _ ⟨rfl, rfl⟩
 refine WO.v (R.not rfl) rfl ?_
 refine WO.nil ?_
 refine WX.sel [0, 1, 2, 4, 14] rfl ?_
 refine WX.next ?_
 refine WC.cond rfl (fun q15 => ?_) (fun q15 => ?_)
 have p15 : (¬ (((1 : Int)) ≤ (v))) ∨ (¬ ((v) ≤ ((3 : Int)))) := Or.imp (fun h => of_decide_eq_false h) (fun h => of_decide_eq_false h) (band_f (bnot_t q15))
 refine WC.seq ?_
 refine WC.region ?_
 refine WO.v (R.assign rfl) rfl ?_
 refine WO.nil ?_
 refine WX.sel [0, 1, 2, 4, 14] rfl ?_
 refine WX.next ?_
 refine WC.ret ?_
 refine WX.thenRet ?_
 have e0 : (1 : Int) = (mayF s v) := by first | exact may1 q15 | exact mayR6 q15 (by omega) (by omega) (by omega) q15 | exact mayR0 q15 (by omega) (by omega) (by omega) q15
 refine WX.ret1 Try.results13 rfl ?_
 exact ⟨by rw [e0], Kp.of_below b14⟩
 have p15 : (((1 : Int)) ≤ (v)) ∧ ((v) ≤ ((3 : Int))) := ⟨of_decide_eq_true (band_t (bnot_f q15)).1, of_decide_eq_true (band_t (bnot_f q15)).2⟩
 refine WC.skip ?_
 refine WX.next ?_
 refine WC.seq ?_
 refine WC.region ?_
 refine WO.v (fa34_0 rfl) rfl ?_
 refine WO.v (R.loadB rfl n14.blk rfl Try.underlying3 rfl) rfl ?_
 refine WO.c (E.call rfl rfl Try.func28 rfl rfl) (in7_s (n := s.version) (a := (1 : Int)) (b := (3 : Int)) ) rfl ?_
 rintro _ _ ⟨rfl, rfl⟩
 refine WO.v (R.move rfl) rfl ?_
 refine WO.cutP 4 [(22, (.bool (((decide (((1 : Int)) ≤ (s.version))) && (decide ((s.version) ≤ ((3 : Int))))) && ((decide (((1 : Int)) ≤ (s.next))) && (decide ((s.next) ≤ ((1048576 : Int))))))))] (fun w' => w14 = w') ?_ ?_
 rcases Bool.eq_false_or_eq_true ((decide (((1 : Int)) ≤ (s.version))) && (decide ((s.version) ≤ ((3 : Int))))) with hb16 | hb16
 have phb16 : (((1 : Int)) ≤ (s.version)) ∧ ((s.version) ≤ ((3 : Int))) := ⟨of_decide_eq_true (band_t hb16).1, of_decide_eq_true (band_t hb16).2⟩
 refine WO.on rfl rfl hb16 ?_
 refine WO.v (fa34_1 rfl) rfl ?_
 refine WO.on rfl rfl hb16 ?_
 refine WO.v (R.loadB rfl n14.blk rfl Try.underlying3 rfl) rfl ?_
 refine WO.on rfl rfl hb16 ?_
 refine WO.c (E.call rfl rfl Try.func28 rfl rfl) (in7_s (n := s.next) (a := (1 : Int)) (b := (1048576 : Int)) ) rfl ?_
 rintro _ _ ⟨rfl, rfl⟩
 refine WO.v (R.pickT rfl hb16 rfl) rfl ?_
 refine WO.nil ?_
 exact WX.cutDoneP 4 rfl rfl ⟨⟨_, rfl, vb (band_on hb16)⟩, trivial⟩ (rfl)
 have phb16 : (¬ (((1 : Int)) ≤ (s.version))) ∨ (¬ ((s.version) ≤ ((3 : Int)))) := Or.imp (fun h => of_decide_eq_false h) (fun h => of_decide_eq_false h) (band_f hb16)
 refine WO.off rfl rfl hb16 rfl ?_
 refine WO.off rfl rfl hb16 rfl ?_
 refine WO.off rfl rfl hb16 rfl ?_
 refine WO.v (R.pickF rfl hb16 rfl) rfl ?_
 refine WO.nil ?_
 exact WX.cutDoneP 4 rfl rfl ⟨⟨_, rfl, vb (band_off hb16)⟩, trivial⟩ (rfl)
 rintro _ rfl
 refine WO.v (R.move rfl) rfl ?_
 refine WO.cutP 4 [(27, (.bool ((((decide (((1 : Int)) ≤ (s.version))) && (decide ((s.version) ≤ ((3 : Int))))) && ((decide (((1 : Int)) ≤ (s.next))) && (decide ((s.next) ≤ ((1048576 : Int)))))) && ((decide (((0 : Int)) ≤ (s.keep))) && (decide ((s.keep) ≤ ((8 : Int))))))))] (fun w' => w14 = w') ?_ ?_
 rcases Bool.eq_false_or_eq_true (((decide (((1 : Int)) ≤ (s.version))) && (decide ((s.version) ≤ ((3 : Int))))) && ((decide (((1 : Int)) ≤ (s.next))) && (decide ((s.next) ≤ ((1048576 : Int)))))) with hb17 | hb17
 have phb17 : ((((1 : Int)) ≤ (s.version)) ∧ ((s.version) ≤ ((3 : Int)))) ∧ ((((1 : Int)) ≤ (s.next)) ∧ ((s.next) ≤ ((1048576 : Int)))) := ⟨⟨of_decide_eq_true (band_t (band_t hb17).1).1, of_decide_eq_true (band_t (band_t hb17).1).2⟩, ⟨of_decide_eq_true (band_t (band_t hb17).2).1, of_decide_eq_true (band_t (band_t hb17).2).2⟩⟩
 refine WO.on rfl rfl hb17 ?_
 refine WO.v (fa34_2 rfl) rfl ?_
 refine WO.on rfl rfl hb17 ?_
 refine WO.v (R.loadB rfl n14.blk rfl Try.underlying3 rfl) rfl ?_
 refine WO.on rfl rfl hb17 ?_
 refine WO.c (E.call rfl rfl Try.func28 rfl rfl) (in7_s (n := s.keep) (a := (0 : Int)) (b := (8 : Int)) ) rfl ?_
 rintro _ _ ⟨rfl, rfl⟩
 refine WO.v (R.pickT rfl hb17 rfl) rfl ?_
 refine WO.nil ?_
 exact WX.cutDoneP 4 rfl rfl ⟨⟨_, rfl, vb (band_on hb17)⟩, trivial⟩ (rfl)
 have phb17 : ((¬ (((1 : Int)) ≤ (s.version))) ∨ (¬ ((s.version) ≤ ((3 : Int))))) ∨ ((¬ (((1 : Int)) ≤ (s.next))) ∨ (¬ ((s.next) ≤ ((1048576 : Int))))) := Or.imp (fun h => Or.imp (fun h => of_decide_eq_false h) (fun h => of_decide_eq_false h) (band_f h)) (fun h => Or.imp (fun h => of_decide_eq_false h) (fun h => of_decide_eq_false h) (band_f h)) (band_f hb17)
 refine WO.off rfl rfl hb17 rfl ?_
 refine WO.off rfl rfl hb17 rfl ?_
 refine WO.off rfl rfl hb17 rfl ?_
 refine WO.v (R.pickF rfl hb17 rfl) rfl ?_
 refine WO.nil ?_
 exact WX.cutDoneP 4 rfl rfl ⟨⟨_, rfl, vb (band_off hb17)⟩, trivial⟩ (rfl)
 rintro _ rfl
 refine WO.v (R.move rfl) rfl ?_
 refine WO.cutP 4 [(32, (.bool (((((decide (((1 : Int)) ≤ (s.version))) && (decide ((s.version) ≤ ((3 : Int))))) && ((decide (((1 : Int)) ≤ (s.next))) && (decide ((s.next) ≤ ((1048576 : Int)))))) && ((decide (((0 : Int)) ≤ (s.keep))) && (decide ((s.keep) ≤ ((8 : Int)))))) && ((decide (((0 : Int)) ≤ (s.quota))) && (decide ((s.quota) ≤ ((64 : Int))))))))] (fun w' => w14 = w') ?_ ?_
 rcases Bool.eq_false_or_eq_true ((((decide (((1 : Int)) ≤ (s.version))) && (decide ((s.version) ≤ ((3 : Int))))) && ((decide (((1 : Int)) ≤ (s.next))) && (decide ((s.next) ≤ ((1048576 : Int)))))) && ((decide (((0 : Int)) ≤ (s.keep))) && (decide ((s.keep) ≤ ((8 : Int)))))) with hb18 | hb18
 have phb18 : (((((1 : Int)) ≤ (s.version)) ∧ ((s.version) ≤ ((3 : Int)))) ∧ ((((1 : Int)) ≤ (s.next)) ∧ ((s.next) ≤ ((1048576 : Int))))) ∧ ((((0 : Int)) ≤ (s.keep)) ∧ ((s.keep) ≤ ((8 : Int)))) := ⟨⟨⟨of_decide_eq_true (band_t (band_t (band_t hb18).1).1).1, of_decide_eq_true (band_t (band_t (band_t hb18).1).1).2⟩, ⟨of_decide_eq_true (band_t (band_t (band_t hb18).1).2).1, of_decide_eq_true (band_t (band_t (band_t hb18).1).2).2⟩⟩, ⟨of_decide_eq_true (band_t (band_t hb18).2).1, of_decide_eq_true (band_t (band_t hb18).2).2⟩⟩
 refine WO.on rfl rfl hb18 ?_
 refine WO.v (fa34_3 rfl) rfl ?_
 refine WO.on rfl rfl hb18 ?_
 refine WO.v (R.loadB rfl n14.blk rfl Try.underlying3 rfl) rfl ?_
 refine WO.on rfl rfl hb18 ?_
 refine WO.c (E.call rfl rfl Try.func28 rfl rfl) (in7_s (n := s.quota) (a := (0 : Int)) (b := (64 : Int)) ) rfl ?_
 rintro _ _ ⟨rfl, rfl⟩
 refine WO.v (R.pickT rfl hb18 rfl) rfl ?_
 refine WO.nil ?_
 exact WX.cutDoneP 4 rfl rfl ⟨⟨_, rfl, vb (band_on hb18)⟩, trivial⟩ (rfl)
 have phb18 : (((¬ (((1 : Int)) ≤ (s.version))) ∨ (¬ ((s.version) ≤ ((3 : Int))))) ∨ ((¬ (((1 : Int)) ≤ (s.next))) ∨ (¬ ((s.next) ≤ ((1048576 : Int)))))) ∨ ((¬ (((0 : Int)) ≤ (s.keep))) ∨ (¬ ((s.keep) ≤ ((8 : Int))))) := Or.imp (fun h => Or.imp (fun h => Or.imp (fun h => of_decide_eq_false h) (fun h => of_decide_eq_false h) (band_f h)) (fun h => Or.imp (fun h => of_decide_eq_false h) (fun h => of_decide_eq_false h) (band_f h)) (band_f h)) (fun h => Or.imp (fun h => of_decide_eq_false h) (fun h => of_decide_eq_false h) (band_f h)) (band_f hb18)
 refine WO.off rfl rfl hb18 rfl ?_
 refine WO.off rfl rfl hb18 rfl ?_
 refine WO.off rfl rfl hb18 rfl ?_
 refine WO.v (R.pickF rfl hb18 rfl) rfl ?_
 refine WO.nil ?_
 exact WX.cutDoneP 4 rfl rfl ⟨⟨_, rfl, vb (band_off hb18)⟩, trivial⟩ (rfl)
 rintro _ rfl
 refine WO.v (R.move rfl) rfl ?_
 refine WO.cutP 8 [(41, (.bool ((((((decide (((1 : Int)) ≤ (s.version))) && (decide ((s.version) ≤ ((3 : Int))))) && ((decide (((1 : Int)) ≤ (s.next))) && (decide ((s.next) ≤ ((1048576 : Int)))))) && ((decide (((0 : Int)) ≤ (s.keep))) && (decide ((s.keep) ≤ ((8 : Int)))))) && ((decide (((0 : Int)) ≤ (s.quota))) && (decide ((s.quota) ≤ ((64 : Int)))))) && ((decide (s.quota = (0 : Int))) || (decide ((3 : Int) ≤ v))))))] (fun w' => w14 = w') ?_ ?_
 rcases Bool.eq_false_or_eq_true (((((decide (((1 : Int)) ≤ (s.version))) && (decide ((s.version) ≤ ((3 : Int))))) && ((decide (((1 : Int)) ≤ (s.next))) && (decide ((s.next) ≤ ((1048576 : Int)))))) && ((decide (((0 : Int)) ≤ (s.keep))) && (decide ((s.keep) ≤ ((8 : Int)))))) && ((decide (((0 : Int)) ≤ (s.quota))) && (decide ((s.quota) ≤ ((64 : Int)))))) with hb19 | hb19
 have phb19 : ((((((1 : Int)) ≤ (s.version)) ∧ ((s.version) ≤ ((3 : Int)))) ∧ ((((1 : Int)) ≤ (s.next)) ∧ ((s.next) ≤ ((1048576 : Int))))) ∧ ((((0 : Int)) ≤ (s.keep)) ∧ ((s.keep) ≤ ((8 : Int))))) ∧ ((((0 : Int)) ≤ (s.quota)) ∧ ((s.quota) ≤ ((64 : Int)))) := ⟨⟨⟨⟨of_decide_eq_true (band_t (band_t (band_t (band_t hb19).1).1).1).1, of_decide_eq_true (band_t (band_t (band_t (band_t hb19).1).1).1).2⟩, ⟨of_decide_eq_true (band_t (band_t (band_t (band_t hb19).1).1).2).1, of_decide_eq_true (band_t (band_t (band_t (band_t hb19).1).1).2).2⟩⟩, ⟨of_decide_eq_true (band_t (band_t (band_t hb19).1).2).1, of_decide_eq_true (band_t (band_t (band_t hb19).1).2).2⟩⟩, ⟨of_decide_eq_true (band_t (band_t hb19).2).1, of_decide_eq_true (band_t (band_t hb19).2).2⟩⟩
 refine WO.on rfl rfl hb19 ?_
 refine WO.v (fa34_3 rfl) rfl ?_
 refine WO.on rfl rfl hb19 ?_
 refine WO.v (R.loadB rfl n14.blk rfl Try.underlying3 rfl) rfl ?_
 refine WO.on rfl rfl hb19 ?_
 refine WO.v (R.eql rfl rfl) rfl ?_
 refine WO.on rfl rfl hb19 ?_
 refine WO.v (R.move rfl) rfl ?_
 refine WO.cutP 3 [(40, (.bool ((decide (s.quota = (0 : Int))) || (decide ((3 : Int) ≤ v)))))] (fun w' => w14 = w') ?_ ?_
 rcases Bool.eq_false_or_eq_true (decide (s.quota = (0 : Int))) with hb20 | hb20
 have phb20 : s.quota = (0 : Int) := of_decide_eq_true hb20
 refine WO.off rfl rfl hb20 rfl ?_
 refine WO.off rfl rfl hb20 rfl ?_
 refine WO.on rfl rfl hb19 ?_
 refine WO.v (R.pickT rfl hb20 rfl) rfl ?_
 refine WO.nil ?_
 exact WX.cutDoneP 3 rfl rfl ⟨⟨_, rfl, vb (bor_on hb20)⟩, trivial⟩ (rfl)
 have phb20 : ¬ (s.quota = (0 : Int)) := of_decide_eq_false hb20
 refine WO.on rfl rfl hb20 ?_
 refine WO.v (R.move rfl) rfl ?_
 refine WO.on rfl rfl hb20 ?_
 refine WO.v (R.geq rfl rfl) rfl ?_
 refine WO.on rfl rfl hb19 ?_
 refine WO.v (R.pickF rfl hb20 rfl) rfl ?_
 refine WO.nil ?_
 exact WX.cutDoneP 3 rfl rfl ⟨⟨_, rfl, vb (bor_off hb20)⟩, trivial⟩ (rfl)
 rintro _ rfl
 refine WO.v (R.pickT rfl hb19 rfl) rfl ?_
 refine WO.nil ?_
 exact WX.cutDoneP 6 rfl rfl ⟨⟨_, rfl, vb (band_on hb19)⟩, trivial⟩ (rfl)
 have phb19 : ((((¬ (((1 : Int)) ≤ (s.version))) ∨ (¬ ((s.version) ≤ ((3 : Int))))) ∨ ((¬ (((1 : Int)) ≤ (s.next))) ∨ (¬ ((s.next) ≤ ((1048576 : Int)))))) ∨ ((¬ (((0 : Int)) ≤ (s.keep))) ∨ (¬ ((s.keep) ≤ ((8 : Int)))))) ∨ ((¬ (((0 : Int)) ≤ (s.quota))) ∨ (¬ ((s.quota) ≤ ((64 : Int))))) := Or.imp (fun h => Or.imp (fun h => Or.imp (fun h => Or.imp (fun h => of_decide_eq_false h) (fun h => of_decide_eq_false h) (band_f h)) (fun h => Or.imp (fun h => of_decide_eq_false h) (fun h => of_decide_eq_false h) (band_f h)) (band_f h)) (fun h => Or.imp (fun h => of_decide_eq_false h) (fun h => of_decide_eq_false h) (band_f h)) (band_f h)) (fun h => Or.imp (fun h => of_decide_eq_false h) (fun h => of_decide_eq_false h) (band_f h)) (band_f hb19)
 refine WO.off rfl rfl hb19 rfl ?_
 refine WO.off rfl rfl hb19 rfl ?_
 refine WO.off rfl rfl hb19 rfl ?_
 refine WO.off rfl rfl hb19 rfl ?_
 refine WO.offU rfl rfl rfl ?_
 refine WO.offU rfl rfl rfl ?_
 refine WO.off rfl rfl hb19 rfl ?_
 refine WO.v (R.pickF rfl hb19 rfl) rfl ?_
 refine WO.nil ?_
 exact WX.cutDoneP 8 rfl rfl ⟨⟨_, rfl, vb (band_off hb19)⟩, trivial⟩ (rfl)
 rintro _ rfl
 refine WO.v (R.move rfl) rfl ?_
 refine WO.cutP 5 [(47, (.bool (((((((decide (((1 : Int)) ≤ (s.version))) && (decide ((s.version) ≤ ((3 : Int))))) && ((decide (((1 : Int)) ≤ (s.next))) && (decide ((s.next) ≤ ((1048576 : Int)))))) && ((decide (((0 : Int)) ≤ (s.keep))) && (decide ((s.keep) ≤ ((8 : Int)))))) && ((decide (((0 : Int)) ≤ (s.quota))) && (decide ((s.quota) ≤ ((64 : Int)))))) && ((decide (s.quota = (0 : Int))) || (decide ((3 : Int) ≤ v)))) && (decide (((s.snaps.length : Nat) : Int) ≤ (16 : Int))))))] (fun w' => w14 = w') ?_ ?_
 rcases Bool.eq_false_or_eq_true ((((((decide (((1 : Int)) ≤ (s.version))) && (decide ((s.version) ≤ ((3 : Int))))) && ((decide (((1 : Int)) ≤ (s.next))) && (decide ((s.next) ≤ ((1048576 : Int)))))) && ((decide (((0 : Int)) ≤ (s.keep))) && (decide ((s.keep) ≤ ((8 : Int)))))) && ((decide (((0 : Int)) ≤ (s.quota))) && (decide ((s.quota) ≤ ((64 : Int)))))) && ((decide (s.quota = (0 : Int))) || (decide ((3 : Int) ≤ v)))) with hb21 | hb21
 have phb21 : (((((((1 : Int)) ≤ (s.version)) ∧ ((s.version) ≤ ((3 : Int)))) ∧ ((((1 : Int)) ≤ (s.next)) ∧ ((s.next) ≤ ((1048576 : Int))))) ∧ ((((0 : Int)) ≤ (s.keep)) ∧ ((s.keep) ≤ ((8 : Int))))) ∧ ((((0 : Int)) ≤ (s.quota)) ∧ ((s.quota) ≤ ((64 : Int))))) ∧ ((s.quota = (0 : Int)) ∨ ((3 : Int) ≤ v)) := ⟨⟨⟨⟨⟨of_decide_eq_true (band_t (band_t (band_t (band_t (band_t hb21).1).1).1).1).1, of_decide_eq_true (band_t (band_t (band_t (band_t (band_t hb21).1).1).1).1).2⟩, ⟨of_decide_eq_true (band_t (band_t (band_t (band_t (band_t hb21).1).1).1).2).1, of_decide_eq_true (band_t (band_t (band_t (band_t (band_t hb21).1).1).1).2).2⟩⟩, ⟨of_decide_eq_true (band_t (band_t (band_t (band_t hb21).1).1).2).1, of_decide_eq_true (band_t (band_t (band_t (band_t hb21).1).1).2).2⟩⟩, ⟨of_decide_eq_true (band_t (band_t (band_t hb21).1).2).1, of_decide_eq_true (band_t (band_t (band_t hb21).1).2).2⟩⟩, Or.imp (fun h => of_decide_eq_true h) (fun h => of_decide_eq_true h) (bor_t (band_t hb21).2)⟩
 refine WO.on rfl rfl hb21 ?_
 refine WO.v (fa34_6 rfl) rfl ?_
 refine WO.on rfl rfl hb21 ?_
 refine WO.v (R.loadB rfl n14.blk rfl Try.underlying32 rfl) rfl ?_
 refine WO.on rfl rfl hb21 ?_
 refine WO.v (R.len rfl Try.underlying32) rfl ?_
 refine WO.on rfl rfl hb21 ?_
 refine WO.v (R.leq rfl rfl) rfl ?_
 refine WO.v (R.pickT rfl hb21 rfl) rfl ?_
 refine WO.nil ?_
 exact WX.cutDoneP 5 rfl rfl ⟨⟨_, rfl, vb (band_on hb21)⟩, trivial⟩ (rfl)
 have phb21 : (((((¬ (((1 : Int)) ≤ (s.version))) ∨ (¬ ((s.version) ≤ ((3 : Int))))) ∨ ((¬ (((1 : Int)) ≤ (s.next))) ∨ (¬ ((s.next) ≤ ((1048576 : Int)))))) ∨ ((¬ (((0 : Int)) ≤ (s.keep))) ∨ (¬ ((s.keep) ≤ ((8 : Int)))))) ∨ ((¬ (((0 : Int)) ≤ (s.quota))) ∨ (¬ ((s.quota) ≤ ((64 : Int)))))) ∨ ((¬ (s.quota = (0 : Int))) ∧ (¬ ((3 : Int) ≤ v))) := Or.imp (fun h => Or.imp (fun h => Or.imp (fun h => Or.imp (fun h => Or.imp (fun h => of_decide_eq_false h) (fun h => of_decide_eq_false h) (band_f h)) (fun h => Or.imp (fun h => of_decide_eq_false h) (fun h => of_decide_eq_false h) (band_f h)) (band_f h)) (fun h => Or.imp (fun h => of_decide_eq_false h) (fun h => of_decide_eq_false h) (band_f h)) (band_f h)) (fun h => Or.imp (fun h => of_decide_eq_false h) (fun h => of_decide_eq_false h) (band_f h)) (band_f h)) (fun h => ⟨of_decide_eq_false (bor_f h).1, of_decide_eq_false (bor_f h).2⟩) (band_f hb21)
 refine WO.off rfl rfl hb21 rfl ?_
 refine WO.off rfl rfl hb21 rfl ?_
 refine WO.off rfl rfl hb21 rfl ?_
 refine WO.off rfl rfl hb21 rfl ?_
 refine WO.v (R.pickF rfl hb21 rfl) rfl ?_
 refine WO.nil ?_
 exact WX.cutDoneP 5 rfl rfl ⟨⟨_, rfl, vb (band_off hb21)⟩, trivial⟩ (rfl)
 rintro _ rfl
 refine WO.v (R.assign rfl) rfl ?_
 refine WO.nil ?_
 refine WX.sel [0, 1, 2, 4, 5, 14] rfl ?_
 refine WX.next ?_
 refine WC.seq ?_
 refine WC.seq ?_
 refine WC.region ?_
 refine WO.v (R.assign rfl) rfl ?_
 refine WO.nil ?_
 refine WX.sel [0, 1, 2, 4, 5, 6, 14] rfl ?_
 refine WX.next ?_
 refine WC.block ?_
 refine WC.loopK [0, 1, 2, 4, 14] rfl (fun zz : Nat => [(6, (.int .i64 (((zz) : Nat) : Int))), (5, (.bool (((ok0F s v) && pairF sessOk Sess.client 8 (s.sess.take (zz))))))]) (fun (zz : Nat) (w' : World) => (Kp [] w14 w') ∧ ((zz) ≤ s.sess.length)) (fun zz => s.sess.length - (zz)) (0) ?_ ?_ ?_
 exact ⟨⟨_, rfl, rfl⟩, ⟨_, rfl, vb (by show _ = (ok0F s v && true); rw [Bool.and_true]; rfl)⟩, trivial⟩
 exact ⟨Kp.refl _, Nat.zero_le _⟩
 rintro k w22 ⟨k22, hk⟩
 try dsimp only at hk
 have z22 : w14.heap.size ≤ w22.heap.size := k22.size
 have b22 := old_kp0 b14 k22
 have y22 : w.heap.size ≤ w22.heap.size := b22.size
 refine (?_ : WC _ _ _ _ ([(6, (.int .i64 ((k : Nat) : Int))), (5, (.bool (((ok0F s v) && pairF sessOk Sess.client 8 (s.sess.take k)))))] ++ _) w22)
 refine WC.seq ?_
 refine WC.seq ?_
 refine WC.region ?_
 refine WO.v (R.move rfl) rfl ?_
 refine WO.v (fa34_4 rfl) rfl ?_
 have B23 := (n14.blk).kp0 k22
 refine WO.v (R.loadB rfl B23 rfl Try.underlying30 rfl) rfl ?_
 refine WO.v (R.len rfl Try.underlying30) rfl ?_
 refine WO.v (R.lss rfl rfl) rfl ?_
 refine WO.nil ?_
 refine WX.sel [0, 1, 2, 4, 5, 6, 14, 52] rfl ?_
 refine WX.next ?_
 refine WC.cond rfl (fun q24 => ?_) (fun q24 => ?_)
 have p24 : ((k : Nat) : Int) < ((s.sess.length : Nat) : Int) := of_decide_eq_true q24
 refine WC.skip ?_
 refine WX.next ?_
 refine WC.seq ?_
 refine WC.block ?_
 refine WC.seq ?_
 refine WC.region ?_
 refine WO.v (fa34_4 rfl) rfl ?_
 refine WO.v (R.loadB rfl B23 rfl Try.underlying30 rfl) rfl ?_
 refine WO.v (R.move rfl) rfl ?_
 obtain ⟨x25, hx25⟩ := get_ex (xs := s.sess) (i := k) (by omega)
 obtain ⟨A26, cs27, hA26, loA26, hiA26, ccA26, r28⟩ := (sl_old s7 b22).at_ hx25
 obtain ⟨rfl, i29, i30, i31, i32⟩ := Sess.el r28
 refine WO.v (R.indexAddrN rfl rfl Try.underlying30 sz51 hA26 (by omega)) rfl ?_
 refine WO.v (R.loadN (cs := [_, _, _, _]) rfl Try.underlying51 rfl sz51 ccA26) rfl ?_
 refine WO.alloc zr51 rfl ?_
 intro w33 n33
 have z33 : w22.heap.size < w33.heap.size := n33.lt
 have b33 := old_kp0 b22 n33.kp
 have y33 : w.heap.size ≤ w33.heap.size := b33.size
 refine WO.storeBN rfl rfl n33.blk rfl (by simp [Value.oneCell']) sz51 ?_
 intro w34 k34 B34 z_34
 have z34 : w33.heap.size = w34.heap.size := z_34.symm
 have b34 := old_kp b33 k34 (mem1 (by omega))
 have y34 : w.heap.size ≤ w34.heap.size := b34.size
 refine WO.nil ?_
 refine WX.sel [0, 1, 2, 4, 5, 6, 7, 14, 52] rfl ?_
 refine WX.next ?_
 refine WC.seq ?_
 refine WC.region ?_
 refine WO.v (R.move rfl) rfl ?_
 refine WO.v (R.move rfl) rfl ?_
 refine WO.cutP 4 [(65, (.bool ((((ok0F s v) && pairF sessOk Sess.client 8 (s.sess.take k))) && ((decide (((1 : Int)) ≤ (x25.client))) && (decide ((x25.client) ≤ ((8 : Int))))))))] (fun w' => w34 = w') ?_ ?_
 rcases Bool.eq_false_or_eq_true (((ok0F s v) && pairF sessOk Sess.client 8 (s.sess.take k))) with hb35 | hb35
 have phb35 : (((ok0F s v) && pairF sessOk Sess.client 8 (s.sess.take k))) = true := hb35
 refine WO.on rfl rfl hb35 ?_
 refine WO.v (fa51_0 rfl) rfl ?_
 refine WO.on rfl rfl hb35 ?_
 refine WO.v (R.loadB rfl B34 rfl Try.underlying3 rfl) rfl ?_
 refine WO.on rfl rfl hb35 ?_
 refine WO.c (E.call rfl rfl Try.func28 rfl rfl) (in7_s (n := x25.client) (a := (1 : Int)) (b := (8 : Int)) ) rfl ?_
 rintro _ _ ⟨rfl, rfl⟩
 refine WO.v (R.pickT rfl hb35 rfl) rfl ?_
 refine WO.nil ?_
 exact WX.cutDoneP 4 rfl rfl ⟨⟨_, rfl, vb (band_on hb35)⟩, trivial⟩ (rfl)
 have phb35 : (((ok0F s v) && pairF sessOk Sess.client 8 (s.sess.take k))) = false := hb35
 refine WO.off rfl rfl hb35 rfl ?_
 refine WO.off rfl rfl hb35 rfl ?_
 refine WO.off rfl rfl hb35 rfl ?_
 refine WO.v (R.pickF rfl hb35 rfl) rfl ?_
 refine WO.nil ?_
 exact WX.cutDoneP 4 rfl rfl ⟨⟨_, rfl, vb (band_off hb35)⟩, trivial⟩ (rfl)
 rintro _ rfl
 refine WO.v (R.move rfl) rfl ?_
 refine WO.cutP 4 [(70, (.bool (((((ok0F s v) && pairF sessOk Sess.client 8 (s.sess.take k))) && ((decide (((1 : Int)) ≤ (x25.client))) && (decide ((x25.client) ≤ ((8 : Int)))))) && ((decide (((0 : Int)) ≤ (x25.seq))) && (decide ((x25.seq) ≤ ((1048576 : Int))))))))] (fun w' => w34 = w') ?_ ?_
 rcases Bool.eq_false_or_eq_true ((((ok0F s v) && pairF sessOk Sess.client 8 (s.sess.take k))) && ((decide (((1 : Int)) ≤ (x25.client))) && (decide ((x25.client) ≤ ((8 : Int)))))) with hb36 | hb36
 have phb36 : ((((ok0F s v) && pairF sessOk Sess.client 8 (s.sess.take k))) = true) ∧ ((((1 : Int)) ≤ (x25.client)) ∧ ((x25.client) ≤ ((8 : Int)))) := ⟨(band_t hb36).1, ⟨of_decide_eq_true (band_t (band_t hb36).2).1, of_decide_eq_true (band_t (band_t hb36).2).2⟩⟩
 refine WO.on rfl rfl hb36 ?_
 refine WO.v (fa51_1 rfl) rfl ?_
 refine WO.on rfl rfl hb36 ?_
 refine WO.v (R.loadB rfl B34 rfl Try.underlying3 rfl) rfl ?_
 refine WO.on rfl rfl hb36 ?_
 refine WO.c (E.call rfl rfl Try.func28 rfl rfl) (in7_s (n := x25.seq) (a := (0 : Int)) (b := (1048576 : Int)) ) rfl ?_
 rintro _ _ ⟨rfl, rfl⟩
 refine WO.v (R.pickT rfl hb36 rfl) rfl ?_
 refine WO.nil ?_
 exact WX.cutDoneP 4 rfl rfl ⟨⟨_, rfl, vb (band_on hb36)⟩, trivial⟩ (rfl)
 have phb36 : ((((ok0F s v) && pairF sessOk Sess.client 8 (s.sess.take k))) = false) ∨ ((¬ (((1 : Int)) ≤ (x25.client))) ∨ (¬ ((x25.client) ≤ ((8 : Int))))) := Or.imp (fun h => h) (fun h => Or.imp (fun h => of_decide_eq_false h) (fun h => of_decide_eq_false h) (band_f h)) (band_f hb36)
 refine WO.off rfl rfl hb36 rfl ?_
 refine WO.off rfl rfl hb36 rfl ?_
 refine WO.off rfl rfl hb36 rfl ?_
 refine WO.v (R.pickF rfl hb36 rfl) rfl ?_
 refine WO.nil ?_
 exact WX.cutDoneP 4 rfl rfl ⟨⟨_, rfl, vb (band_off hb36)⟩, trivial⟩ (rfl)
 rintro _ rfl
 refine WO.v (R.move rfl) rfl ?_
 refine WO.cutP 5 [(76, (.bool ((((((ok0F s v) && pairF sessOk Sess.client 8 (s.sess.take k))) && ((decide (((1 : Int)) ≤ (x25.client))) && (decide ((x25.client) ≤ ((8 : Int)))))) && ((decide (((0 : Int)) ≤ (x25.seq))) && (decide ((x25.seq) ≤ ((1048576 : Int)))))) && ((decide (((0 : Int)) ≤ (x25.last.code))) && (decide ((x25.last.code) ≤ ((99 : Int))))))))] (fun w' => w34 = w') ?_ ?_
 rcases Bool.eq_false_or_eq_true (((((ok0F s v) && pairF sessOk Sess.client 8 (s.sess.take k))) && ((decide (((1 : Int)) ≤ (x25.client))) && (decide ((x25.client) ≤ ((8 : Int)))))) && ((decide (((0 : Int)) ≤ (x25.seq))) && (decide ((x25.seq) ≤ ((1048576 : Int)))))) with hb37 | hb37
 have phb37 : (((((ok0F s v) && pairF sessOk Sess.client 8 (s.sess.take k))) = true) ∧ ((((1 : Int)) ≤ (x25.client)) ∧ ((x25.client) ≤ ((8 : Int))))) ∧ ((((0 : Int)) ≤ (x25.seq)) ∧ ((x25.seq) ≤ ((1048576 : Int)))) := ⟨⟨(band_t (band_t hb37).1).1, ⟨of_decide_eq_true (band_t (band_t (band_t hb37).1).2).1, of_decide_eq_true (band_t (band_t (band_t hb37).1).2).2⟩⟩, ⟨of_decide_eq_true (band_t (band_t hb37).2).1, of_decide_eq_true (band_t (band_t hb37).2).2⟩⟩
 refine WO.on rfl rfl hb37 ?_
 refine WO.v (fa51_2 rfl) rfl ?_
 refine WO.on rfl rfl hb37 ?_
 refine WO.v (fa49_0 rfl) rfl ?_
 refine WO.on rfl rfl hb37 ?_
 refine WO.v (R.loadB rfl B34 rfl Try.underlying27 rfl) rfl ?_
 refine WO.on rfl rfl hb37 ?_
 refine WO.c (E.call rfl rfl Try.func28 rfl rfl) (in7_s (n := x25.last.code) (a := (0 : Int)) (b := (99 : Int)) ) rfl ?_
 rintro _ _ ⟨rfl, rfl⟩
 refine WO.v (R.pickT rfl hb37 rfl) rfl ?_
 refine WO.nil ?_
 exact WX.cutDoneP 5 rfl rfl ⟨⟨_, rfl, vb (band_on hb37)⟩, trivial⟩ (rfl)
 have phb37 : (((((ok0F s v) && pairF sessOk Sess.client 8 (s.sess.take k))) = false) ∨ ((¬ (((1 : Int)) ≤ (x25.client))) ∨ (¬ ((x25.client) ≤ ((8 : Int)))))) ∨ ((¬ (((0 : Int)) ≤ (x25.seq))) ∨ (¬ ((x25.seq) ≤ ((1048576 : Int))))) := Or.imp (fun h => Or.imp (fun h => h) (fun h => Or.imp (fun h => of_decide_eq_false h) (fun h => of_decide_eq_false h) (band_f h)) (band_f h)) (fun h => Or.imp (fun h => of_decide_eq_false h) (fun h => of_decide_eq_false h) (band_f h)) (band_f hb37)
 refine WO.off rfl rfl hb37 rfl ?_
 refine WO.off rfl rfl hb37 rfl ?_
 refine WO.off rfl rfl hb37 rfl ?_
 refine WO.off rfl rfl hb37 rfl ?_
 refine WO.v (R.pickF rfl hb37 rfl) rfl ?_
 refine WO.nil ?_
 exact WX.cutDoneP 5 rfl rfl ⟨⟨_, rfl, vb (band_off hb37)⟩, trivial⟩ (rfl)
 rintro _ rfl
 refine WO.v (R.move rfl) rfl ?_
 refine WO.cutP 5 [(82, (.bool (((((((ok0F s v) && pairF sessOk Sess.client 8 (s.sess.take k))) && ((decide (((1 : Int)) ≤ (x25.client))) && (decide ((x25.client) ≤ ((8 : Int)))))) && ((decide (((0 : Int)) ≤ (x25.seq))) && (decide ((x25.seq) ≤ ((1048576 : Int)))))) && ((decide (((0 : Int)) ≤ (x25.last.code))) && (decide ((x25.last.code) ≤ ((99 : Int)))))) && ((decide (((0 : Int)) ≤ (x25.last.n))) && (decide ((x25.last.n) ≤ ((1048576 : Int))))))))] (fun w' => w34 = w') ?_ ?_
 rcases Bool.eq_false_or_eq_true ((((((ok0F s v) && pairF sessOk Sess.client 8 (s.sess.take k))) && ((decide (((1 : Int)) ≤ (x25.client))) && (decide ((x25.client) ≤ ((8 : Int)))))) && ((decide (((0 : Int)) ≤ (x25.seq))) && (decide ((x25.seq) ≤ ((1048576 : Int)))))) && ((decide (((0 : Int)) ≤ (x25.last.code))) && (decide ((x25.last.code) ≤ ((99 : Int)))))) with hb38 | hb38
 have phb38 : ((((((ok0F s v) && pairF sessOk Sess.client 8 (s.sess.take k))) = true) ∧ ((((1 : Int)) ≤ (x25.client)) ∧ ((x25.client) ≤ ((8 : Int))))) ∧ ((((0 : Int)) ≤ (x25.seq)) ∧ ((x25.seq) ≤ ((1048576 : Int))))) ∧ ((((0 : Int)) ≤ (x25.last.code)) ∧ ((x25.last.code) ≤ ((99 : Int)))) := ⟨⟨⟨(band_t (band_t (band_t hb38).1).1).1, ⟨of_decide_eq_true (band_t (band_t (band_t (band_t hb38).1).1).2).1, of_decide_eq_true (band_t (band_t (band_t (band_t hb38).1).1).2).2⟩⟩, ⟨of_decide_eq_true (band_t (band_t (band_t hb38).1).2).1, of_decide_eq_true (band_t (band_t (band_t hb38).1).2).2⟩⟩, ⟨of_decide_eq_true (band_t (band_t hb38).2).1, of_decide_eq_true (band_t (band_t hb38).2).2⟩⟩
 refine WO.on rfl rfl hb38 ?_
 refine WO.v (fa51_2 rfl) rfl ?_
 refine WO.on rfl rfl hb38 ?_
 refine WO.v (fa49_1 rfl) rfl ?_
 refine WO.on rfl rfl hb38 ?_
 refine WO.v (R.loadB rfl B34 rfl Try.underlying3 rfl) rfl ?_
 refine WO.on rfl rfl hb38 ?_
 refine WO.c (E.call rfl rfl Try.func28 rfl rfl) (in7_s (n := x25.last.n) (a := (0 : Int)) (b := (1048576 : Int)) ) rfl ?_
 rintro _ _ ⟨rfl, rfl⟩
 refine WO.v (R.pickT rfl hb38 rfl) rfl ?_
 refine WO.nil ?_
 exact WX.cutDoneP 5 rfl rfl ⟨⟨_, rfl, vb (band_on hb38)⟩, trivial⟩ (rfl)
 have phb38 : ((((((ok0F s v) && pairF sessOk Sess.client 8 (s.sess.take k))) = false) ∨ ((¬ (((1 : Int)) ≤ (x25.client))) ∨ (¬ ((x25.client) ≤ ((8 : Int)))))) ∨ ((¬ (((0 : Int)) ≤ (x25.seq))) ∨ (¬ ((x25.seq) ≤ ((1048576 : Int)))))) ∨ ((¬ (((0 : Int)) ≤ (x25.last.code))) ∨ (¬ ((x25.last.code) ≤ ((99 : Int))))) := Or.imp (fun h => Or.imp (fun h => Or.imp (fun h => h) (fun h => Or.imp (fun h => of_decide_eq_false h) (fun h => of_decide_eq_false h) (band_f h)) (band_f h)) (fun h => Or.imp (fun h => of_decide_eq_false h) (fun h => of_decide_eq_false h) (band_f h)) (band_f h)) (fun h => Or.imp (fun h => of_decide_eq_false h) (fun h => of_decide_eq_false h) (band_f h)) (band_f hb38)
 refine WO.off rfl rfl hb38 rfl ?_
 refine WO.off rfl rfl hb38 rfl ?_
 refine WO.off rfl rfl hb38 rfl ?_
 refine WO.off rfl rfl hb38 rfl ?_
 refine WO.v (R.pickF rfl hb38 rfl) rfl ?_
 refine WO.nil ?_
 exact WX.cutDoneP 5 rfl rfl ⟨⟨_, rfl, vb (band_off hb38)⟩, trivial⟩ (rfl)
 rintro _ rfl
 refine WO.v (R.assign rfl) rfl ?_
 refine WO.nil ?_
 refine WX.sel [0, 1, 2, 4, 5, 6, 7, 14, 52] rfl ?_
 refine WX.next ?_
 refine WC.sel [0, 1, 2, 4, 5, 6, 7, 14, 52] rfl ?_
 rcases Bool.eq_false_or_eq_true (((((((ok0F s v) && pairF sessOk Sess.client 8 (s.sess.take k))) && ((decide (((1 : Int)) ≤ (x25.client))) && (decide ((x25.client) ≤ ((8 : Int)))))) && ((decide (((0 : Int)) ≤ (x25.seq))) && (decide ((x25.seq) ≤ ((1048576 : Int)))))) && ((decide (((0 : Int)) ≤ (x25.last.code))) && (decide ((x25.last.code) ≤ ((99 : Int)))))) && ((decide (((0 : Int)) ≤ (x25.last.n))) && (decide ((x25.last.n) ≤ ((1048576 : Int)))))) with hb39 | hb39
 have phb39 : (((((((ok0F s v) && pairF sessOk Sess.client 8 (s.sess.take k))) = true) ∧ ((((1 : Int)) ≤ (x25.client)) ∧ ((x25.client) ≤ ((8 : Int))))) ∧ ((((0 : Int)) ≤ (x25.seq)) ∧ ((x25.seq) ≤ ((1048576 : Int))))) ∧ ((((0 : Int)) ≤ (x25.last.code)) ∧ ((x25.last.code) ≤ ((99 : Int))))) ∧ ((((0 : Int)) ≤ (x25.last.n)) ∧ ((x25.last.n) ≤ ((1048576 : Int)))) := ⟨⟨⟨⟨(band_t (band_t (band_t (band_t hb39).1).1).1).1, ⟨of_decide_eq_true (band_t (band_t (band_t (band_t (band_t hb39).1).1).1).2).1, of_decide_eq_true (band_t (band_t (band_t (band_t (band_t hb39).1).1).1).2).2⟩⟩, ⟨of_decide_eq_true (band_t (band_t (band_t (band_t hb39).1).1).2).1, of_decide_eq_true (band_t (band_t (band_t (band_t hb39).1).1).2).2⟩⟩, ⟨of_decide_eq_true (band_t (band_t (band_t hb39).1).2).1, of_decide_eq_true (band_t (band_t (band_t hb39).1).2).2⟩⟩, ⟨of_decide_eq_true (band_t (band_t hb39).2).1, of_decide_eq_true (band_t (band_t hb39).2).2⟩⟩
 rcases Bool.eq_false_or_eq_true (decide (((k : Nat) : Int) = (0 : Int))) with hb40 | hb40
 have phb40 : ((k : Nat) : Int) = (0 : Int) := of_decide_eq_true hb40
 refine WC.draw' mixed_orders [.ex [] (.bool (((((((ok0F s v) && pairF sessOk Sess.client 8 (s.sess.take k))) && ((decide (((1 : Int)) ≤ (x25.client))) && (decide ((x25.client) ≤ ((8 : Int)))))) && ((decide (((0 : Int)) ≤ (x25.seq))) && (decide ((x25.seq) ≤ ((1048576 : Int)))))) && ((decide (((0 : Int)) ≤ (x25.last.code))) && (decide ((x25.last.code) ≤ ((99 : Int)))))) && ((decide (((0 : Int)) ≤ (x25.last.n))) && (decide ((x25.last.n) ≤ ((1048576 : Int))))))), .ex [0] (.bool true), .ex [1] (.int .i64 ((k : Nat) : Int)), .ex [1, 2] (.bool (decide (((k : Nat) : Int) = (0 : Int)))), .ex [1, 3] (.bool true), .ex [4] undef, .ex [4] undef, .ex [4] undef, .ex [4] undef, .ex [4] undef, .ex [4] undef, .ex [4] undef, .ex [4] undef, .ex [4] undef, .ex [4] undef, .ex [1, 4] (.bool true), .ex [1, 15] (.bool true)] 17 (by kernel_rfl) ⟨fun _ _ _ h _ => h, fun _ _ _ h _ => h, fun _ _ _ h _ => h, fun _ _ _ h _ => h, fun _ _ _ h _ => h, fun _ _ _ h _ => h, fun _ _ _ h _ => h, fun _ _ _ h _ => h, fun _ _ _ h _ => h, fun _ _ _ h _ => h, fun _ _ _ h _ => h, fun _ _ _ h _ => h, fun _ _ _ h _ => h, fun _ _ _ h _ => h, fun _ _ _ h _ => h, fun _ _ _ h _ => h, fun _ _ _ h _ => h, trivial⟩ ⟨?_, ?_, ?_, ?_, ?_, ?_, ?_, ?_, ?_, ?_, ?_, ?_, ?_, ?_, ?_, ?_, ?_, trivial⟩ ?_
 rintro vs w41 k41 ⟨-⟩
 replace k41 : Kp [] w34 w41 := k41
 refine WO.haves (fr' := [(5, (.bool (((((((ok0F s v) && pairF sessOk Sess.client 8 (s.sess.take k))) && ((decide (((1 : Int)) ≤ (x25.client))) && (decide ((x25.client) ≤ ((8 : Int)))))) && ((decide (((0 : Int)) ≤ (x25.seq))) && (decide ((x25.seq) ≤ ((1048576 : Int)))))) && ((decide (((0 : Int)) ≤ (x25.last.code))) && (decide ((x25.last.code) ≤ ((99 : Int)))))) && ((decide (((0 : Int)) ≤ (x25.last.n))) && (decide ((x25.last.n) ≤ ((1048576 : Int))))))))]) ⟨⟨_, rfl, rfl⟩, trivial⟩ ?_
 refine WO.v (R.move rfl) rfl ?_
 refine WO.nil ?_
 exact WX.stepDone rfl rfl (Kp.refl _)
 rintro vs w42 k42 ⟨e43, -⟩
 replace k42 : Kp [] w34 w42 := k42
 refine WO.haves (fr' := [(83, (.bool (((((((ok0F s v) && pairF sessOk Sess.client 8 (s.sess.take k))) && ((decide (((1 : Int)) ≤ (x25.client))) && (decide ((x25.client) ≤ ((8 : Int)))))) && ((decide (((0 : Int)) ≤ (x25.seq))) && (decide ((x25.seq) ≤ ((1048576 : Int)))))) && ((decide (((0 : Int)) ≤ (x25.last.code))) && (decide ((x25.last.code) ≤ ((99 : Int)))))) && ((decide (((0 : Int)) ≤ (x25.last.n))) && (decide ((x25.last.n) ≤ ((1048576 : Int))))))))]) ⟨⟨_, rfl, e43⟩, trivial⟩ ?_
 refine WO.v (R.move rfl) rfl ?_
 refine WO.nil ?_
 exact WX.stepDone rfl (vb hb39) (Kp.refl _)
 rintro vs w44 k44 ⟨e45, -⟩
 replace k44 : Kp [] w34 w44 := k44
 refine WO.haves (fr' := [(84, (.bool true)), (6, (.int .i64 ((k : Nat) : Int)))]) ⟨⟨_, rfl, e45⟩, ⟨_, rfl, rfl⟩, trivial⟩ ?_
 refine WO.on rfl rfl rfl ?_
 refine WO.v (R.move rfl) rfl ?_
 refine WO.nil ?_
 exact WX.stepDone rfl rfl (Kp.refl _)
 rintro vs w46 k46 ⟨e47, e48, -⟩
 replace k46 : Kp [] w34 w46 := k46
 refine WO.haves (fr' := [(84, (.bool true)), (85, (.int .i64 ((k : Nat) : Int)))]) ⟨⟨_, rfl, e47⟩, ⟨_, rfl, e48⟩, trivial⟩ ?_
 refine WO.on rfl rfl rfl ?_
 refine WO.v (R.eql rfl rfl) rfl ?_
 refine WO.nil ?_
 exact WX.stepDone rfl rfl (Kp.refl _)
 rintro vs w49 k49 ⟨e50, e51, -⟩
 replace k49 : Kp [] w34 w49 := k49
 refine WO.haves (fr' := [(84, (.bool true)), (86, (.bool (decide (((k : Nat) : Int) = (0 : Int)))))]) ⟨⟨_, rfl, e50⟩, ⟨_, rfl, e51⟩, trivial⟩ ?_
 refine WO.on rfl rfl rfl ?_
 refine WO.v (R.move rfl) rfl ?_
 refine WO.nil ?_
 exact WX.stepDone rfl (vb hb40) (Kp.refl _)
 rintro vs w52 k52 ⟨e53, -⟩
 replace k52 : Kp [] w34 w52 := k52
 refine WO.haves (fr' := [(87, (.bool true)), (2, (.pointer (some ⟨w.heap.size, 0, none⟩)))]) ⟨⟨_, rfl, e53⟩, ⟨_, rfl, rfl⟩, trivial⟩ ?_
 refine WO.off rfl rfl rfl rfl ?_
 refine WO.nil ?_
 exact WX.stepDone rfl rfl (Kp.refl _)
 rintro vs w54 k54 ⟨e55, -⟩
 replace k54 : Kp [] w34 w54 := k54
 refine WO.haves (fr' := [(87, (.bool true))]) ⟨⟨_, rfl, e55⟩, trivial⟩ ?_
 refine WO.off rfl rfl rfl rfl ?_
 refine WO.nil ?_
 exact WX.stepDone rfl rfl (Kp.refl _)
 rintro vs w56 k56 ⟨e57, -⟩
 replace k56 : Kp [] w34 w56 := k56
 refine WO.haves (fr' := [(87, (.bool true)), (6, (.int .i64 ((k : Nat) : Int)))]) ⟨⟨_, rfl, e57⟩, ⟨_, rfl, rfl⟩, trivial⟩ ?_
 refine WO.off rfl rfl rfl rfl ?_
 refine WO.nil ?_
 exact WX.stepDone rfl rfl (Kp.refl _)
 rintro vs w58 k58 ⟨e59, -⟩
 replace k58 : Kp [] w34 w58 := k58
 refine WO.haves (fr' := [(87, (.bool true))]) ⟨⟨_, rfl, e59⟩, trivial⟩ ?_
 refine WO.off rfl rfl rfl rfl ?_
 refine WO.nil ?_
 exact WX.stepDone rfl rfl (Kp.refl _)
 rintro vs w60 k60 ⟨e61, -⟩
 replace k60 : Kp [] w34 w60 := k60
 refine WO.haves (fr' := [(87, (.bool true))]) ⟨⟨_, rfl, e61⟩, trivial⟩ ?_
 refine WO.off rfl rfl rfl rfl ?_
 refine WO.nil ?_
 exact WX.stepDone rfl rfl (Kp.refl _)
 rintro vs w62 k62 ⟨e63, -⟩
 replace k62 : Kp [] w34 w62 := k62
 refine WO.haves (fr' := [(87, (.bool true))]) ⟨⟨_, rfl, e63⟩, trivial⟩ ?_
 refine WO.off rfl rfl rfl rfl ?_
 refine WO.nil ?_
 exact WX.stepDone rfl rfl (Kp.refl _)
 rintro vs w64 k64 ⟨e65, -⟩
 replace k64 : Kp [] w34 w64 := k64
 refine WO.haves (fr' := [(87, (.bool true))]) ⟨⟨_, rfl, e65⟩, trivial⟩ ?_
 refine WO.off rfl rfl rfl rfl ?_
 refine WO.nil ?_
 exact WX.stepDone rfl rfl (Kp.refl _)
 rintro vs w66 k66 ⟨e67, -⟩
 replace k66 : Kp [] w34 w66 := k66
 refine WO.haves (fr' := [(87, (.bool true)), (7, (.pointer (some ⟨w22.heap.size, 0, none⟩)))]) ⟨⟨_, rfl, e67⟩, ⟨_, rfl, rfl⟩, trivial⟩ ?_
 refine WO.off rfl rfl rfl rfl ?_
 refine WO.nil ?_
 exact WX.stepDone rfl rfl (Kp.refl _)
 rintro vs w68 k68 ⟨e69, -⟩
 replace k68 : Kp [] w34 w68 := k68
 refine WO.haves (fr' := [(87, (.bool true))]) ⟨⟨_, rfl, e69⟩, trivial⟩ ?_
 refine WO.off rfl rfl rfl rfl ?_
 refine WO.nil ?_
 exact WX.stepDone rfl rfl (Kp.refl _)
 rintro vs w70 k70 ⟨e71, -⟩
 replace k70 : Kp [] w34 w70 := k70
 refine WO.haves (fr' := [(87, (.bool true))]) ⟨⟨_, rfl, e71⟩, trivial⟩ ?_
 refine WO.off rfl rfl rfl rfl ?_
 refine WO.nil ?_
 exact WX.stepDone rfl rfl (Kp.refl _)
 rintro vs w72 k72 ⟨e73, e74, -⟩
 replace k72 : Kp [] w34 w72 := k72
 refine WO.haves (fr' := [(84, (.bool true)), (87, (.bool true))]) ⟨⟨_, rfl, e73⟩, ⟨_, rfl, e74⟩, trivial⟩ ?_
 refine WO.on rfl rfl rfl ?_
 refine WO.v (R.pickT rfl rfl rfl) rfl ?_
 refine WO.nil ?_
 exact WX.stepDone rfl rfl (Kp.refl _)
 rintro vs w75 k75 ⟨e76, e77, -⟩
 replace k75 : Kp [] w34 w75 := k75
 refine WO.haves (fr' := [(84, (.bool true)), (98, (.bool true))]) ⟨⟨_, rfl, e76⟩, ⟨_, rfl, e77⟩, trivial⟩ ?_
 refine WO.v (R.pickT rfl rfl rfl) rfl ?_
 refine WO.nil ?_
 exact WX.stepDone rfl rfl (Kp.refl _)
 rintro vs w78 k78 ⟨-, -, -, -, -, -, -, -, -, -, -, -, -, -, -, -, e95, -⟩
 replace k78 : Kp [] w34 w78 := k78
 have z78 : w34.heap.size ≤ w78.heap.size := k78.size
 have b78 := old_kp0 b34 k78
 have y78 : w.heap.size ≤ w78.heap.size := b78.size
 refine WO.haves (fr' := [(99, (.bool true)), (0, (.agg #[(.int .i64 s.version), (.int .i64 s.next), (.int .i64 s.keep), (.int .i64 s.quota), (.slice a5 s.sess.length c6), (.slice a8 s.opens.length c9), (.slice a11 s.snaps.length c12)])), (1, (.int .i64 v)), (2, (.pointer (some ⟨w.heap.size, 0, none⟩))), (4, (.int .i64 (0 : Int))), (5, (.bool (((((((ok0F s v) && pairF sessOk Sess.client 8 (s.sess.take k))) && ((decide (((1 : Int)) ≤ (x25.client))) && (decide ((x25.client) ≤ ((8 : Int)))))) && ((decide (((0 : Int)) ≤ (x25.seq))) && (decide ((x25.seq) ≤ ((1048576 : Int)))))) && ((decide (((0 : Int)) ≤ (x25.last.code))) && (decide ((x25.last.code) ≤ ((99 : Int)))))) && ((decide (((0 : Int)) ≤ (x25.last.n))) && (decide ((x25.last.n) ≤ ((1048576 : Int)))))))), (6, (.int .i64 ((k : Nat) : Int))), (7, (.pointer (some ⟨w22.heap.size, 0, none⟩))), (14, (.bool (!((decide (((1 : Int)) ≤ (v))) && (decide ((v) ≤ ((3 : Int)))))))), (52, (.bool (decide (((k : Nat) : Int) < ((s.sess.length : Nat) : Int)))))]) ⟨⟨_, rfl, e95⟩, ⟨_, rfl, rfl⟩, ⟨_, rfl, rfl⟩, ⟨_, rfl, rfl⟩, ⟨_, rfl, rfl⟩, ⟨_, rfl, rfl⟩, ⟨_, rfl, rfl⟩, ⟨_, rfl, rfl⟩, ⟨_, rfl, rfl⟩, ⟨_, rfl, rfl⟩, trivial⟩ ?_
 refine WO.v (R.assign rfl) rfl ?_
 refine WO.nil ?_
 refine WX.sel [0, 1, 2, 4, 5, 6, 7, 14, 52] rfl ?_
 refine WX.blkNormal ?_
 refine WX.next ?_
 refine WC.region ?_
 refine WO.v (R.move rfl) rfl ?_
 refine WO.v (R.inc rfl (by omega)) rfl ?_
 refine WO.v (R.assign rfl) rfl ?_
 refine WO.nil ?_
 refine WX.sel [0, 1, 2, 4, 5, 6, 7, 14, 52] rfl ?_
 exact WX.loopNextK [0, 1, 2, 4, 14] (k + 1) rfl ⟨⟨_, rfl, rfl⟩, ⟨_, rfl, vb (by first | (rw [sess_step hx25, hb39]; rfl) | (rw [sess_step hx25, hb39, hb40]; rfl) | (rw [sess_step hx25, hb39, hb40, lastK_at (key := Sess.client) (a := 0) (by omega) ‹s.sess[k - 1]? = some _›]; rfl))⟩, trivial⟩ ⟨((((Kp.refl _).step k22 (by simp)).step n33.kp (by simp)).step k34 (mem1 (.inr (by omega)))).step k78 (by simp), by omega⟩ (by show (s.sess.length - (k + 1)) < (s.sess.length - k); omega)
 have phb40 : ¬ (((k : Nat) : Int) = (0 : Int)) := of_decide_eq_false hb40
 have B96 := ((B23).kp0 n33.kp).kp1 k34 (by omega)
 have i97 : I64 (((k : Nat) : Int) - (1 : Int)) := by exact ⟨by omega, by omega⟩
 obtain ⟨x98, hx98⟩ := get_ex (xs := s.sess) (i := (k - 1)) (by omega)
 obtain ⟨A99, cs100, hA99, loA99, hiA99, ccA99, r101⟩ := (sl_old s7 b34).at_ hx98
 obtain ⟨rfl, i102, i103, i104, i105⟩ := Sess.el r101
 refine WC.draw' mixed_orders [.ex [] (.bool (((((((ok0F s v) && pairF sessOk Sess.client 8 (s.sess.take k))) && ((decide (((1 : Int)) ≤ (x25.client))) && (decide ((x25.client) ≤ ((8 : Int)))))) && ((decide (((0 : Int)) ≤ (x25.seq))) && (decide ((x25.seq) ≤ ((1048576 : Int)))))) && ((decide (((0 : Int)) ≤ (x25.last.code))) && (decide ((x25.last.code) ≤ ((99 : Int)))))) && ((decide (((0 : Int)) ≤ (x25.last.n))) && (decide ((x25.last.n) ≤ ((1048576 : Int))))))), .ex [0] (.bool true), .ex [1] (.int .i64 ((k : Nat) : Int)), .ex [1, 2] (.bool (decide (((k : Nat) : Int) = (0 : Int)))), .ex [1, 3] (.bool false), .ex [4] (.pointer (some ⟨w.heap.size, 4, none⟩)), .ex [4, 5] (.slice a5 s.sess.length c6), .ex [4] (.int .i64 ((k : Nat) : Int)), .ex [4, 7] (.int .i64 (((k : Nat) : Int) - (1 : Int))), .ex [4, 6, 8] (.pointer (some (A99.add ((k - 1) * 4)))), .ex [4, 9] (.pointer (some ((A99.add ((k - 1) * 4)).add 0))), .ex [4, 10] (.int .i64 x98.client), .ex [4] (.pointer (some ⟨w22.heap.size, 0, none⟩)), .ex [4, 12] (.int .i64 x25.client), .ex [4, 11, 13] (.bool (decide (x98.client < x25.client))), .ex [1, 4, 14] (.bool (decide (x98.client < x25.client))), .ex [1, 15] (.bool (decide (x98.client < x25.client)))] 17 (by kernel_rfl) ⟨fun _ _ _ h _ => h, fun _ _ _ h _ => h, fun _ _ _ h _ => h, fun _ _ _ h _ => h, fun _ _ _ h _ => h, fun _ _ _ h _ => h, fun _ _ _ h _ => h, fun _ _ _ h _ => h, fun _ _ _ h _ => h, fun _ _ _ h _ => h, fun _ _ _ h _ => h, fun _ _ _ h _ => h, fun _ _ _ h _ => h, fun _ _ _ h _ => h, fun _ _ _ h _ => h, fun _ _ _ h _ => h, fun _ _ _ h _ => h, trivial⟩ ⟨?_, ?_, ?_, ?_, ?_, ?_, ?_, ?_, ?_, ?_, ?_, ?_, ?_, ?_, ?_, ?_, ?_, trivial⟩ ?_
 rintro vs w106 k106 ⟨-⟩
 replace k106 : Kp [] w34 w106 := k106
 refine WO.haves (fr' := [(5, (.bool (((((((ok0F s v) && pairF sessOk Sess.client 8 (s.sess.take k))) && ((decide (((1 : Int)) ≤ (x25.client))) && (decide ((x25.client) ≤ ((8 : Int)))))) && ((decide (((0 : Int)) ≤ (x25.seq))) && (decide ((x25.seq) ≤ ((1048576 : Int)))))) && ((decide (((0 : Int)) ≤ (x25.last.code))) && (decide ((x25.last.code) ≤ ((99 : Int)))))) && ((decide (((0 : Int)) ≤ (x25.last.n))) && (decide ((x25.last.n) ≤ ((1048576 : Int))))))))]) ⟨⟨_, rfl, rfl⟩, trivial⟩ ?_
 refine WO.v (R.move rfl) rfl ?_
 refine WO.nil ?_
 exact WX.stepDone rfl rfl (Kp.refl _)
 rintro vs w107 k107 ⟨e108, -⟩
 replace k107 : Kp [] w34 w107 := k107
 refine WO.haves (fr' := [(83, (.bool (((((((ok0F s v) && pairF sessOk Sess.client 8 (s.sess.take k))) && ((decide (((1 : Int)) ≤ (x25.client))) && (decide ((x25.client) ≤ ((8 : Int)))))) && ((decide (((0 : Int)) ≤ (x25.seq))) && (decide ((x25.seq) ≤ ((1048576 : Int)))))) && ((decide (((0 : Int)) ≤ (x25.last.code))) && (decide ((x25.last.code) ≤ ((99 : Int)))))) && ((decide (((0 : Int)) ≤ (x25.last.n))) && (decide ((x25.last.n) ≤ ((1048576 : Int))))))))]) ⟨⟨_, rfl, e108⟩, trivial⟩ ?_
 refine WO.v (R.move rfl) rfl ?_
 refine WO.nil ?_
 exact WX.stepDone rfl (vb hb39) (Kp.refl _)
 rintro vs w109 k109 ⟨e110, -⟩
 replace k109 : Kp [] w34 w109 := k109
 refine WO.haves (fr' := [(84, (.bool true)), (6, (.int .i64 ((k : Nat) : Int)))]) ⟨⟨_, rfl, e110⟩, ⟨_, rfl, rfl⟩, trivial⟩ ?_
 refine WO.on rfl rfl rfl ?_
 refine WO.v (R.move rfl) rfl ?_
 refine WO.nil ?_
 exact WX.stepDone rfl rfl (Kp.refl _)
 rintro vs w111 k111 ⟨e112, e113, -⟩
 replace k111 : Kp [] w34 w111 := k111
 refine WO.haves (fr' := [(84, (.bool true)), (85, (.int .i64 ((k : Nat) : Int)))]) ⟨⟨_, rfl, e112⟩, ⟨_, rfl, e113⟩, trivial⟩ ?_
 refine WO.on rfl rfl rfl ?_
 refine WO.v (R.eql rfl rfl) rfl ?_
 refine WO.nil ?_
 exact WX.stepDone rfl rfl (Kp.refl _)
 rintro vs w114 k114 ⟨e115, e116, -⟩
 replace k114 : Kp [] w34 w114 := k114
 refine WO.haves (fr' := [(84, (.bool true)), (86, (.bool (decide (((k : Nat) : Int) = (0 : Int)))))]) ⟨⟨_, rfl, e115⟩, ⟨_, rfl, e116⟩, trivial⟩ ?_
 refine WO.on rfl rfl rfl ?_
 refine WO.v (R.move rfl) rfl ?_
 refine WO.nil ?_
 exact WX.stepDone rfl (vb hb40) (Kp.refl _)
 rintro vs w117 k117 ⟨e118, -⟩
 replace k117 : Kp [] w34 w117 := k117
 refine WO.haves (fr' := [(87, (.bool false)), (2, (.pointer (some ⟨w.heap.size, 0, none⟩)))]) ⟨⟨_, rfl, e118⟩, ⟨_, rfl, rfl⟩, trivial⟩ ?_
 refine WO.on rfl rfl rfl ?_
 refine WO.v (fa34_4 rfl) rfl ?_
 refine WO.nil ?_
 exact WX.stepDone rfl rfl (Kp.refl _)
 rintro vs w119 k119 ⟨e120, e121, -⟩
 replace k119 : Kp [] w34 w119 := k119
 have z119 : w34.heap.size ≤ w119.heap.size := k119.size
 have b119 := old_kp0 b34 k119
 have y119 : w.heap.size ≤ w119.heap.size := b119.size
 refine WO.haves (fr' := [(87, (.bool false)), (88, (.pointer (some ⟨w.heap.size, 4, none⟩)))]) ⟨⟨_, rfl, e120⟩, ⟨_, rfl, e121⟩, trivial⟩ ?_
 refine WO.on rfl rfl rfl ?_
 have B122 := (((B23).kp0 n33.kp).kp1 k34 (by omega)).kp0 k119
 refine WO.v (R.loadB rfl B122 rfl Try.underlying30 rfl) rfl ?_
 refine WO.nil ?_
 exact WX.stepDone rfl rfl (Kp.refl _)
 rintro vs w123 k123 ⟨e124, -⟩
 replace k123 : Kp [] w34 w123 := k123
 refine WO.haves (fr' := [(87, (.bool false)), (6, (.int .i64 ((k : Nat) : Int)))]) ⟨⟨_, rfl, e124⟩, ⟨_, rfl, rfl⟩, trivial⟩ ?_
 refine WO.on rfl rfl rfl ?_
 refine WO.v (R.move rfl) rfl ?_
 refine WO.nil ?_
 exact WX.stepDone rfl rfl (Kp.refl _)
 rintro vs w125 k125 ⟨e126, e127, -⟩
 replace k125 : Kp [] w34 w125 := k125
 refine WO.haves (fr' := [(87, (.bool false)), (90, (.int .i64 ((k : Nat) : Int)))]) ⟨⟨_, rfl, e126⟩, ⟨_, rfl, e127⟩, trivial⟩ ?_
 refine WO.on rfl rfl rfl ?_
 have i128 : I64 (((k : Nat) : Int) - (1 : Int)) := by exact ⟨by omega, by omega⟩
 refine WO.v (R.sub rfl rfl i128) rfl ?_
 refine WO.nil ?_
 exact WX.stepDone rfl rfl (Kp.refl _)
 rintro vs w129 k129 ⟨e130, e131, e132, -⟩
 replace k129 : Kp [] w34 w129 := k129
 refine WO.haves (fr' := [(87, (.bool false)), (89, (.slice a5 s.sess.length c6)), (91, (.int .i64 (((k : Nat) : Int) - (1 : Int))))]) ⟨⟨_, rfl, e130⟩, ⟨_, rfl, e131⟩, ⟨_, rfl, e132⟩, trivial⟩ ?_
 refine WO.on rfl rfl rfl ?_
 refine WO.v (R.indexAddrJ rfl rfl Try.underlying30 sz51 hA99 (i := (k - 1)) (by omega) (by omega)) rfl ?_
 refine WO.nil ?_
 exact WX.stepDone rfl rfl (Kp.refl _)
 rintro vs w133 k133 ⟨e134, e135, -⟩
 replace k133 : Kp [] w34 w133 := k133
 refine WO.haves (fr' := [(87, (.bool false)), (92, (.pointer (some (A99.add ((k - 1) * 4)))))]) ⟨⟨_, rfl, e134⟩, ⟨_, rfl, e135⟩, trivial⟩ ?_
 refine WO.on rfl rfl rfl ?_
 refine WO.v (fe51_0 rfl) rfl ?_
 refine WO.nil ?_
 exact WX.stepDone rfl rfl (Kp.refl _)
 rintro vs w136 k136 ⟨e137, e138, -⟩
 replace k136 : Kp [] w34 w136 := k136
 have z136 : w34.heap.size ≤ w136.heap.size := k136.size
 have b136 := old_kp0 b34 k136
 have y136 : w.heap.size ≤ w136.heap.size := b136.size
 refine WO.haves (fr' := [(87, (.bool false)), (93, (.pointer (some ((A99.add ((k - 1) * 4)).add 0))))]) ⟨⟨_, rfl, e137⟩, ⟨_, rfl, e138⟩, trivial⟩ ?_
 refine WO.on rfl rfl rfl ?_
 refine WO.v (R.load1 rfl Try.underlying3 rfl (((ccA99).kpA k136 (by omega) (by simp)).one (j := 0) rfl)) rfl ?_
 refine WO.nil ?_
 exact WX.stepDone rfl rfl (Kp.refl _)
 rintro vs w139 k139 ⟨e140, -⟩
 replace k139 : Kp [] w34 w139 := k139
 refine WO.haves (fr' := [(87, (.bool false)), (7, (.pointer (some ⟨w22.heap.size, 0, none⟩)))]) ⟨⟨_, rfl, e140⟩, ⟨_, rfl, rfl⟩, trivial⟩ ?_
 refine WO.on rfl rfl rfl ?_
 refine WO.v (fa51_0 rfl) rfl ?_
 refine WO.nil ?_
 exact WX.stepDone rfl rfl (Kp.refl _)
 rintro vs w141 k141 ⟨e142, e143, -⟩
 replace k141 : Kp [] w34 w141 := k141
 have z141 : w34.heap.size ≤ w141.heap.size := k141.size
 have b141 := old_kp0 b34 k141
 have y141 : w.heap.size ≤ w141.heap.size := b141.size
 refine WO.haves (fr' := [(87, (.bool false)), (95, (.pointer (some ⟨w22.heap.size, 0, none⟩)))]) ⟨⟨_, rfl, e142⟩, ⟨_, rfl, e143⟩, trivial⟩ ?_
 refine WO.on rfl rfl rfl ?_
 have B144 := (B34).kp0 k141
 refine WO.v (R.loadB rfl B144 rfl Try.underlying3 rfl) rfl ?_
 refine WO.nil ?_
 exact WX.stepDone rfl rfl (Kp.refl _)
 rintro vs w145 k145 ⟨e146, e147, e148, -⟩
 replace k145 : Kp [] w34 w145 := k145
 refine WO.haves (fr' := [(87, (.bool false)), (94, (.int .i64 x98.client)), (96, (.int .i64 x25.client))]) ⟨⟨_, rfl, e146⟩, ⟨_, rfl, e147⟩, ⟨_, rfl, e148⟩, trivial⟩ ?_
 refine WO.on rfl rfl rfl ?_
 refine WO.v (R.lss rfl rfl) rfl ?_
 refine WO.nil ?_
 exact WX.stepDone rfl rfl (Kp.refl _)
 rintro vs w149 k149 ⟨e150, e151, e152, -⟩
 replace k149 : Kp [] w34 w149 := k149
 refine WO.haves (fr' := [(84, (.bool true)), (87, (.bool false)), (97, (.bool (decide (x98.client < x25.client))))]) ⟨⟨_, rfl, e150⟩, ⟨_, rfl, e151⟩, ⟨_, rfl, e152⟩, trivial⟩ ?_
 refine WO.on rfl rfl rfl ?_
 refine WO.v (R.pickF rfl rfl rfl) rfl ?_
 refine WO.nil ?_
 exact WX.stepDone rfl rfl (Kp.refl _)
 rintro vs w153 k153 ⟨e154, e155, -⟩
 replace k153 : Kp [] w34 w153 := k153
 refine WO.haves (fr' := [(84, (.bool true)), (98, (.bool (decide (x98.client < x25.client))))]) ⟨⟨_, rfl, e154⟩, ⟨_, rfl, e155⟩, trivial⟩ ?_
 refine WO.v (R.pickT rfl rfl rfl) rfl ?_
 refine WO.nil ?_
 exact WX.stepDone rfl rfl (Kp.refl _)
 rintro vs w156 k156 ⟨-, -, -, -, -, -, -, -, -, -, -, -, -, -, -, -, e173, -⟩
 replace k156 : Kp [] w34 w156 := k156
 have z156 : w34.heap.size ≤ w156.heap.size := k156.size
 have b156 := old_kp0 b34 k156
 have y156 : w.heap.size ≤ w156.heap.size := b156.size
 refine WO.haves (fr' := [(99, (.bool (decide (x98.client < x25.client)))), (0, (.agg #[(.int .i64 s.version), (.int .i64 s.next), (.int .i64 s.keep), (.int .i64 s.quota), (.slice a5 s.sess.length c6), (.slice a8 s.opens.length c9), (.slice a11 s.snaps.length c12)])), (1, (.int .i64 v)), (2, (.pointer (some ⟨w.heap.size, 0, none⟩))), (4, (.int .i64 (0 : Int))), (5, (.bool (((((((ok0F s v) && pairF sessOk Sess.client 8 (s.sess.take k))) && ((decide (((1 : Int)) ≤ (x25.client))) && (decide ((x25.client) ≤ ((8 : Int)))))) && ((decide (((0 : Int)) ≤ (x25.seq))) && (decide ((x25.seq) ≤ ((1048576 : Int)))))) && ((decide (((0 : Int)) ≤ (x25.last.code))) && (decide ((x25.last.code) ≤ ((99 : Int)))))) && ((decide (((0 : Int)) ≤ (x25.last.n))) && (decide ((x25.last.n) ≤ ((1048576 : Int)))))))), (6, (.int .i64 ((k : Nat) : Int))), (7, (.pointer (some ⟨w22.heap.size, 0, none⟩))), (14, (.bool (!((decide (((1 : Int)) ≤ (v))) && (decide ((v) ≤ ((3 : Int)))))))), (52, (.bool (decide (((k : Nat) : Int) < ((s.sess.length : Nat) : Int)))))]) ⟨⟨_, rfl, e173⟩, ⟨_, rfl, rfl⟩, ⟨_, rfl, rfl⟩, ⟨_, rfl, rfl⟩, ⟨_, rfl, rfl⟩, ⟨_, rfl, rfl⟩, ⟨_, rfl, rfl⟩, ⟨_, rfl, rfl⟩, ⟨_, rfl, rfl⟩, ⟨_, rfl, rfl⟩, trivial⟩ ?_
 refine WO.v (R.assign rfl) rfl ?_
 refine WO.nil ?_
 refine WX.sel [0, 1, 2, 4, 5, 6, 7, 14, 52] rfl ?_
 refine WX.blkNormal ?_
 refine WX.next ?_
 refine WC.region ?_
 refine WO.v (R.move rfl) rfl ?_
 refine WO.v (R.inc rfl (by omega)) rfl ?_
 refine WO.v (R.assign rfl) rfl ?_
 refine WO.nil ?_
 refine WX.sel [0, 1, 2, 4, 5, 6, 7, 14, 52] rfl ?_
 exact WX.loopNextK [0, 1, 2, 4, 14] (k + 1) rfl ⟨⟨_, rfl, rfl⟩, ⟨_, rfl, vb (by first | (rw [sess_step hx25, hb39]; rfl) | (rw [sess_step hx25, hb39, hb40]; rfl) | (rw [sess_step hx25, hb39, hb40, lastK_at (key := Sess.client) (a := 0) (by omega) ‹s.sess[k - 1]? = some _›]; rfl))⟩, trivial⟩ ⟨((((Kp.refl _).step k22 (by simp)).step n33.kp (by simp)).step k34 (mem1 (.inr (by omega)))).step k156 (by simp), by omega⟩ (by show (s.sess.length - (k + 1)) < (s.sess.length - k); omega)
 have phb39 : (((((((ok0F s v) && pairF sessOk Sess.client 8 (s.sess.take k))) = false) ∨ ((¬ (((1 : Int)) ≤ (x25.client))) ∨ (¬ ((x25.client) ≤ ((8 : Int)))))) ∨ ((¬ (((0 : Int)) ≤ (x25.seq))) ∨ (¬ ((x25.seq) ≤ ((1048576 : Int)))))) ∨ ((¬ (((0 : Int)) ≤ (x25.last.code))) ∨ (¬ ((x25.last.code) ≤ ((99 : Int)))))) ∨ ((¬ (((0 : Int)) ≤ (x25.last.n))) ∨ (¬ ((x25.last.n) ≤ ((1048576 : Int))))) := Or.imp (fun h => Or.imp (fun h => Or.imp (fun h => Or.imp (fun h => h) (fun h => Or.imp (fun h => of_decide_eq_false h) (fun h => of_decide_eq_false h) (band_f h)) (band_f h)) (fun h => Or.imp (fun h => of_decide_eq_false h) (fun h => of_decide_eq_false h) (band_f h)) (band_f h)) (fun h => Or.imp (fun h => of_decide_eq_false h) (fun h => of_decide_eq_false h) (band_f h)) (band_f h)) (fun h => Or.imp (fun h => of_decide_eq_false h) (fun h => of_decide_eq_false h) (band_f h)) (band_f hb39)
 refine WC.draw' mixed_orders [.ex [] (.bool (((((((ok0F s v) && pairF sessOk Sess.client 8 (s.sess.take k))) && ((decide (((1 : Int)) ≤ (x25.client))) && (decide ((x25.client) ≤ ((8 : Int)))))) && ((decide (((0 : Int)) ≤ (x25.seq))) && (decide ((x25.seq) ≤ ((1048576 : Int)))))) && ((decide (((0 : Int)) ≤ (x25.last.code))) && (decide ((x25.last.code) ≤ ((99 : Int)))))) && ((decide (((0 : Int)) ≤ (x25.last.n))) && (decide ((x25.last.n) ≤ ((1048576 : Int))))))), .ex [0] (.bool false), .ex [1] undef, .ex [1] undef, .ex [1] undef, .ex [4] undef, .ex [4] undef, .ex [4] undef, .ex [4] undef, .ex [4] undef, .ex [4] undef, .ex [4] undef, .ex [4] undef, .ex [4] undef, .ex [4] undef, .ex [1] undef, .ex [1] (.bool false)] 17 (by kernel_rfl) ⟨fun _ _ _ h _ => h, fun _ _ _ h _ => h, fun _ _ _ h _ => h, fun _ _ _ h _ => h, fun _ _ _ h _ => h, fun _ _ _ h _ => h, fun _ _ _ h _ => h, fun _ _ _ h _ => h, fun _ _ _ h _ => h, fun _ _ _ h _ => h, fun _ _ _ h _ => h, fun _ _ _ h _ => h, fun _ _ _ h _ => h, fun _ _ _ h _ => h, fun _ _ _ h _ => h, fun _ _ _ h _ => h, fun _ _ _ h _ => h, trivial⟩ ⟨?_, ?_, ?_, ?_, ?_, ?_, ?_, ?_, ?_, ?_, ?_, ?_, ?_, ?_, ?_, ?_, ?_, trivial⟩ ?_
 rintro vs w174 k174 ⟨-⟩
 replace k174 : Kp [] w34 w174 := k174
 refine WO.haves (fr' := [(5, (.bool (((((((ok0F s v) && pairF sessOk Sess.client 8 (s.sess.take k))) && ((decide (((1 : Int)) ≤ (x25.client))) && (decide ((x25.client) ≤ ((8 : Int)))))) && ((decide (((0 : Int)) ≤ (x25.seq))) && (decide ((x25.seq) ≤ ((1048576 : Int)))))) && ((decide (((0 : Int)) ≤ (x25.last.code))) && (decide ((x25.last.code) ≤ ((99 : Int)))))) && ((decide (((0 : Int)) ≤ (x25.last.n))) && (decide ((x25.last.n) ≤ ((1048576 : Int))))))))]) ⟨⟨_, rfl, rfl⟩, trivial⟩ ?_
 refine WO.v (R.move rfl) rfl ?_
 refine WO.nil ?_
 exact WX.stepDone rfl rfl (Kp.refl _)
 rintro vs w175 k175 ⟨e176, -⟩
 replace k175 : Kp [] w34 w175 := k175
 refine WO.haves (fr' := [(83, (.bool (((((((ok0F s v) && pairF sessOk Sess.client 8 (s.sess.take k))) && ((decide (((1 : Int)) ≤ (x25.client))) && (decide ((x25.client) ≤ ((8 : Int)))))) && ((decide (((0 : Int)) ≤ (x25.seq))) && (decide ((x25.seq) ≤ ((1048576 : Int)))))) && ((decide (((0 : Int)) ≤ (x25.last.code))) && (decide ((x25.last.code) ≤ ((99 : Int)))))) && ((decide (((0 : Int)) ≤ (x25.last.n))) && (decide ((x25.last.n) ≤ ((1048576 : Int))))))))]) ⟨⟨_, rfl, e176⟩, trivial⟩ ?_
 refine WO.v (R.move rfl) rfl ?_
 refine WO.nil ?_
 exact WX.stepDone rfl (vb hb39) (Kp.refl _)
 rintro vs w177 k177 ⟨e178, -⟩
 replace k177 : Kp [] w34 w177 := k177
 refine WO.haves (fr' := [(84, (.bool false)), (6, (.int .i64 ((k : Nat) : Int)))]) ⟨⟨_, rfl, e178⟩, ⟨_, rfl, rfl⟩, trivial⟩ ?_
 refine WO.off rfl rfl rfl rfl ?_
 refine WO.nil ?_
 exact WX.stepDone rfl rfl (Kp.refl _)
 rintro vs w179 k179 ⟨e180, -⟩
 replace k179 : Kp [] w34 w179 := k179
 refine WO.haves (fr' := [(84, (.bool false))]) ⟨⟨_, rfl, e180⟩, trivial⟩ ?_
 refine WO.off rfl rfl rfl rfl ?_
 refine WO.nil ?_
 exact WX.stepDone rfl rfl (Kp.refl _)
 rintro vs w181 k181 ⟨e182, -⟩
 replace k181 : Kp [] w34 w181 := k181
 refine WO.haves (fr' := [(84, (.bool false))]) ⟨⟨_, rfl, e182⟩, trivial⟩ ?_
 refine WO.off rfl rfl rfl rfl ?_
 refine WO.nil ?_
 exact WX.stepDone rfl rfl (Kp.refl _)
 rintro vs w183 k183 ⟨e184, -⟩
 replace k183 : Kp [] w34 w183 := k183
 refine WO.haves (fr' := [(87, undef), (2, (.pointer (some ⟨w.heap.size, 0, none⟩)))]) ⟨⟨_, rfl, e184⟩, ⟨_, rfl, rfl⟩, trivial⟩ ?_
 refine WO.offU rfl rfl rfl ?_
 refine WO.nil ?_
 exact WX.stepDone rfl rfl (Kp.refl _)
 rintro vs w185 k185 ⟨e186, -⟩
 replace k185 : Kp [] w34 w185 := k185
 refine WO.haves (fr' := [(87, undef)]) ⟨⟨_, rfl, e186⟩, trivial⟩ ?_
 refine WO.offU rfl rfl rfl ?_
 refine WO.nil ?_
 exact WX.stepDone rfl rfl (Kp.refl _)
 rintro vs w187 k187 ⟨e188, -⟩
 replace k187 : Kp [] w34 w187 := k187
 refine WO.haves (fr' := [(87, undef), (6, (.int .i64 ((k : Nat) : Int)))]) ⟨⟨_, rfl, e188⟩, ⟨_, rfl, rfl⟩, trivial⟩ ?_
 refine WO.offU rfl rfl rfl ?_
 refine WO.nil ?_
 exact WX.stepDone rfl rfl (Kp.refl _)
 rintro vs w189 k189 ⟨e190, -⟩
 replace k189 : Kp [] w34 w189 := k189
 refine WO.haves (fr' := [(87, undef)]) ⟨⟨_, rfl, e190⟩, trivial⟩ ?_
 refine WO.offU rfl rfl rfl ?_
 refine WO.nil ?_
 exact WX.stepDone rfl rfl (Kp.refl _)
 rintro vs w191 k191 ⟨e192, -⟩
 replace k191 : Kp [] w34 w191 := k191
 refine WO.haves (fr' := [(87, undef)]) ⟨⟨_, rfl, e192⟩, trivial⟩ ?_
 refine WO.offU rfl rfl rfl ?_
 refine WO.nil ?_
 exact WX.stepDone rfl rfl (Kp.refl _)
 rintro vs w193 k193 ⟨e194, -⟩
 replace k193 : Kp [] w34 w193 := k193
 refine WO.haves (fr' := [(87, undef)]) ⟨⟨_, rfl, e194⟩, trivial⟩ ?_
 refine WO.offU rfl rfl rfl ?_
 refine WO.nil ?_
 exact WX.stepDone rfl rfl (Kp.refl _)
 rintro vs w195 k195 ⟨e196, -⟩
 replace k195 : Kp [] w34 w195 := k195
 refine WO.haves (fr' := [(87, undef)]) ⟨⟨_, rfl, e196⟩, trivial⟩ ?_
 refine WO.offU rfl rfl rfl ?_
 refine WO.nil ?_
 exact WX.stepDone rfl rfl (Kp.refl _)
 rintro vs w197 k197 ⟨e198, -⟩
 replace k197 : Kp [] w34 w197 := k197
 refine WO.haves (fr' := [(87, undef), (7, (.pointer (some ⟨w22.heap.size, 0, none⟩)))]) ⟨⟨_, rfl, e198⟩, ⟨_, rfl, rfl⟩, trivial⟩ ?_
 refine WO.offU rfl rfl rfl ?_
 refine WO.nil ?_
 exact WX.stepDone rfl rfl (Kp.refl _)
 rintro vs w199 k199 ⟨e200, -⟩
 replace k199 : Kp [] w34 w199 := k199
 refine WO.haves (fr' := [(87, undef)]) ⟨⟨_, rfl, e200⟩, trivial⟩ ?_
 refine WO.offU rfl rfl rfl ?_
 refine WO.nil ?_
 exact WX.stepDone rfl rfl (Kp.refl _)
 rintro vs w201 k201 ⟨e202, -⟩
 replace k201 : Kp [] w34 w201 := k201
 refine WO.haves (fr' := [(87, undef)]) ⟨⟨_, rfl, e202⟩, trivial⟩ ?_
 refine WO.offU rfl rfl rfl ?_
 refine WO.nil ?_
 exact WX.stepDone rfl rfl (Kp.refl _)
 rintro vs w203 k203 ⟨e204, -⟩
 replace k203 : Kp [] w34 w203 := k203
 refine WO.haves (fr' := [(84, (.bool false))]) ⟨⟨_, rfl, e204⟩, trivial⟩ ?_
 refine WO.off rfl rfl rfl rfl ?_
 refine WO.nil ?_
 exact WX.stepDone rfl rfl (Kp.refl _)
 rintro vs w205 k205 ⟨e206, -⟩
 replace k205 : Kp [] w34 w205 := k205
 refine WO.haves (fr' := [(84, (.bool false))]) ⟨⟨_, rfl, e206⟩, trivial⟩ ?_
 refine WO.v (R.pickF rfl rfl rfl) rfl ?_
 refine WO.nil ?_
 exact WX.stepDone rfl rfl (Kp.refl _)
 rintro vs w207 k207 ⟨-, -, -, -, -, -, -, -, -, -, -, -, -, -, -, -, e224, -⟩
 replace k207 : Kp [] w34 w207 := k207
 have z207 : w34.heap.size ≤ w207.heap.size := k207.size
 have b207 := old_kp0 b34 k207
 have y207 : w.heap.size ≤ w207.heap.size := b207.size
 refine WO.haves (fr' := [(99, (.bool false)), (0, (.agg #[(.int .i64 s.version), (.int .i64 s.next), (.int .i64 s.keep), (.int .i64 s.quota), (.slice a5 s.sess.length c6), (.slice a8 s.opens.length c9), (.slice a11 s.snaps.length c12)])), (1, (.int .i64 v)), (2, (.pointer (some ⟨w.heap.size, 0, none⟩))), (4, (.int .i64 (0 : Int))), (5, (.bool (((((((ok0F s v) && pairF sessOk Sess.client 8 (s.sess.take k))) && ((decide (((1 : Int)) ≤ (x25.client))) && (decide ((x25.client) ≤ ((8 : Int)))))) && ((decide (((0 : Int)) ≤ (x25.seq))) && (decide ((x25.seq) ≤ ((1048576 : Int)))))) && ((decide (((0 : Int)) ≤ (x25.last.code))) && (decide ((x25.last.code) ≤ ((99 : Int)))))) && ((decide (((0 : Int)) ≤ (x25.last.n))) && (decide ((x25.last.n) ≤ ((1048576 : Int)))))))), (6, (.int .i64 ((k : Nat) : Int))), (7, (.pointer (some ⟨w22.heap.size, 0, none⟩))), (14, (.bool (!((decide (((1 : Int)) ≤ (v))) && (decide ((v) ≤ ((3 : Int)))))))), (52, (.bool (decide (((k : Nat) : Int) < ((s.sess.length : Nat) : Int)))))]) ⟨⟨_, rfl, e224⟩, ⟨_, rfl, rfl⟩, ⟨_, rfl, rfl⟩, ⟨_, rfl, rfl⟩, ⟨_, rfl, rfl⟩, ⟨_, rfl, rfl⟩, ⟨_, rfl, rfl⟩, ⟨_, rfl, rfl⟩, ⟨_, rfl, rfl⟩, ⟨_, rfl, rfl⟩, trivial⟩ ?_
 refine WO.v (R.assign rfl) rfl ?_
 refine WO.nil ?_
 refine WX.sel [0, 1, 2, 4, 5, 6, 7, 14, 52] rfl ?_
 refine WX.blkNormal ?_
 refine WX.next ?_
 refine WC.region ?_
 refine WO.v (R.move rfl) rfl ?_
 refine WO.v (R.inc rfl (by omega)) rfl ?_
 refine WO.v (R.assign rfl) rfl ?_
 refine WO.nil ?_
 refine WX.sel [0, 1, 2, 4, 5, 6, 7, 14, 52] rfl ?_
 exact WX.loopNextK [0, 1, 2, 4, 14] (k + 1) rfl ⟨⟨_, rfl, rfl⟩, ⟨_, rfl, vb (by first | (rw [sess_step hx25, hb39]; rfl) | (rw [sess_step hx25, hb39, lastK_at (key := Sess.client) (a := 0) (by omega) ‹s.sess[k - 1]? = some _›]; rfl))⟩, trivial⟩ ⟨((((Kp.refl _).step k22 (by simp)).step n33.kp (by simp)).step k34 (mem1 (.inr (by omega)))).step k207 (by simp), by omega⟩ (by show (s.sess.length - (k + 1)) < (s.sess.length - k); omega)
 have p24 : ¬ (((k : Nat) : Int) < ((s.sess.length : Nat) : Int)) := of_decide_eq_false q24
 refine WC.exit ?_
 refine WX.thenExit ?_
 refine WX.loopExit ?_
 refine WX.blkHit ?_
 refine WX.next ?_
 refine WC.seq ?_
 refine WC.seq ?_
 refine WC.region ?_
 refine WO.v (R.assign rfl) rfl ?_
 refine WO.nil ?_
 refine WX.sel [0, 1, 2, 4, 5, 6, 8, 14, 52] rfl ?_
 refine WX.next ?_
 refine WC.block ?_
 refine WC.loopK [0, 1, 2, 4, 6, 14, 52] rfl (fun zz : Nat => [(8, (.int .i64 (((zz) : Nat) : Int))), (5, (.bool (((((ok0F s v) && pairF sessOk Sess.client 8 (s.sess.take k))) && pairF openOk Opn.set 8 (s.opens.take (zz))))))]) (fun (zz : Nat) (w' : World) => (Kp [] w22 w') ∧ ((zz) ≤ s.opens.length)) (fun zz => s.opens.length - (zz)) (0) ?_ ?_ ?_
 exact ⟨⟨_, rfl, rfl⟩, ⟨_, rfl, vb (by show _ = (_ && true); rw [Bool.and_true])⟩, trivial⟩
 exact ⟨Kp.refl _, Nat.zero_le _⟩
 rintro k2 w225 ⟨k225, hk2⟩
 try dsimp only at hk2
 have z225 : w22.heap.size ≤ w225.heap.size := k225.size
 have b225 := old_kp0 b22 k225
 have y225 : w.heap.size ≤ w225.heap.size := b225.size
 refine (?_ : WC _ _ _ _ ([(8, (.int .i64 ((k2 : Nat) : Int))), (5, (.bool (((((ok0F s v) && pairF sessOk Sess.client 8 (s.sess.take k))) && pairF openOk Opn.set 8 (s.opens.take k2)))))] ++ _) w225)
 refine WC.seq ?_
 refine WC.seq ?_
 refine WC.region ?_
 refine WO.v (R.move rfl) rfl ?_
 refine WO.v (fa34_5 rfl) rfl ?_
 have B226 := (B23).kp0 k225
 refine WO.v (R.loadB rfl B226 rfl Try.underlying31 rfl) rfl ?_
 refine WO.v (R.len rfl Try.underlying31) rfl ?_
 refine WO.v (R.lss rfl rfl) rfl ?_
 refine WO.nil ?_
 refine WX.sel [0, 1, 2, 4, 5, 6, 8, 14, 52, 104] rfl ?_
 refine WX.next ?_
 refine WC.cond rfl (fun q227 => ?_) (fun q227 => ?_)
 have p227 : ((k2 : Nat) : Int) < ((s.opens.length : Nat) : Int) := of_decide_eq_true q227
 refine WC.skip ?_
 refine WX.next ?_
 refine WC.seq ?_
 refine WC.block ?_
 refine WC.seq ?_
 refine WC.region ?_
 refine WO.v (fa34_5 rfl) rfl ?_
 refine WO.v (R.loadB rfl B226 rfl Try.underlying31 rfl) rfl ?_
 refine WO.v (R.move rfl) rfl ?_
 obtain ⟨x228, hx228⟩ := get_ex (xs := s.opens) (i := k2) (by omega)
 obtain ⟨A229, cs230, hA229, loA229, hiA229, ccA229, r231⟩ := (sl_old s10 b225).at_ hx228
 obtain ⟨rfl, i232, i233⟩ := Opn.el r231
 refine WO.v (R.indexAddrN rfl rfl Try.underlying31 sz53 hA229 (by omega)) rfl ?_
 refine WO.v (R.loadN (cs := [_, _]) rfl Try.underlying53 rfl sz53 ccA229) rfl ?_
 refine WO.alloc zr53 rfl ?_
 intro w234 n234
 have z234 : w225.heap.size < w234.heap.size := n234.lt
 have b234 := old_kp0 b225 n234.kp
 have y234 : w.heap.size ≤ w234.heap.size := b234.size
 refine WO.storeBN rfl rfl n234.blk rfl (by simp [Value.oneCell']) sz53 ?_
 intro w235 k235 B235 z_235
 have z235 : w234.heap.size = w235.heap.size := z_235.symm
 have b235 := old_kp b234 k235 (mem1 (by omega))
 have y235 : w.heap.size ≤ w235.heap.size := b235.size
 refine WO.nil ?_
 refine WX.sel [0, 1, 2, 4, 5, 6, 8, 9, 14, 52, 104] rfl ?_
 refine WX.next ?_
 refine WC.sel [0, 1, 2, 4, 5, 6, 8, 9, 14, 52, 104] rfl ?_
 rcases Bool.eq_false_or_eq_true (((((ok0F s v) && pairF sessOk Sess.client 8 (s.sess.take k))) && pairF openOk Opn.set 8 (s.opens.take k2))) with hb236 | hb236
 have phb236 : (((((ok0F s v) && pairF sessOk Sess.client 8 (s.sess.take k))) && pairF openOk Opn.set 8 (s.opens.take k2))) = true := hb236
 rcases Bool.eq_false_or_eq_true ((decide (((1 : Int)) ≤ (x228.set))) && (decide ((x228.set) ≤ ((8 : Int))))) with hb237 | hb237
 have phb237 : (((1 : Int)) ≤ (x228.set)) ∧ ((x228.set) ≤ ((8 : Int))) := ⟨of_decide_eq_true (band_t hb237).1, of_decide_eq_true (band_t hb237).2⟩
 rcases Bool.eq_false_or_eq_true ((decide (((1 : Int)) ≤ (x228.client))) && (decide ((x228.client) ≤ ((8 : Int))))) with hb238 | hb238
 have phb238 : (((1 : Int)) ≤ (x228.client)) ∧ ((x228.client) ≤ ((8 : Int))) := ⟨of_decide_eq_true (band_t hb238).1, of_decide_eq_true (band_t hb238).2⟩
 rcases Bool.eq_false_or_eq_true (decide (((k2 : Nat) : Int) = (0 : Int))) with hb239 | hb239
 have phb239 : ((k2 : Nat) : Int) = (0 : Int) := of_decide_eq_true hb239
 refine WC.draw' mixed_orders [.ex [] (.bool (((((ok0F s v) && pairF sessOk Sess.client 8 (s.sess.take k))) && pairF openOk Opn.set 8 (s.opens.take k2)))), .ex [0] (.bool true), .ex [1] (.pointer (some ⟨w225.heap.size, 0, none⟩)), .ex [1, 2] (.int .i64 x228.set), .ex [1, 3] (.bool ((decide (((1 : Int)) ≤ (x228.set))) && (decide ((x228.set) ≤ ((8 : Int)))))), .ex [1, 4] (.bool ((decide (((1 : Int)) ≤ (x228.set))) && (decide ((x228.set) ≤ ((8 : Int)))))), .ex [5] (.bool true), .ex [6] (.pointer (some ⟨w225.heap.size, 1, none⟩)), .ex [6, 7] (.int .i64 x228.client), .ex [6, 8] (.bool ((decide (((1 : Int)) ≤ (x228.client))) && (decide ((x228.client) ≤ ((8 : Int)))))), .ex [6, 9] (.bool ((decide (((1 : Int)) ≤ (x228.client))) && (decide ((x228.client) ≤ ((8 : Int)))))), .ex [10] (.bool true), .ex [11] (.int .i64 ((k2 : Nat) : Int)), .ex [11, 12] (.bool (decide (((k2 : Nat) : Int) = (0 : Int)))), .ex [11, 13] (.bool true), .ex [14] undef, .ex [14] undef, .ex [14] undef, .ex [14] undef, .ex [14] undef, .ex [14] undef, .ex [14] undef, .ex [14] undef, .ex [14] undef, .ex [14] undef, .ex [11, 14] (.bool true), .ex [11, 25] (.bool true)] 27 (by kernel_rfl) ⟨fun _ _ _ h _ => h, fun _ _ _ h _ => h, fun _ _ _ h _ => h, fun _ _ _ h _ => h, fun _ _ _ h _ => h, fun _ _ _ h _ => h, fun _ _ _ h _ => h, fun _ _ _ h _ => h, fun _ _ _ h _ => h, fun _ _ _ h _ => h, fun _ _ _ h _ => h, fun _ _ _ h _ => h, fun _ _ _ h _ => h, fun _ _ _ h _ => h, fun _ _ _ h _ => h, fun _ _ _ h _ => h, fun _ _ _ h _ => h, fun _ _ _ h _ => h, fun _ _ _ h _ => h, fun _ _ _ h _ => h, fun _ _ _ h _ => h, fun _ _ _ h _ => h, fun _ _ _ h _ => h, fun _ _ _ h _ => h, fun _ _ _ h _ => h, fun _ _ _ h _ => h, fun _ _ _ h _ => h, trivial⟩ ⟨?_, ?_, ?_, ?_, ?_, ?_, ?_, ?_, ?_, ?_, ?_, ?_, ?_, ?_, ?_, ?_, ?_, ?_, ?_, ?_, ?_, ?_, ?_, ?_, ?_, ?_, ?_, trivial⟩ ?_
 rintro vs w240 k240 ⟨-⟩
 replace k240 : Kp [] w235 w240 := k240
 refine WO.haves (fr' := [(5, (.bool (((((ok0F s v) && pairF sessOk Sess.client 8 (s.sess.take k))) && pairF openOk Opn.set 8 (s.opens.take k2)))))]) ⟨⟨_, rfl, rfl⟩, trivial⟩ ?_
 refine WO.v (R.move rfl) rfl ?_
 refine WO.nil ?_
 exact WX.stepDone rfl rfl (Kp.refl _)
 rintro vs w241 k241 ⟨e242, -⟩
 replace k241 : Kp [] w235 w241 := k241
 refine WO.haves (fr' := [(112, (.bool (((((ok0F s v) && pairF sessOk Sess.client 8 (s.sess.take k))) && pairF openOk Opn.set 8 (s.opens.take k2)))))]) ⟨⟨_, rfl, e242⟩, trivial⟩ ?_
 refine WO.v (R.move rfl) rfl ?_
 refine WO.nil ?_
 exact WX.stepDone rfl (vb hb236) (Kp.refl _)
 rintro vs w243 k243 ⟨e244, -⟩
 replace k243 : Kp [] w235 w243 := k243
 refine WO.haves (fr' := [(113, (.bool true)), (9, (.pointer (some ⟨w225.heap.size, 0, none⟩)))]) ⟨⟨_, rfl, e244⟩, ⟨_, rfl, rfl⟩, trivial⟩ ?_
 refine WO.on rfl rfl rfl ?_
 refine WO.v (fa53_0 rfl) rfl ?_
 refine WO.nil ?_
 exact WX.stepDone rfl rfl (Kp.refl _)
 rintro vs w245 k245 ⟨e246, e247, -⟩
 replace k245 : Kp [] w235 w245 := k245
 have z245 : w235.heap.size ≤ w245.heap.size := k245.size
 have b245 := old_kp0 b235 k245
 have y245 : w.heap.size ≤ w245.heap.size := b245.size
 refine WO.haves (fr' := [(113, (.bool true)), (114, (.pointer (some ⟨w225.heap.size, 0, none⟩)))]) ⟨⟨_, rfl, e246⟩, ⟨_, rfl, e247⟩, trivial⟩ ?_
 refine WO.on rfl rfl rfl ?_
 have B248 := (B235).kp0 k245
 refine WO.v (R.loadB rfl B248 rfl Try.underlying3 rfl) rfl ?_
 refine WO.nil ?_
 exact WX.stepDone rfl rfl (Kp.refl _)
 rintro vs w249 k249 ⟨e250, e251, -⟩
 replace k249 : Kp [] w235 w249 := k249
 have z249 : w235.heap.size ≤ w249.heap.size := k249.size
 have b249 := old_kp0 b235 k249
 have y249 : w.heap.size ≤ w249.heap.size := b249.size
 refine WO.haves (fr' := [(113, (.bool true)), (115, (.int .i64 x228.set))]) ⟨⟨_, rfl, e250⟩, ⟨_, rfl, e251⟩, trivial⟩ ?_
 refine WO.on rfl rfl rfl ?_
 refine WO.c (E.call rfl rfl Try.func28 rfl rfl) (in7_s (n := x228.set) (a := (1 : Int)) (b := (8 : Int)) ) rfl ?_
 rintro _ _ ⟨rfl, rfl⟩
 refine WO.nil ?_
 exact WX.stepDone rfl rfl (Kp.refl _)
 rintro vs w252 k252 ⟨e253, e254, -⟩
 replace k252 : Kp [] w235 w252 := k252
 refine WO.haves (fr' := [(113, (.bool true)), (116, (.bool ((decide (((1 : Int)) ≤ (x228.set))) && (decide ((x228.set) ≤ ((8 : Int)))))))]) ⟨⟨_, rfl, e253⟩, ⟨_, rfl, e254⟩, trivial⟩ ?_
 refine WO.v (R.pickT rfl rfl rfl) rfl ?_
 refine WO.nil ?_
 exact WX.stepDone rfl rfl (Kp.refl _)
 rintro vs w255 k255 ⟨e256, -⟩
 replace k255 : Kp [] w235 w255 := k255
 refine WO.haves (fr' := [(117, (.bool ((decide (((1 : Int)) ≤ (x228.set))) && (decide ((x228.set) ≤ ((8 : Int)))))))]) ⟨⟨_, rfl, e256⟩, trivial⟩ ?_
 refine WO.v (R.move rfl) rfl ?_
 refine WO.nil ?_
 exact WX.stepDone rfl (vb hb237) (Kp.refl _)
 rintro vs w257 k257 ⟨e258, -⟩
 replace k257 : Kp [] w235 w257 := k257
 refine WO.haves (fr' := [(118, (.bool true)), (9, (.pointer (some ⟨w225.heap.size, 0, none⟩)))]) ⟨⟨_, rfl, e258⟩, ⟨_, rfl, rfl⟩, trivial⟩ ?_
 refine WO.on rfl rfl rfl ?_
 refine WO.v (fa53_1 rfl) rfl ?_
 refine WO.nil ?_
 exact WX.stepDone rfl rfl (Kp.refl _)
 rintro vs w259 k259 ⟨e260, e261, -⟩
 replace k259 : Kp [] w235 w259 := k259
 have z259 : w235.heap.size ≤ w259.heap.size := k259.size
 have b259 := old_kp0 b235 k259
 have y259 : w.heap.size ≤ w259.heap.size := b259.size
 refine WO.haves (fr' := [(118, (.bool true)), (119, (.pointer (some ⟨w225.heap.size, 1, none⟩)))]) ⟨⟨_, rfl, e260⟩, ⟨_, rfl, e261⟩, trivial⟩ ?_
 refine WO.on rfl rfl rfl ?_
 have B262 := (B235).kp0 k259
 refine WO.v (R.loadB rfl B262 rfl Try.underlying3 rfl) rfl ?_
 refine WO.nil ?_
 exact WX.stepDone rfl rfl (Kp.refl _)
 rintro vs w263 k263 ⟨e264, e265, -⟩
 replace k263 : Kp [] w235 w263 := k263
 have z263 : w235.heap.size ≤ w263.heap.size := k263.size
 have b263 := old_kp0 b235 k263
 have y263 : w.heap.size ≤ w263.heap.size := b263.size
 refine WO.haves (fr' := [(118, (.bool true)), (120, (.int .i64 x228.client))]) ⟨⟨_, rfl, e264⟩, ⟨_, rfl, e265⟩, trivial⟩ ?_
 refine WO.on rfl rfl rfl ?_
 refine WO.c (E.call rfl rfl Try.func28 rfl rfl) (in7_s (n := x228.client) (a := (1 : Int)) (b := (8 : Int)) ) rfl ?_
 rintro _ _ ⟨rfl, rfl⟩
 refine WO.nil ?_
 exact WX.stepDone rfl rfl (Kp.refl _)
 rintro vs w266 k266 ⟨e267, e268, -⟩
 replace k266 : Kp [] w235 w266 := k266
 refine WO.haves (fr' := [(118, (.bool true)), (121, (.bool ((decide (((1 : Int)) ≤ (x228.client))) && (decide ((x228.client) ≤ ((8 : Int)))))))]) ⟨⟨_, rfl, e267⟩, ⟨_, rfl, e268⟩, trivial⟩ ?_
 refine WO.v (R.pickT rfl rfl rfl) rfl ?_
 refine WO.nil ?_
 exact WX.stepDone rfl rfl (Kp.refl _)
 rintro vs w269 k269 ⟨e270, -⟩
 replace k269 : Kp [] w235 w269 := k269
 refine WO.haves (fr' := [(122, (.bool ((decide (((1 : Int)) ≤ (x228.client))) && (decide ((x228.client) ≤ ((8 : Int)))))))]) ⟨⟨_, rfl, e270⟩, trivial⟩ ?_
 refine WO.v (R.move rfl) rfl ?_
 refine WO.nil ?_
 exact WX.stepDone rfl (vb hb238) (Kp.refl _)
 rintro vs w271 k271 ⟨e272, -⟩
 replace k271 : Kp [] w235 w271 := k271
 refine WO.haves (fr' := [(123, (.bool true)), (8, (.int .i64 ((k2 : Nat) : Int)))]) ⟨⟨_, rfl, e272⟩, ⟨_, rfl, rfl⟩, trivial⟩ ?_
 refine WO.on rfl rfl rfl ?_
 refine WO.v (R.move rfl) rfl ?_
 refine WO.nil ?_
 exact WX.stepDone rfl rfl (Kp.refl _)
 rintro vs w273 k273 ⟨e274, e275, -⟩
 replace k273 : Kp [] w235 w273 := k273
 refine WO.haves (fr' := [(123, (.bool true)), (124, (.int .i64 ((k2 : Nat) : Int)))]) ⟨⟨_, rfl, e274⟩, ⟨_, rfl, e275⟩, trivial⟩ ?_
 refine WO.on rfl rfl rfl ?_
 refine WO.v (R.eql rfl rfl) rfl ?_
 refine WO.nil ?_
 exact WX.stepDone rfl rfl (Kp.refl _)
 rintro vs w276 k276 ⟨e277, e278, -⟩
 replace k276 : Kp [] w235 w276 := k276
 refine WO.haves (fr' := [(123, (.bool true)), (125, (.bool (decide (((k2 : Nat) : Int) = (0 : Int)))))]) ⟨⟨_, rfl, e277⟩, ⟨_, rfl, e278⟩, trivial⟩ ?_
 refine WO.on rfl rfl rfl ?_
 refine WO.v (R.move rfl) rfl ?_
 refine WO.nil ?_
 exact WX.stepDone rfl (vb hb239) (Kp.refl _)
 rintro vs w279 k279 ⟨e280, -⟩
 replace k279 : Kp [] w235 w279 := k279
 refine WO.haves (fr' := [(126, (.bool true)), (2, (.pointer (some ⟨w.heap.size, 0, none⟩)))]) ⟨⟨_, rfl, e280⟩, ⟨_, rfl, rfl⟩, trivial⟩ ?_
 refine WO.off rfl rfl rfl rfl ?_
 refine WO.nil ?_
 exact WX.stepDone rfl rfl (Kp.refl _)
 rintro vs w281 k281 ⟨e282, -⟩
 replace k281 : Kp [] w235 w281 := k281
 refine WO.haves (fr' := [(126, (.bool true))]) ⟨⟨_, rfl, e282⟩, trivial⟩ ?_
 refine WO.off rfl rfl rfl rfl ?_
 refine WO.nil ?_
 exact WX.stepDone rfl rfl (Kp.refl _)
 rintro vs w283 k283 ⟨e284, -⟩
 replace k283 : Kp [] w235 w283 := k283
 refine WO.haves (fr' := [(126, (.bool true)), (8, (.int .i64 ((k2 : Nat) : Int)))]) ⟨⟨_, rfl, e284⟩, ⟨_, rfl, rfl⟩, trivial⟩ ?_
 refine WO.off rfl rfl rfl rfl ?_
 refine WO.nil ?_
 exact WX.stepDone rfl rfl (Kp.refl _)
 rintro vs w285 k285 ⟨e286, -⟩
 replace k285 : Kp [] w235 w285 := k285
 refine WO.haves (fr' := [(126, (.bool true))]) ⟨⟨_, rfl, e286⟩, trivial⟩ ?_
 refine WO.off rfl rfl rfl rfl ?_
 refine WO.nil ?_
 exact WX.stepDone rfl rfl (Kp.refl _)
 rintro vs w287 k287 ⟨e288, -⟩
 replace k287 : Kp [] w235 w287 := k287
 refine WO.haves (fr' := [(126, (.bool true))]) ⟨⟨_, rfl, e288⟩, trivial⟩ ?_
 refine WO.off rfl rfl rfl rfl ?_
 refine WO.nil ?_
 exact WX.stepDone rfl rfl (Kp.refl _)
 rintro vs w289 k289 ⟨e290, -⟩
 replace k289 : Kp [] w235 w289 := k289
 refine WO.haves (fr' := [(126, (.bool true))]) ⟨⟨_, rfl, e290⟩, trivial⟩ ?_
 refine WO.off rfl rfl rfl rfl ?_
 refine WO.nil ?_
 exact WX.stepDone rfl rfl (Kp.refl _)
 rintro vs w291 k291 ⟨e292, -⟩
 replace k291 : Kp [] w235 w291 := k291
 refine WO.haves (fr' := [(126, (.bool true))]) ⟨⟨_, rfl, e292⟩, trivial⟩ ?_
 refine WO.off rfl rfl rfl rfl ?_
 refine WO.nil ?_
 exact WX.stepDone rfl rfl (Kp.refl _)
 rintro vs w293 k293 ⟨e294, -⟩
 replace k293 : Kp [] w235 w293 := k293
 refine WO.haves (fr' := [(126, (.bool true)), (9, (.pointer (some ⟨w225.heap.size, 0, none⟩)))]) ⟨⟨_, rfl, e294⟩, ⟨_, rfl, rfl⟩, trivial⟩ ?_
 refine WO.off rfl rfl rfl rfl ?_
 refine WO.nil ?_
 exact WX.stepDone rfl rfl (Kp.refl _)
 rintro vs w295 k295 ⟨e296, -⟩
 replace k295 : Kp [] w235 w295 := k295
 refine WO.haves (fr' := [(126, (.bool true))]) ⟨⟨_, rfl, e296⟩, trivial⟩ ?_
 refine WO.off rfl rfl rfl rfl ?_
 refine WO.nil ?_
 exact WX.stepDone rfl rfl (Kp.refl _)
 rintro vs w297 k297 ⟨e298, -⟩
 replace k297 : Kp [] w235 w297 := k297
 refine WO.haves (fr' := [(126, (.bool true))]) ⟨⟨_, rfl, e298⟩, trivial⟩ ?_
 refine WO.off rfl rfl rfl rfl ?_
 refine WO.nil ?_
 exact WX.stepDone rfl rfl (Kp.refl _)
 rintro vs w299 k299 ⟨e300, e301, -⟩
 replace k299 : Kp [] w235 w299 := k299
 refine WO.haves (fr' := [(123, (.bool true)), (126, (.bool true))]) ⟨⟨_, rfl, e300⟩, ⟨_, rfl, e301⟩, trivial⟩ ?_
 refine WO.on rfl rfl rfl ?_
 refine WO.v (R.pickT rfl rfl rfl) rfl ?_
 refine WO.nil ?_
 exact WX.stepDone rfl rfl (Kp.refl _)
 rintro vs w302 k302 ⟨e303, e304, -⟩
 replace k302 : Kp [] w235 w302 := k302
 refine WO.haves (fr' := [(123, (.bool true)), (137, (.bool true))]) ⟨⟨_, rfl, e303⟩, ⟨_, rfl, e304⟩, trivial⟩ ?_
 refine WO.v (R.pickT rfl rfl rfl) rfl ?_
 refine WO.nil ?_
 exact WX.stepDone rfl rfl (Kp.refl _)
 rintro vs w305 k305 ⟨-, -, -, -, -, -, -, -, -, -, -, -, -, -, -, -, -, -, -, -, -, -, -, -, -, -, e332, -⟩
 replace k305 : Kp [] w235 w305 := k305
 have z305 : w235.heap.size ≤ w305.heap.size := k305.size
 have b305 := old_kp0 b235 k305
 have y305 : w.heap.size ≤ w305.heap.size := b305.size
 refine WO.haves (fr' := [(138, (.bool true)), (0, (.agg #[(.int .i64 s.version), (.int .i64 s.next), (.int .i64 s.keep), (.int .i64 s.quota), (.slice a5 s.sess.length c6), (.slice a8 s.opens.length c9), (.slice a11 s.snaps.length c12)])), (1, (.int .i64 v)), (2, (.pointer (some ⟨w.heap.size, 0, none⟩))), (4, (.int .i64 (0 : Int))), (5, (.bool (((((ok0F s v) && pairF sessOk Sess.client 8 (s.sess.take k))) && pairF openOk Opn.set 8 (s.opens.take k2))))), (6, (.int .i64 ((k : Nat) : Int))), (8, (.int .i64 ((k2 : Nat) : Int))), (9, (.pointer (some ⟨w225.heap.size, 0, none⟩))), (14, (.bool (!((decide (((1 : Int)) ≤ (v))) && (decide ((v) ≤ ((3 : Int)))))))), (52, (.bool (decide (((k : Nat) : Int) < ((s.sess.length : Nat) : Int))))), (104, (.bool (decide (((k2 : Nat) : Int) < ((s.opens.length : Nat) : Int)))))]) ⟨⟨_, rfl, e332⟩, ⟨_, rfl, rfl⟩, ⟨_, rfl, rfl⟩, ⟨_, rfl, rfl⟩, ⟨_, rfl, rfl⟩, ⟨_, rfl, rfl⟩, ⟨_, rfl, rfl⟩, ⟨_, rfl, rfl⟩, ⟨_, rfl, rfl⟩, ⟨_, rfl, rfl⟩, ⟨_, rfl, rfl⟩, ⟨_, rfl, rfl⟩, trivial⟩ ?_
 refine WO.v (R.assign rfl) rfl ?_
 refine WO.nil ?_
 refine WX.sel [0, 1, 2, 4, 5, 6, 8, 9, 14, 52, 104] rfl ?_
 refine WX.blkNormal ?_
 refine WX.next ?_
 refine WC.region ?_
 refine WO.v (R.move rfl) rfl ?_
 refine WO.v (R.inc rfl (by omega)) rfl ?_
 refine WO.v (R.assign rfl) rfl ?_
 refine WO.nil ?_
 refine WX.sel [0, 1, 2, 4, 5, 6, 8, 9, 14, 52, 104] rfl ?_
 exact WX.loopNextK [0, 1, 2, 4, 6, 14, 52] (k2 + 1) rfl ⟨⟨_, rfl, rfl⟩, ⟨_, rfl, vb (by first | (rw [open_step hx228, hb236]; rfl) | (rw [open_step hx228, hb236, hb237]; rfl) | (rw [open_step hx228, hb236, hb237, hb238]; rfl) | (rw [open_step hx228, hb236, hb237, hb238, hb239]; rfl) | (rw [open_step hx228, hb236, hb237, hb238, hb239, lastK_at (key := Opn.set) (a := 0) (by omega) ‹s.opens[k2 - 1]? = some _›]; rfl))⟩, trivial⟩ ⟨((((Kp.refl _).step k225 (by simp)).step n234.kp (by simp)).step k235 (mem1 (.inr (by omega)))).step k305 (by simp), by omega⟩ (by show (s.opens.length - (k2 + 1)) < (s.opens.length - k2); omega)
 have phb239 : ¬ (((k2 : Nat) : Int) = (0 : Int)) := of_decide_eq_false hb239
 have B333 := ((B226).kp0 n234.kp).kp1 k235 (by omega)
 have i334 : I64 (((k2 : Nat) : Int) - (1 : Int)) := by exact ⟨by omega, by omega⟩
 obtain ⟨x335, hx335⟩ := get_ex (xs := s.opens) (i := (k2 - 1)) (by omega)
 obtain ⟨A336, cs337, hA336, loA336, hiA336, ccA336, r338⟩ := (sl_old s10 b235).at_ hx335
 obtain ⟨rfl, i339, i340⟩ := Opn.el r338
 refine WC.draw' mixed_orders [.ex [] (.bool (((((ok0F s v) && pairF sessOk Sess.client 8 (s.sess.take k))) && pairF openOk Opn.set 8 (s.opens.take k2)))), .ex [0] (.bool true), .ex [1] (.pointer (some ⟨w225.heap.size, 0, none⟩)), .ex [1, 2] (.int .i64 x228.set), .ex [1, 3] (.bool ((decide (((1 : Int)) ≤ (x228.set))) && (decide ((x228.set) ≤ ((8 : Int)))))), .ex [1, 4] (.bool ((decide (((1 : Int)) ≤ (x228.set))) && (decide ((x228.set) ≤ ((8 : Int)))))), .ex [5] (.bool true), .ex [6] (.pointer (some ⟨w225.heap.size, 1, none⟩)), .ex [6, 7] (.int .i64 x228.client), .ex [6, 8] (.bool ((decide (((1 : Int)) ≤ (x228.client))) && (decide ((x228.client) ≤ ((8 : Int)))))), .ex [6, 9] (.bool ((decide (((1 : Int)) ≤ (x228.client))) && (decide ((x228.client) ≤ ((8 : Int)))))), .ex [10] (.bool true), .ex [11] (.int .i64 ((k2 : Nat) : Int)), .ex [11, 12] (.bool (decide (((k2 : Nat) : Int) = (0 : Int)))), .ex [11, 13] (.bool false), .ex [14] (.pointer (some ⟨w.heap.size, 5, none⟩)), .ex [14, 15] (.slice a8 s.opens.length c9), .ex [14] (.int .i64 ((k2 : Nat) : Int)), .ex [14, 17] (.int .i64 (((k2 : Nat) : Int) - (1 : Int))), .ex [14, 16, 18] (.pointer (some (A336.add ((k2 - 1) * 2)))), .ex [14, 19] (.pointer (some ((A336.add ((k2 - 1) * 2)).add 0))), .ex [14, 20] (.int .i64 x335.set), .ex [14] (.pointer (some ⟨w225.heap.size, 0, none⟩)), .ex [14, 22] (.int .i64 x228.set), .ex [14, 21, 23] (.bool (decide (x335.set < x228.set))), .ex [11, 14, 24] (.bool (decide (x335.set < x228.set))), .ex [11, 25] (.bool (decide (x335.set < x228.set)))] 27 (by kernel_rfl) ⟨fun _ _ _ h _ => h, fun _ _ _ h _ => h, fun _ _ _ h _ => h, fun _ _ _ h _ => h, fun _ _ _ h _ => h, fun _ _ _ h _ => h, fun _ _ _ h _ => h, fun _ _ _ h _ => h, fun _ _ _ h _ => h, fun _ _ _ h _ => h, fun _ _ _ h _ => h, fun _ _ _ h _ => h, fun _ _ _ h _ => h, fun _ _ _ h _ => h, fun _ _ _ h _ => h, fun _ _ _ h _ => h, fun _ _ _ h _ => h, fun _ _ _ h _ => h, fun _ _ _ h _ => h, fun _ _ _ h _ => h, fun _ _ _ h _ => h, fun _ _ _ h _ => h, fun _ _ _ h _ => h, fun _ _ _ h _ => h, fun _ _ _ h _ => h, fun _ _ _ h _ => h, fun _ _ _ h _ => h, trivial⟩ ⟨?_, ?_, ?_, ?_, ?_, ?_, ?_, ?_, ?_, ?_, ?_, ?_, ?_, ?_, ?_, ?_, ?_, ?_, ?_, ?_, ?_, ?_, ?_, ?_, ?_, ?_, ?_, trivial⟩ ?_
 rintro vs w341 k341 ⟨-⟩
 replace k341 : Kp [] w235 w341 := k341
 refine WO.haves (fr' := [(5, (.bool (((((ok0F s v) && pairF sessOk Sess.client 8 (s.sess.take k))) && pairF openOk Opn.set 8 (s.opens.take k2)))))]) ⟨⟨_, rfl, rfl⟩, trivial⟩ ?_
 refine WO.v (R.move rfl) rfl ?_
 refine WO.nil ?_
 exact WX.stepDone rfl rfl (Kp.refl _)
 rintro vs w342 k342 ⟨e343, -⟩
 replace k342 : Kp [] w235 w342 := k342
 refine WO.haves (fr' := [(112, (.bool (((((ok0F s v) && pairF sessOk Sess.client 8 (s.sess.take k))) && pairF openOk Opn.set 8 (s.opens.take k2)))))]) ⟨⟨_, rfl, e343⟩, trivial⟩ ?_
 refine WO.v (R.move rfl) rfl ?_
 refine WO.nil ?_
 exact WX.stepDone rfl (vb hb236) (Kp.refl _)
 rintro vs w344 k344 ⟨e345, -⟩
 replace k344 : Kp [] w235 w344 := k344
 refine WO.haves (fr' := [(113, (.bool true)), (9, (.pointer (some ⟨w225.heap.size, 0, none⟩)))]) ⟨⟨_, rfl, e345⟩, ⟨_, rfl, rfl⟩, trivial⟩ ?_
 refine WO.on rfl rfl rfl ?_
 refine WO.v (fa53_0 rfl) rfl ?_
 refine WO.nil ?_
 exact WX.stepDone rfl rfl (Kp.refl _)
 rintro vs w346 k346 ⟨e347, e348, -⟩
 replace k346 : Kp [] w235 w346 := k346
 have z346 : w235.heap.size ≤ w346.heap.size := k346.size
 have b346 := old_kp0 b235 k346
 have y346 : w.heap.size ≤ w346.heap.size := b346.size
 refine WO.haves (fr' := [(113, (.bool true)), (114, (.pointer (some ⟨w225.heap.size, 0, none⟩)))]) ⟨⟨_, rfl, e347⟩, ⟨_, rfl, e348⟩, trivial⟩ ?_
 refine WO.on rfl rfl rfl ?_
 have B349 := (B235).kp0 k346
 refine WO.v (R.loadB rfl B349 rfl Try.underlying3 rfl) rfl ?_
 refine WO.nil ?_
 exact WX.stepDone rfl rfl (Kp.refl _)
 rintro vs w350 k350 ⟨e351, e352, -⟩
 replace k350 : Kp [] w235 w350 := k350
 have z350 : w235.heap.size ≤ w350.heap.size := k350.size
 have b350 := old_kp0 b235 k350
 have y350 : w.heap.size ≤ w350.heap.size := b350.size
 refine WO.haves (fr' := [(113, (.bool true)), (115, (.int .i64 x228.set))]) ⟨⟨_, rfl, e351⟩, ⟨_, rfl, e352⟩, trivial⟩ ?_
 refine WO.on rfl rfl rfl ?_
 refine WO.c (E.call rfl rfl Try.func28 rfl rfl) (in7_s (n := x228.set) (a := (1 : Int)) (b := (8 : Int)) ) rfl ?_
 rintro _ _ ⟨rfl, rfl⟩
 refine WO.nil ?_
 exact WX.stepDone rfl rfl (Kp.refl _)
 rintro vs w353 k353 ⟨e354, e355, -⟩
 replace k353 : Kp [] w235 w353 := k353
 refine WO.haves (fr' := [(113, (.bool true)), (116, (.bool ((decide (((1 : Int)) ≤ (x228.set))) && (decide ((x228.set) ≤ ((8 : Int)))))))]) ⟨⟨_, rfl, e354⟩, ⟨_, rfl, e355⟩, trivial⟩ ?_
 refine WO.v (R.pickT rfl rfl rfl) rfl ?_
 refine WO.nil ?_
 exact WX.stepDone rfl rfl (Kp.refl _)
 rintro vs w356 k356 ⟨e357, -⟩
 replace k356 : Kp [] w235 w356 := k356
 refine WO.haves (fr' := [(117, (.bool ((decide (((1 : Int)) ≤ (x228.set))) && (decide ((x228.set) ≤ ((8 : Int)))))))]) ⟨⟨_, rfl, e357⟩, trivial⟩ ?_
 refine WO.v (R.move rfl) rfl ?_
 refine WO.nil ?_
 exact WX.stepDone rfl (vb hb237) (Kp.refl _)
 rintro vs w358 k358 ⟨e359, -⟩
 replace k358 : Kp [] w235 w358 := k358
 refine WO.haves (fr' := [(118, (.bool true)), (9, (.pointer (some ⟨w225.heap.size, 0, none⟩)))]) ⟨⟨_, rfl, e359⟩, ⟨_, rfl, rfl⟩, trivial⟩ ?_
 refine WO.on rfl rfl rfl ?_
 refine WO.v (fa53_1 rfl) rfl ?_
 refine WO.nil ?_
 exact WX.stepDone rfl rfl (Kp.refl _)
 rintro vs w360 k360 ⟨e361, e362, -⟩
 replace k360 : Kp [] w235 w360 := k360
 have z360 : w235.heap.size ≤ w360.heap.size := k360.size
 have b360 := old_kp0 b235 k360
 have y360 : w.heap.size ≤ w360.heap.size := b360.size
 refine WO.haves (fr' := [(118, (.bool true)), (119, (.pointer (some ⟨w225.heap.size, 1, none⟩)))]) ⟨⟨_, rfl, e361⟩, ⟨_, rfl, e362⟩, trivial⟩ ?_
 refine WO.on rfl rfl rfl ?_
 have B363 := (B235).kp0 k360
 refine WO.v (R.loadB rfl B363 rfl Try.underlying3 rfl) rfl ?_
 refine WO.nil ?_
 exact WX.stepDone rfl rfl (Kp.refl _)
 rintro vs w364 k364 ⟨e365, e366, -⟩
 replace k364 : Kp [] w235 w364 := k364
 have z364 : w235.heap.size ≤ w364.heap.size := k364.size
 have b364 := old_kp0 b235 k364
 have y364 : w.heap.size ≤ w364.heap.size := b364.size
 refine WO.haves (fr' := [(118, (.bool true)), (120, (.int .i64 x228.client))]) ⟨⟨_, rfl, e365⟩, ⟨_, rfl, e366⟩, trivial⟩ ?_
 refine WO.on rfl rfl rfl ?_
 refine WO.c (E.call rfl rfl Try.func28 rfl rfl) (in7_s (n := x228.client) (a := (1 : Int)) (b := (8 : Int)) ) rfl ?_
 rintro _ _ ⟨rfl, rfl⟩
 refine WO.nil ?_
 exact WX.stepDone rfl rfl (Kp.refl _)
 rintro vs w367 k367 ⟨e368, e369, -⟩
 replace k367 : Kp [] w235 w367 := k367
 refine WO.haves (fr' := [(118, (.bool true)), (121, (.bool ((decide (((1 : Int)) ≤ (x228.client))) && (decide ((x228.client) ≤ ((8 : Int)))))))]) ⟨⟨_, rfl, e368⟩, ⟨_, rfl, e369⟩, trivial⟩ ?_
 refine WO.v (R.pickT rfl rfl rfl) rfl ?_
 refine WO.nil ?_
 exact WX.stepDone rfl rfl (Kp.refl _)
 rintro vs w370 k370 ⟨e371, -⟩
 replace k370 : Kp [] w235 w370 := k370
 refine WO.haves (fr' := [(122, (.bool ((decide (((1 : Int)) ≤ (x228.client))) && (decide ((x228.client) ≤ ((8 : Int)))))))]) ⟨⟨_, rfl, e371⟩, trivial⟩ ?_
 refine WO.v (R.move rfl) rfl ?_
 refine WO.nil ?_
 exact WX.stepDone rfl (vb hb238) (Kp.refl _)
 rintro vs w372 k372 ⟨e373, -⟩
 replace k372 : Kp [] w235 w372 := k372
 refine WO.haves (fr' := [(123, (.bool true)), (8, (.int .i64 ((k2 : Nat) : Int)))]) ⟨⟨_, rfl, e373⟩, ⟨_, rfl, rfl⟩, trivial⟩ ?_
 refine WO.on rfl rfl rfl ?_
 refine WO.v (R.move rfl) rfl ?_
 refine WO.nil ?_
 exact WX.stepDone rfl rfl (Kp.refl _)
 rintro vs w374 k374 ⟨e375, e376, -⟩
 replace k374 : Kp [] w235 w374 := k374
 refine WO.haves (fr' := [(123, (.bool true)), (124, (.int .i64 ((k2 : Nat) : Int)))]) ⟨⟨_, rfl, e375⟩, ⟨_, rfl, e376⟩, trivial⟩ ?_
 refine WO.on rfl rfl rfl ?_
 refine WO.v (R.eql rfl rfl) rfl ?_
 refine WO.nil ?_
 exact WX.stepDone rfl rfl (Kp.refl _)
 rintro vs w377 k377 ⟨e378, e379, -⟩
 replace k377 : Kp [] w235 w377 := k377
 refine WO.haves (fr' := [(123, (.bool true)), (125, (.bool (decide (((k2 : Nat) : Int) = (0 : Int)))))]) ⟨⟨_, rfl, e378⟩, ⟨_, rfl, e379⟩, trivial⟩ ?_
 refine WO.on rfl rfl rfl ?_
 refine WO.v (R.move rfl) rfl ?_
 refine WO.nil ?_
 exact WX.stepDone rfl (vb hb239) (Kp.refl _)
 rintro vs w380 k380 ⟨e381, -⟩
 replace k380 : Kp [] w235 w380 := k380
 refine WO.haves (fr' := [(126, (.bool false)), (2, (.pointer (some ⟨w.heap.size, 0, none⟩)))]) ⟨⟨_, rfl, e381⟩, ⟨_, rfl, rfl⟩, trivial⟩ ?_
 refine WO.on rfl rfl rfl ?_
 refine WO.v (fa34_5 rfl) rfl ?_
 refine WO.nil ?_
 exact WX.stepDone rfl rfl (Kp.refl _)
 rintro vs w382 k382 ⟨e383, e384, -⟩
 replace k382 : Kp [] w235 w382 := k382
 have z382 : w235.heap.size ≤ w382.heap.size := k382.size
 have b382 := old_kp0 b235 k382
 have y382 : w.heap.size ≤ w382.heap.size := b382.size
 refine WO.haves (fr' := [(126, (.bool false)), (127, (.pointer (some ⟨w.heap.size, 5, none⟩)))]) ⟨⟨_, rfl, e383⟩, ⟨_, rfl, e384⟩, trivial⟩ ?_
 refine WO.on rfl rfl rfl ?_
 have B385 := (((B226).kp0 n234.kp).kp1 k235 (by omega)).kp0 k382
 refine WO.v (R.loadB rfl B385 rfl Try.underlying31 rfl) rfl ?_
 refine WO.nil ?_
 exact WX.stepDone rfl rfl (Kp.refl _)
 rintro vs w386 k386 ⟨e387, -⟩
 replace k386 : Kp [] w235 w386 := k386
 refine WO.haves (fr' := [(126, (.bool false)), (8, (.int .i64 ((k2 : Nat) : Int)))]) ⟨⟨_, rfl, e387⟩, ⟨_, rfl, rfl⟩, trivial⟩ ?_
 refine WO.on rfl rfl rfl ?_
 refine WO.v (R.move rfl) rfl ?_
 refine WO.nil ?_
 exact WX.stepDone rfl rfl (Kp.refl _)
 rintro vs w388 k388 ⟨e389, e390, -⟩
 replace k388 : Kp [] w235 w388 := k388
 refine WO.haves (fr' := [(126, (.bool false)), (129, (.int .i64 ((k2 : Nat) : Int)))]) ⟨⟨_, rfl, e389⟩, ⟨_, rfl, e390⟩, trivial⟩ ?_
 refine WO.on rfl rfl rfl ?_
 have i391 : I64 (((k2 : Nat) : Int) - (1 : Int)) := by exact ⟨by omega, by omega⟩
 refine WO.v (R.sub rfl rfl i391) rfl ?_
 refine WO.nil ?_
 exact WX.stepDone rfl rfl (Kp.refl _)
 rintro vs w392 k392 ⟨e393, e394, e395, -⟩
 replace k392 : Kp [] w235 w392 := k392
 refine WO.haves (fr' := [(126, (.bool false)), (128, (.slice a8 s.opens.length c9)), (130, (.int .i64 (((k2 : Nat) : Int) - (1 : Int))))]) ⟨⟨_, rfl, e393⟩, ⟨_, rfl, e394⟩, ⟨_, rfl, e395⟩, trivial⟩ ?_
 refine WO.on rfl rfl rfl ?_
 refine WO.v (R.indexAddrJ rfl rfl Try.underlying31 sz53 hA336 (i := (k2 - 1)) (by omega) (by omega)) rfl ?_
 refine WO.nil ?_
 exact WX.stepDone rfl rfl (Kp.refl _)
 rintro vs w396 k396 ⟨e397, e398, -⟩
 replace k396 : Kp [] w235 w396 := k396
 refine WO.haves (fr' := [(126, (.bool false)), (131, (.pointer (some (A336.add ((k2 - 1) * 2)))))]) ⟨⟨_, rfl, e397⟩, ⟨_, rfl, e398⟩, trivial⟩ ?_
 refine WO.on rfl rfl rfl ?_
 refine WO.v (fe53_0 rfl) rfl ?_
 refine WO.nil ?_
 exact WX.stepDone rfl rfl (Kp.refl _)
 rintro vs w399 k399 ⟨e400, e401, -⟩
 replace k399 : Kp [] w235 w399 := k399
 have z399 : w235.heap.size ≤ w399.heap.size := k399.size
 have b399 := old_kp0 b235 k399
 have y399 : w.heap.size ≤ w399.heap.size := b399.size
 refine WO.haves (fr' := [(126, (.bool false)), (132, (.pointer (some ((A336.add ((k2 - 1) * 2)).add 0))))]) ⟨⟨_, rfl, e400⟩, ⟨_, rfl, e401⟩, trivial⟩ ?_
 refine WO.on rfl rfl rfl ?_
 refine WO.v (R.load1 rfl Try.underlying3 rfl (((ccA336).kpA k399 (by omega) (by simp)).one (j := 0) rfl)) rfl ?_
 refine WO.nil ?_
 exact WX.stepDone rfl rfl (Kp.refl _)
 rintro vs w402 k402 ⟨e403, -⟩
 replace k402 : Kp [] w235 w402 := k402
 refine WO.haves (fr' := [(126, (.bool false)), (9, (.pointer (some ⟨w225.heap.size, 0, none⟩)))]) ⟨⟨_, rfl, e403⟩, ⟨_, rfl, rfl⟩, trivial⟩ ?_
 refine WO.on rfl rfl rfl ?_
 refine WO.v (fa53_0 rfl) rfl ?_
 refine WO.nil ?_
 exact WX.stepDone rfl rfl (Kp.refl _)
 rintro vs w404 k404 ⟨e405, e406, -⟩
 replace k404 : Kp [] w235 w404 := k404
 have z404 : w235.heap.size ≤ w404.heap.size := k404.size
 have b404 := old_kp0 b235 k404
 have y404 : w.heap.size ≤ w404.heap.size := b404.size
 refine WO.haves (fr' := [(126, (.bool false)), (134, (.pointer (some ⟨w225.heap.size, 0, none⟩)))]) ⟨⟨_, rfl, e405⟩, ⟨_, rfl, e406⟩, trivial⟩ ?_
 refine WO.on rfl rfl rfl ?_
 have B407 := (B235).kp0 k404
 refine WO.v (R.loadB rfl B407 rfl Try.underlying3 rfl) rfl ?_
 refine WO.nil ?_
 exact WX.stepDone rfl rfl (Kp.refl _)
 rintro vs w408 k408 ⟨e409, e410, e411, -⟩
 replace k408 : Kp [] w235 w408 := k408
 refine WO.haves (fr' := [(126, (.bool false)), (133, (.int .i64 x335.set)), (135, (.int .i64 x228.set))]) ⟨⟨_, rfl, e409⟩, ⟨_, rfl, e410⟩, ⟨_, rfl, e411⟩, trivial⟩ ?_
 refine WO.on rfl rfl rfl ?_
 refine WO.v (R.lss rfl rfl) rfl ?_
 refine WO.nil ?_
 exact WX.stepDone rfl rfl (Kp.refl _)
 rintro vs w412 k412 ⟨e413, e414, e415, -⟩
 replace k412 : Kp [] w235 w412 := k412
 refine WO.haves (fr' := [(123, (.bool true)), (126, (.bool false)), (136, (.bool (decide (x335.set < x228.set))))]) ⟨⟨_, rfl, e413⟩, ⟨_, rfl, e414⟩, ⟨_, rfl, e415⟩, trivial⟩ ?_
 refine WO.on rfl rfl rfl ?_
 refine WO.v (R.pickF rfl rfl rfl) rfl ?_
 refine WO.nil ?_
 exact WX.stepDone rfl rfl (Kp.refl _)
 rintro vs w416 k416 ⟨e417, e418, -⟩
 replace k416 : Kp [] w235 w416 := k416
 refine WO.haves (fr' := [(123, (.bool true)), (137, (.bool (decide (x335.set < x228.set))))]) ⟨⟨_, rfl, e417⟩, ⟨_, rfl, e418⟩, trivial⟩ ?_
 refine WO.v (R.pickT rfl rfl rfl) rfl ?_
 refine WO.nil ?_
 exact WX.stepDone rfl rfl (Kp.refl _)
 rintro vs w419 k419 ⟨-, -, -, -, -, -, -, -, -, -, -, -, -, -, -, -, -, -, -, -, -, -, -, -, -, -, e446, -⟩
 replace k419 : Kp [] w235 w419 := k419
 have z419 : w235.heap.size ≤ w419.heap.size := k419.size
 have b419 := old_kp0 b235 k419
 have y419 : w.heap.size ≤ w419.heap.size := b419.size
 refine WO.haves (fr' := [(138, (.bool (decide (x335.set < x228.set)))), (0, (.agg #[(.int .i64 s.version), (.int .i64 s.next), (.int .i64 s.keep), (.int .i64 s.quota), (.slice a5 s.sess.length c6), (.slice a8 s.opens.length c9), (.slice a11 s.snaps.length c12)])), (1, (.int .i64 v)), (2, (.pointer (some ⟨w.heap.size, 0, none⟩))), (4, (.int .i64 (0 : Int))), (5, (.bool (((((ok0F s v) && pairF sessOk Sess.client 8 (s.sess.take k))) && pairF openOk Opn.set 8 (s.opens.take k2))))), (6, (.int .i64 ((k : Nat) : Int))), (8, (.int .i64 ((k2 : Nat) : Int))), (9, (.pointer (some ⟨w225.heap.size, 0, none⟩))), (14, (.bool (!((decide (((1 : Int)) ≤ (v))) && (decide ((v) ≤ ((3 : Int)))))))), (52, (.bool (decide (((k : Nat) : Int) < ((s.sess.length : Nat) : Int))))), (104, (.bool (decide (((k2 : Nat) : Int) < ((s.opens.length : Nat) : Int)))))]) ⟨⟨_, rfl, e446⟩, ⟨_, rfl, rfl⟩, ⟨_, rfl, rfl⟩, ⟨_, rfl, rfl⟩, ⟨_, rfl, rfl⟩, ⟨_, rfl, rfl⟩, ⟨_, rfl, rfl⟩, ⟨_, rfl, rfl⟩, ⟨_, rfl, rfl⟩, ⟨_, rfl, rfl⟩, ⟨_, rfl, rfl⟩, ⟨_, rfl, rfl⟩, trivial⟩ ?_
 refine WO.v (R.assign rfl) rfl ?_
 refine WO.nil ?_
 refine WX.sel [0, 1, 2, 4, 5, 6, 8, 9, 14, 52, 104] rfl ?_
 refine WX.blkNormal ?_
 refine WX.next ?_
 refine WC.region ?_
 refine WO.v (R.move rfl) rfl ?_
 refine WO.v (R.inc rfl (by omega)) rfl ?_
 refine WO.v (R.assign rfl) rfl ?_
 refine WO.nil ?_
 refine WX.sel [0, 1, 2, 4, 5, 6, 8, 9, 14, 52, 104] rfl ?_
 exact WX.loopNextK [0, 1, 2, 4, 6, 14, 52] (k2 + 1) rfl ⟨⟨_, rfl, rfl⟩, ⟨_, rfl, vb (by first | (rw [open_step hx228, hb236]; rfl) | (rw [open_step hx228, hb236, hb237]; rfl) | (rw [open_step hx228, hb236, hb237, hb238]; rfl) | (rw [open_step hx228, hb236, hb237, hb238, hb239]; rfl) | (rw [open_step hx228, hb236, hb237, hb238, hb239, lastK_at (key := Opn.set) (a := 0) (by omega) ‹s.opens[k2 - 1]? = some _›]; rfl))⟩, trivial⟩ ⟨((((Kp.refl _).step k225 (by simp)).step n234.kp (by simp)).step k235 (mem1 (.inr (by omega)))).step k419 (by simp), by omega⟩ (by show (s.opens.length - (k2 + 1)) < (s.opens.length - k2); omega)
 have phb238 : (¬ (((1 : Int)) ≤ (x228.client))) ∨ (¬ ((x228.client) ≤ ((8 : Int)))) := Or.imp (fun h => of_decide_eq_false h) (fun h => of_decide_eq_false h) (band_f hb238)
 refine WC.draw' mixed_orders [.ex [] (.bool (((((ok0F s v) && pairF sessOk Sess.client 8 (s.sess.take k))) && pairF openOk Opn.set 8 (s.opens.take k2)))), .ex [0] (.bool true), .ex [1] (.pointer (some ⟨w225.heap.size, 0, none⟩)), .ex [1, 2] (.int .i64 x228.set), .ex [1, 3] (.bool ((decide (((1 : Int)) ≤ (x228.set))) && (decide ((x228.set) ≤ ((8 : Int)))))), .ex [1, 4] (.bool ((decide (((1 : Int)) ≤ (x228.set))) && (decide ((x228.set) ≤ ((8 : Int)))))), .ex [5] (.bool true), .ex [6] (.pointer (some ⟨w225.heap.size, 1, none⟩)), .ex [6, 7] (.int .i64 x228.client), .ex [6, 8] (.bool ((decide (((1 : Int)) ≤ (x228.client))) && (decide ((x228.client) ≤ ((8 : Int)))))), .ex [6, 9] (.bool ((decide (((1 : Int)) ≤ (x228.client))) && (decide ((x228.client) ≤ ((8 : Int)))))), .ex [10] (.bool false), .ex [11] undef, .ex [11] undef, .ex [11] undef, .ex [14] undef, .ex [14] undef, .ex [14] undef, .ex [14] undef, .ex [14] undef, .ex [14] undef, .ex [14] undef, .ex [14] undef, .ex [14] undef, .ex [14] undef, .ex [11] undef, .ex [11] (.bool false)] 27 (by kernel_rfl) ⟨fun _ _ _ h _ => h, fun _ _ _ h _ => h, fun _ _ _ h _ => h, fun _ _ _ h _ => h, fun _ _ _ h _ => h, fun _ _ _ h _ => h, fun _ _ _ h _ => h, fun _ _ _ h _ => h, fun _ _ _ h _ => h, fun _ _ _ h _ => h, fun _ _ _ h _ => h, fun _ _ _ h _ => h, fun _ _ _ h _ => h, fun _ _ _ h _ => h, fun _ _ _ h _ => h, fun _ _ _ h _ => h, fun _ _ _ h _ => h, fun _ _ _ h _ => h, fun _ _ _ h _ => h, fun _ _ _ h _ => h, fun _ _ _ h _ => h, fun _ _ _ h _ => h, fun _ _ _ h _ => h, fun _ _ _ h _ => h, fun _ _ _ h _ => h, fun _ _ _ h _ => h, fun _ _ _ h _ => h, trivial⟩ ⟨?_, ?_, ?_, ?_, ?_, ?_, ?_, ?_, ?_, ?_, ?_, ?_, ?_, ?_, ?_, ?_, ?_, ?_, ?_, ?_, ?_, ?_, ?_, ?_, ?_, ?_, ?_, trivial⟩ ?_
 rintro vs w447 k447 ⟨-⟩
 replace k447 : Kp [] w235 w447 := k447
 refine WO.haves (fr' := [(5, (.bool (((((ok0F s v) && pairF sessOk Sess.client 8 (s.sess.take k))) && pairF openOk Opn.set 8 (s.opens.take k2)))))]) ⟨⟨_, rfl, rfl⟩, trivial⟩ ?_
 refine WO.v (R.move rfl) rfl ?_
 refine WO.nil ?_
 exact WX.stepDone rfl rfl (Kp.refl _)
 rintro vs w448 k448 ⟨e449, -⟩
 replace k448 : Kp [] w235 w448 := k448
 refine WO.haves (fr' := [(112, (.bool (((((ok0F s v) && pairF sessOk Sess.client 8 (s.sess.take k))) && pairF openOk Opn.set 8 (s.opens.take k2)))))]) ⟨⟨_, rfl, e449⟩, trivial⟩ ?_
 refine WO.v (R.move rfl) rfl ?_
 refine WO.nil ?_
 exact WX.stepDone rfl (vb hb236) (Kp.refl _)
 rintro vs w450 k450 ⟨e451, -⟩
 replace k450 : Kp [] w235 w450 := k450
 refine WO.haves (fr' := [(113, (.bool true)), (9, (.pointer (some ⟨w225.heap.size, 0, none⟩)))]) ⟨⟨_, rfl, e451⟩, ⟨_, rfl, rfl⟩, trivial⟩ ?_
 refine WO.on rfl rfl rfl ?_
 refine WO.v (fa53_0 rfl) rfl ?_
 refine WO.nil ?_
 exact WX.stepDone rfl rfl (Kp.refl _)
 rintro vs w452 k452 ⟨e453, e454, -⟩
 replace k452 : Kp [] w235 w452 := k452
 have z452 : w235.heap.size ≤ w452.heap.size := k452.size
 have b452 := old_kp0 b235 k452
 have y452 : w.heap.size ≤ w452.heap.size := b452.size
 refine WO.haves (fr' := [(113, (.bool true)), (114, (.pointer (some ⟨w225.heap.size, 0, none⟩)))]) ⟨⟨_, rfl, e453⟩, ⟨_, rfl, e454⟩, trivial⟩ ?_
 refine WO.on rfl rfl rfl ?_
 have B455 := (B235).kp0 k452
 refine WO.v (R.loadB rfl B455 rfl Try.underlying3 rfl) rfl ?_
 refine WO.nil ?_
 exact WX.stepDone rfl rfl (Kp.refl _)
 rintro vs w456 k456 ⟨e457, e458, -⟩
 replace k456 : Kp [] w235 w456 := k456
 have z456 : w235.heap.size ≤ w456.heap.size := k456.size
 have b456 := old_kp0 b235 k456
 have y456 : w.heap.size ≤ w456.heap.size := b456.size
 refine WO.haves (fr' := [(113, (.bool true)), (115, (.int .i64 x228.set))]) ⟨⟨_, rfl, e457⟩, ⟨_, rfl, e458⟩, trivial⟩ ?_
 refine WO.on rfl rfl rfl ?_
 refine WO.c (E.call rfl rfl Try.func28 rfl rfl) (in7_s (n := x228.set) (a := (1 : Int)) (b := (8 : Int)) ) rfl ?_
 rintro _ _ ⟨rfl, rfl⟩
 refine WO.nil ?_
 exact WX.stepDone rfl rfl (Kp.refl _)
 rintro vs w459 k459 ⟨e460, e461, -⟩
 replace k459 : Kp [] w235 w459 := k459
 refine WO.haves (fr' := [(113, (.bool true)), (116, (.bool ((decide (((1 : Int)) ≤ (x228.set))) && (decide ((x228.set) ≤ ((8 : Int)))))))]) ⟨⟨_, rfl, e460⟩, ⟨_, rfl, e461⟩, trivial⟩ ?_
 refine WO.v (R.pickT rfl rfl rfl) rfl ?_
 refine WO.nil ?_
 exact WX.stepDone rfl rfl (Kp.refl _)
 rintro vs w462 k462 ⟨e463, -⟩
 replace k462 : Kp [] w235 w462 := k462
 refine WO.haves (fr' := [(117, (.bool ((decide (((1 : Int)) ≤ (x228.set))) && (decide ((x228.set) ≤ ((8 : Int)))))))]) ⟨⟨_, rfl, e463⟩, trivial⟩ ?_
 refine WO.v (R.move rfl) rfl ?_
 refine WO.nil ?_
 exact WX.stepDone rfl (vb hb237) (Kp.refl _)
 rintro vs w464 k464 ⟨e465, -⟩
 replace k464 : Kp [] w235 w464 := k464
 refine WO.haves (fr' := [(118, (.bool true)), (9, (.pointer (some ⟨w225.heap.size, 0, none⟩)))]) ⟨⟨_, rfl, e465⟩, ⟨_, rfl, rfl⟩, trivial⟩ ?_
 refine WO.on rfl rfl rfl ?_
 refine WO.v (fa53_1 rfl) rfl ?_
 refine WO.nil ?_
 exact WX.stepDone rfl rfl (Kp.refl _)
 rintro vs w466 k466 ⟨e467, e468, -⟩
 replace k466 : Kp [] w235 w466 := k466
 have z466 : w235.heap.size ≤ w466.heap.size := k466.size
 have b466 := old_kp0 b235 k466
 have y466 : w.heap.size ≤ w466.heap.size := b466.size
 refine WO.haves (fr' := [(118, (.bool true)), (119, (.pointer (some ⟨w225.heap.size, 1, none⟩)))]) ⟨⟨_, rfl, e467⟩, ⟨_, rfl, e468⟩, trivial⟩ ?_
 refine WO.on rfl rfl rfl ?_
 have B469 := (B235).kp0 k466
 refine WO.v (R.loadB rfl B469 rfl Try.underlying3 rfl) rfl ?_
 refine WO.nil ?_
 exact WX.stepDone rfl rfl (Kp.refl _)
 rintro vs w470 k470 ⟨e471, e472, -⟩
 replace k470 : Kp [] w235 w470 := k470
 have z470 : w235.heap.size ≤ w470.heap.size := k470.size
 have b470 := old_kp0 b235 k470
 have y470 : w.heap.size ≤ w470.heap.size := b470.size
 refine WO.haves (fr' := [(118, (.bool true)), (120, (.int .i64 x228.client))]) ⟨⟨_, rfl, e471⟩, ⟨_, rfl, e472⟩, trivial⟩ ?_
 refine WO.on rfl rfl rfl ?_
 refine WO.c (E.call rfl rfl Try.func28 rfl rfl) (in7_s (n := x228.client) (a := (1 : Int)) (b := (8 : Int)) ) rfl ?_
 rintro _ _ ⟨rfl, rfl⟩
 refine WO.nil ?_
 exact WX.stepDone rfl rfl (Kp.refl _)
 rintro vs w473 k473 ⟨e474, e475, -⟩
 replace k473 : Kp [] w235 w473 := k473
 refine WO.haves (fr' := [(118, (.bool true)), (121, (.bool ((decide (((1 : Int)) ≤ (x228.client))) && (decide ((x228.client) ≤ ((8 : Int)))))))]) ⟨⟨_, rfl, e474⟩, ⟨_, rfl, e475⟩, trivial⟩ ?_
 refine WO.v (R.pickT rfl rfl rfl) rfl ?_
 refine WO.nil ?_
 exact WX.stepDone rfl rfl (Kp.refl _)
 rintro vs w476 k476 ⟨e477, -⟩
 replace k476 : Kp [] w235 w476 := k476
 refine WO.haves (fr' := [(122, (.bool ((decide (((1 : Int)) ≤ (x228.client))) && (decide ((x228.client) ≤ ((8 : Int)))))))]) ⟨⟨_, rfl, e477⟩, trivial⟩ ?_
 refine WO.v (R.move rfl) rfl ?_
 refine WO.nil ?_
 exact WX.stepDone rfl (vb hb238) (Kp.refl _)
 rintro vs w478 k478 ⟨e479, -⟩
 replace k478 : Kp [] w235 w478 := k478
 refine WO.haves (fr' := [(123, (.bool false)), (8, (.int .i64 ((k2 : Nat) : Int)))]) ⟨⟨_, rfl, e479⟩, ⟨_, rfl, rfl⟩, trivial⟩ ?_
 refine WO.off rfl rfl rfl rfl ?_
 refine WO.nil ?_
 exact WX.stepDone rfl rfl (Kp.refl _)
 rintro vs w480 k480 ⟨e481, -⟩
 replace k480 : Kp [] w235 w480 := k480
 refine WO.haves (fr' := [(123, (.bool false))]) ⟨⟨_, rfl, e481⟩, trivial⟩ ?_
 refine WO.off rfl rfl rfl rfl ?_
 refine WO.nil ?_
 exact WX.stepDone rfl rfl (Kp.refl _)
 rintro vs w482 k482 ⟨e483, -⟩
 replace k482 : Kp [] w235 w482 := k482
 refine WO.haves (fr' := [(123, (.bool false))]) ⟨⟨_, rfl, e483⟩, trivial⟩ ?_
 refine WO.off rfl rfl rfl rfl ?_
 refine WO.nil ?_
 exact WX.stepDone rfl rfl (Kp.refl _)
 rintro vs w484 k484 ⟨e485, -⟩
 replace k484 : Kp [] w235 w484 := k484
 refine WO.haves (fr' := [(126, undef), (2, (.pointer (some ⟨w.heap.size, 0, none⟩)))]) ⟨⟨_, rfl, e485⟩, ⟨_, rfl, rfl⟩, trivial⟩ ?_
 refine WO.offU rfl rfl rfl ?_
 refine WO.nil ?_
 exact WX.stepDone rfl rfl (Kp.refl _)
 rintro vs w486 k486 ⟨e487, -⟩
 replace k486 : Kp [] w235 w486 := k486
 refine WO.haves (fr' := [(126, undef)]) ⟨⟨_, rfl, e487⟩, trivial⟩ ?_
 refine WO.offU rfl rfl rfl ?_
 refine WO.nil ?_
 exact WX.stepDone rfl rfl (Kp.refl _)
 rintro vs w488 k488 ⟨e489, -⟩
 replace k488 : Kp [] w235 w488 := k488
 refine WO.haves (fr' := [(126, undef), (8, (.int .i64 ((k2 : Nat) : Int)))]) ⟨⟨_, rfl, e489⟩, ⟨_, rfl, rfl⟩, trivial⟩ ?_
 refine WO.offU rfl rfl rfl ?_
 refine WO.nil ?_
 exact WX.stepDone rfl rfl (Kp.refl _)
 rintro vs w490 k490 ⟨e491, -⟩
 replace k490 : Kp [] w235 w490 := k490
 refine WO.haves (fr' := [(126, undef)]) ⟨⟨_, rfl, e491⟩, trivial⟩ ?_
 refine WO.offU rfl rfl rfl ?_
 refine WO.nil ?_
 exact WX.stepDone rfl rfl (Kp.refl _)
 rintro vs w492 k492 ⟨e493, -⟩
 replace k492 : Kp [] w235 w492 := k492
 refine WO.haves (fr' := [(126, undef)]) ⟨⟨_, rfl, e493⟩, trivial⟩ ?_
 refine WO.offU rfl rfl rfl ?_
 refine WO.nil ?_
 exact WX.stepDone rfl rfl (Kp.refl _)
 rintro vs w494 k494 ⟨e495, -⟩
 replace k494 : Kp [] w235 w494 := k494
 refine WO.haves (fr' := [(126, undef)]) ⟨⟨_, rfl, e495⟩, trivial⟩ ?_
 refine WO.offU rfl rfl rfl ?_
 refine WO.nil ?_
 exact WX.stepDone rfl rfl (Kp.refl _)
 rintro vs w496 k496 ⟨e497, -⟩
 replace k496 : Kp [] w235 w496 := k496
 refine WO.haves (fr' := [(126, undef)]) ⟨⟨_, rfl, e497⟩, trivial⟩ ?_
 refine WO.offU rfl rfl rfl ?_
 refine WO.nil ?_
 exact WX.stepDone rfl rfl (Kp.refl _)
 rintro vs w498 k498 ⟨e499, -⟩
 replace k498 : Kp [] w235 w498 := k498
 refine WO.haves (fr' := [(126, undef), (9, (.pointer (some ⟨w225.heap.size, 0, none⟩)))]) ⟨⟨_, rfl, e499⟩, ⟨_, rfl, rfl⟩, trivial⟩ ?_
 refine WO.offU rfl rfl rfl ?_
 refine WO.nil ?_
 exact WX.stepDone rfl rfl (Kp.refl _)
 rintro vs w500 k500 ⟨e501, -⟩
 replace k500 : Kp [] w235 w500 := k500
 refine WO.haves (fr' := [(126, undef)]) ⟨⟨_, rfl, e501⟩, trivial⟩ ?_
 refine WO.offU rfl rfl rfl ?_
 refine WO.nil ?_
 exact WX.stepDone rfl rfl (Kp.refl _)
 rintro vs w502 k502 ⟨e503, -⟩
 replace k502 : Kp [] w235 w502 := k502
 refine WO.haves (fr' := [(126, undef)]) ⟨⟨_, rfl, e503⟩, trivial⟩ ?_
 refine WO.offU rfl rfl rfl ?_
 refine WO.nil ?_
 exact WX.stepDone rfl rfl (Kp.refl _)
 rintro vs w504 k504 ⟨e505, -⟩
 replace k504 : Kp [] w235 w504 := k504
 refine WO.haves (fr' := [(123, (.bool false))]) ⟨⟨_, rfl, e505⟩, trivial⟩ ?_
 refine WO.off rfl rfl rfl rfl ?_
 refine WO.nil ?_
 exact WX.stepDone rfl rfl (Kp.refl _)
 rintro vs w506 k506 ⟨e507, -⟩
 replace k506 : Kp [] w235 w506 := k506
 refine WO.haves (fr' := [(123, (.bool false))]) ⟨⟨_, rfl, e507⟩, trivial⟩ ?_
 refine WO.v (R.pickF rfl rfl rfl) rfl ?_
 refine WO.nil ?_
 exact WX.stepDone rfl rfl (Kp.refl _)
 rintro vs w508 k508 ⟨-, -, -, -, -, -, -, -, -, -, -, -, -, -, -, -, -, -, -, -, -, -, -, -, -, -, e535, -⟩
 replace k508 : Kp [] w235 w508 := k508
 have z508 : w235.heap.size ≤ w508.heap.size := k508.size
 have b508 := old_kp0 b235 k508
 have y508 : w.heap.size ≤ w508.heap.size := b508.size
 refine WO.haves (fr' := [(138, (.bool false)), (0, (.agg #[(.int .i64 s.version), (.int .i64 s.next), (.int .i64 s.keep), (.int .i64 s.quota), (.slice a5 s.sess.length c6), (.slice a8 s.opens.length c9), (.slice a11 s.snaps.length c12)])), (1, (.int .i64 v)), (2, (.pointer (some ⟨w.heap.size, 0, none⟩))), (4, (.int .i64 (0 : Int))), (5, (.bool (((((ok0F s v) && pairF sessOk Sess.client 8 (s.sess.take k))) && pairF openOk Opn.set 8 (s.opens.take k2))))), (6, (.int .i64 ((k : Nat) : Int))), (8, (.int .i64 ((k2 : Nat) : Int))), (9, (.pointer (some ⟨w225.heap.size, 0, none⟩))), (14, (.bool (!((decide (((1 : Int)) ≤ (v))) && (decide ((v) ≤ ((3 : Int)))))))), (52, (.bool (decide (((k : Nat) : Int) < ((s.sess.length : Nat) : Int))))), (104, (.bool (decide (((k2 : Nat) : Int) < ((s.opens.length : Nat) : Int)))))]) ⟨⟨_, rfl, e535⟩, ⟨_, rfl, rfl⟩, ⟨_, rfl, rfl⟩, ⟨_, rfl, rfl⟩, ⟨_, rfl, rfl⟩, ⟨_, rfl, rfl⟩, ⟨_, rfl, rfl⟩, ⟨_, rfl, rfl⟩, ⟨_, rfl, rfl⟩, ⟨_, rfl, rfl⟩, ⟨_, rfl, rfl⟩, ⟨_, rfl, rfl⟩, trivial⟩ ?_
 refine WO.v (R.assign rfl) rfl ?_
 refine WO.nil ?_
 refine WX.sel [0, 1, 2, 4, 5, 6, 8, 9, 14, 52, 104] rfl ?_
 refine WX.blkNormal ?_
 refine WX.next ?_
 refine WC.region ?_
 refine WO.v (R.move rfl) rfl ?_
 refine WO.v (R.inc rfl (by omega)) rfl ?_
 refine WO.v (R.assign rfl) rfl ?_
 refine WO.nil ?_
 refine WX.sel [0, 1, 2, 4, 5, 6, 8, 9, 14, 52, 104] rfl ?_
 exact WX.loopNextK [0, 1, 2, 4, 6, 14, 52] (k2 + 1) rfl ⟨⟨_, rfl, rfl⟩, ⟨_, rfl, vb (by first | (rw [open_step hx228, hb236]; rfl) | (rw [open_step hx228, hb236, hb237]; rfl) | (rw [open_step hx228, hb236, hb237, hb238]; rfl) | (rw [open_step hx228, hb236, hb237, hb238, lastK_at (key := Opn.set) (a := 0) (by omega) ‹s.opens[k2 - 1]? = some _›]; rfl))⟩, trivial⟩ ⟨((((Kp.refl _).step k225 (by simp)).step n234.kp (by simp)).step k235 (mem1 (.inr (by omega)))).step k508 (by simp), by omega⟩ (by show (s.opens.length - (k2 + 1)) < (s.opens.length - k2); omega)
 have phb237 : (¬ (((1 : Int)) ≤ (x228.set))) ∨ (¬ ((x228.set) ≤ ((8 : Int)))) := Or.imp (fun h => of_decide_eq_false h) (fun h => of_decide_eq_false h) (band_f hb237)
 refine WC.draw' mixed_orders [.ex [] (.bool (((((ok0F s v) && pairF sessOk Sess.client 8 (s.sess.take k))) && pairF openOk Opn.set 8 (s.opens.take k2)))), .ex [0] (.bool true), .ex [1] (.pointer (some ⟨w225.heap.size, 0, none⟩)), .ex [1, 2] (.int .i64 x228.set), .ex [1, 3] (.bool ((decide (((1 : Int)) ≤ (x228.set))) && (decide ((x228.set) ≤ ((8 : Int)))))), .ex [1, 4] (.bool ((decide (((1 : Int)) ≤ (x228.set))) && (decide ((x228.set) ≤ ((8 : Int)))))), .ex [5] (.bool false), .ex [6] undef, .ex [6] undef, .ex [6] undef, .ex [6] (.bool false), .ex [10] (.bool false), .ex [11] undef, .ex [11] undef, .ex [11] undef, .ex [14] undef, .ex [14] undef, .ex [14] undef, .ex [14] undef, .ex [14] undef, .ex [14] undef, .ex [14] undef, .ex [14] undef, .ex [14] undef, .ex [14] undef, .ex [11] undef, .ex [11] (.bool false)] 27 (by kernel_rfl) ⟨fun _ _ _ h _ => h, fun _ _ _ h _ => h, fun _ _ _ h _ => h, fun _ _ _ h _ => h, fun _ _ _ h _ => h, fun _ _ _ h _ => h, fun _ _ _ h _ => h, fun _ _ _ h _ => h, fun _ _ _ h _ => h, fun _ _ _ h _ => h, fun _ _ _ h _ => h, fun _ _ _ h _ => h, fun _ _ _ h _ => h, fun _ _ _ h _ => h, fun _ _ _ h _ => h, fun _ _ _ h _ => h, fun _ _ _ h _ => h, fun _ _ _ h _ => h, fun _ _ _ h _ => h, fun _ _ _ h _ => h, fun _ _ _ h _ => h, fun _ _ _ h _ => h, fun _ _ _ h _ => h, fun _ _ _ h _ => h, fun _ _ _ h _ => h, fun _ _ _ h _ => h, fun _ _ _ h _ => h, trivial⟩ ⟨?_, ?_, ?_, ?_, ?_, ?_, ?_, ?_, ?_, ?_, ?_, ?_, ?_, ?_, ?_, ?_, ?_, ?_, ?_, ?_, ?_, ?_, ?_, ?_, ?_, ?_, ?_, trivial⟩ ?_
 rintro vs w536 k536 ⟨-⟩
 replace k536 : Kp [] w235 w536 := k536
 refine WO.haves (fr' := [(5, (.bool (((((ok0F s v) && pairF sessOk Sess.client 8 (s.sess.take k))) && pairF openOk Opn.set 8 (s.opens.take k2)))))]) ⟨⟨_, rfl, rfl⟩, trivial⟩ ?_
 refine WO.v (R.move rfl) rfl ?_
 refine WO.nil ?_
 exact WX.stepDone rfl rfl (Kp.refl _)
 rintro vs w537 k537 ⟨e538, -⟩
 replace k537 : Kp [] w235 w537 := k537
 refine WO.haves (fr' := [(112, (.bool (((((ok0F s v) && pairF sessOk Sess.client 8 (s.sess.take k))) && pairF openOk Opn.set 8 (s.opens.take k2)))))]) ⟨⟨_, rfl, e538⟩, trivial⟩ ?_
 refine WO.v (R.move rfl) rfl ?_
 refine WO.nil ?_
 exact WX.stepDone rfl (vb hb236) (Kp.refl _)
 rintro vs w539 k539 ⟨e540, -⟩
 replace k539 : Kp [] w235 w539 := k539
 refine WO.haves (fr' := [(113, (.bool true)), (9, (.pointer (some ⟨w225.heap.size, 0, none⟩)))]) ⟨⟨_, rfl, e540⟩, ⟨_, rfl, rfl⟩, trivial⟩ ?_
 refine WO.on rfl rfl rfl ?_
 refine WO.v (fa53_0 rfl) rfl ?_
 refine WO.nil ?_
 exact WX.stepDone rfl rfl (Kp.refl _)
 rintro vs w541 k541 ⟨e542, e543, -⟩
 replace k541 : Kp [] w235 w541 := k541
 have z541 : w235.heap.size ≤ w541.heap.size := k541.size
 have b541 := old_kp0 b235 k541
 have y541 : w.heap.size ≤ w541.heap.size := b541.size
 refine WO.haves (fr' := [(113, (.bool true)), (114, (.pointer (some ⟨w225.heap.size, 0, none⟩)))]) ⟨⟨_, rfl, e542⟩, ⟨_, rfl, e543⟩, trivial⟩ ?_
 refine WO.on rfl rfl rfl ?_
 have B544 := (B235).kp0 k541
 refine WO.v (R.loadB rfl B544 rfl Try.underlying3 rfl) rfl ?_
 refine WO.nil ?_
 exact WX.stepDone rfl rfl (Kp.refl _)
 rintro vs w545 k545 ⟨e546, e547, -⟩
 replace k545 : Kp [] w235 w545 := k545
 have z545 : w235.heap.size ≤ w545.heap.size := k545.size
 have b545 := old_kp0 b235 k545
 have y545 : w.heap.size ≤ w545.heap.size := b545.size
 refine WO.haves (fr' := [(113, (.bool true)), (115, (.int .i64 x228.set))]) ⟨⟨_, rfl, e546⟩, ⟨_, rfl, e547⟩, trivial⟩ ?_
 refine WO.on rfl rfl rfl ?_
 refine WO.c (E.call rfl rfl Try.func28 rfl rfl) (in7_s (n := x228.set) (a := (1 : Int)) (b := (8 : Int)) ) rfl ?_
 rintro _ _ ⟨rfl, rfl⟩
 refine WO.nil ?_
 exact WX.stepDone rfl rfl (Kp.refl _)
 rintro vs w548 k548 ⟨e549, e550, -⟩
 replace k548 : Kp [] w235 w548 := k548
 refine WO.haves (fr' := [(113, (.bool true)), (116, (.bool ((decide (((1 : Int)) ≤ (x228.set))) && (decide ((x228.set) ≤ ((8 : Int)))))))]) ⟨⟨_, rfl, e549⟩, ⟨_, rfl, e550⟩, trivial⟩ ?_
 refine WO.v (R.pickT rfl rfl rfl) rfl ?_
 refine WO.nil ?_
 exact WX.stepDone rfl rfl (Kp.refl _)
 rintro vs w551 k551 ⟨e552, -⟩
 replace k551 : Kp [] w235 w551 := k551
 refine WO.haves (fr' := [(117, (.bool ((decide (((1 : Int)) ≤ (x228.set))) && (decide ((x228.set) ≤ ((8 : Int)))))))]) ⟨⟨_, rfl, e552⟩, trivial⟩ ?_
 refine WO.v (R.move rfl) rfl ?_
 refine WO.nil ?_
 exact WX.stepDone rfl (vb hb237) (Kp.refl _)
 rintro vs w553 k553 ⟨e554, -⟩
 replace k553 : Kp [] w235 w553 := k553
 refine WO.haves (fr' := [(118, (.bool false)), (9, (.pointer (some ⟨w225.heap.size, 0, none⟩)))]) ⟨⟨_, rfl, e554⟩, ⟨_, rfl, rfl⟩, trivial⟩ ?_
 refine WO.off rfl rfl rfl rfl ?_
 refine WO.nil ?_
 exact WX.stepDone rfl rfl (Kp.refl _)
 rintro vs w555 k555 ⟨e556, -⟩
 replace k555 : Kp [] w235 w555 := k555
 refine WO.haves (fr' := [(118, (.bool false))]) ⟨⟨_, rfl, e556⟩, trivial⟩ ?_
 refine WO.off rfl rfl rfl rfl ?_
 refine WO.nil ?_
 exact WX.stepDone rfl rfl (Kp.refl _)
 rintro vs w557 k557 ⟨e558, -⟩
 replace k557 : Kp [] w235 w557 := k557
 refine WO.haves (fr' := [(118, (.bool false))]) ⟨⟨_, rfl, e558⟩, trivial⟩ ?_
 refine WO.off rfl rfl rfl rfl ?_
 refine WO.nil ?_
 exact WX.stepDone rfl rfl (Kp.refl _)
 rintro vs w559 k559 ⟨e560, -⟩
 replace k559 : Kp [] w235 w559 := k559
 refine WO.haves (fr' := [(118, (.bool false))]) ⟨⟨_, rfl, e560⟩, trivial⟩ ?_
 refine WO.v (R.pickF rfl rfl rfl) rfl ?_
 refine WO.nil ?_
 exact WX.stepDone rfl rfl (Kp.refl _)
 rintro vs w561 k561 ⟨e562, -⟩
 replace k561 : Kp [] w235 w561 := k561
 refine WO.haves (fr' := [(122, (.bool false))]) ⟨⟨_, rfl, e562⟩, trivial⟩ ?_
 refine WO.v (R.move rfl) rfl ?_
 refine WO.nil ?_
 exact WX.stepDone rfl rfl (Kp.refl _)
 rintro vs w563 k563 ⟨e564, -⟩
 replace k563 : Kp [] w235 w563 := k563
 refine WO.haves (fr' := [(123, (.bool false)), (8, (.int .i64 ((k2 : Nat) : Int)))]) ⟨⟨_, rfl, e564⟩, ⟨_, rfl, rfl⟩, trivial⟩ ?_
 refine WO.off rfl rfl rfl rfl ?_
 refine WO.nil ?_
 exact WX.stepDone rfl rfl (Kp.refl _)
 rintro vs w565 k565 ⟨e566, -⟩
 replace k565 : Kp [] w235 w565 := k565
 refine WO.haves (fr' := [(123, (.bool false))]) ⟨⟨_, rfl, e566⟩, trivial⟩ ?_
 refine WO.off rfl rfl rfl rfl ?_
 refine WO.nil ?_
 exact WX.stepDone rfl rfl (Kp.refl _)
 rintro vs w567 k567 ⟨e568, -⟩
 replace k567 : Kp [] w235 w567 := k567
 refine WO.haves (fr' := [(123, (.bool false))]) ⟨⟨_, rfl, e568⟩, trivial⟩ ?_
 refine WO.off rfl rfl rfl rfl ?_
 refine WO.nil ?_
 exact WX.stepDone rfl rfl (Kp.refl _)
 rintro vs w569 k569 ⟨e570, -⟩
 replace k569 : Kp [] w235 w569 := k569
 refine WO.haves (fr' := [(126, undef), (2, (.pointer (some ⟨w.heap.size, 0, none⟩)))]) ⟨⟨_, rfl, e570⟩, ⟨_, rfl, rfl⟩, trivial⟩ ?_
 refine WO.offU rfl rfl rfl ?_
 refine WO.nil ?_
 exact WX.stepDone rfl rfl (Kp.refl _)
 rintro vs w571 k571 ⟨e572, -⟩
 replace k571 : Kp [] w235 w571 := k571
 refine WO.haves (fr' := [(126, undef)]) ⟨⟨_, rfl, e572⟩, trivial⟩ ?_
 refine WO.offU rfl rfl rfl ?_
 refine WO.nil ?_
 exact WX.stepDone rfl rfl (Kp.refl _)
 rintro vs w573 k573 ⟨e574, -⟩
 replace k573 : Kp [] w235 w573 := k573
 refine WO.haves (fr' := [(126, undef), (8, (.int .i64 ((k2 : Nat) : Int)))]) ⟨⟨_, rfl, e574⟩, ⟨_, rfl, rfl⟩, trivial⟩ ?_
 refine WO.offU rfl rfl rfl ?_
 refine WO.nil ?_
 exact WX.stepDone rfl rfl (Kp.refl _)
 rintro vs w575 k575 ⟨e576, -⟩
 replace k575 : Kp [] w235 w575 := k575
 refine WO.haves (fr' := [(126, undef)]) ⟨⟨_, rfl, e576⟩, trivial⟩ ?_
 refine WO.offU rfl rfl rfl ?_
 refine WO.nil ?_
 exact WX.stepDone rfl rfl (Kp.refl _)
 rintro vs w577 k577 ⟨e578, -⟩
 replace k577 : Kp [] w235 w577 := k577
 refine WO.haves (fr' := [(126, undef)]) ⟨⟨_, rfl, e578⟩, trivial⟩ ?_
 refine WO.offU rfl rfl rfl ?_
 refine WO.nil ?_
 exact WX.stepDone rfl rfl (Kp.refl _)
 rintro vs w579 k579 ⟨e580, -⟩
 replace k579 : Kp [] w235 w579 := k579
 refine WO.haves (fr' := [(126, undef)]) ⟨⟨_, rfl, e580⟩, trivial⟩ ?_
 refine WO.offU rfl rfl rfl ?_
 refine WO.nil ?_
 exact WX.stepDone rfl rfl (Kp.refl _)
 rintro vs w581 k581 ⟨e582, -⟩
 replace k581 : Kp [] w235 w581 := k581
 refine WO.haves (fr' := [(126, undef)]) ⟨⟨_, rfl, e582⟩, trivial⟩ ?_
 refine WO.offU rfl rfl rfl ?_
 refine WO.nil ?_
 exact WX.stepDone rfl rfl (Kp.refl _)
 rintro vs w583 k583 ⟨e584, -⟩
 replace k583 : Kp [] w235 w583 := k583
 refine WO.haves (fr' := [(126, undef), (9, (.pointer (some ⟨w225.heap.size, 0, none⟩)))]) ⟨⟨_, rfl, e584⟩, ⟨_, rfl, rfl⟩, trivial⟩ ?_
 refine WO.offU rfl rfl rfl ?_
 refine WO.nil ?_
 exact WX.stepDone rfl rfl (Kp.refl _)
 rintro vs w585 k585 ⟨e586, -⟩
 replace k585 : Kp [] w235 w585 := k585
 refine WO.haves (fr' := [(126, undef)]) ⟨⟨_, rfl, e586⟩, trivial⟩ ?_
 refine WO.offU rfl rfl rfl ?_
 refine WO.nil ?_
 exact WX.stepDone rfl rfl (Kp.refl _)
 rintro vs w587 k587 ⟨e588, -⟩
 replace k587 : Kp [] w235 w587 := k587
 refine WO.haves (fr' := [(126, undef)]) ⟨⟨_, rfl, e588⟩, trivial⟩ ?_
 refine WO.offU rfl rfl rfl ?_
 refine WO.nil ?_
 exact WX.stepDone rfl rfl (Kp.refl _)
 rintro vs w589 k589 ⟨e590, -⟩
 replace k589 : Kp [] w235 w589 := k589
 refine WO.haves (fr' := [(123, (.bool false))]) ⟨⟨_, rfl, e590⟩, trivial⟩ ?_
 refine WO.off rfl rfl rfl rfl ?_
 refine WO.nil ?_
 exact WX.stepDone rfl rfl (Kp.refl _)
 rintro vs w591 k591 ⟨e592, -⟩
 replace k591 : Kp [] w235 w591 := k591
 refine WO.haves (fr' := [(123, (.bool false))]) ⟨⟨_, rfl, e592⟩, trivial⟩ ?_
 refine WO.v (R.pickF rfl rfl rfl) rfl ?_
 refine WO.nil ?_
 exact WX.stepDone rfl rfl (Kp.refl _)
 rintro vs w593 k593 ⟨-, -, -, -, -, -, -, -, -, -, -, -, -, -, -, -, -, -, -, -, -, -, -, -, -, -, e620, -⟩
 replace k593 : Kp [] w235 w593 := k593
 have z593 : w235.heap.size ≤ w593.heap.size := k593.size
 have b593 := old_kp0 b235 k593
 have y593 : w.heap.size ≤ w593.heap.size := b593.size
 refine WO.haves (fr' := [(138, (.bool false)), (0, (.agg #[(.int .i64 s.version), (.int .i64 s.next), (.int .i64 s.keep), (.int .i64 s.quota), (.slice a5 s.sess.length c6), (.slice a8 s.opens.length c9), (.slice a11 s.snaps.length c12)])), (1, (.int .i64 v)), (2, (.pointer (some ⟨w.heap.size, 0, none⟩))), (4, (.int .i64 (0 : Int))), (5, (.bool (((((ok0F s v) && pairF sessOk Sess.client 8 (s.sess.take k))) && pairF openOk Opn.set 8 (s.opens.take k2))))), (6, (.int .i64 ((k : Nat) : Int))), (8, (.int .i64 ((k2 : Nat) : Int))), (9, (.pointer (some ⟨w225.heap.size, 0, none⟩))), (14, (.bool (!((decide (((1 : Int)) ≤ (v))) && (decide ((v) ≤ ((3 : Int)))))))), (52, (.bool (decide (((k : Nat) : Int) < ((s.sess.length : Nat) : Int))))), (104, (.bool (decide (((k2 : Nat) : Int) < ((s.opens.length : Nat) : Int)))))]) ⟨⟨_, rfl, e620⟩, ⟨_, rfl, rfl⟩, ⟨_, rfl, rfl⟩, ⟨_, rfl, rfl⟩, ⟨_, rfl, rfl⟩, ⟨_, rfl, rfl⟩, ⟨_, rfl, rfl⟩, ⟨_, rfl, rfl⟩, ⟨_, rfl, rfl⟩, ⟨_, rfl, rfl⟩, ⟨_, rfl, rfl⟩, ⟨_, rfl, rfl⟩, trivial⟩ ?_
 refine WO.v (R.assign rfl) rfl ?_
 refine WO.nil ?_
 refine WX.sel [0, 1, 2, 4, 5, 6, 8, 9, 14, 52, 104] rfl ?_
 refine WX.blkNormal ?_
 refine WX.next ?_
 refine WC.region ?_
 refine WO.v (R.move rfl) rfl ?_
 refine WO.v (R.inc rfl (by omega)) rfl ?_
 refine WO.v (R.assign rfl) rfl ?_
 refine WO.nil ?_
 refine WX.sel [0, 1, 2, 4, 5, 6, 8, 9, 14, 52, 104] rfl ?_
 exact WX.loopNextK [0, 1, 2, 4, 6, 14, 52] (k2 + 1) rfl ⟨⟨_, rfl, rfl⟩, ⟨_, rfl, vb (by first | (rw [open_step hx228, hb236]; rfl) | (rw [open_step hx228, hb236, hb237]; rfl) | (rw [open_step hx228, hb236, hb237, lastK_at (key := Opn.set) (a := 0) (by omega) ‹s.opens[k2 - 1]? = some _›]; rfl))⟩, trivial⟩ ⟨((((Kp.refl _).step k225 (by simp)).step n234.kp (by simp)).step k235 (mem1 (.inr (by omega)))).step k593 (by simp), by omega⟩ (by show (s.opens.length - (k2 + 1)) < (s.opens.length - k2); omega)
 have phb236 : (((((ok0F s v) && pairF sessOk Sess.client 8 (s.sess.take k))) && pairF openOk Opn.set 8 (s.opens.take k2))) = false := hb236
 refine WC.draw' mixed_orders [.ex [] (.bool (((((ok0F s v) && pairF sessOk Sess.client 8 (s.sess.take k))) && pairF openOk Opn.set 8 (s.opens.take k2)))), .ex [0] (.bool false), .ex [1] undef, .ex [1] undef, .ex [1] undef, .ex [1] (.bool false), .ex [5] (.bool false), .ex [6] undef, .ex [6] undef, .ex [6] undef, .ex [6] (.bool false), .ex [10] (.bool false), .ex [11] undef, .ex [11] undef, .ex [11] undef, .ex [14] undef, .ex [14] undef, .ex [14] undef, .ex [14] undef, .ex [14] undef, .ex [14] undef, .ex [14] undef, .ex [14] undef, .ex [14] undef, .ex [14] undef, .ex [11] undef, .ex [11] (.bool false)] 27 (by kernel_rfl) ⟨fun _ _ _ h _ => h, fun _ _ _ h _ => h, fun _ _ _ h _ => h, fun _ _ _ h _ => h, fun _ _ _ h _ => h, fun _ _ _ h _ => h, fun _ _ _ h _ => h, fun _ _ _ h _ => h, fun _ _ _ h _ => h, fun _ _ _ h _ => h, fun _ _ _ h _ => h, fun _ _ _ h _ => h, fun _ _ _ h _ => h, fun _ _ _ h _ => h, fun _ _ _ h _ => h, fun _ _ _ h _ => h, fun _ _ _ h _ => h, fun _ _ _ h _ => h, fun _ _ _ h _ => h, fun _ _ _ h _ => h, fun _ _ _ h _ => h, fun _ _ _ h _ => h, fun _ _ _ h _ => h, fun _ _ _ h _ => h, fun _ _ _ h _ => h, fun _ _ _ h _ => h, fun _ _ _ h _ => h, trivial⟩ ⟨?_, ?_, ?_, ?_, ?_, ?_, ?_, ?_, ?_, ?_, ?_, ?_, ?_, ?_, ?_, ?_, ?_, ?_, ?_, ?_, ?_, ?_, ?_, ?_, ?_, ?_, ?_, trivial⟩ ?_
 rintro vs w621 k621 ⟨-⟩
 replace k621 : Kp [] w235 w621 := k621
 refine WO.haves (fr' := [(5, (.bool (((((ok0F s v) && pairF sessOk Sess.client 8 (s.sess.take k))) && pairF openOk Opn.set 8 (s.opens.take k2)))))]) ⟨⟨_, rfl, rfl⟩, trivial⟩ ?_
 refine WO.v (R.move rfl) rfl ?_
 refine WO.nil ?_
 exact WX.stepDone rfl rfl (Kp.refl _)
 rintro vs w622 k622 ⟨e623, -⟩
 replace k622 : Kp [] w235 w622 := k622
 refine WO.haves (fr' := [(112, (.bool (((((ok0F s v) && pairF sessOk Sess.client 8 (s.sess.take k))) && pairF openOk Opn.set 8 (s.opens.take k2)))))]) ⟨⟨_, rfl, e623⟩, trivial⟩ ?_
 refine WO.v (R.move rfl) rfl ?_
 refine WO.nil ?_
 exact WX.stepDone rfl (vb hb236) (Kp.refl _)
 rintro vs w624 k624 ⟨e625, -⟩
 replace k624 : Kp [] w235 w624 := k624
 refine WO.haves (fr' := [(113, (.bool false)), (9, (.pointer (some ⟨w225.heap.size, 0, none⟩)))]) ⟨⟨_, rfl, e625⟩, ⟨_, rfl, rfl⟩, trivial⟩ ?_
 refine WO.off rfl rfl rfl rfl ?_
 refine WO.nil ?_
 exact WX.stepDone rfl rfl (Kp.refl _)
 rintro vs w626 k626 ⟨e627, -⟩
 replace k626 : Kp [] w235 w626 := k626
 refine WO.haves (fr' := [(113, (.bool false))]) ⟨⟨_, rfl, e627⟩, trivial⟩ ?_
 refine WO.off rfl rfl rfl rfl ?_
 refine WO.nil ?_
 exact WX.stepDone rfl rfl (Kp.refl _)
 rintro vs w628 k628 ⟨e629, -⟩
 replace k628 : Kp [] w235 w628 := k628
 refine WO.haves (fr' := [(113, (.bool false))]) ⟨⟨_, rfl, e629⟩, trivial⟩ ?_
 refine WO.off rfl rfl rfl rfl ?_
 refine WO.nil ?_
 exact WX.stepDone rfl rfl (Kp.refl _)
 rintro vs w630 k630 ⟨e631, -⟩
 replace k630 : Kp [] w235 w630 := k630
 refine WO.haves (fr' := [(113, (.bool false))]) ⟨⟨_, rfl, e631⟩, trivial⟩ ?_
 refine WO.v (R.pickF rfl rfl rfl) rfl ?_
 refine WO.nil ?_
 exact WX.stepDone rfl rfl (Kp.refl _)
 rintro vs w632 k632 ⟨e633, -⟩
 replace k632 : Kp [] w235 w632 := k632
 refine WO.haves (fr' := [(117, (.bool false))]) ⟨⟨_, rfl, e633⟩, trivial⟩ ?_
 refine WO.v (R.move rfl) rfl ?_
 refine WO.nil ?_
 exact WX.stepDone rfl rfl (Kp.refl _)
 rintro vs w634 k634 ⟨e635, -⟩
 replace k634 : Kp [] w235 w634 := k634
 refine WO.haves (fr' := [(118, (.bool false)), (9, (.pointer (some ⟨w225.heap.size, 0, none⟩)))]) ⟨⟨_, rfl, e635⟩, ⟨_, rfl, rfl⟩, trivial⟩ ?_
 refine WO.off rfl rfl rfl rfl ?_
 refine WO.nil ?_
 exact WX.stepDone rfl rfl (Kp.refl _)
 rintro vs w636 k636 ⟨e637, -⟩
 replace k636 : Kp [] w235 w636 := k636
 refine WO.haves (fr' := [(118, (.bool false))]) ⟨⟨_, rfl, e637⟩, trivial⟩ ?_
 refine WO.off rfl rfl rfl rfl ?_
 refine WO.nil ?_
 exact WX.stepDone rfl rfl (Kp.refl _)
 rintro vs w638 k638 ⟨e639, -⟩
 replace k638 : Kp [] w235 w638 := k638
 refine WO.haves (fr' := [(118, (.bool false))]) ⟨⟨_, rfl, e639⟩, trivial⟩ ?_
 refine WO.off rfl rfl rfl rfl ?_
 refine WO.nil ?_
 exact WX.stepDone rfl rfl (Kp.refl _)
 rintro vs w640 k640 ⟨e641, -⟩
 replace k640 : Kp [] w235 w640 := k640
 refine WO.haves (fr' := [(118, (.bool false))]) ⟨⟨_, rfl, e641⟩, trivial⟩ ?_
 refine WO.v (R.pickF rfl rfl rfl) rfl ?_
 refine WO.nil ?_
 exact WX.stepDone rfl rfl (Kp.refl _)
 rintro vs w642 k642 ⟨e643, -⟩
 replace k642 : Kp [] w235 w642 := k642
 refine WO.haves (fr' := [(122, (.bool false))]) ⟨⟨_, rfl, e643⟩, trivial⟩ ?_
 refine WO.v (R.move rfl) rfl ?_
 refine WO.nil ?_
 exact WX.stepDone rfl rfl (Kp.refl _)
 rintro vs w644 k644 ⟨e645, -⟩
 replace k644 : Kp [] w235 w644 := k644
 refine WO.haves (fr' := [(123, (.bool false)), (8, (.int .i64 ((k2 : Nat) : Int)))]) ⟨⟨_, rfl, e645⟩, ⟨_, rfl, rfl⟩, trivial⟩ ?_
 refine WO.off rfl rfl rfl rfl ?_
 refine WO.nil ?_
 exact WX.stepDone rfl rfl (Kp.refl _)
 rintro vs w646 k646 ⟨e647, -⟩
 replace k646 : Kp [] w235 w646 := k646
 refine WO.haves (fr' := [(123, (.bool false))]) ⟨⟨_, rfl, e647⟩, trivial⟩ ?_
 refine WO.off rfl rfl rfl rfl ?_
 refine WO.nil ?_
 exact WX.stepDone rfl rfl (Kp.refl _)
 rintro vs w648 k648 ⟨e649, -⟩
 replace k648 : Kp [] w235 w648 := k648
 refine WO.haves (fr' := [(123, (.bool false))]) ⟨⟨_, rfl, e649⟩, trivial⟩ ?_
 refine WO.off rfl rfl rfl rfl ?_
 refine WO.nil ?_
 exact WX.stepDone rfl rfl (Kp.refl _)
 rintro vs w650 k650 ⟨e651, -⟩
 replace k650 : Kp [] w235 w650 := k650
 refine WO.haves (fr' := [(126, undef), (2, (.pointer (some ⟨w.heap.size, 0, none⟩)))]) ⟨⟨_, rfl, e651⟩, ⟨_, rfl, rfl⟩, trivial⟩ ?_
 refine WO.offU rfl rfl rfl ?_
 refine WO.nil ?_
 exact WX.stepDone rfl rfl (Kp.refl _)
 rintro vs w652 k652 ⟨e653, -⟩
 replace k652 : Kp [] w235 w652 := k652
 refine WO.haves (fr' := [(126, undef)]) ⟨⟨_, rfl, e653⟩, trivial⟩ ?_
 refine WO.offU rfl rfl rfl ?_
 refine WO.nil ?_
 exact WX.stepDone rfl rfl (Kp.refl _)
 rintro vs w654 k654 ⟨e655, -⟩
 replace k654 : Kp [] w235 w654 := k654
 refine WO.haves (fr' := [(126, undef), (8, (.int .i64 ((k2 : Nat) : Int)))]) ⟨⟨_, rfl, e655⟩, ⟨_, rfl, rfl⟩, trivial⟩ ?_
 refine WO.offU rfl rfl rfl ?_
 refine WO.nil ?_
 exact WX.stepDone rfl rfl (Kp.refl _)
 rintro vs w656 k656 ⟨e657, -⟩
 replace k656 : Kp [] w235 w656 := k656
 refine WO.haves (fr' := [(126, undef)]) ⟨⟨_, rfl, e657⟩, trivial⟩ ?_
 refine WO.offU rfl rfl rfl ?_
 refine WO.nil ?_
 exact WX.stepDone rfl rfl (Kp.refl _)
 rintro vs w658 k658 ⟨e659, -⟩
 replace k658 : Kp [] w235 w658 := k658
 refine WO.haves (fr' := [(126, undef)]) ⟨⟨_, rfl, e659⟩, trivial⟩ ?_
 refine WO.offU rfl rfl rfl ?_
 refine WO.nil ?_
 exact WX.stepDone rfl rfl (Kp.refl _)
 rintro vs w660 k660 ⟨e661, -⟩
 replace k660 : Kp [] w235 w660 := k660
 refine WO.haves (fr' := [(126, undef)]) ⟨⟨_, rfl, e661⟩, trivial⟩ ?_
 refine WO.offU rfl rfl rfl ?_
 refine WO.nil ?_
 exact WX.stepDone rfl rfl (Kp.refl _)
 rintro vs w662 k662 ⟨e663, -⟩
 replace k662 : Kp [] w235 w662 := k662
 refine WO.haves (fr' := [(126, undef)]) ⟨⟨_, rfl, e663⟩, trivial⟩ ?_
 refine WO.offU rfl rfl rfl ?_
 refine WO.nil ?_
 exact WX.stepDone rfl rfl (Kp.refl _)
 rintro vs w664 k664 ⟨e665, -⟩
 replace k664 : Kp [] w235 w664 := k664
 refine WO.haves (fr' := [(126, undef), (9, (.pointer (some ⟨w225.heap.size, 0, none⟩)))]) ⟨⟨_, rfl, e665⟩, ⟨_, rfl, rfl⟩, trivial⟩ ?_
 refine WO.offU rfl rfl rfl ?_
 refine WO.nil ?_
 exact WX.stepDone rfl rfl (Kp.refl _)
 rintro vs w666 k666 ⟨e667, -⟩
 replace k666 : Kp [] w235 w666 := k666
 refine WO.haves (fr' := [(126, undef)]) ⟨⟨_, rfl, e667⟩, trivial⟩ ?_
 refine WO.offU rfl rfl rfl ?_
 refine WO.nil ?_
 exact WX.stepDone rfl rfl (Kp.refl _)
 rintro vs w668 k668 ⟨e669, -⟩
 replace k668 : Kp [] w235 w668 := k668
 refine WO.haves (fr' := [(126, undef)]) ⟨⟨_, rfl, e669⟩, trivial⟩ ?_
 refine WO.offU rfl rfl rfl ?_
 refine WO.nil ?_
 exact WX.stepDone rfl rfl (Kp.refl _)
 rintro vs w670 k670 ⟨e671, -⟩
 replace k670 : Kp [] w235 w670 := k670
 refine WO.haves (fr' := [(123, (.bool false))]) ⟨⟨_, rfl, e671⟩, trivial⟩ ?_
 refine WO.off rfl rfl rfl rfl ?_
 refine WO.nil ?_
 exact WX.stepDone rfl rfl (Kp.refl _)
 rintro vs w672 k672 ⟨e673, -⟩
 replace k672 : Kp [] w235 w672 := k672
 refine WO.haves (fr' := [(123, (.bool false))]) ⟨⟨_, rfl, e673⟩, trivial⟩ ?_
 refine WO.v (R.pickF rfl rfl rfl) rfl ?_
 refine WO.nil ?_
 exact WX.stepDone rfl rfl (Kp.refl _)
 rintro vs w674 k674 ⟨-, -, -, -, -, -, -, -, -, -, -, -, -, -, -, -, -, -, -, -, -, -, -, -, -, -, e701, -⟩
 replace k674 : Kp [] w235 w674 := k674
 have z674 : w235.heap.size ≤ w674.heap.size := k674.size
 have b674 := old_kp0 b235 k674
 have y674 : w.heap.size ≤ w674.heap.size := b674.size
 refine WO.haves (fr' := [(138, (.bool false)), (0, (.agg #[(.int .i64 s.version), (.int .i64 s.next), (.int .i64 s.keep), (.int .i64 s.quota), (.slice a5 s.sess.length c6), (.slice a8 s.opens.length c9), (.slice a11 s.snaps.length c12)])), (1, (.int .i64 v)), (2, (.pointer (some ⟨w.heap.size, 0, none⟩))), (4, (.int .i64 (0 : Int))), (5, (.bool (((((ok0F s v) && pairF sessOk Sess.client 8 (s.sess.take k))) && pairF openOk Opn.set 8 (s.opens.take k2))))), (6, (.int .i64 ((k : Nat) : Int))), (8, (.int .i64 ((k2 : Nat) : Int))), (9, (.pointer (some ⟨w225.heap.size, 0, none⟩))), (14, (.bool (!((decide (((1 : Int)) ≤ (v))) && (decide ((v) ≤ ((3 : Int)))))))), (52, (.bool (decide (((k : Nat) : Int) < ((s.sess.length : Nat) : Int))))), (104, (.bool (decide (((k2 : Nat) : Int) < ((s.opens.length : Nat) : Int)))))]) ⟨⟨_, rfl, e701⟩, ⟨_, rfl, rfl⟩, ⟨_, rfl, rfl⟩, ⟨_, rfl, rfl⟩, ⟨_, rfl, rfl⟩, ⟨_, rfl, rfl⟩, ⟨_, rfl, rfl⟩, ⟨_, rfl, rfl⟩, ⟨_, rfl, rfl⟩, ⟨_, rfl, rfl⟩, ⟨_, rfl, rfl⟩, ⟨_, rfl, rfl⟩, trivial⟩ ?_
 refine WO.v (R.assign rfl) rfl ?_
 refine WO.nil ?_
 refine WX.sel [0, 1, 2, 4, 5, 6, 8, 9, 14, 52, 104] rfl ?_
 refine WX.blkNormal ?_
 refine WX.next ?_
 refine WC.region ?_
 refine WO.v (R.move rfl) rfl ?_
 refine WO.v (R.inc rfl (by omega)) rfl ?_
 refine WO.v (R.assign rfl) rfl ?_
 refine WO.nil ?_
 refine WX.sel [0, 1, 2, 4, 5, 6, 8, 9, 14, 52, 104] rfl ?_
 exact WX.loopNextK [0, 1, 2, 4, 6, 14, 52] (k2 + 1) rfl ⟨⟨_, rfl, rfl⟩, ⟨_, rfl, vb (by first | (rw [open_step hx228, hb236]; rfl) | (rw [open_step hx228, hb236, lastK_at (key := Opn.set) (a := 0) (by omega) ‹s.opens[k2 - 1]? = some _›]; rfl))⟩, trivial⟩ ⟨((((Kp.refl _).step k225 (by simp)).step n234.kp (by simp)).step k235 (mem1 (.inr (by omega)))).step k674 (by simp), by omega⟩ (by show (s.opens.length - (k2 + 1)) < (s.opens.length - k2); omega)
 have p227 : ¬ (((k2 : Nat) : Int) < ((s.opens.length : Nat) : Int)) := of_decide_eq_false q227
 refine WC.exit ?_
 refine WX.thenExit ?_
 refine WX.loopExit ?_
 refine WX.blkHit ?_
 refine WX.next ?_
 refine WC.seq ?_
 refine WC.seq ?_
 refine WC.region ?_
 refine WO.v (R.assign rfl) rfl ?_
 refine WO.nil ?_
 refine WX.sel [0, 1, 2, 4, 5, 6, 8, 10, 14, 52, 104] rfl ?_
 refine WX.next ?_
 refine WC.block ?_
 refine WC.loopK [0, 1, 2, 4, 6, 8, 14, 52, 104] rfl (fun zz : Nat => [(10, (.int .i64 (((zz) : Nat) : Int))), (5, (.bool (((((((ok0F s v) && pairF sessOk Sess.client 8 (s.sess.take k))) && pairF openOk Opn.set 8 (s.opens.take k2))) && nairF s v (s.snaps.take (zz))))))]) (fun (zz : Nat) (w' : World) => (Kp [] w225 w') ∧ ((zz) ≤ s.snaps.length)) (fun zz => s.snaps.length - (zz)) (0) ?_ ?_ ?_
 exact ⟨⟨_, rfl, rfl⟩, ⟨_, rfl, vb (by show _ = (_ && true); rw [Bool.and_true])⟩, trivial⟩
 exact ⟨Kp.refl _, Nat.zero_le _⟩
 rintro k3 w702 ⟨k702, hk3⟩
 try dsimp only at hk3
 have z702 : w225.heap.size ≤ w702.heap.size := k702.size
 have b702 := old_kp0 b225 k702
 have y702 : w.heap.size ≤ w702.heap.size := b702.size
 refine (?_ : WC _ _ _ _ ([(10, (.int .i64 ((k3 : Nat) : Int))), (5, (.bool (((((((ok0F s v) && pairF sessOk Sess.client 8 (s.sess.take k))) && pairF openOk Opn.set 8 (s.opens.take k2))) && nairF s v (s.snaps.take k3)))))] ++ _) w702)
 refine WC.seq ?_
 refine WC.seq ?_
 refine WC.region ?_
 refine WO.v (R.move rfl) rfl ?_
 refine WO.v (fa34_6 rfl) rfl ?_
 have B703 := (B226).kp0 k702
 refine WO.v (R.loadB rfl B703 rfl Try.underlying32 rfl) rfl ?_
 refine WO.v (R.len rfl Try.underlying32) rfl ?_
 refine WO.v (R.lss rfl rfl) rfl ?_
 refine WO.nil ?_
 refine WX.sel [0, 1, 2, 4, 5, 6, 8, 10, 14, 52, 104, 143] rfl ?_
 refine WX.next ?_
 refine WC.cond rfl (fun q704 => ?_) (fun q704 => ?_)
 have p704 : ((k3 : Nat) : Int) < ((s.snaps.length : Nat) : Int) := of_decide_eq_true q704
 refine WC.skip ?_
 refine WX.next ?_
 refine WC.seq ?_
 refine WC.block ?_
 refine WC.seq ?_
 refine WC.sel [0, 1, 2, 4, 5, 6, 8, 10, 14, 52, 104, 143] rfl ?_
 obtain ⟨x705, hx705⟩ := get_ex (xs := s.snaps) (i := k3) (by omega)
 obtain ⟨A706, cs707, hA706, loA706, hiA706, ccA706, r708⟩ := (sl_old s13 b702).at_ hx705
 obtain ⟨a711, c712, rfl, i709, i710, s713, i714⟩ := Snap.el r708
 have ls713 : (x705.chunks).length * 8 ≤ 140737488355328 := s713.lenle
 refine WC.draw' mixed_orders [.ex [] (.pointer (some ⟨w.heap.size, 6, none⟩)), .ex [0] (.slice a11 s.snaps.length c12), .ex [] (.int .i64 ((k3 : Nat) : Int)), .ex [1, 2] (.pointer (some (A706.add (k3 * 5)))), .ex [3] (.agg #[(.int .i64 x705.id), (.int .i64 x705.set), (.slice a711 x705.chunks.length c712), (.bool (x705.held)), x705.tag.val]), .ex [] (.pointer (some ⟨w.heap.size, 1, none⟩)), .ex [5] (.int .i64 s.next), .ex [] (.int .i64 v), .ex [4, 6, 7] (.bool (snapR (s.next) (v) (x705))), .ex [8] (.bool (snapR (s.next) (v) (x705)))] 10 (by kernel_rfl) ⟨fun _ _ _ h _ => h, fun _ _ _ h _ => h, fun _ _ _ h _ => h, fun _ _ _ h _ => h, fun _ _ _ h _ => h, fun _ _ _ h _ => h, fun _ _ _ h _ => h, fun _ _ _ h _ => h, fun _ _ _ h _ => h, fun _ _ _ h _ => h, trivial⟩ ⟨?_, ?_, ?_, ?_, ?_, ?_, ?_, ?_, ?_, ?_, trivial⟩ ?_
 rintro vs w716 k716 ⟨-⟩
 replace k716 : Kp [] w702 w716 := k716
 refine WO.haves (fr' := [(2, (.pointer (some ⟨w.heap.size, 0, none⟩)))]) ⟨⟨_, rfl, rfl⟩, trivial⟩ ?_
 refine WO.v (fa34_6 rfl) rfl ?_
 refine WO.nil ?_
 exact WX.stepDone rfl rfl (Kp.refl _)
 rintro vs w717 k717 ⟨e718, -⟩
 replace k717 : Kp [] w702 w717 := k717
 have z717 : w702.heap.size ≤ w717.heap.size := k717.size
 have b717 := old_kp0 b702 k717
 have y717 : w.heap.size ≤ w717.heap.size := b717.size
 refine WO.haves (fr' := [(146, (.pointer (some ⟨w.heap.size, 6, none⟩)))]) ⟨⟨_, rfl, e718⟩, trivial⟩ ?_
 have B719 := (B703).kp0 k717
 refine WO.v (R.loadB rfl B719 rfl Try.underlying32 rfl) rfl ?_
 refine WO.nil ?_
 exact WX.stepDone rfl rfl (Kp.refl _)
 rintro vs w720 k720 ⟨-⟩
 replace k720 : Kp [] w702 w720 := k720
 refine WO.haves (fr' := [(10, (.int .i64 ((k3 : Nat) : Int)))]) ⟨⟨_, rfl, rfl⟩, trivial⟩ ?_
 refine WO.v (R.move rfl) rfl ?_
 refine WO.nil ?_
 exact WX.stepDone rfl rfl (Kp.refl _)
 rintro vs w721 k721 ⟨e722, e723, -⟩
 replace k721 : Kp [] w702 w721 := k721
 refine WO.haves (fr' := [(147, (.slice a11 s.snaps.length c12)), (148, (.int .i64 ((k3 : Nat) : Int)))]) ⟨⟨_, rfl, e722⟩, ⟨_, rfl, e723⟩, trivial⟩ ?_
 refine WO.v (R.indexAddrN rfl rfl Try.underlying32 sz46 hA706 (by omega)) rfl ?_
 refine WO.nil ?_
 exact WX.stepDone rfl rfl (Kp.refl _)
 rintro vs w724 k724 ⟨e725, -⟩
 replace k724 : Kp [] w702 w724 := k724
 have z724 : w702.heap.size ≤ w724.heap.size := k724.size
 have b724 := old_kp0 b702 k724
 have y724 : w.heap.size ≤ w724.heap.size := b724.size
 refine WO.haves (fr' := [(149, (.pointer (some (A706.add (k3 * 5)))))]) ⟨⟨_, rfl, e725⟩, trivial⟩ ?_
 refine WO.v (R.loadN (cs := [_, _, _, _, _]) rfl Try.underlying46 rfl sz46 ((ccA706).kpA k724 (by omega) (by simp))) rfl ?_
 refine WO.nil ?_
 exact WX.stepDone rfl rfl (Kp.refl _)
 rintro vs w726 k726 ⟨-⟩
 replace k726 : Kp [] w702 w726 := k726
 refine WO.haves (fr' := [(2, (.pointer (some ⟨w.heap.size, 0, none⟩)))]) ⟨⟨_, rfl, rfl⟩, trivial⟩ ?_
 refine WO.v (fa34_1 rfl) rfl ?_
 refine WO.nil ?_
 exact WX.stepDone rfl rfl (Kp.refl _)
 rintro vs w727 k727 ⟨e728, -⟩
 replace k727 : Kp [] w702 w727 := k727
 have z727 : w702.heap.size ≤ w727.heap.size := k727.size
 have b727 := old_kp0 b702 k727
 have y727 : w.heap.size ≤ w727.heap.size := b727.size
 refine WO.haves (fr' := [(151, (.pointer (some ⟨w.heap.size, 1, none⟩)))]) ⟨⟨_, rfl, e728⟩, trivial⟩ ?_
 have B729 := (B703).kp0 k727
 refine WO.v (R.loadB rfl B729 rfl Try.underlying3 rfl) rfl ?_
 refine WO.nil ?_
 exact WX.stepDone rfl rfl (Kp.refl _)
 rintro vs w730 k730 ⟨-⟩
 replace k730 : Kp [] w702 w730 := k730
 refine WO.haves (fr' := [(1, (.int .i64 v))]) ⟨⟨_, rfl, rfl⟩, trivial⟩ ?_
 refine WO.v (R.move rfl) rfl ?_
 refine WO.nil ?_
 exact WX.stepDone rfl rfl (Kp.refl _)
 rintro vs w731 k731 ⟨e732, e733, e734, -⟩
 replace k731 : Kp [] w702 w731 := k731
 have z731 : w702.heap.size ≤ w731.heap.size := k731.size
 have b731 := old_kp0 b702 k731
 have y731 : w.heap.size ≤ w731.heap.size := b731.size
 refine WO.haves (fr' := [(150, (.agg #[(.int .i64 x705.id), (.int .i64 x705.set), (.slice a711 x705.chunks.length c712), (.bool (x705.held)), x705.tag.val])), (152, (.int .i64 s.next)), (153, (.int .i64 v))]) ⟨⟨_, rfl, e732⟩, ⟨_, rfl, e733⟩, ⟨_, rfl, e734⟩, trivial⟩ ?_
 refine WO.c (E.call rfl rfl Try.func29 rfl rfl) (snap7_s (next := s.next) (v := v) (x := x705) (Snap.mk_ (i709) (i710) ((sl_kp0 (s713) k731 (by omega)).mono (lo' := 0) (hi' := w731.heap.size) (Nat.zero_le _) (by omega)) i714)) rfl ?_
 rintro _ w735 ⟨rfl, k735⟩
 have z735 : w731.heap.size ≤ w735.heap.size := k735.size
 have b735 := old_kp0 b731 k735
 have y735 : w.heap.size ≤ w735.heap.size := b735.size
 refine WO.nil ?_
 exact WX.stepDone rfl rfl ((Kp.refl _).step k735 (by simp))
 rintro vs w736 k736 ⟨e737, -⟩
 replace k736 : Kp [] w702 w736 := k736
 have z736 : w702.heap.size ≤ w736.heap.size := k736.size
 have b736 := old_kp0 b702 k736
 have y736 : w.heap.size ≤ w736.heap.size := b736.size
 refine WO.haves (fr' := [(154, (.bool (snapR (s.next) (v) (x705))))]) ⟨⟨_, rfl, e737⟩, trivial⟩ ?_
 refine WO.v (R.assign rfl) rfl ?_
 refine WO.nil ?_
 exact WX.stepDone rfl rfl (Kp.refl _)
 rintro vs w738 k738 ⟨-, -, -, -, -, -, -, -, -, e748, -⟩
 replace k738 : Kp [] w702 w738 := k738
 have z738 : w702.heap.size ≤ w738.heap.size := k738.size
 have b738 := old_kp0 b702 k738
 have y738 : w.heap.size ≤ w738.heap.size := b738.size
 refine WO.haves (fr' := [(11, (.bool (snapR (s.next) (v) (x705)))), (0, (.agg #[(.int .i64 s.version), (.int .i64 s.next), (.int .i64 s.keep), (.int .i64 s.quota), (.slice a5 s.sess.length c6), (.slice a8 s.opens.length c9), (.slice a11 s.snaps.length c12)])), (1, (.int .i64 v)), (2, (.pointer (some ⟨w.heap.size, 0, none⟩))), (4, (.int .i64 (0 : Int))), (5, (.bool (((((((ok0F s v) && pairF sessOk Sess.client 8 (s.sess.take k))) && pairF openOk Opn.set 8 (s.opens.take k2))) && nairF s v (s.snaps.take k3))))), (6, (.int .i64 ((k : Nat) : Int))), (8, (.int .i64 ((k2 : Nat) : Int))), (10, (.int .i64 ((k3 : Nat) : Int))), (14, (.bool (!((decide (((1 : Int)) ≤ (v))) && (decide ((v) ≤ ((3 : Int)))))))), (52, (.bool (decide (((k : Nat) : Int) < ((s.sess.length : Nat) : Int))))), (104, (.bool (decide (((k2 : Nat) : Int) < ((s.opens.length : Nat) : Int))))), (143, (.bool (decide (((k3 : Nat) : Int) < ((s.snaps.length : Nat) : Int)))))]) ⟨⟨_, rfl, e748⟩, ⟨_, rfl, rfl⟩, ⟨_, rfl, rfl⟩, ⟨_, rfl, rfl⟩, ⟨_, rfl, rfl⟩, ⟨_, rfl, rfl⟩, ⟨_, rfl, rfl⟩, ⟨_, rfl, rfl⟩, ⟨_, rfl, rfl⟩, ⟨_, rfl, rfl⟩, ⟨_, rfl, rfl⟩, ⟨_, rfl, rfl⟩, ⟨_, rfl, rfl⟩, trivial⟩ ?_
 refine WO.nil ?_
 refine WX.sel [0, 1, 2, 4, 5, 6, 8, 10, 11, 14, 52, 104, 143] rfl ?_
 refine WX.next ?_
 refine WC.sel [0, 1, 2, 4, 5, 6, 8, 10, 11, 14, 52, 104, 143] rfl ?_
 rcases Bool.eq_false_or_eq_true (((((((ok0F s v) && pairF sessOk Sess.client 8 (s.sess.take k))) && pairF openOk Opn.set 8 (s.opens.take k2))) && nairF s v (s.snaps.take k3))) with hb749 | hb749
 have phb749 : (((((((ok0F s v) && pairF sessOk Sess.client 8 (s.sess.take k))) && pairF openOk Opn.set 8 (s.opens.take k2))) && nairF s v (s.snaps.take k3))) = true := hb749
 rcases Bool.eq_false_or_eq_true (snapR (s.next) (v) (x705)) with hb750 | hb750
 have phb750 : (snapR (s.next) (v) (x705)) = true := hb750
 rcases Bool.eq_false_or_eq_true (decide (((k3 : Nat) : Int) = (0 : Int))) with hb751 | hb751
 have phb751 : ((k3 : Nat) : Int) = (0 : Int) := of_decide_eq_true hb751
 refine WC.draw' mixed_orders [.ex [] (.bool (((((((ok0F s v) && pairF sessOk Sess.client 8 (s.sess.take k))) && pairF openOk Opn.set 8 (s.opens.take k2))) && nairF s v (s.snaps.take k3)))), .ex [0] (.bool true), .ex [1] (.bool (snapR (s.next) (v) (x705))), .ex [1, 2] (.bool (snapR (s.next) (v) (x705))), .ex [3] (.bool true), .ex [4] (.int .i64 ((k3 : Nat) : Int)), .ex [4, 5] (.bool (decide (((k3 : Nat) : Int) = (0 : Int)))), .ex [4, 6] (.bool true), .ex [7] undef, .ex [7] undef, .ex [7] undef, .ex [7] undef, .ex [7] undef, .ex [7] undef, .ex [7] undef, .ex [7] undef, .ex [7] undef, .ex [7] undef, .ex [7] undef, .ex [7] undef, .ex [7] undef, .ex [7] undef, .ex [4, 7] (.bool true), .ex [4, 22] (.bool true)] 24 (by kernel_rfl) ⟨fun _ _ _ h _ => h, fun _ _ _ h _ => h, fun _ _ _ h _ => h, fun _ _ _ h _ => h, fun _ _ _ h _ => h, fun _ _ _ h _ => h, fun _ _ _ h _ => h, fun _ _ _ h _ => h, fun _ _ _ h _ => h, fun _ _ _ h _ => h, fun _ _ _ h _ => h, fun _ _ _ h _ => h, fun _ _ _ h _ => h, fun _ _ _ h _ => h, fun _ _ _ h _ => h, fun _ _ _ h _ => h, fun _ _ _ h _ => h, fun _ _ _ h _ => h, fun _ _ _ h _ => h, fun _ _ _ h _ => h, fun _ _ _ h _ => h, fun _ _ _ h _ => h, fun _ _ _ h _ => h, fun _ _ _ h _ => h, trivial⟩ ⟨?_, ?_, ?_, ?_, ?_, ?_, ?_, ?_, ?_, ?_, ?_, ?_, ?_, ?_, ?_, ?_, ?_, ?_, ?_, ?_, ?_, ?_, ?_, ?_, trivial⟩ ?_
 rintro vs w752 k752 ⟨-⟩
 replace k752 : Kp [] w738 w752 := k752
 refine WO.haves (fr' := [(5, (.bool (((((((ok0F s v) && pairF sessOk Sess.client 8 (s.sess.take k))) && pairF openOk Opn.set 8 (s.opens.take k2))) && nairF s v (s.snaps.take k3)))))]) ⟨⟨_, rfl, rfl⟩, trivial⟩ ?_
 refine WO.v (R.move rfl) rfl ?_
 refine WO.nil ?_
 exact WX.stepDone rfl rfl (Kp.refl _)
 rintro vs w753 k753 ⟨e754, -⟩
 replace k753 : Kp [] w738 w753 := k753
 refine WO.haves (fr' := [(155, (.bool (((((((ok0F s v) && pairF sessOk Sess.client 8 (s.sess.take k))) && pairF openOk Opn.set 8 (s.opens.take k2))) && nairF s v (s.snaps.take k3)))))]) ⟨⟨_, rfl, e754⟩, trivial⟩ ?_
 refine WO.v (R.move rfl) rfl ?_
 refine WO.nil ?_
 exact WX.stepDone rfl (vb hb749) (Kp.refl _)
 rintro vs w755 k755 ⟨e756, -⟩
 replace k755 : Kp [] w738 w755 := k755
 refine WO.haves (fr' := [(156, (.bool true)), (11, (.bool (snapR (s.next) (v) (x705))))]) ⟨⟨_, rfl, e756⟩, ⟨_, rfl, rfl⟩, trivial⟩ ?_
 refine WO.on rfl rfl rfl ?_
 refine WO.v (R.move rfl) rfl ?_
 refine WO.nil ?_
 exact WX.stepDone rfl rfl (Kp.refl _)
 rintro vs w757 k757 ⟨e758, e759, -⟩
 replace k757 : Kp [] w738 w757 := k757
 refine WO.haves (fr' := [(156, (.bool true)), (157, (.bool (snapR (s.next) (v) (x705))))]) ⟨⟨_, rfl, e758⟩, ⟨_, rfl, e759⟩, trivial⟩ ?_
 refine WO.v (R.pickT rfl rfl rfl) rfl ?_
 refine WO.nil ?_
 exact WX.stepDone rfl rfl (Kp.refl _)
 rintro vs w760 k760 ⟨e761, -⟩
 replace k760 : Kp [] w738 w760 := k760
 refine WO.haves (fr' := [(158, (.bool (snapR (s.next) (v) (x705))))]) ⟨⟨_, rfl, e761⟩, trivial⟩ ?_
 refine WO.v (R.move rfl) rfl ?_
 refine WO.nil ?_
 exact WX.stepDone rfl (vb hb750) (Kp.refl _)
 rintro vs w762 k762 ⟨e763, -⟩
 replace k762 : Kp [] w738 w762 := k762
 refine WO.haves (fr' := [(159, (.bool true)), (10, (.int .i64 ((k3 : Nat) : Int)))]) ⟨⟨_, rfl, e763⟩, ⟨_, rfl, rfl⟩, trivial⟩ ?_
 refine WO.on rfl rfl rfl ?_
 refine WO.v (R.move rfl) rfl ?_
 refine WO.nil ?_
 exact WX.stepDone rfl rfl (Kp.refl _)
 rintro vs w764 k764 ⟨e765, e766, -⟩
 replace k764 : Kp [] w738 w764 := k764
 refine WO.haves (fr' := [(159, (.bool true)), (160, (.int .i64 ((k3 : Nat) : Int)))]) ⟨⟨_, rfl, e765⟩, ⟨_, rfl, e766⟩, trivial⟩ ?_
 refine WO.on rfl rfl rfl ?_
 refine WO.v (R.eql rfl rfl) rfl ?_
 refine WO.nil ?_
 exact WX.stepDone rfl rfl (Kp.refl _)
 rintro vs w767 k767 ⟨e768, e769, -⟩
 replace k767 : Kp [] w738 w767 := k767
 refine WO.haves (fr' := [(159, (.bool true)), (161, (.bool (decide (((k3 : Nat) : Int) = (0 : Int)))))]) ⟨⟨_, rfl, e768⟩, ⟨_, rfl, e769⟩, trivial⟩ ?_
 refine WO.on rfl rfl rfl ?_
 refine WO.v (R.move rfl) rfl ?_
 refine WO.nil ?_
 exact WX.stepDone rfl (vb hb751) (Kp.refl _)
 rintro vs w770 k770 ⟨e771, -⟩
 replace k770 : Kp [] w738 w770 := k770
 refine WO.haves (fr' := [(162, (.bool true)), (2, (.pointer (some ⟨w.heap.size, 0, none⟩)))]) ⟨⟨_, rfl, e771⟩, ⟨_, rfl, rfl⟩, trivial⟩ ?_
 refine WO.off rfl rfl rfl rfl ?_
 refine WO.nil ?_
 exact WX.stepDone rfl rfl (Kp.refl _)
 rintro vs w772 k772 ⟨e773, -⟩
 replace k772 : Kp [] w738 w772 := k772
 refine WO.haves (fr' := [(162, (.bool true))]) ⟨⟨_, rfl, e773⟩, trivial⟩ ?_
 refine WO.off rfl rfl rfl rfl ?_
 refine WO.nil ?_
 exact WX.stepDone rfl rfl (Kp.refl _)
 rintro vs w774 k774 ⟨e775, -⟩
 replace k774 : Kp [] w738 w774 := k774
 refine WO.haves (fr' := [(162, (.bool true)), (10, (.int .i64 ((k3 : Nat) : Int)))]) ⟨⟨_, rfl, e775⟩, ⟨_, rfl, rfl⟩, trivial⟩ ?_
 refine WO.off rfl rfl rfl rfl ?_
 refine WO.nil ?_
 exact WX.stepDone rfl rfl (Kp.refl _)
 rintro vs w776 k776 ⟨e777, -⟩
 replace k776 : Kp [] w738 w776 := k776
 refine WO.haves (fr' := [(162, (.bool true))]) ⟨⟨_, rfl, e777⟩, trivial⟩ ?_
 refine WO.off rfl rfl rfl rfl ?_
 refine WO.nil ?_
 exact WX.stepDone rfl rfl (Kp.refl _)
 rintro vs w778 k778 ⟨e779, -⟩
 replace k778 : Kp [] w738 w778 := k778
 refine WO.haves (fr' := [(162, (.bool true))]) ⟨⟨_, rfl, e779⟩, trivial⟩ ?_
 refine WO.off rfl rfl rfl rfl ?_
 refine WO.nil ?_
 exact WX.stepDone rfl rfl (Kp.refl _)
 rintro vs w780 k780 ⟨e781, -⟩
 replace k780 : Kp [] w738 w780 := k780
 refine WO.haves (fr' := [(162, (.bool true))]) ⟨⟨_, rfl, e781⟩, trivial⟩ ?_
 refine WO.off rfl rfl rfl rfl ?_
 refine WO.nil ?_
 exact WX.stepDone rfl rfl (Kp.refl _)
 rintro vs w782 k782 ⟨e783, -⟩
 replace k782 : Kp [] w738 w782 := k782
 refine WO.haves (fr' := [(162, (.bool true))]) ⟨⟨_, rfl, e783⟩, trivial⟩ ?_
 refine WO.off rfl rfl rfl rfl ?_
 refine WO.nil ?_
 exact WX.stepDone rfl rfl (Kp.refl _)
 rintro vs w784 k784 ⟨e785, -⟩
 replace k784 : Kp [] w738 w784 := k784
 refine WO.haves (fr' := [(162, (.bool true)), (2, (.pointer (some ⟨w.heap.size, 0, none⟩)))]) ⟨⟨_, rfl, e785⟩, ⟨_, rfl, rfl⟩, trivial⟩ ?_
 refine WO.off rfl rfl rfl rfl ?_
 refine WO.nil ?_
 exact WX.stepDone rfl rfl (Kp.refl _)
 rintro vs w786 k786 ⟨e787, -⟩
 replace k786 : Kp [] w738 w786 := k786
 refine WO.haves (fr' := [(162, (.bool true))]) ⟨⟨_, rfl, e787⟩, trivial⟩ ?_
 refine WO.off rfl rfl rfl rfl ?_
 refine WO.nil ?_
 exact WX.stepDone rfl rfl (Kp.refl _)
 rintro vs w788 k788 ⟨e789, -⟩
 replace k788 : Kp [] w738 w788 := k788
 refine WO.haves (fr' := [(162, (.bool true)), (10, (.int .i64 ((k3 : Nat) : Int)))]) ⟨⟨_, rfl, e789⟩, ⟨_, rfl, rfl⟩, trivial⟩ ?_
 refine WO.off rfl rfl rfl rfl ?_
 refine WO.nil ?_
 exact WX.stepDone rfl rfl (Kp.refl _)
 rintro vs w790 k790 ⟨e791, -⟩
 replace k790 : Kp [] w738 w790 := k790
 refine WO.haves (fr' := [(162, (.bool true))]) ⟨⟨_, rfl, e791⟩, trivial⟩ ?_
 refine WO.off rfl rfl rfl rfl ?_
 refine WO.nil ?_
 exact WX.stepDone rfl rfl (Kp.refl _)
 rintro vs w792 k792 ⟨e793, -⟩
 replace k792 : Kp [] w738 w792 := k792
 refine WO.haves (fr' := [(162, (.bool true))]) ⟨⟨_, rfl, e793⟩, trivial⟩ ?_
 refine WO.off rfl rfl rfl rfl ?_
 refine WO.nil ?_
 exact WX.stepDone rfl rfl (Kp.refl _)
 rintro vs w794 k794 ⟨e795, -⟩
 replace k794 : Kp [] w738 w794 := k794
 refine WO.haves (fr' := [(162, (.bool true))]) ⟨⟨_, rfl, e795⟩, trivial⟩ ?_
 refine WO.off rfl rfl rfl rfl ?_
 refine WO.nil ?_
 exact WX.stepDone rfl rfl (Kp.refl _)
 rintro vs w796 k796 ⟨e797, -⟩
 replace k796 : Kp [] w738 w796 := k796
 refine WO.haves (fr' := [(162, (.bool true))]) ⟨⟨_, rfl, e797⟩, trivial⟩ ?_
 refine WO.off rfl rfl rfl rfl ?_
 refine WO.nil ?_
 exact WX.stepDone rfl rfl (Kp.refl _)
 rintro vs w798 k798 ⟨e799, e800, -⟩
 replace k798 : Kp [] w738 w798 := k798
 refine WO.haves (fr' := [(159, (.bool true)), (162, (.bool true))]) ⟨⟨_, rfl, e799⟩, ⟨_, rfl, e800⟩, trivial⟩ ?_
 refine WO.on rfl rfl rfl ?_
 refine WO.v (R.pickT rfl rfl rfl) rfl ?_
 refine WO.nil ?_
 exact WX.stepDone rfl rfl (Kp.refl _)
 rintro vs w801 k801 ⟨e802, e803, -⟩
 replace k801 : Kp [] w738 w801 := k801
 refine WO.haves (fr' := [(159, (.bool true)), (177, (.bool true))]) ⟨⟨_, rfl, e802⟩, ⟨_, rfl, e803⟩, trivial⟩ ?_
 refine WO.v (R.pickT rfl rfl rfl) rfl ?_
 refine WO.nil ?_
 exact WX.stepDone rfl rfl (Kp.refl _)
 rintro vs w804 k804 ⟨-, -, -, -, -, -, -, -, -, -, -, -, -, -, -, -, -, -, -, -, -, -, -, e828, -⟩
 replace k804 : Kp [] w738 w804 := k804
 have z804 : w738.heap.size ≤ w804.heap.size := k804.size
 have b804 := old_kp0 b738 k804
 have y804 : w.heap.size ≤ w804.heap.size := b804.size
 refine WO.haves (fr' := [(178, (.bool true)), (0, (.agg #[(.int .i64 s.version), (.int .i64 s.next), (.int .i64 s.keep), (.int .i64 s.quota), (.slice a5 s.sess.length c6), (.slice a8 s.opens.length c9), (.slice a11 s.snaps.length c12)])), (1, (.int .i64 v)), (2, (.pointer (some ⟨w.heap.size, 0, none⟩))), (4, (.int .i64 (0 : Int))), (5, (.bool (((((((ok0F s v) && pairF sessOk Sess.client 8 (s.sess.take k))) && pairF openOk Opn.set 8 (s.opens.take k2))) && nairF s v (s.snaps.take k3))))), (6, (.int .i64 ((k : Nat) : Int))), (8, (.int .i64 ((k2 : Nat) : Int))), (10, (.int .i64 ((k3 : Nat) : Int))), (11, (.bool (snapR (s.next) (v) (x705)))), (14, (.bool (!((decide (((1 : Int)) ≤ (v))) && (decide ((v) ≤ ((3 : Int)))))))), (52, (.bool (decide (((k : Nat) : Int) < ((s.sess.length : Nat) : Int))))), (104, (.bool (decide (((k2 : Nat) : Int) < ((s.opens.length : Nat) : Int))))), (143, (.bool (decide (((k3 : Nat) : Int) < ((s.snaps.length : Nat) : Int)))))]) ⟨⟨_, rfl, e828⟩, ⟨_, rfl, rfl⟩, ⟨_, rfl, rfl⟩, ⟨_, rfl, rfl⟩, ⟨_, rfl, rfl⟩, ⟨_, rfl, rfl⟩, ⟨_, rfl, rfl⟩, ⟨_, rfl, rfl⟩, ⟨_, rfl, rfl⟩, ⟨_, rfl, rfl⟩, ⟨_, rfl, rfl⟩, ⟨_, rfl, rfl⟩, ⟨_, rfl, rfl⟩, ⟨_, rfl, rfl⟩, trivial⟩ ?_
 refine WO.v (R.assign rfl) rfl ?_
 refine WO.nil ?_
 refine WX.sel [0, 1, 2, 4, 5, 6, 8, 10, 11, 14, 52, 104, 143] rfl ?_
 refine WX.blkNormal ?_
 refine WX.next ?_
 refine WC.region ?_
 refine WO.v (R.move rfl) rfl ?_
 refine WO.v (R.inc rfl (by omega)) rfl ?_
 refine WO.v (R.assign rfl) rfl ?_
 refine WO.nil ?_
 refine WX.sel [0, 1, 2, 4, 5, 6, 8, 10, 11, 14, 52, 104, 143] rfl ?_
 exact WX.loopNextK [0, 1, 2, 4, 6, 8, 14, 52, 104] (k3 + 1) rfl ⟨⟨_, rfl, rfl⟩, ⟨_, rfl, vb (by first | (rw [snap_step hx705, hb749]; rfl) | (rw [snap_step hx705, hb749, hb750]; rfl) | (rw [snap_step hx705, hb749, hb750, hb751]; rfl) | (rw [snap_step hx705, hb749, hb750, hb751, lastK_at (key := Snap.id) (a := 0) (by omega) ‹s.snaps[k3 - 1]? = some _›]; rfl))⟩, trivial⟩ ⟨(((Kp.refl _).step k702 (by simp)).step k738 (by simp)).step k804 (by simp), by omega⟩ (by show (s.snaps.length - (k3 + 1)) < (s.snaps.length - k3); omega)
 have phb751 : ¬ (((k3 : Nat) : Int) = (0 : Int)) := of_decide_eq_false hb751
 have B829 := (B703).kp0 k738
 have i830 : I64 (((k3 : Nat) : Int) - (1 : Int)) := by exact ⟨by omega, by omega⟩
 obtain ⟨x831, hx831⟩ := get_ex (xs := s.snaps) (i := (k3 - 1)) (by omega)
 obtain ⟨A832, cs833, hA832, loA832, hiA832, ccA832, r834⟩ := (sl_old s13 b738).at_ hx831
 obtain ⟨a837, c838, rfl, i835, i836, s839, i840⟩ := Snap.el r834
 have ls839 : (x831.chunks).length * 8 ≤ 140737488355328 := s839.lenle
 have B841 := (B703).kp0 k738
 obtain ⟨A843, cs844, hA843, loA843, hiA843, ccA843, r845⟩ := (sl_old s13 b738).at_ hx705
 obtain ⟨a848, c849, rfl, i846, i847, s850, i851⟩ := Snap.el r845
 have ls850 : (x705.chunks).length * 8 ≤ 140737488355328 := s850.lenle
 refine WC.draw' mixed_orders [.ex [] (.bool (((((((ok0F s v) && pairF sessOk Sess.client 8 (s.sess.take k))) && pairF openOk Opn.set 8 (s.opens.take k2))) && nairF s v (s.snaps.take k3)))), .ex [0] (.bool true), .ex [1] (.bool (snapR (s.next) (v) (x705))), .ex [1, 2] (.bool (snapR (s.next) (v) (x705))), .ex [3] (.bool true), .ex [4] (.int .i64 ((k3 : Nat) : Int)), .ex [4, 5] (.bool (decide (((k3 : Nat) : Int) = (0 : Int)))), .ex [4, 6] (.bool false), .ex [7] (.pointer (some ⟨w.heap.size, 6, none⟩)), .ex [7, 8] (.slice a11 s.snaps.length c12), .ex [7] (.int .i64 ((k3 : Nat) : Int)), .ex [7, 10] (.int .i64 (((k3 : Nat) : Int) - (1 : Int))), .ex [7, 9, 11] (.pointer (some (A832.add ((k3 - 1) * 5)))), .ex [7, 12] (.pointer (some ((A832.add ((k3 - 1) * 5)).add 0))), .ex [7, 13] (.int .i64 x831.id), .ex [7] (.pointer (some ⟨w.heap.size, 6, none⟩)), .ex [7, 15] (.slice a11 s.snaps.length c12), .ex [7] (.int .i64 ((k3 : Nat) : Int)), .ex [7, 16, 17] (.pointer (some (A843.add (k3 * 5)))), .ex [7, 18] (.pointer (some ((A843.add (k3 * 5)).add 0))), .ex [7, 19] (.int .i64 x705.id), .ex [7, 14, 20] (.bool (decide (x831.id < x705.id))), .ex [4, 7, 21] (.bool (decide (x831.id < x705.id))), .ex [4, 22] (.bool (decide (x831.id < x705.id)))] 24 (by kernel_rfl) ⟨fun _ _ _ h _ => h, fun _ _ _ h _ => h, fun _ _ _ h _ => h, fun _ _ _ h _ => h, fun _ _ _ h _ => h, fun _ _ _ h _ => h, fun _ _ _ h _ => h, fun _ _ _ h _ => h, fun _ _ _ h _ => h, fun _ _ _ h _ => h, fun _ _ _ h _ => h, fun _ _ _ h _ => h, fun _ _ _ h _ => h, fun _ _ _ h _ => h, fun _ _ _ h _ => h, fun _ _ _ h _ => h, fun _ _ _ h _ => h, fun _ _ _ h _ => h, fun _ _ _ h _ => h, fun _ _ _ h _ => h, fun _ _ _ h _ => h, fun _ _ _ h _ => h, fun _ _ _ h _ => h, fun _ _ _ h _ => h, trivial⟩ ⟨?_, ?_, ?_, ?_, ?_, ?_, ?_, ?_, ?_, ?_, ?_, ?_, ?_, ?_, ?_, ?_, ?_, ?_, ?_, ?_, ?_, ?_, ?_, ?_, trivial⟩ ?_
 rintro vs w852 k852 ⟨-⟩
 replace k852 : Kp [] w738 w852 := k852
 refine WO.haves (fr' := [(5, (.bool (((((((ok0F s v) && pairF sessOk Sess.client 8 (s.sess.take k))) && pairF openOk Opn.set 8 (s.opens.take k2))) && nairF s v (s.snaps.take k3)))))]) ⟨⟨_, rfl, rfl⟩, trivial⟩ ?_
 refine WO.v (R.move rfl) rfl ?_
 refine WO.nil ?_
 exact WX.stepDone rfl rfl (Kp.refl _)
 rintro vs w853 k853 ⟨e854, -⟩
 replace k853 : Kp [] w738 w853 := k853
 refine WO.haves (fr' := [(155, (.bool (((((((ok0F s v) && pairF sessOk Sess.client 8 (s.sess.take k))) && pairF openOk Opn.set 8 (s.opens.take k2))) && nairF s v (s.snaps.take k3)))))]) ⟨⟨_, rfl, e854⟩, trivial⟩ ?_
 refine WO.v (R.move rfl) rfl ?_
 refine WO.nil ?_
 exact WX.stepDone rfl (vb hb749) (Kp.refl _)
 rintro vs w855 k855 ⟨e856, -⟩
 replace k855 : Kp [] w738 w855 := k855
 refine WO.haves (fr' := [(156, (.bool true)), (11, (.bool (snapR (s.next) (v) (x705))))]) ⟨⟨_, rfl, e856⟩, ⟨_, rfl, rfl⟩, trivial⟩ ?_
 refine WO.on rfl rfl rfl ?_
 refine WO.v (R.move rfl) rfl ?_
 refine WO.nil ?_
 exact WX.stepDone rfl rfl (Kp.refl _)
 rintro vs w857 k857 ⟨e858, e859, -⟩
 replace k857 : Kp [] w738 w857 := k857
 refine WO.haves (fr' := [(156, (.bool true)), (157, (.bool (snapR (s.next) (v) (x705))))]) ⟨⟨_, rfl, e858⟩, ⟨_, rfl, e859⟩, trivial⟩ ?_
 refine WO.v (R.pickT rfl rfl rfl) rfl ?_
 refine WO.nil ?_
 exact WX.stepDone rfl rfl (Kp.refl _)
 rintro vs w860 k860 ⟨e861, -⟩
 replace k860 : Kp [] w738 w860 := k860
 refine WO.haves (fr' := [(158, (.bool (snapR (s.next) (v) (x705))))]) ⟨⟨_, rfl, e861⟩, trivial⟩ ?_
 refine WO.v (R.move rfl) rfl ?_
 refine WO.nil ?_
 exact WX.stepDone rfl (vb hb750) (Kp.refl _)
 rintro vs w862 k862 ⟨e863, -⟩
 replace k862 : Kp [] w738 w862 := k862
 refine WO.haves (fr' := [(159, (.bool true)), (10, (.int .i64 ((k3 : Nat) : Int)))]) ⟨⟨_, rfl, e863⟩, ⟨_, rfl, rfl⟩, trivial⟩ ?_
 refine WO.on rfl rfl rfl ?_
 refine WO.v (R.move rfl) rfl ?_
 refine WO.nil ?_
 exact WX.stepDone rfl rfl (Kp.refl _)
 rintro vs w864 k864 ⟨e865, e866, -⟩
 replace k864 : Kp [] w738 w864 := k864
 refine WO.haves (fr' := [(159, (.bool true)), (160, (.int .i64 ((k3 : Nat) : Int)))]) ⟨⟨_, rfl, e865⟩, ⟨_, rfl, e866⟩, trivial⟩ ?_
 refine WO.on rfl rfl rfl ?_
 refine WO.v (R.eql rfl rfl) rfl ?_
 refine WO.nil ?_
 exact WX.stepDone rfl rfl (Kp.refl _)
 rintro vs w867 k867 ⟨e868, e869, -⟩
 replace k867 : Kp [] w738 w867 := k867
 refine WO.haves (fr' := [(159, (.bool true)), (161, (.bool (decide (((k3 : Nat) : Int) = (0 : Int)))))]) ⟨⟨_, rfl, e868⟩, ⟨_, rfl, e869⟩, trivial⟩ ?_
 refine WO.on rfl rfl rfl ?_
 refine WO.v (R.move rfl) rfl ?_
 refine WO.nil ?_
 exact WX.stepDone rfl (vb hb751) (Kp.refl _)
 rintro vs w870 k870 ⟨e871, -⟩
 replace k870 : Kp [] w738 w870 := k870
 refine WO.haves (fr' := [(162, (.bool false)), (2, (.pointer (some ⟨w.heap.size, 0, none⟩)))]) ⟨⟨_, rfl, e871⟩, ⟨_, rfl, rfl⟩, trivial⟩ ?_
 refine WO.on rfl rfl rfl ?_
 refine WO.v (fa34_6 rfl) rfl ?_
 refine WO.nil ?_
 exact WX.stepDone rfl rfl (Kp.refl _)
 rintro vs w872 k872 ⟨e873, e874, -⟩
 replace k872 : Kp [] w738 w872 := k872
 have z872 : w738.heap.size ≤ w872.heap.size := k872.size
 have b872 := old_kp0 b738 k872
 have y872 : w.heap.size ≤ w872.heap.size := b872.size
 refine WO.haves (fr' := [(162, (.bool false)), (163, (.pointer (some ⟨w.heap.size, 6, none⟩)))]) ⟨⟨_, rfl, e873⟩, ⟨_, rfl, e874⟩, trivial⟩ ?_
 refine WO.on rfl rfl rfl ?_
 have B875 := ((B703).kp0 k738).kp0 k872
 refine WO.v (R.loadB rfl B875 rfl Try.underlying32 rfl) rfl ?_
 refine WO.nil ?_
 exact WX.stepDone rfl rfl (Kp.refl _)
 rintro vs w876 k876 ⟨e877, -⟩
 replace k876 : Kp [] w738 w876 := k876
 refine WO.haves (fr' := [(162, (.bool false)), (10, (.int .i64 ((k3 : Nat) : Int)))]) ⟨⟨_, rfl, e877⟩, ⟨_, rfl, rfl⟩, trivial⟩ ?_
 refine WO.on rfl rfl rfl ?_
 refine WO.v (R.move rfl) rfl ?_
 refine WO.nil ?_
 exact WX.stepDone rfl rfl (Kp.refl _)
 rintro vs w878 k878 ⟨e879, e880, -⟩
 replace k878 : Kp [] w738 w878 := k878
 refine WO.haves (fr' := [(162, (.bool false)), (165, (.int .i64 ((k3 : Nat) : Int)))]) ⟨⟨_, rfl, e879⟩, ⟨_, rfl, e880⟩, trivial⟩ ?_
 refine WO.on rfl rfl rfl ?_
 have i881 : I64 (((k3 : Nat) : Int) - (1 : Int)) := by exact ⟨by omega, by omega⟩
 refine WO.v (R.sub rfl rfl i881) rfl ?_
 refine WO.nil ?_
 exact WX.stepDone rfl rfl (Kp.refl _)
 rintro vs w882 k882 ⟨e883, e884, e885, -⟩
 replace k882 : Kp [] w738 w882 := k882
 refine WO.haves (fr' := [(162, (.bool false)), (164, (.slice a11 s.snaps.length c12)), (166, (.int .i64 (((k3 : Nat) : Int) - (1 : Int))))]) ⟨⟨_, rfl, e883⟩, ⟨_, rfl, e884⟩, ⟨_, rfl, e885⟩, trivial⟩ ?_
 refine WO.on rfl rfl rfl ?_
 refine WO.v (R.indexAddrJ rfl rfl Try.underlying32 sz46 hA832 (i := (k3 - 1)) (by omega) (by omega)) rfl ?_
 refine WO.nil ?_
 exact WX.stepDone rfl rfl (Kp.refl _)
 rintro vs w886 k886 ⟨e887, e888, -⟩
 replace k886 : Kp [] w738 w886 := k886
 refine WO.haves (fr' := [(162, (.bool false)), (167, (.pointer (some (A832.add ((k3 - 1) * 5)))))]) ⟨⟨_, rfl, e887⟩, ⟨_, rfl, e888⟩, trivial⟩ ?_
 refine WO.on rfl rfl rfl ?_
 refine WO.v (fe46_0 rfl) rfl ?_
 refine WO.nil ?_
 exact WX.stepDone rfl rfl (Kp.refl _)
 rintro vs w889 k889 ⟨e890, e891, -⟩
 replace k889 : Kp [] w738 w889 := k889
 have z889 : w738.heap.size ≤ w889.heap.size := k889.size
 have b889 := old_kp0 b738 k889
 have y889 : w.heap.size ≤ w889.heap.size := b889.size
 refine WO.haves (fr' := [(162, (.bool false)), (168, (.pointer (some ((A832.add ((k3 - 1) * 5)).add 0))))]) ⟨⟨_, rfl, e890⟩, ⟨_, rfl, e891⟩, trivial⟩ ?_
 refine WO.on rfl rfl rfl ?_
 refine WO.v (R.load1 rfl Try.underlying3 rfl (((ccA832).kpA k889 (by omega) (by simp)).one (j := 0) rfl)) rfl ?_
 refine WO.nil ?_
 exact WX.stepDone rfl rfl (Kp.refl _)
 rintro vs w892 k892 ⟨e893, -⟩
 replace k892 : Kp [] w738 w892 := k892
 refine WO.haves (fr' := [(162, (.bool false)), (2, (.pointer (some ⟨w.heap.size, 0, none⟩)))]) ⟨⟨_, rfl, e893⟩, ⟨_, rfl, rfl⟩, trivial⟩ ?_
 refine WO.on rfl rfl rfl ?_
 refine WO.v (fa34_6 rfl) rfl ?_
 refine WO.nil ?_
 exact WX.stepDone rfl rfl (Kp.refl _)
 rintro vs w894 k894 ⟨e895, e896, -⟩
 replace k894 : Kp [] w738 w894 := k894
 have z894 : w738.heap.size ≤ w894.heap.size := k894.size
 have b894 := old_kp0 b738 k894
 have y894 : w.heap.size ≤ w894.heap.size := b894.size
 refine WO.haves (fr' := [(162, (.bool false)), (170, (.pointer (some ⟨w.heap.size, 6, none⟩)))]) ⟨⟨_, rfl, e895⟩, ⟨_, rfl, e896⟩, trivial⟩ ?_
 refine WO.on rfl rfl rfl ?_
 have B897 := ((B703).kp0 k738).kp0 k894
 refine WO.v (R.loadB rfl B897 rfl Try.underlying32 rfl) rfl ?_
 refine WO.nil ?_
 exact WX.stepDone rfl rfl (Kp.refl _)
 rintro vs w898 k898 ⟨e899, -⟩
 replace k898 : Kp [] w738 w898 := k898
 refine WO.haves (fr' := [(162, (.bool false)), (10, (.int .i64 ((k3 : Nat) : Int)))]) ⟨⟨_, rfl, e899⟩, ⟨_, rfl, rfl⟩, trivial⟩ ?_
 refine WO.on rfl rfl rfl ?_
 refine WO.v (R.move rfl) rfl ?_
 refine WO.nil ?_
 exact WX.stepDone rfl rfl (Kp.refl _)
 rintro vs w900 k900 ⟨e901, e902, e903, -⟩
 replace k900 : Kp [] w738 w900 := k900
 refine WO.haves (fr' := [(162, (.bool false)), (171, (.slice a11 s.snaps.length c12)), (172, (.int .i64 ((k3 : Nat) : Int)))]) ⟨⟨_, rfl, e901⟩, ⟨_, rfl, e902⟩, ⟨_, rfl, e903⟩, trivial⟩ ?_
 refine WO.on rfl rfl rfl ?_
 refine WO.v (R.indexAddrN rfl rfl Try.underlying32 sz46 hA843 (by omega)) rfl ?_
 refine WO.nil ?_
 exact WX.stepDone rfl rfl (Kp.refl _)
 rintro vs w904 k904 ⟨e905, e906, -⟩
 replace k904 : Kp [] w738 w904 := k904
 refine WO.haves (fr' := [(162, (.bool false)), (173, (.pointer (some (A843.add (k3 * 5)))))]) ⟨⟨_, rfl, e905⟩, ⟨_, rfl, e906⟩, trivial⟩ ?_
 refine WO.on rfl rfl rfl ?_
 refine WO.v (fe46_0 rfl) rfl ?_
 refine WO.nil ?_
 exact WX.stepDone rfl rfl (Kp.refl _)
 rintro vs w907 k907 ⟨e908, e909, -⟩
 replace k907 : Kp [] w738 w907 := k907
 have z907 : w738.heap.size ≤ w907.heap.size := k907.size
 have b907 := old_kp0 b738 k907
 have y907 : w.heap.size ≤ w907.heap.size := b907.size
 refine WO.haves (fr' := [(162, (.bool false)), (174, (.pointer (some ((A843.add (k3 * 5)).add 0))))]) ⟨⟨_, rfl, e908⟩, ⟨_, rfl, e909⟩, trivial⟩ ?_
 refine WO.on rfl rfl rfl ?_
 refine WO.v (R.load1 rfl Try.underlying3 rfl (((ccA843).kpA k907 (by omega) (by simp)).one (j := 0) rfl)) rfl ?_
 refine WO.nil ?_
 exact WX.stepDone rfl rfl (Kp.refl _)
 rintro vs w910 k910 ⟨e911, e912, e913, -⟩
 replace k910 : Kp [] w738 w910 := k910
 refine WO.haves (fr' := [(162, (.bool false)), (169, (.int .i64 x831.id)), (175, (.int .i64 x705.id))]) ⟨⟨_, rfl, e911⟩, ⟨_, rfl, e912⟩, ⟨_, rfl, e913⟩, trivial⟩ ?_
 refine WO.on rfl rfl rfl ?_
 refine WO.v (R.lss rfl rfl) rfl ?_
 refine WO.nil ?_
 exact WX.stepDone rfl rfl (Kp.refl _)
 rintro vs w914 k914 ⟨e915, e916, e917, -⟩
 replace k914 : Kp [] w738 w914 := k914
 refine WO.haves (fr' := [(159, (.bool true)), (162, (.bool false)), (176, (.bool (decide (x831.id < x705.id))))]) ⟨⟨_, rfl, e915⟩, ⟨_, rfl, e916⟩, ⟨_, rfl, e917⟩, trivial⟩ ?_
 refine WO.on rfl rfl rfl ?_
 refine WO.v (R.pickF rfl rfl rfl) rfl ?_
 refine WO.nil ?_
 exact WX.stepDone rfl rfl (Kp.refl _)
 rintro vs w918 k918 ⟨e919, e920, -⟩
 replace k918 : Kp [] w738 w918 := k918
 refine WO.haves (fr' := [(159, (.bool true)), (177, (.bool (decide (x831.id < x705.id))))]) ⟨⟨_, rfl, e919⟩, ⟨_, rfl, e920⟩, trivial⟩ ?_
 refine WO.v (R.pickT rfl rfl rfl) rfl ?_
 refine WO.nil ?_
 exact WX.stepDone rfl rfl (Kp.refl _)
 rintro vs w921 k921 ⟨-, -, -, -, -, -, -, -, -, -, -, -, -, -, -, -, -, -, -, -, -, -, -, e945, -⟩
 replace k921 : Kp [] w738 w921 := k921
 have z921 : w738.heap.size ≤ w921.heap.size := k921.size
 have b921 := old_kp0 b738 k921
 have y921 : w.heap.size ≤ w921.heap.size := b921.size
 refine WO.haves (fr' := [(178, (.bool (decide (x831.id < x705.id)))), (0, (.agg #[(.int .i64 s.version), (.int .i64 s.next), (.int .i64 s.keep), (.int .i64 s.quota), (.slice a5 s.sess.length c6), (.slice a8 s.opens.length c9), (.slice a11 s.snaps.length c12)])), (1, (.int .i64 v)), (2, (.pointer (some ⟨w.heap.size, 0, none⟩))), (4, (.int .i64 (0 : Int))), (5, (.bool (((((((ok0F s v) && pairF sessOk Sess.client 8 (s.sess.take k))) && pairF openOk Opn.set 8 (s.opens.take k2))) && nairF s v (s.snaps.take k3))))), (6, (.int .i64 ((k : Nat) : Int))), (8, (.int .i64 ((k2 : Nat) : Int))), (10, (.int .i64 ((k3 : Nat) : Int))), (11, (.bool (snapR (s.next) (v) (x705)))), (14, (.bool (!((decide (((1 : Int)) ≤ (v))) && (decide ((v) ≤ ((3 : Int)))))))), (52, (.bool (decide (((k : Nat) : Int) < ((s.sess.length : Nat) : Int))))), (104, (.bool (decide (((k2 : Nat) : Int) < ((s.opens.length : Nat) : Int))))), (143, (.bool (decide (((k3 : Nat) : Int) < ((s.snaps.length : Nat) : Int)))))]) ⟨⟨_, rfl, e945⟩, ⟨_, rfl, rfl⟩, ⟨_, rfl, rfl⟩, ⟨_, rfl, rfl⟩, ⟨_, rfl, rfl⟩, ⟨_, rfl, rfl⟩, ⟨_, rfl, rfl⟩, ⟨_, rfl, rfl⟩, ⟨_, rfl, rfl⟩, ⟨_, rfl, rfl⟩, ⟨_, rfl, rfl⟩, ⟨_, rfl, rfl⟩, ⟨_, rfl, rfl⟩, ⟨_, rfl, rfl⟩, trivial⟩ ?_
 refine WO.v (R.assign rfl) rfl ?_
 refine WO.nil ?_
 refine WX.sel [0, 1, 2, 4, 5, 6, 8, 10, 11, 14, 52, 104, 143] rfl ?_
 refine WX.blkNormal ?_
 refine WX.next ?_
 refine WC.region ?_
 refine WO.v (R.move rfl) rfl ?_
 refine WO.v (R.inc rfl (by omega)) rfl ?_
 refine WO.v (R.assign rfl) rfl ?_
 refine WO.nil ?_
 refine WX.sel [0, 1, 2, 4, 5, 6, 8, 10, 11, 14, 52, 104, 143] rfl ?_
 exact WX.loopNextK [0, 1, 2, 4, 6, 8, 14, 52, 104] (k3 + 1) rfl ⟨⟨_, rfl, rfl⟩, ⟨_, rfl, vb (by first | (rw [snap_step hx705, hb749]; rfl) | (rw [snap_step hx705, hb749, hb750]; rfl) | (rw [snap_step hx705, hb749, hb750, hb751]; rfl) | (rw [snap_step hx705, hb749, hb750, hb751, lastK_at (key := Snap.id) (a := 0) (by omega) ‹s.snaps[k3 - 1]? = some _›]; rfl))⟩, trivial⟩ ⟨(((Kp.refl _).step k702 (by simp)).step k738 (by simp)).step k921 (by simp), by omega⟩ (by show (s.snaps.length - (k3 + 1)) < (s.snaps.length - k3); omega)
 have phb750 : (snapR (s.next) (v) (x705)) = false := hb750
 refine WC.draw' mixed_orders [.ex [] (.bool (((((((ok0F s v) && pairF sessOk Sess.client 8 (s.sess.take k))) && pairF openOk Opn.set 8 (s.opens.take k2))) && nairF s v (s.snaps.take k3)))), .ex [0] (.bool true), .ex [1] (.bool (snapR (s.next) (v) (x705))), .ex [1, 2] (.bool (snapR (s.next) (v) (x705))), .ex [3] (.bool false), .ex [4] undef, .ex [4] undef, .ex [4] undef, .ex [7] undef, .ex [7] undef, .ex [7] undef, .ex [7] undef, .ex [7] undef, .ex [7] undef, .ex [7] undef, .ex [7] undef, .ex [7] undef, .ex [7] undef, .ex [7] undef, .ex [7] undef, .ex [7] undef, .ex [7] undef, .ex [4] undef, .ex [4] (.bool false)] 24 (by kernel_rfl) ⟨fun _ _ _ h _ => h, fun _ _ _ h _ => h, fun _ _ _ h _ => h, fun _ _ _ h _ => h, fun _ _ _ h _ => h, fun _ _ _ h _ => h, fun _ _ _ h _ => h, fun _ _ _ h _ => h, fun _ _ _ h _ => h, fun _ _ _ h _ => h, fun _ _ _ h _ => h, fun _ _ _ h _ => h, fun _ _ _ h _ => h, fun _ _ _ h _ => h, fun _ _ _ h _ => h, fun _ _ _ h _ => h, fun _ _ _ h _ => h, fun _ _ _ h _ => h, fun _ _ _ h _ => h, fun _ _ _ h _ => h, fun _ _ _ h _ => h, fun _ _ _ h _ => h, fun _ _ _ h _ => h, fun _ _ _ h _ => h, trivial⟩ ⟨?_, ?_, ?_, ?_, ?_, ?_, ?_, ?_, ?_, ?_, ?_, ?_, ?_, ?_, ?_, ?_, ?_, ?_, ?_, ?_, ?_, ?_, ?_, ?_, trivial⟩ ?_
 rintro vs w946 k946 ⟨-⟩
 replace k946 : Kp [] w738 w946 := k946
 refine WO.haves (fr' := [(5, (.bool (((((((ok0F s v) && pairF sessOk Sess.client 8 (s.sess.take k))) && pairF openOk Opn.set 8 (s.opens.take k2))) && nairF s v (s.snaps.take k3)))))]) ⟨⟨_, rfl, rfl⟩, trivial⟩ ?_
 refine WO.v (R.move rfl) rfl ?_
 refine WO.nil ?_
 exact WX.stepDone rfl rfl (Kp.refl _)
 rintro vs w947 k947 ⟨e948, -⟩
 replace k947 : Kp [] w738 w947 := k947
 refine WO.haves (fr' := [(155, (.bool (((((((ok0F s v) && pairF sessOk Sess.client 8 (s.sess.take k))) && pairF openOk Opn.set 8 (s.opens.take k2))) && nairF s v (s.snaps.take k3)))))]) ⟨⟨_, rfl, e948⟩, trivial⟩ ?_
 refine WO.v (R.move rfl) rfl ?_
 refine WO.nil ?_
 exact WX.stepDone rfl (vb hb749) (Kp.refl _)
 rintro vs w949 k949 ⟨e950, -⟩
 replace k949 : Kp [] w738 w949 := k949
 refine WO.haves (fr' := [(156, (.bool true)), (11, (.bool (snapR (s.next) (v) (x705))))]) ⟨⟨_, rfl, e950⟩, ⟨_, rfl, rfl⟩, trivial⟩ ?_
 refine WO.on rfl rfl rfl ?_
 refine WO.v (R.move rfl) rfl ?_
 refine WO.nil ?_
 exact WX.stepDone rfl rfl (Kp.refl _)
 rintro vs w951 k951 ⟨e952, e953, -⟩
 replace k951 : Kp [] w738 w951 := k951
 refine WO.haves (fr' := [(156, (.bool true)), (157, (.bool (snapR (s.next) (v) (x705))))]) ⟨⟨_, rfl, e952⟩, ⟨_, rfl, e953⟩, trivial⟩ ?_
 refine WO.v (R.pickT rfl rfl rfl) rfl ?_
 refine WO.nil ?_
 exact WX.stepDone rfl rfl (Kp.refl _)
 rintro vs w954 k954 ⟨e955, -⟩
 replace k954 : Kp [] w738 w954 := k954
 refine WO.haves (fr' := [(158, (.bool (snapR (s.next) (v) (x705))))]) ⟨⟨_, rfl, e955⟩, trivial⟩ ?_
 refine WO.v (R.move rfl) rfl ?_
 refine WO.nil ?_
 exact WX.stepDone rfl (vb hb750) (Kp.refl _)
 rintro vs w956 k956 ⟨e957, -⟩
 replace k956 : Kp [] w738 w956 := k956
 refine WO.haves (fr' := [(159, (.bool false)), (10, (.int .i64 ((k3 : Nat) : Int)))]) ⟨⟨_, rfl, e957⟩, ⟨_, rfl, rfl⟩, trivial⟩ ?_
 refine WO.off rfl rfl rfl rfl ?_
 refine WO.nil ?_
 exact WX.stepDone rfl rfl (Kp.refl _)
 rintro vs w958 k958 ⟨e959, -⟩
 replace k958 : Kp [] w738 w958 := k958
 refine WO.haves (fr' := [(159, (.bool false))]) ⟨⟨_, rfl, e959⟩, trivial⟩ ?_
 refine WO.off rfl rfl rfl rfl ?_
 refine WO.nil ?_
 exact WX.stepDone rfl rfl (Kp.refl _)
 rintro vs w960 k960 ⟨e961, -⟩
 replace k960 : Kp [] w738 w960 := k960
 refine WO.haves (fr' := [(159, (.bool false))]) ⟨⟨_, rfl, e961⟩, trivial⟩ ?_
 refine WO.off rfl rfl rfl rfl ?_
 refine WO.nil ?_
 exact WX.stepDone rfl rfl (Kp.refl _)
 rintro vs w962 k962 ⟨e963, -⟩
 replace k962 : Kp [] w738 w962 := k962
 refine WO.haves (fr' := [(162, undef), (2, (.pointer (some ⟨w.heap.size, 0, none⟩)))]) ⟨⟨_, rfl, e963⟩, ⟨_, rfl, rfl⟩, trivial⟩ ?_
 refine WO.offU rfl rfl rfl ?_
 refine WO.nil ?_
 exact WX.stepDone rfl rfl (Kp.refl _)
 rintro vs w964 k964 ⟨e965, -⟩
 replace k964 : Kp [] w738 w964 := k964
 refine WO.haves (fr' := [(162, undef)]) ⟨⟨_, rfl, e965⟩, trivial⟩ ?_
 refine WO.offU rfl rfl rfl ?_
 refine WO.nil ?_
 exact WX.stepDone rfl rfl (Kp.refl _)
 rintro vs w966 k966 ⟨e967, -⟩
 replace k966 : Kp [] w738 w966 := k966
 refine WO.haves (fr' := [(162, undef), (10, (.int .i64 ((k3 : Nat) : Int)))]) ⟨⟨_, rfl, e967⟩, ⟨_, rfl, rfl⟩, trivial⟩ ?_
 refine WO.offU rfl rfl rfl ?_
 refine WO.nil ?_
 exact WX.stepDone rfl rfl (Kp.refl _)
 rintro vs w968 k968 ⟨e969, -⟩
 replace k968 : Kp [] w738 w968 := k968
 refine WO.haves (fr' := [(162, undef)]) ⟨⟨_, rfl, e969⟩, trivial⟩ ?_
 refine WO.offU rfl rfl rfl ?_
 refine WO.nil ?_
 exact WX.stepDone rfl rfl (Kp.refl _)
 rintro vs w970 k970 ⟨e971, -⟩
 replace k970 : Kp [] w738 w970 := k970
 refine WO.haves (fr' := [(162, undef)]) ⟨⟨_, rfl, e971⟩, trivial⟩ ?_
 refine WO.offU rfl rfl rfl ?_
 refine WO.nil ?_
 exact WX.stepDone rfl rfl (Kp.refl _)
 rintro vs w972 k972 ⟨e973, -⟩
 replace k972 : Kp [] w738 w972 := k972
 refine WO.haves (fr' := [(162, undef)]) ⟨⟨_, rfl, e973⟩, trivial⟩ ?_
 refine WO.offU rfl rfl rfl ?_
 refine WO.nil ?_
 exact WX.stepDone rfl rfl (Kp.refl _)
 rintro vs w974 k974 ⟨e975, -⟩
 replace k974 : Kp [] w738 w974 := k974
 refine WO.haves (fr' := [(162, undef)]) ⟨⟨_, rfl, e975⟩, trivial⟩ ?_
 refine WO.offU rfl rfl rfl ?_
 refine WO.nil ?_
 exact WX.stepDone rfl rfl (Kp.refl _)
 rintro vs w976 k976 ⟨e977, -⟩
 replace k976 : Kp [] w738 w976 := k976
 refine WO.haves (fr' := [(162, undef), (2, (.pointer (some ⟨w.heap.size, 0, none⟩)))]) ⟨⟨_, rfl, e977⟩, ⟨_, rfl, rfl⟩, trivial⟩ ?_
 refine WO.offU rfl rfl rfl ?_
 refine WO.nil ?_
 exact WX.stepDone rfl rfl (Kp.refl _)
 rintro vs w978 k978 ⟨e979, -⟩
 replace k978 : Kp [] w738 w978 := k978
 refine WO.haves (fr' := [(162, undef)]) ⟨⟨_, rfl, e979⟩, trivial⟩ ?_
 refine WO.offU rfl rfl rfl ?_
 refine WO.nil ?_
 exact WX.stepDone rfl rfl (Kp.refl _)
 rintro vs w980 k980 ⟨e981, -⟩
 replace k980 : Kp [] w738 w980 := k980
 refine WO.haves (fr' := [(162, undef), (10, (.int .i64 ((k3 : Nat) : Int)))]) ⟨⟨_, rfl, e981⟩, ⟨_, rfl, rfl⟩, trivial⟩ ?_
 refine WO.offU rfl rfl rfl ?_
 refine WO.nil ?_
 exact WX.stepDone rfl rfl (Kp.refl _)
 rintro vs w982 k982 ⟨e983, -⟩
 replace k982 : Kp [] w738 w982 := k982
 refine WO.haves (fr' := [(162, undef)]) ⟨⟨_, rfl, e983⟩, trivial⟩ ?_
 refine WO.offU rfl rfl rfl ?_
 refine WO.nil ?_
 exact WX.stepDone rfl rfl (Kp.refl _)
 rintro vs w984 k984 ⟨e985, -⟩
 replace k984 : Kp [] w738 w984 := k984
 refine WO.haves (fr' := [(162, undef)]) ⟨⟨_, rfl, e985⟩, trivial⟩ ?_
 refine WO.offU rfl rfl rfl ?_
 refine WO.nil ?_
 exact WX.stepDone rfl rfl (Kp.refl _)
 rintro vs w986 k986 ⟨e987, -⟩
 replace k986 : Kp [] w738 w986 := k986
 refine WO.haves (fr' := [(162, undef)]) ⟨⟨_, rfl, e987⟩, trivial⟩ ?_
 refine WO.offU rfl rfl rfl ?_
 refine WO.nil ?_
 exact WX.stepDone rfl rfl (Kp.refl _)
 rintro vs w988 k988 ⟨e989, -⟩
 replace k988 : Kp [] w738 w988 := k988
 refine WO.haves (fr' := [(162, undef)]) ⟨⟨_, rfl, e989⟩, trivial⟩ ?_
 refine WO.offU rfl rfl rfl ?_
 refine WO.nil ?_
 exact WX.stepDone rfl rfl (Kp.refl _)
 rintro vs w990 k990 ⟨e991, -⟩
 replace k990 : Kp [] w738 w990 := k990
 refine WO.haves (fr' := [(159, (.bool false))]) ⟨⟨_, rfl, e991⟩, trivial⟩ ?_
 refine WO.off rfl rfl rfl rfl ?_
 refine WO.nil ?_
 exact WX.stepDone rfl rfl (Kp.refl _)
 rintro vs w992 k992 ⟨e993, -⟩
 replace k992 : Kp [] w738 w992 := k992
 refine WO.haves (fr' := [(159, (.bool false))]) ⟨⟨_, rfl, e993⟩, trivial⟩ ?_
 refine WO.v (R.pickF rfl rfl rfl) rfl ?_
 refine WO.nil ?_
 exact WX.stepDone rfl rfl (Kp.refl _)
 rintro vs w994 k994 ⟨-, -, -, -, -, -, -, -, -, -, -, -, -, -, -, -, -, -, -, -, -, -, -, e1018, -⟩
 replace k994 : Kp [] w738 w994 := k994
 have z994 : w738.heap.size ≤ w994.heap.size := k994.size
 have b994 := old_kp0 b738 k994
 have y994 : w.heap.size ≤ w994.heap.size := b994.size
 refine WO.haves (fr' := [(178, (.bool false)), (0, (.agg #[(.int .i64 s.version), (.int .i64 s.next), (.int .i64 s.keep), (.int .i64 s.quota), (.slice a5 s.sess.length c6), (.slice a8 s.opens.length c9), (.slice a11 s.snaps.length c12)])), (1, (.int .i64 v)), (2, (.pointer (some ⟨w.heap.size, 0, none⟩))), (4, (.int .i64 (0 : Int))), (5, (.bool (((((((ok0F s v) && pairF sessOk Sess.client 8 (s.sess.take k))) && pairF openOk Opn.set 8 (s.opens.take k2))) && nairF s v (s.snaps.take k3))))), (6, (.int .i64 ((k : Nat) : Int))), (8, (.int .i64 ((k2 : Nat) : Int))), (10, (.int .i64 ((k3 : Nat) : Int))), (11, (.bool (snapR (s.next) (v) (x705)))), (14, (.bool (!((decide (((1 : Int)) ≤ (v))) && (decide ((v) ≤ ((3 : Int)))))))), (52, (.bool (decide (((k : Nat) : Int) < ((s.sess.length : Nat) : Int))))), (104, (.bool (decide (((k2 : Nat) : Int) < ((s.opens.length : Nat) : Int))))), (143, (.bool (decide (((k3 : Nat) : Int) < ((s.snaps.length : Nat) : Int)))))]) ⟨⟨_, rfl, e1018⟩, ⟨_, rfl, rfl⟩, ⟨_, rfl, rfl⟩, ⟨_, rfl, rfl⟩, ⟨_, rfl, rfl⟩, ⟨_, rfl, rfl⟩, ⟨_, rfl, rfl⟩, ⟨_, rfl, rfl⟩, ⟨_, rfl, rfl⟩, ⟨_, rfl, rfl⟩, ⟨_, rfl, rfl⟩, ⟨_, rfl, rfl⟩, ⟨_, rfl, rfl⟩, ⟨_, rfl, rfl⟩, trivial⟩ ?_
 refine WO.v (R.assign rfl) rfl ?_
 refine WO.nil ?_
 refine WX.sel [0, 1, 2, 4, 5, 6, 8, 10, 11, 14, 52, 104, 143] rfl ?_
 refine WX.blkNormal ?_
 refine WX.next ?_
 refine WC.region ?_
 refine WO.v (R.move rfl) rfl ?_
 refine WO.v (R.inc rfl (by omega)) rfl ?_
 refine WO.v (R.assign rfl) rfl ?_
 refine WO.nil ?_
 refine WX.sel [0, 1, 2, 4, 5, 6, 8, 10, 11, 14, 52, 104, 143] rfl ?_
 exact WX.loopNextK [0, 1, 2, 4, 6, 8, 14, 52, 104] (k3 + 1) rfl ⟨⟨_, rfl, rfl⟩, ⟨_, rfl, vb (by first | (rw [snap_step hx705, hb749]; rfl) | (rw [snap_step hx705, hb749, hb750]; rfl) | (rw [snap_step hx705, hb749, hb750, lastK_at (key := Snap.id) (a := 0) (by omega) ‹s.snaps[k3 - 1]? = some _›]; rfl))⟩, trivial⟩ ⟨(((Kp.refl _).step k702 (by simp)).step k738 (by simp)).step k994 (by simp), by omega⟩ (by show (s.snaps.length - (k3 + 1)) < (s.snaps.length - k3); omega)
 have phb749 : (((((((ok0F s v) && pairF sessOk Sess.client 8 (s.sess.take k))) && pairF openOk Opn.set 8 (s.opens.take k2))) && nairF s v (s.snaps.take k3))) = false := hb749
 refine WC.draw' mixed_orders [.ex [] (.bool (((((((ok0F s v) && pairF sessOk Sess.client 8 (s.sess.take k))) && pairF openOk Opn.set 8 (s.opens.take k2))) && nairF s v (s.snaps.take k3)))), .ex [0] (.bool false), .ex [1] undef, .ex [1] (.bool false), .ex [3] (.bool false), .ex [4] undef, .ex [4] undef, .ex [4] undef, .ex [7] undef, .ex [7] undef, .ex [7] undef, .ex [7] undef, .ex [7] undef, .ex [7] undef, .ex [7] undef, .ex [7] undef, .ex [7] undef, .ex [7] undef, .ex [7] undef, .ex [7] undef, .ex [7] undef, .ex [7] undef, .ex [4] undef, .ex [4] (.bool false)] 24 (by kernel_rfl) ⟨fun _ _ _ h _ => h, fun _ _ _ h _ => h, fun _ _ _ h _ => h, fun _ _ _ h _ => h, fun _ _ _ h _ => h, fun _ _ _ h _ => h, fun _ _ _ h _ => h, fun _ _ _ h _ => h, fun _ _ _ h _ => h, fun _ _ _ h _ => h, fun _ _ _ h _ => h, fun _ _ _ h _ => h, fun _ _ _ h _ => h, fun _ _ _ h _ => h, fun _ _ _ h _ => h, fun _ _ _ h _ => h, fun _ _ _ h _ => h, fun _ _ _ h _ => h, fun _ _ _ h _ => h, fun _ _ _ h _ => h, fun _ _ _ h _ => h, fun _ _ _ h _ => h, fun _ _ _ h _ => h, fun _ _ _ h _ => h, trivial⟩ ⟨?_, ?_, ?_, ?_, ?_, ?_, ?_, ?_, ?_, ?_, ?_, ?_, ?_, ?_, ?_, ?_, ?_, ?_, ?_, ?_, ?_, ?_, ?_, ?_, trivial⟩ ?_
 rintro vs w1019 k1019 ⟨-⟩
 replace k1019 : Kp [] w738 w1019 := k1019
 refine WO.haves (fr' := [(5, (.bool (((((((ok0F s v) && pairF sessOk Sess.client 8 (s.sess.take k))) && pairF openOk Opn.set 8 (s.opens.take k2))) && nairF s v (s.snaps.take k3)))))]) ⟨⟨_, rfl, rfl⟩, trivial⟩ ?_
 refine WO.v (R.move rfl) rfl ?_
 refine WO.nil ?_
 exact WX.stepDone rfl rfl (Kp.refl _)
 rintro vs w1020 k1020 ⟨e1021, -⟩
 replace k1020 : Kp [] w738 w1020 := k1020
 refine WO.haves (fr' := [(155, (.bool (((((((ok0F s v) && pairF sessOk Sess.client 8 (s.sess.take k))) && pairF openOk Opn.set 8 (s.opens.take k2))) && nairF s v (s.snaps.take k3)))))]) ⟨⟨_, rfl, e1021⟩, trivial⟩ ?_
 refine WO.v (R.move rfl) rfl ?_
 refine WO.nil ?_
 exact WX.stepDone rfl (vb hb749) (Kp.refl _)
 rintro vs w1022 k1022 ⟨e1023, -⟩
 replace k1022 : Kp [] w738 w1022 := k1022
 refine WO.haves (fr' := [(156, (.bool false)), (11, (.bool (snapR (s.next) (v) (x705))))]) ⟨⟨_, rfl, e1023⟩, ⟨_, rfl, rfl⟩, trivial⟩ ?_
 refine WO.off rfl rfl rfl rfl ?_
 refine WO.nil ?_
 exact WX.stepDone rfl rfl (Kp.refl _)
 rintro vs w1024 k1024 ⟨e1025, -⟩
 replace k1024 : Kp [] w738 w1024 := k1024
 refine WO.haves (fr' := [(156, (.bool false))]) ⟨⟨_, rfl, e1025⟩, trivial⟩ ?_
 refine WO.v (R.pickF rfl rfl rfl) rfl ?_
 refine WO.nil ?_
 exact WX.stepDone rfl rfl (Kp.refl _)
 rintro vs w1026 k1026 ⟨e1027, -⟩
 replace k1026 : Kp [] w738 w1026 := k1026
 refine WO.haves (fr' := [(158, (.bool false))]) ⟨⟨_, rfl, e1027⟩, trivial⟩ ?_
 refine WO.v (R.move rfl) rfl ?_
 refine WO.nil ?_
 exact WX.stepDone rfl rfl (Kp.refl _)
 rintro vs w1028 k1028 ⟨e1029, -⟩
 replace k1028 : Kp [] w738 w1028 := k1028
 refine WO.haves (fr' := [(159, (.bool false)), (10, (.int .i64 ((k3 : Nat) : Int)))]) ⟨⟨_, rfl, e1029⟩, ⟨_, rfl, rfl⟩, trivial⟩ ?_
 refine WO.off rfl rfl rfl rfl ?_
 refine WO.nil ?_
 exact WX.stepDone rfl rfl (Kp.refl _)
 rintro vs w1030 k1030 ⟨e1031, -⟩
 replace k1030 : Kp [] w738 w1030 := k1030
 refine WO.haves (fr' := [(159, (.bool false))]) ⟨⟨_, rfl, e1031⟩, trivial⟩ ?_
 refine WO.off rfl rfl rfl rfl ?_
 refine WO.nil ?_
 exact WX.stepDone rfl rfl (Kp.refl _)
 rintro vs w1032 k1032 ⟨e1033, -⟩
 replace k1032 : Kp [] w738 w1032 := k1032
 refine WO.haves (fr' := [(159, (.bool false))]) ⟨⟨_, rfl, e1033⟩, trivial⟩ ?_
 refine WO.off rfl rfl rfl rfl ?_
 refine WO.nil ?_
 exact WX.stepDone rfl rfl (Kp.refl _)
 rintro vs w1034 k1034 ⟨e1035, -⟩
 replace k1034 : Kp [] w738 w1034 := k1034
 refine WO.haves (fr' := [(162, undef), (2, (.pointer (some ⟨w.heap.size, 0, none⟩)))]) ⟨⟨_, rfl, e1035⟩, ⟨_, rfl, rfl⟩, trivial⟩ ?_
 refine WO.offU rfl rfl rfl ?_
 refine WO.nil ?_
 exact WX.stepDone rfl rfl (Kp.refl _)
 rintro vs w1036 k1036 ⟨e1037, -⟩
 replace k1036 : Kp [] w738 w1036 := k1036
 refine WO.haves (fr' := [(162, undef)]) ⟨⟨_, rfl, e1037⟩, trivial⟩ ?_
 refine WO.offU rfl rfl rfl ?_
 refine WO.nil ?_
 exact WX.stepDone rfl rfl (Kp.refl _)
 rintro vs w1038 k1038 ⟨e1039, -⟩
 replace k1038 : Kp [] w738 w1038 := k1038
 refine WO.haves (fr' := [(162, undef), (10, (.int .i64 ((k3 : Nat) : Int)))]) ⟨⟨_, rfl, e1039⟩, ⟨_, rfl, rfl⟩, trivial⟩ ?_
 refine WO.offU rfl rfl rfl ?_
 refine WO.nil ?_
 exact WX.stepDone rfl rfl (Kp.refl _)
 rintro vs w1040 k1040 ⟨e1041, -⟩
 replace k1040 : Kp [] w738 w1040 := k1040
 refine WO.haves (fr' := [(162, undef)]) ⟨⟨_, rfl, e1041⟩, trivial⟩ ?_
 refine WO.offU rfl rfl rfl ?_
 refine WO.nil ?_
 exact WX.stepDone rfl rfl (Kp.refl _)
 rintro vs w1042 k1042 ⟨e1043, -⟩
 replace k1042 : Kp [] w738 w1042 := k1042
 refine WO.haves (fr' := [(162, undef)]) ⟨⟨_, rfl, e1043⟩, trivial⟩ ?_
 refine WO.offU rfl rfl rfl ?_
 refine WO.nil ?_
 exact WX.stepDone rfl rfl (Kp.refl _)
 rintro vs w1044 k1044 ⟨e1045, -⟩
 replace k1044 : Kp [] w738 w1044 := k1044
 refine WO.haves (fr' := [(162, undef)]) ⟨⟨_, rfl, e1045⟩, trivial⟩ ?_
 refine WO.offU rfl rfl rfl ?_
 refine WO.nil ?_
 exact WX.stepDone rfl rfl (Kp.refl _)
 rintro vs w1046 k1046 ⟨e1047, -⟩
 replace k1046 : Kp [] w738 w1046 := k1046
 refine WO.haves (fr' := [(162, undef)]) ⟨⟨_, rfl, e1047⟩, trivial⟩ ?_
 refine WO.offU rfl rfl rfl ?_
 refine WO.nil ?_
 exact WX.stepDone rfl rfl (Kp.refl _)
 rintro vs w1048 k1048 ⟨e1049, -⟩
 replace k1048 : Kp [] w738 w1048 := k1048
 refine WO.haves (fr' := [(162, undef), (2, (.pointer (some ⟨w.heap.size, 0, none⟩)))]) ⟨⟨_, rfl, e1049⟩, ⟨_, rfl, rfl⟩, trivial⟩ ?_
 refine WO.offU rfl rfl rfl ?_
 refine WO.nil ?_
 exact WX.stepDone rfl rfl (Kp.refl _)
 rintro vs w1050 k1050 ⟨e1051, -⟩
 replace k1050 : Kp [] w738 w1050 := k1050
 refine WO.haves (fr' := [(162, undef)]) ⟨⟨_, rfl, e1051⟩, trivial⟩ ?_
 refine WO.offU rfl rfl rfl ?_
 refine WO.nil ?_
 exact WX.stepDone rfl rfl (Kp.refl _)
 rintro vs w1052 k1052 ⟨e1053, -⟩
 replace k1052 : Kp [] w738 w1052 := k1052
 refine WO.haves (fr' := [(162, undef), (10, (.int .i64 ((k3 : Nat) : Int)))]) ⟨⟨_, rfl, e1053⟩, ⟨_, rfl, rfl⟩, trivial⟩ ?_
 refine WO.offU rfl rfl rfl ?_
 refine WO.nil ?_
 exact WX.stepDone rfl rfl (Kp.refl _)
 rintro vs w1054 k1054 ⟨e1055, -⟩
 replace k1054 : Kp [] w738 w1054 := k1054
 refine WO.haves (fr' := [(162, undef)]) ⟨⟨_, rfl, e1055⟩, trivial⟩ ?_
 refine WO.offU rfl rfl rfl ?_
 refine WO.nil ?_
 exact WX.stepDone rfl rfl (Kp.refl _)
 rintro vs w1056 k1056 ⟨e1057, -⟩
 replace k1056 : Kp [] w738 w1056 := k1056
 refine WO.haves (fr' := [(162, undef)]) ⟨⟨_, rfl, e1057⟩, trivial⟩ ?_
 refine WO.offU rfl rfl rfl ?_
 refine WO.nil ?_
 exact WX.stepDone rfl rfl (Kp.refl _)
 rintro vs w1058 k1058 ⟨e1059, -⟩
 replace k1058 : Kp [] w738 w1058 := k1058
 refine WO.haves (fr' := [(162, undef)]) ⟨⟨_, rfl, e1059⟩, trivial⟩ ?_
 refine WO.offU rfl rfl rfl ?_
 refine WO.nil ?_
 exact WX.stepDone rfl rfl (Kp.refl _)
 rintro vs w1060 k1060 ⟨e1061, -⟩
 replace k1060 : Kp [] w738 w1060 := k1060
 refine WO.haves (fr' := [(162, undef)]) ⟨⟨_, rfl, e1061⟩, trivial⟩ ?_
 refine WO.offU rfl rfl rfl ?_
 refine WO.nil ?_
 exact WX.stepDone rfl rfl (Kp.refl _)
 rintro vs w1062 k1062 ⟨e1063, -⟩
 replace k1062 : Kp [] w738 w1062 := k1062
 refine WO.haves (fr' := [(159, (.bool false))]) ⟨⟨_, rfl, e1063⟩, trivial⟩ ?_
 refine WO.off rfl rfl rfl rfl ?_
 refine WO.nil ?_
 exact WX.stepDone rfl rfl (Kp.refl _)
 rintro vs w1064 k1064 ⟨e1065, -⟩
 replace k1064 : Kp [] w738 w1064 := k1064
 refine WO.haves (fr' := [(159, (.bool false))]) ⟨⟨_, rfl, e1065⟩, trivial⟩ ?_
 refine WO.v (R.pickF rfl rfl rfl) rfl ?_
 refine WO.nil ?_
 exact WX.stepDone rfl rfl (Kp.refl _)
 rintro vs w1066 k1066 ⟨-, -, -, -, -, -, -, -, -, -, -, -, -, -, -, -, -, -, -, -, -, -, -, e1090, -⟩
 replace k1066 : Kp [] w738 w1066 := k1066
 have z1066 : w738.heap.size ≤ w1066.heap.size := k1066.size
 have b1066 := old_kp0 b738 k1066
 have y1066 : w.heap.size ≤ w1066.heap.size := b1066.size
 refine WO.haves (fr' := [(178, (.bool false)), (0, (.agg #[(.int .i64 s.version), (.int .i64 s.next), (.int .i64 s.keep), (.int .i64 s.quota), (.slice a5 s.sess.length c6), (.slice a8 s.opens.length c9), (.slice a11 s.snaps.length c12)])), (1, (.int .i64 v)), (2, (.pointer (some ⟨w.heap.size, 0, none⟩))), (4, (.int .i64 (0 : Int))), (5, (.bool (((((((ok0F s v) && pairF sessOk Sess.client 8 (s.sess.take k))) && pairF openOk Opn.set 8 (s.opens.take k2))) && nairF s v (s.snaps.take k3))))), (6, (.int .i64 ((k : Nat) : Int))), (8, (.int .i64 ((k2 : Nat) : Int))), (10, (.int .i64 ((k3 : Nat) : Int))), (11, (.bool (snapR (s.next) (v) (x705)))), (14, (.bool (!((decide (((1 : Int)) ≤ (v))) && (decide ((v) ≤ ((3 : Int)))))))), (52, (.bool (decide (((k : Nat) : Int) < ((s.sess.length : Nat) : Int))))), (104, (.bool (decide (((k2 : Nat) : Int) < ((s.opens.length : Nat) : Int))))), (143, (.bool (decide (((k3 : Nat) : Int) < ((s.snaps.length : Nat) : Int)))))]) ⟨⟨_, rfl, e1090⟩, ⟨_, rfl, rfl⟩, ⟨_, rfl, rfl⟩, ⟨_, rfl, rfl⟩, ⟨_, rfl, rfl⟩, ⟨_, rfl, rfl⟩, ⟨_, rfl, rfl⟩, ⟨_, rfl, rfl⟩, ⟨_, rfl, rfl⟩, ⟨_, rfl, rfl⟩, ⟨_, rfl, rfl⟩, ⟨_, rfl, rfl⟩, ⟨_, rfl, rfl⟩, ⟨_, rfl, rfl⟩, trivial⟩ ?_
 refine WO.v (R.assign rfl) rfl ?_
 refine WO.nil ?_
 refine WX.sel [0, 1, 2, 4, 5, 6, 8, 10, 11, 14, 52, 104, 143] rfl ?_
 refine WX.blkNormal ?_
 refine WX.next ?_
 refine WC.region ?_
 refine WO.v (R.move rfl) rfl ?_
 refine WO.v (R.inc rfl (by omega)) rfl ?_
 refine WO.v (R.assign rfl) rfl ?_
 refine WO.nil ?_
 refine WX.sel [0, 1, 2, 4, 5, 6, 8, 10, 11, 14, 52, 104, 143] rfl ?_
 exact WX.loopNextK [0, 1, 2, 4, 6, 8, 14, 52, 104] (k3 + 1) rfl ⟨⟨_, rfl, rfl⟩, ⟨_, rfl, vb (by first | (rw [snap_step hx705, hb749]; rfl) | (rw [snap_step hx705, hb749, lastK_at (key := Snap.id) (a := 0) (by omega) ‹s.snaps[k3 - 1]? = some _›]; rfl))⟩, trivial⟩ ⟨(((Kp.refl _).step k702 (by simp)).step k738 (by simp)).step k1066 (by simp), by omega⟩ (by show (s.snaps.length - (k3 + 1)) < (s.snaps.length - k3); omega)
 have p704 : ¬ (((k3 : Nat) : Int) < ((s.snaps.length : Nat) : Int)) := of_decide_eq_false q704
 refine WC.exit ?_
 refine WX.thenExit ?_
 refine WX.loopExit ?_
 refine WX.blkHit ?_
 refine WX.next ?_
 refine WC.seq ?_
 refine WC.seq ?_
 refine WC.region ?_
 refine WO.v (R.move rfl) rfl ?_
 refine WO.v (R.not rfl) rfl ?_
 refine WO.nil ?_
 refine WX.sel [0, 1, 2, 4, 5, 6, 8, 10, 14, 52, 104, 143, 180] rfl ?_
 refine WX.next ?_
 refine WC.cond rfl (fun q1091 => ?_) (fun q1091 => ?_)
 have p1091 : (((((((ok0F s v) && pairF sessOk Sess.client 8 (s.sess.take k))) && pairF openOk Opn.set 8 (s.opens.take k2))) && nairF s v (s.snaps.take k3))) = false := (bnot_t q1091)
 refine WC.seq ?_
 refine WC.region ?_
 refine WO.v (R.assign rfl) rfl ?_
 refine WO.nil ?_
 refine WX.sel [0, 1, 2, 4, 5, 6, 8, 10, 14, 52, 104, 143, 180] rfl ?_
 refine WX.next ?_
 refine WC.ret ?_
 refine WX.thenRet ?_
 have e0 : (6 : Int) = (mayF s v) := by first | exact may1 q1091 | exact mayR6 q15 (by omega) (by omega) (by omega) q1091 | exact mayR0 q15 (by omega) (by omega) (by omega) q1091
 refine WX.ret1 Try.results13 rfl ?_
 exact ⟨by rw [e0], Kp.of_below b702⟩
 have p1091 : (((((((ok0F s v) && pairF sessOk Sess.client 8 (s.sess.take k))) && pairF openOk Opn.set 8 (s.opens.take k2))) && nairF s v (s.snaps.take k3))) = true := (bnot_f q1091)
 refine WC.skip ?_
 refine WX.next ?_
 refine WC.seq ?_
 refine WC.region ?_
 refine WO.v (R.assign rfl) rfl ?_
 refine WO.nil ?_
 refine WX.sel [0, 1, 2, 4, 5, 6, 8, 10, 14, 52, 104, 143, 180] rfl ?_
 refine WX.next ?_
 refine WC.ret ?_
 have e0 : (0 : Int) = (mayF s v) := by first | exact may1 q1091 | exact mayR6 q15 (by omega) (by omega) (by omega) q1091 | exact mayR0 q15 (by omega) (by omega) (by omega) q1091
 refine WX.ret1 Try.results13 rfl ?_
 exact ⟨by rw [e0], Kp.of_below b702⟩


end Go.Proofs.Ytaenkjlhdlddgaa
