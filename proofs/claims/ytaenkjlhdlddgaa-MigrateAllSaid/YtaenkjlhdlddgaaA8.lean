/- Contracts of functions, walked operation by operation. -/
import Derived.Test.YtaenkjlhdlddgaaA7
namespace Go.Proofs.Ytaenkjlhdlddgaa
open Go.RowKit

def snapR (next v : Int) (x : Snap) : Bool := ((((rowF x.chunks && inB x.id 1 (IntKind.i64.wrap (next - 1))) && inB x.set 1 8) && (!x.held || decide (2 ≤ v))) && decide (((x.tag.b.length : Nat) : Int) ≤ 16)) && (decide (x.tag = ⟨[]⟩) || decide (3 ≤ v))
def pairF {α : Type} (p : α → Bool) (key : α → Int) (most : Int) (l : List α) : Bool := risingF key most 0 l && l.all p
def ok0F (s : State) (v : Int) : Bool := ((((((decide ((1 : Int) ≤ s.version)) && (decide (s.version ≤ (3 : Int)))) && ((decide ((1 : Int) ≤ s.next)) && (decide (s.next ≤ (1048576 : Int))))) && ((decide ((0 : Int) ≤ s.keep)) && (decide (s.keep ≤ (8 : Int))))) && ((decide ((0 : Int) ≤ s.quota)) && (decide (s.quota ≤ (64 : Int))))) && (decide (s.quota = (0 : Int)) || decide ((3 : Int) ≤ v))) && decide (((s.snaps.length : Nat) : Int) ≤ (16 : Int))
theorem pair_step {α : Type} {p : α → Bool} {key : α → Int} {most : Int} {l : List α} {k : Nat} {x : α} (hx : l[k]? = some x) : pairF p key most (l.take (k + 1)) = (pairF p key most (l.take k) && (inB (key x) 1 most && p x) && (decide (((k : Nat) : Int) = (0 : Int)) || decide (lastK key 0 (l.take k) < key x))) := by
  unfold pairF
  rw [take_succ_get hx, rising_snoc, List.all_append]
  have e : inB (key x) (lastK key 0 (l.take k) + 1) most = true ↔ (lastK key 0 (l.take k) < key x ∧ key x ≤ most) := by
    unfold inB; rw [Bool.and_eq_true, decide_eq_true_eq, decide_eq_true_eq]; omega
  have e1 : inB (key x) 1 most = true ↔ (1 ≤ key x ∧ key x ≤ most) := by
    unfold inB; rw [Bool.and_eq_true, decide_eq_true_eq, decide_eq_true_eq]
  have hp : ∀ (q : List α) (a : Int), 0 ≤ a → risingF key most a q = true → q ≠ [] → 1 ≤ lastK key a q := by
    intro q
    induction q with
    | nil => intro a _ _ h; exact absurd rfl h
    | cons y q ih =>
      intro a ha hq _
      rw [risingF, Bool.and_eq_true, inB, Bool.and_eq_true, decide_eq_true_eq] at hq
      cases q with
      | nil => show 1 ≤ key y; omega
      | cons z q => exact ih (key y) (by omega) hq.2 (by simp)
  cases hr : risingF key most 0 (l.take k) with
  | false => simp
  | true =>
    by_cases hk : k = 0
    · subst hk
      have h0 : lastK key 0 (l.take 0) = 0 := rfl
      have e2 : inB (key x) (lastK key 0 (l.take 0) + 1) most = inB (key x) 1 most := by rw [h0]; rfl
      rw [e2]; simp
    · have hne : l.take k ≠ [] := by
        intro h
        have h3 : (l.take k).length = 0 := by rw [h]; rfl
        have h2 := get_lt hx
        rw [List.length_take] at h3
        omega
      have h1 := hp _ _ (Int.le_refl 0) hr hne
      have e3 : inB (key x) (lastK key 0 (l.take k) + 1) most = (inB (key x) 1 most && decide (lastK key 0 (l.take k) < key x)) := by
        rw [Bool.eq_iff_iff, Bool.and_eq_true, e, e1, decide_eq_true_eq]; omega
      have e4 : decide (((k : Nat) : Int) = (0 : Int)) = false := decide_eq_false (by omega)
      rw [e3, e4]
      cases inB (key x) 1 most <;> cases decide (lastK key 0 (l.take k) < key x) <;> cases (l.take k).all p <;> cases hpx : p x <;> simp [hpx]



set_option maxRecDepth 100000 in
set_option maxHeartbeats 400000 in
theorem in7_s {w : World} (n : Int) (a : Int) (b : Int)  :
    Ret Try.prog 28 [.int .i64 n, .int .i64 a, .int .i64 b].toArray w fun r w' => r = .bool ((decide (a ≤ n)) && (decide (n ≤ b))) ∧ w = w' := by
 refine Ret.enter Try.func28 rfl Try.ntmps28 rfl rfl ?_
 refine WC.sel [0, 1, 2] rfl ?_
 refine WC.seq ?_
 refine WC.region ?_
 refine WO.v (R.assign rfl) rfl ?_
 refine WO.nil ?_
 refine WX.sel [0, 1, 2, 6] rfl ?_
 refine WX.next ?_
 refine WC.seq ?_
 refine WC.region ?_
 refine WO.v (R.move rfl) rfl ?_
 refine WO.v (R.move rfl) rfl ?_
 refine WO.v (R.geq rfl rfl) rfl ?_
 refine WO.v (R.move rfl) rfl ?_
 refine WO.cutP 4 [(14, (.bool ((decide (a ≤ n)) && (decide (n ≤ b)))))] (fun w' => w = w') ?_ ?_
 rcases Bool.eq_false_or_eq_true (decide (a ≤ n)) with hb1 | hb1
 have phb1 : a ≤ n := of_decide_eq_true hb1
 refine WO.on rfl rfl hb1 ?_
 refine WO.v (R.move rfl) rfl ?_
 refine WO.on rfl rfl hb1 ?_
 refine WO.v (R.move rfl) rfl ?_
 refine WO.on rfl rfl hb1 ?_
 refine WO.v (R.leq rfl rfl) rfl ?_
 refine WO.v (R.pickT rfl hb1 rfl) rfl ?_
 refine WO.nil ?_
 exact WX.cutDoneP 4 rfl rfl ⟨⟨_, rfl, vb (band_on hb1)⟩, trivial⟩ (rfl)
 have phb1 : ¬ (a ≤ n) := of_decide_eq_false hb1
 refine WO.off rfl rfl hb1 rfl ?_
 refine WO.off rfl rfl hb1 rfl ?_
 refine WO.off rfl rfl hb1 rfl ?_
 refine WO.v (R.pickF rfl hb1 rfl) rfl ?_
 refine WO.nil ?_
 exact WX.cutDoneP 4 rfl rfl ⟨⟨_, rfl, vb (band_off hb1)⟩, trivial⟩ (rfl)
 rintro _ rfl
 refine WO.v (R.assign rfl) rfl ?_
 refine WO.nil ?_
 refine WX.sel [0, 1, 2, 6] rfl ?_
 refine WX.next ?_
 refine WC.ret ?_
 have e0 : ((decide (a ≤ n)) && (decide (n ≤ b))) = ((decide (a ≤ n)) && (decide (n ≤ b))) := by rfl
 refine WX.ret1 Try.results28 rfl ?_
 exact ⟨by rw [e0], rfl⟩

set_option maxRecDepth 100000 in
set_option maxHeartbeats 400000 in
theorem snap7_s {w : World} {cs_x : List Value} {x : Snap} (next : Int) (v : Int) (h_x : Rp.rp false 0 w.heap.size w cs_x x) :
    Ret Try.prog 29 [.agg cs_x.toArray, .int .i64 next, .int .i64 v].toArray w fun r w' => r = .bool (snapR next v x) ∧ Kp [] w w' := by
 obtain ⟨a3, c4, rfl, i1, i2, s5, i6⟩ := Snap.el h_x
 have ls5 : (x.chunks).length * 8 ≤ 140737488355328 := s5.lenle
 refine Ret.enter Try.func29 rfl Try.ntmps29 rfl rfl ?_
 refine WC.sel [0, 1, 2] rfl ?_
 refine WC.seq ?_
 refine WC.region ?_
 refine WO.box rfl rfl rfl ?_
 intro w7 n7
 have z7 : w.heap.size < w7.heap.size := n7.lt
 have b7 := old_kp0 (Below.refl w.heap.size w) n7.kp
 have y7 : w.heap.size ≤ w7.heap.size := b7.size
 refine WO.v (R.assign rfl) rfl ?_
 refine WO.nil ?_
 refine WX.sel [0, 1, 2, 3, 6] rfl ?_
 refine WX.next ?_
 refine WC.seq ?_
 refine WC.region ?_
 refine WO.v (fa46_2 rfl) rfl ?_
 refine WO.v (R.loadB rfl n7.blk rfl Try.underlying24 rfl) rfl ?_
 refine WO.c (E.call rfl rfl Try.func49 rfl rfl) (row5_s (l := x.chunks) (a_l := a3) (c_l := c4) ((sl_old s5 b7).mono (lo' := 0) (hi' := w7.heap.size) (Nat.zero_le _) (by omega))) rfl ?_
 rintro _ w8 ⟨rfl, k8⟩
 have z8 : w7.heap.size ≤ w8.heap.size := k8.size
 have b8 := old_kp0 b7 k8
 have y8 : w.heap.size ≤ w8.heap.size := b8.size
 refine WO.v (R.assign rfl) rfl ?_
 refine WO.nil ?_
 refine WX.sel [0, 1, 2, 3, 6, 7] rfl ?_
 refine WX.next ?_
 refine WC.seq ?_
 refine WC.region ?_
 refine WO.v (R.move rfl) rfl ?_
 refine WO.v (R.move rfl) rfl ?_
 refine WO.cutP 6 [(18, (.bool ((rowF (x.chunks)) && ((decide (((1 : Int)) ≤ (x.id))) && (decide ((x.id) ≤ ((IntKind.i64.wrap (next - (1 : Int))))))))))] (fun w' => w8 = w') ?_ ?_
 rcases Bool.eq_false_or_eq_true (rowF (x.chunks)) with hb9 | hb9
 have phb9 : (rowF (x.chunks)) = true := hb9
 refine WO.on rfl rfl hb9 ?_
 refine WO.v (fa46_0 rfl) rfl ?_
 refine WO.on rfl rfl hb9 ?_
 have B10 := (n7.blk).kp0 k8
 refine WO.v (R.loadB rfl B10 rfl Try.underlying3 rfl) rfl ?_
 refine WO.on rfl rfl hb9 ?_
 refine WO.v (R.move rfl) rfl ?_
 refine WO.on rfl rfl hb9 ?_
 refine WO.v (R.subw rfl rfl) rfl ?_
 refine WO.on rfl rfl hb9 ?_
 refine WO.c (E.call rfl rfl Try.func28 rfl rfl) (in7_s (n := x.id) (a := (1 : Int)) (b := (IntKind.i64.wrap (next - (1 : Int)))) ) rfl ?_
 rintro _ _ ⟨rfl, rfl⟩
 refine WO.v (R.pickT rfl hb9 rfl) rfl ?_
 refine WO.nil ?_
 exact WX.cutDoneP 6 rfl rfl ⟨⟨_, rfl, vb (band_on hb9)⟩, trivial⟩ (rfl)
 have phb9 : (rowF (x.chunks)) = false := hb9
 refine WO.off rfl rfl hb9 rfl ?_
 refine WO.off rfl rfl hb9 rfl ?_
 refine WO.off rfl rfl hb9 rfl ?_
 refine WO.off rfl rfl hb9 rfl ?_
 refine WO.off rfl rfl hb9 rfl ?_
 refine WO.v (R.pickF rfl hb9 rfl) rfl ?_
 refine WO.nil ?_
 exact WX.cutDoneP 6 rfl rfl ⟨⟨_, rfl, vb (band_off hb9)⟩, trivial⟩ (rfl)
 rintro _ rfl
 refine WO.v (R.move rfl) rfl ?_
 refine WO.cutP 4 [(23, (.bool (((rowF (x.chunks)) && ((decide (((1 : Int)) ≤ (x.id))) && (decide ((x.id) ≤ ((IntKind.i64.wrap (next - (1 : Int)))))))) && ((decide (((1 : Int)) ≤ (x.set))) && (decide ((x.set) ≤ ((8 : Int))))))))] (fun w' => w8 = w') ?_ ?_
 rcases Bool.eq_false_or_eq_true ((rowF (x.chunks)) && ((decide (((1 : Int)) ≤ (x.id))) && (decide ((x.id) ≤ ((IntKind.i64.wrap (next - (1 : Int)))))))) with hb11 | hb11
 have phb11 : ((rowF (x.chunks)) = true) ∧ ((((1 : Int)) ≤ (x.id)) ∧ ((x.id) ≤ ((IntKind.i64.wrap (next - (1 : Int)))))) := ⟨(band_t hb11).1, ⟨of_decide_eq_true (band_t (band_t hb11).2).1, of_decide_eq_true (band_t (band_t hb11).2).2⟩⟩
 refine WO.on rfl rfl hb11 ?_
 refine WO.v (fa46_1 rfl) rfl ?_
 refine WO.on rfl rfl hb11 ?_
 have B12 := (n7.blk).kp0 k8
 refine WO.v (R.loadB rfl B12 rfl Try.underlying3 rfl) rfl ?_
 refine WO.on rfl rfl hb11 ?_
 refine WO.c (E.call rfl rfl Try.func28 rfl rfl) (in7_s (n := x.set) (a := (1 : Int)) (b := (8 : Int)) ) rfl ?_
 rintro _ _ ⟨rfl, rfl⟩
 refine WO.v (R.pickT rfl hb11 rfl) rfl ?_
 refine WO.nil ?_
 exact WX.cutDoneP 4 rfl rfl ⟨⟨_, rfl, vb (band_on hb11)⟩, trivial⟩ (rfl)
 have phb11 : ((rowF (x.chunks)) = false) ∨ ((¬ (((1 : Int)) ≤ (x.id))) ∨ (¬ ((x.id) ≤ ((IntKind.i64.wrap (next - (1 : Int))))))) := Or.imp (fun h => h) (fun h => Or.imp (fun h => of_decide_eq_false h) (fun h => of_decide_eq_false h) (band_f h)) (band_f hb11)
 refine WO.off rfl rfl hb11 rfl ?_
 refine WO.off rfl rfl hb11 rfl ?_
 refine WO.off rfl rfl hb11 rfl ?_
 refine WO.v (R.pickF rfl hb11 rfl) rfl ?_
 refine WO.nil ?_
 exact WX.cutDoneP 4 rfl rfl ⟨⟨_, rfl, vb (band_off hb11)⟩, trivial⟩ (rfl)
 rintro _ rfl
 refine WO.v (R.move rfl) rfl ?_
 refine WO.cutP 8 [(32, (.bool ((((rowF (x.chunks)) && ((decide (((1 : Int)) ≤ (x.id))) && (decide ((x.id) ≤ ((IntKind.i64.wrap (next - (1 : Int)))))))) && ((decide (((1 : Int)) ≤ (x.set))) && (decide ((x.set) ≤ ((8 : Int)))))) && ((!(x.held)) || (decide ((2 : Int) ≤ v))))))] (fun w' => w8 = w') ?_ ?_
 rcases Bool.eq_false_or_eq_true (((rowF (x.chunks)) && ((decide (((1 : Int)) ≤ (x.id))) && (decide ((x.id) ≤ ((IntKind.i64.wrap (next - (1 : Int)))))))) && ((decide (((1 : Int)) ≤ (x.set))) && (decide ((x.set) ≤ ((8 : Int)))))) with hb13 | hb13
 have phb13 : (((rowF (x.chunks)) = true) ∧ ((((1 : Int)) ≤ (x.id)) ∧ ((x.id) ≤ ((IntKind.i64.wrap (next - (1 : Int))))))) ∧ ((((1 : Int)) ≤ (x.set)) ∧ ((x.set) ≤ ((8 : Int)))) := ⟨⟨(band_t (band_t hb13).1).1, ⟨of_decide_eq_true (band_t (band_t (band_t hb13).1).2).1, of_decide_eq_true (band_t (band_t (band_t hb13).1).2).2⟩⟩, ⟨of_decide_eq_true (band_t (band_t hb13).2).1, of_decide_eq_true (band_t (band_t hb13).2).2⟩⟩
 refine WO.on rfl rfl hb13 ?_
 refine WO.v (fa46_3 rfl) rfl ?_
 refine WO.on rfl rfl hb13 ?_
 have B14 := (n7.blk).kp0 k8
 refine WO.v (R.loadB rfl B14 rfl Try.underlying4 rfl) rfl ?_
 refine WO.on rfl rfl hb13 ?_
 refine WO.v (R.not rfl) rfl ?_
 refine WO.on rfl rfl hb13 ?_
 refine WO.v (R.move rfl) rfl ?_
 refine WO.cutP 3 [(31, (.bool ((!(x.held)) || (decide ((2 : Int) ≤ v)))))] (fun w' => w8 = w') ?_ ?_
 rcases Bool.eq_false_or_eq_true (!(x.held)) with hb15 | hb15
 have phb15 : (x.held) = false := (bnot_t hb15)
 refine WO.off rfl rfl hb15 rfl ?_
 refine WO.off rfl rfl hb15 rfl ?_
 refine WO.on rfl rfl hb13 ?_
 refine WO.v (R.pickT rfl hb15 rfl) rfl ?_
 refine WO.nil ?_
 exact WX.cutDoneP 3 rfl rfl ⟨⟨_, rfl, vb (bor_on hb15)⟩, trivial⟩ (rfl)
 have phb15 : (x.held) = true := (bnot_f hb15)
 refine WO.on rfl rfl hb15 ?_
 refine WO.v (R.move rfl) rfl ?_
 refine WO.on rfl rfl hb15 ?_
 refine WO.v (R.geq rfl rfl) rfl ?_
 refine WO.on rfl rfl hb13 ?_
 refine WO.v (R.pickF rfl hb15 rfl) rfl ?_
 refine WO.nil ?_
 exact WX.cutDoneP 3 rfl rfl ⟨⟨_, rfl, vb (bor_off hb15)⟩, trivial⟩ (rfl)
 rintro _ rfl
 refine WO.v (R.pickT rfl hb13 rfl) rfl ?_
 refine WO.nil ?_
 exact WX.cutDoneP 6 rfl rfl ⟨⟨_, rfl, vb (band_on hb13)⟩, trivial⟩ (rfl)
 have phb13 : (((rowF (x.chunks)) = false) ∨ ((¬ (((1 : Int)) ≤ (x.id))) ∨ (¬ ((x.id) ≤ ((IntKind.i64.wrap (next - (1 : Int)))))))) ∨ ((¬ (((1 : Int)) ≤ (x.set))) ∨ (¬ ((x.set) ≤ ((8 : Int))))) := Or.imp (fun h => Or.imp (fun h => h) (fun h => Or.imp (fun h => of_decide_eq_false h) (fun h => of_decide_eq_false h) (band_f h)) (band_f h)) (fun h => Or.imp (fun h => of_decide_eq_false h) (fun h => of_decide_eq_false h) (band_f h)) (band_f hb13)
 refine WO.off rfl rfl hb13 rfl ?_
 refine WO.off rfl rfl hb13 rfl ?_
 refine WO.off rfl rfl hb13 rfl ?_
 refine WO.off rfl rfl hb13 rfl ?_
 refine WO.offU rfl rfl rfl ?_
 refine WO.offU rfl rfl rfl ?_
 refine WO.off rfl rfl hb13 rfl ?_
 refine WO.v (R.pickF rfl hb13 rfl) rfl ?_
 refine WO.nil ?_
 exact WX.cutDoneP 8 rfl rfl ⟨⟨_, rfl, vb (band_off hb13)⟩, trivial⟩ (rfl)
 rintro _ rfl
 refine WO.v (R.move rfl) rfl ?_
 refine WO.cutP 5 [(38, (.bool (((((rowF (x.chunks)) && ((decide (((1 : Int)) ≤ (x.id))) && (decide ((x.id) ≤ ((IntKind.i64.wrap (next - (1 : Int)))))))) && ((decide (((1 : Int)) ≤ (x.set))) && (decide ((x.set) ≤ ((8 : Int)))))) && ((!(x.held)) || (decide ((2 : Int) ≤ v)))) && (decide (((x.tag.b.length : Nat) : Int) ≤ (16 : Int))))))] (fun w' => w8 = w') ?_ ?_
 rcases Bool.eq_false_or_eq_true ((((rowF (x.chunks)) && ((decide (((1 : Int)) ≤ (x.id))) && (decide ((x.id) ≤ ((IntKind.i64.wrap (next - (1 : Int)))))))) && ((decide (((1 : Int)) ≤ (x.set))) && (decide ((x.set) ≤ ((8 : Int)))))) && ((!(x.held)) || (decide ((2 : Int) ≤ v)))) with hb16 | hb16
 have phb16 : ((((rowF (x.chunks)) = true) ∧ ((((1 : Int)) ≤ (x.id)) ∧ ((x.id) ≤ ((IntKind.i64.wrap (next - (1 : Int))))))) ∧ ((((1 : Int)) ≤ (x.set)) ∧ ((x.set) ≤ ((8 : Int))))) ∧ (((x.held) = false) ∨ ((2 : Int) ≤ v)) := ⟨⟨⟨(band_t (band_t (band_t hb16).1).1).1, ⟨of_decide_eq_true (band_t (band_t (band_t (band_t hb16).1).1).2).1, of_decide_eq_true (band_t (band_t (band_t (band_t hb16).1).1).2).2⟩⟩, ⟨of_decide_eq_true (band_t (band_t (band_t hb16).1).2).1, of_decide_eq_true (band_t (band_t (band_t hb16).1).2).2⟩⟩, Or.imp (fun h => (bnot_t h)) (fun h => of_decide_eq_true h) (bor_t (band_t hb16).2)⟩
 refine WO.on rfl rfl hb16 ?_
 refine WO.v (fa46_4 rfl) rfl ?_
 refine WO.on rfl rfl hb16 ?_
 have B17 := (n7.blk).kp0 k8
 refine WO.v (R.loadB rfl B17 rfl Try.underlying9 rfl) rfl ?_
 refine WO.on rfl rfl hb16 ?_
 refine WO.v (R.lenS rfl Try.underlying9) rfl ?_
 refine WO.on rfl rfl hb16 ?_
 refine WO.v (R.leq rfl rfl) rfl ?_
 refine WO.v (R.pickT rfl hb16 rfl) rfl ?_
 refine WO.nil ?_
 exact WX.cutDoneP 5 rfl rfl ⟨⟨_, rfl, vb (band_on hb16)⟩, trivial⟩ (rfl)
 have phb16 : ((((rowF (x.chunks)) = false) ∨ ((¬ (((1 : Int)) ≤ (x.id))) ∨ (¬ ((x.id) ≤ ((IntKind.i64.wrap (next - (1 : Int)))))))) ∨ ((¬ (((1 : Int)) ≤ (x.set))) ∨ (¬ ((x.set) ≤ ((8 : Int)))))) ∨ (((x.held) = true) ∧ (¬ ((2 : Int) ≤ v))) := Or.imp (fun h => Or.imp (fun h => Or.imp (fun h => h) (fun h => Or.imp (fun h => of_decide_eq_false h) (fun h => of_decide_eq_false h) (band_f h)) (band_f h)) (fun h => Or.imp (fun h => of_decide_eq_false h) (fun h => of_decide_eq_false h) (band_f h)) (band_f h)) (fun h => ⟨(bnot_f (bor_f h).1), of_decide_eq_false (bor_f h).2⟩) (band_f hb16)
 refine WO.off rfl rfl hb16 rfl ?_
 refine WO.off rfl rfl hb16 rfl ?_
 refine WO.off rfl rfl hb16 rfl ?_
 refine WO.off rfl rfl hb16 rfl ?_
 refine WO.v (R.pickF rfl hb16 rfl) rfl ?_
 refine WO.nil ?_
 exact WX.cutDoneP 5 rfl rfl ⟨⟨_, rfl, vb (band_off hb16)⟩, trivial⟩ (rfl)
 rintro _ rfl
 refine WO.v (R.move rfl) rfl ?_
 refine WO.cutP 8 [(47, (.bool ((((((rowF (x.chunks)) && ((decide (((1 : Int)) ≤ (x.id))) && (decide ((x.id) ≤ ((IntKind.i64.wrap (next - (1 : Int)))))))) && ((decide (((1 : Int)) ≤ (x.set))) && (decide ((x.set) ≤ ((8 : Int)))))) && ((!(x.held)) || (decide ((2 : Int) ≤ v)))) && (decide (((x.tag.b.length : Nat) : Int) ≤ (16 : Int)))) && ((decide (x.tag = (⟨[]⟩ : Str))) || (decide ((3 : Int) ≤ v))))))] (fun w' => w8 = w') ?_ ?_
 rcases Bool.eq_false_or_eq_true (((((rowF (x.chunks)) && ((decide (((1 : Int)) ≤ (x.id))) && (decide ((x.id) ≤ ((IntKind.i64.wrap (next - (1 : Int)))))))) && ((decide (((1 : Int)) ≤ (x.set))) && (decide ((x.set) ≤ ((8 : Int)))))) && ((!(x.held)) || (decide ((2 : Int) ≤ v)))) && (decide (((x.tag.b.length : Nat) : Int) ≤ (16 : Int)))) with hb18 | hb18
 have phb18 : (((((rowF (x.chunks)) = true) ∧ ((((1 : Int)) ≤ (x.id)) ∧ ((x.id) ≤ ((IntKind.i64.wrap (next - (1 : Int))))))) ∧ ((((1 : Int)) ≤ (x.set)) ∧ ((x.set) ≤ ((8 : Int))))) ∧ (((x.held) = false) ∨ ((2 : Int) ≤ v))) ∧ (((x.tag.b.length : Nat) : Int) ≤ (16 : Int)) := ⟨⟨⟨⟨(band_t (band_t (band_t (band_t hb18).1).1).1).1, ⟨of_decide_eq_true (band_t (band_t (band_t (band_t (band_t hb18).1).1).1).2).1, of_decide_eq_true (band_t (band_t (band_t (band_t (band_t hb18).1).1).1).2).2⟩⟩, ⟨of_decide_eq_true (band_t (band_t (band_t (band_t hb18).1).1).2).1, of_decide_eq_true (band_t (band_t (band_t (band_t hb18).1).1).2).2⟩⟩, Or.imp (fun h => (bnot_t h)) (fun h => of_decide_eq_true h) (bor_t (band_t (band_t hb18).1).2)⟩, of_decide_eq_true (band_t hb18).2⟩
 refine WO.on rfl rfl hb18 ?_
 refine WO.v (fa46_4 rfl) rfl ?_
 refine WO.on rfl rfl hb18 ?_
 have B19 := (n7.blk).kp0 k8
 refine WO.v (R.loadB rfl B19 rfl Try.underlying9 rfl) rfl ?_
 refine WO.on rfl rfl hb18 ?_
 refine WO.v (R.eqlS rfl (by rfl)) rfl ?_
 refine WO.on rfl rfl hb18 ?_
 refine WO.v (R.move rfl) rfl ?_
 refine WO.cutP 3 [(46, (.bool ((decide (x.tag = (⟨[]⟩ : Str))) || (decide ((3 : Int) ≤ v)))))] (fun w' => w8 = w') ?_ ?_
 rcases Bool.eq_false_or_eq_true (decide (x.tag = (⟨[]⟩ : Str))) with hb20 | hb20
 have phb20 : x.tag = (⟨[]⟩ : Str) := of_decide_eq_true hb20
 refine WO.off rfl rfl hb20 rfl ?_
 refine WO.off rfl rfl hb20 rfl ?_
 refine WO.on rfl rfl hb18 ?_
 refine WO.v (R.pickT rfl hb20 rfl) rfl ?_
 refine WO.nil ?_
 exact WX.cutDoneP 3 rfl rfl ⟨⟨_, rfl, vb (bor_on hb20)⟩, trivial⟩ (rfl)
 have phb20 : ¬ (x.tag = (⟨[]⟩ : Str)) := of_decide_eq_false hb20
 refine WO.on rfl rfl hb20 ?_
 refine WO.v (R.move rfl) rfl ?_
 refine WO.on rfl rfl hb20 ?_
 refine WO.v (R.geq rfl rfl) rfl ?_
 refine WO.on rfl rfl hb18 ?_
 refine WO.v (R.pickF rfl hb20 rfl) rfl ?_
 refine WO.nil ?_
 exact WX.cutDoneP 3 rfl rfl ⟨⟨_, rfl, vb (bor_off hb20)⟩, trivial⟩ (rfl)
 rintro _ rfl
 refine WO.v (R.pickT rfl hb18 rfl) rfl ?_
 refine WO.nil ?_
 exact WX.cutDoneP 6 rfl rfl ⟨⟨_, rfl, vb (band_on hb18)⟩, trivial⟩ (rfl)
 have phb18 : (((((rowF (x.chunks)) = false) ∨ ((¬ (((1 : Int)) ≤ (x.id))) ∨ (¬ ((x.id) ≤ ((IntKind.i64.wrap (next - (1 : Int)))))))) ∨ ((¬ (((1 : Int)) ≤ (x.set))) ∨ (¬ ((x.set) ≤ ((8 : Int)))))) ∨ (((x.held) = true) ∧ (¬ ((2 : Int) ≤ v)))) ∨ (¬ (((x.tag.b.length : Nat) : Int) ≤ (16 : Int))) := Or.imp (fun h => Or.imp (fun h => Or.imp (fun h => Or.imp (fun h => h) (fun h => Or.imp (fun h => of_decide_eq_false h) (fun h => of_decide_eq_false h) (band_f h)) (band_f h)) (fun h => Or.imp (fun h => of_decide_eq_false h) (fun h => of_decide_eq_false h) (band_f h)) (band_f h)) (fun h => ⟨(bnot_f (bor_f h).1), of_decide_eq_false (bor_f h).2⟩) (band_f h)) (fun h => of_decide_eq_false h) (band_f hb18)
 refine WO.off rfl rfl hb18 rfl ?_
 refine WO.off rfl rfl hb18 rfl ?_
 refine WO.off rfl rfl hb18 rfl ?_
 refine WO.off rfl rfl hb18 rfl ?_
 refine WO.offU rfl rfl rfl ?_
 refine WO.offU rfl rfl rfl ?_
 refine WO.off rfl rfl hb18 rfl ?_
 refine WO.v (R.pickF rfl hb18 rfl) rfl ?_
 refine WO.nil ?_
 exact WX.cutDoneP 8 rfl rfl ⟨⟨_, rfl, vb (band_off hb18)⟩, trivial⟩ (rfl)
 rintro _ rfl
 refine WO.v (R.assign rfl) rfl ?_
 refine WO.nil ?_
 refine WX.sel [0, 1, 2, 3, 6, 7] rfl ?_
 refine WX.next ?_
 refine WC.ret ?_
 have e0 : ((((((rowF (x.chunks)) && ((decide (((1 : Int)) ≤ (x.id))) && (decide ((x.id) ≤ ((IntKind.i64.wrap (next - (1 : Int)))))))) && ((decide (((1 : Int)) ≤ (x.set))) && (decide ((x.set) ≤ ((8 : Int)))))) && ((!(x.held)) || (decide ((2 : Int) ≤ v)))) && (decide (((x.tag.b.length : Nat) : Int) ≤ (16 : Int)))) && ((decide (x.tag = (⟨[]⟩ : Str))) || (decide ((3 : Int) ≤ v)))) = (snapR next v x) := by rfl
 refine WX.ret1 Try.results29 rfl ?_
 exact ⟨by rw [e0], Kp.of_below b8⟩


end Go.Proofs.Ytaenkjlhdlddgaa
