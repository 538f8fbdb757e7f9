/- Contracts of functions, walked operation by operation. -/
import Derived.Test.YtfmlgeeogbhppaaE10
namespace Go.Proofs.Ytfmlgeeogbhppaa
open Go.RowKit

theorem chunksB_pos {l : List Int} (h : l.length = 0 ∨ rowF l = true) (h0 : 0 < ((l.length : Nat) : Int)) : 0 < (((chunksB l).length : Nat) : Int) := by
  rcases h with h | h
  · omega
  · rw [(row_parts h).1, List.length_map]; exact h0
theorem chunksB_zero {l : List Int} (h0 : ¬ 0 < ((l.length : Nat) : Int)) : ¬ 0 < (((chunksB l).length : Nat) : Int) := by
  obtain rfl : l = [] := List.length_eq_zero_iff.1 (by omega)
  decide
def nm6 (l : List Int) : Nat → List Field
  | 0 => []
  | k + 1 => nm6 l k ++ nmF ((k + 1 : Nat) : Int) (l.getD k 0)
theorem nm6_yes {l : List Int} {k : Nat} {x : Int} (hx : l[k]? = some x) (h : ¬ x = 0) : nm6 l k ++ [⟨((k + 1 : Nat) : Int), 0, ⟨x.toNat⟩, []⟩] = nm6 l (k + 1) := by
  rw [nm6, nmF, List.getD_eq_getElem?_getD, hx, Option.getD_some, if_neg h]
theorem nm6_no {l : List Int} {k : Nat} {x : Int} (hx : l[k]? = some x) (h : x = 0) : nm6 l k = nm6 l (k + 1) := by
  rw [nm6, nmF, List.getD_eq_getElem?_getD, hx, Option.getD_some, if_pos h, List.append_nil]
theorem nm6_len {l : List Int} : ∀ {k : Nat}, (nm6 l k).length ≤ k
  | 0 => by simp [nm6]
  | k + 1 => by
    have := nm6_len (l := l) (k := k); have := nm_len ((k + 1 : Nat) : Int) (l.getD k 0)
    rw [nm6, List.length_append]; omega
theorem nn6 {a b c d e f x : Int} {k : Nat} (h : (0 ≤ a ∧ 0 ≤ b ∧ 0 ≤ c) ∧ 0 ≤ d ∧ 0 ≤ e ∧ 0 ≤ f) (hx : [a, b, c, d, e, f][k]? = some x) : 0 ≤ x := by
  have := List.mem_of_getElem? hx
  simp only [List.mem_cons, List.not_mem_nil, or_false] at this
  omega
theorem nm6_end {c : Command} {k : Nat} (h0 : k ≤ 6) (h : 6 ≤ k) : nm6 [c.kind, c.client, c.seq, c.set, c.id, c.n] k = (((((([] ++ nmF 1 c.kind) ++ nmF 2 c.client) ++ nmF 3 c.seq) ++ nmF 4 c.set) ++ nmF 5 c.id) ++ nmF 6 c.n) := by
  obtain rfl : k = 6 := by omega
  rfl
theorem fs_11 {c : Command} {v : Int} {xs : List Field} (e : xs = (((((([] ++ nmF 1 c.kind) ++ nmF 2 c.client) ++ nmF 3 c.seq) ++ nmF 4 c.set) ++ nmF 5 c.id) ++ nmF 6 c.n)) (hr : c.chunks.length = 0 ∨ rowF c.chunks = true) (h : 0 < ((c.chunks.length : Nat) : Int)) (ht : 0 < ((c.text.b.length : Nat) : Int) ∧ 3 ≤ v) : (xs ++ [⟨7, 2, ⟨0⟩, chunksB c.chunks⟩]) ++ [⟨8, 2, ⟨0⟩, c.text.b⟩] = fieldsF c v := by
  rw [fieldsF, if_pos ht.2, fieldsN, byF, byF, if_pos ht.1, if_pos (chunksB_pos hr h), e]
theorem fs_01 {c : Command} {v : Int} {xs : List Field} (e : xs = (((((([] ++ nmF 1 c.kind) ++ nmF 2 c.client) ++ nmF 3 c.seq) ++ nmF 4 c.set) ++ nmF 5 c.id) ++ nmF 6 c.n)) (h : ¬ 0 < ((c.chunks.length : Nat) : Int)) (ht : 0 < ((c.text.b.length : Nat) : Int) ∧ 3 ≤ v) : xs ++ [⟨8, 2, ⟨0⟩, c.text.b⟩] = fieldsF c v := by
  rw [fieldsF, if_pos ht.2, fieldsN, byF, byF, if_pos ht.1, if_neg (chunksB_zero h), e, List.append_nil]
theorem fs_t0 {c : Command} {v : Int} (ht : ¬ (0 < ((c.text.b.length : Nat) : Int) ∧ 3 ≤ v)) : fieldsF c v = fieldsN c := by
  unfold fieldsF byF
  by_cases h3 : 3 ≤ v
  · rw [if_pos h3, if_neg (fun h => ht ⟨h, h3⟩), List.append_nil]
  · rw [if_neg h3]
theorem fs_10 {c : Command} {v : Int} {xs : List Field} (e : xs = (((((([] ++ nmF 1 c.kind) ++ nmF 2 c.client) ++ nmF 3 c.seq) ++ nmF 4 c.set) ++ nmF 5 c.id) ++ nmF 6 c.n)) (hr : c.chunks.length = 0 ∨ rowF c.chunks = true) (h : 0 < ((c.chunks.length : Nat) : Int)) (ht : ¬ (0 < ((c.text.b.length : Nat) : Int) ∧ 3 ≤ v)) : xs ++ [⟨7, 2, ⟨0⟩, chunksB c.chunks⟩] = fieldsF c v := by
  rw [fs_t0 ht, fieldsN, byF, if_pos (chunksB_pos hr h), e]
theorem fs_00 {c : Command} {v : Int} {xs : List Field} (e : xs = (((((([] ++ nmF 1 c.kind) ++ nmF 2 c.client) ++ nmF 3 c.seq) ++ nmF 4 c.set) ++ nmF 5 c.id) ++ nmF 6 c.n)) (h : ¬ 0 < ((c.chunks.length : Nat) : Int)) (ht : ¬ (0 < ((c.text.b.length : Nat) : Int) ∧ 3 ≤ v)) : xs = fieldsF c v := by
  rw [fs_t0 ht, fieldsN, byF, if_neg (chunksB_zero h), e, List.append_nil]



set_option maxRecDepth 100000 in
set_option maxHeartbeats 400000 in
theorem fieldsR_s {w : World} {cs_c : List Value} {c : Command} (v : Int) (h_c : Rp.rp false 0 w.heap.size w cs_c c) (pre0 : 0 ≤ c.kind) (pre1 : 0 ≤ c.client) (pre2 : 0 ≤ c.seq) (pre3 : 0 ≤ c.set) (pre4 : 0 ≤ c.id) (pre5 : 0 ≤ c.n) (pre6 : c.chunks.length = 0 ∨ rowF c.chunks = true) :
    Ret Try.prog 41 [.agg cs_c.toArray, .int .i64 v].toArray w fun r w' => ∃ (ra0 : Option Addr) (rc0 : Nat), r = .slice ra0 (fieldsF c v).length rc0 ∧ Sl true w.heap.size w'.heap.size w' (.slice ra0 (fieldsF c v).length rc0) (fieldsF c v) ∧ Kp [] w w' := by
 obtain ⟨a7, c8, rfl, i1, i2, i3, i4, i5, i6, s9, i10⟩ := Command.el h_c
 have ls9 : (c.chunks).length * 8 ≤ 140737488355328 := s9.lenle
 refine Ret.enter Try.func41 rfl Try.ntmps41 rfl rfl ?_
 refine WC.sel [0, 1] rfl ?_
 refine WC.seq ?_
 refine WC.region ?_
 refine WO.box rfl rfl rfl ?_
 intro w11 n11
 have z11 := n11.lt
 have b11 := old_kp0 (Below.refl w.heap.size w) n11.kp
 have y11 := b11.size
 refine WO.v (R.assign rfl) rfl ?_
 refine WO.nil ?_
 refine WX.sel [0, 1, 2, 4] rfl ?_
 refine WX.next ?_
 refine WC.seq ?_
 refine WC.region ?_
 refine WO.buildSlice (parts := []) (vss := []) Try.underlying25 sz37 zr37 rfl rfl (by simp) rfl rfl rfl ?_
 intro w12 n12
 have z12 := n12.lt
 have b12 := old_kp0 b11 n12.kp
 have y12 := b12.size
 have ac13 : Ac (α := Field) (w11.heap.size) true (w.heap.size) (w12.heap.size) (w12.heap.size) w12 (.slice (some ⟨w11.heap.size, 0, none⟩) 0 0) ([] : List Field) := Ac.lit (α := Field) (ys := ([] : List Field)) (css := []) n12.blk (.nil) (by omega) (by omega) (by simp [maxLen]) (by show 0 * 48 ≤ 140737488355328; decide) rfl
 have lenac13 : ([] : List Field).length = 0 := rfl
 refine WO.v (R.assign rfl) rfl ?_
 refine WO.nil ?_
 refine WX.sel [0, 1, 2, 4, 5] rfl ?_
 refine WX.next ?_
 refine WC.seq ?_
 refine WC.region ?_
 refine WO.v (fa24_0 rfl) rfl ?_
 have B14 := (n11.blk).kp0 n12.kp
 refine WO.v (R.loadB rfl B14 rfl Try.underlying3 rfl) rfl ?_
 refine WO.v (fa24_1 rfl) rfl ?_
 refine WO.v (R.loadB rfl B14 rfl Try.underlying3 rfl) rfl ?_
 refine WO.v (fa24_2 rfl) rfl ?_
 refine WO.v (R.loadB rfl B14 rfl Try.underlying3 rfl) rfl ?_
 refine WO.v (fa24_3 rfl) rfl ?_
 refine WO.v (R.loadB rfl B14 rfl Try.underlying3 rfl) rfl ?_
 refine WO.v (fa24_4 rfl) rfl ?_
 refine WO.v (R.loadB rfl B14 rfl Try.underlying3 rfl) rfl ?_
 refine WO.v (fa24_5 rfl) rfl ?_
 refine WO.v (R.loadB rfl B14 rfl Try.underlying3 rfl) rfl ?_
 refine WO.buildSlice (parts := [_, _, _, _, _, _]) (vss := [[_], [_], [_], [_], [_], [_]]) Try.underlying22 sz3 zr3 rfl rfl (by simp) rfl rfl rfl ?_
 intro w15 n15
 have z15 := n15.lt
 have b15 := old_kp0 b12 n15.kp
 have y15 := b15.size
 have ac16 : Ac (α := Int) (w12.heap.size) true (w.heap.size) (w15.heap.size) (w15.heap.size) w15 (.slice (some ⟨w12.heap.size, 0, none⟩) 6 6) ([c.kind, c.client, c.seq, c.set, c.id, c.n] : List Int) := Ac.lit (α := Int) (ys := ([c.kind, c.client, c.seq, c.set, c.id, c.n] : List Int)) (css := [[_], [_], [_], [_], [_], [_]]) n15.blk (.cons (⟨rfl, i1⟩) (.cons (⟨rfl, i2⟩) (.cons (⟨rfl, i3⟩) (.cons (⟨rfl, i4⟩) (.cons (⟨rfl, i5⟩) (.cons (⟨rfl, i6⟩) (.nil))))))) (by omega) (by omega) (by simp [maxLen]) (by show 6 * 8 ≤ 140737488355328; decide) rfl
 have lenac16 : ([c.kind, c.client, c.seq, c.set, c.id, c.n] : List Int).length = 6 := rfl
 refine WO.v (R.assign rfl) rfl ?_
 refine WO.nil ?_
 refine WX.sel [0, 1, 2, 4, 5, 6] rfl ?_
 refine WX.next ?_
 refine WC.seq ?_
 refine WC.seq ?_
 refine WC.region ?_
 refine WO.v (R.assign rfl) rfl ?_
 refine WO.nil ?_
 refine WX.sel [0, 1, 2, 4, 5, 6, 7] rfl ?_
 refine WX.next ?_
 refine WC.block ?_
 refine WC.loopK [0, 1, 2, 4, 6] rfl (fun zz : Nat × Option Addr × Nat => [(7, (.int .i64 (((zz.1) : Nat) : Int))), (5, (.slice (zz.2.1) (nm6 ([c.kind, c.client, c.seq, c.set, c.id, c.n] : List Int) (zz.1)).length (zz.2.2)))]) (fun (zz : Nat × Option Addr × Nat) (w' : World) => (Kp [] w15 w') ∧ ((zz.1) ≤ 6) ∧ (Ac (α := Field) (w15.heap.size) true (w.heap.size) (w'.heap.size) w'.heap.size w' (.slice (zz.2.1) (nm6 ([c.kind, c.client, c.seq, c.set, c.id, c.n] : List Int) (zz.1)).length (zz.2.2)) (nm6 ([c.kind, c.client, c.seq, c.set, c.id, c.n] : List Int) (zz.1)))) (fun zz => 6 - (zz.1)) (0, (some ⟨w11.heap.size, 0, none⟩), 0) ?_ ?_ ?_
 exact ⟨⟨_, rfl, rfl⟩, ⟨_, rfl, rfl⟩, trivial⟩
 exact ⟨Kp.refl _, Nat.zero_le _, Ac.empty _ _ _ _ _ _ _⟩
 rintro ⟨k, aa0, ac0⟩ w17 ⟨k17, hk, hac16_0⟩
 try dsimp only at hk hac16_0
 have z17 := k17.size
 have b17 := old_kp0 b15 k17
 have y17 := b17.size
 refine (?_ : WC _ _ _ _ ([(7, (.int .i64 ((k : Nat) : Int))), (5, (.slice aa0 (nm6 ([c.kind, c.client, c.seq, c.set, c.id, c.n] : List Int) k).length ac0))] ++ _) w17)
 have : (nm6 ([c.kind, c.client, c.seq, c.set, c.id, c.n] : List Int) k).length ≤ k := by exact nm6_len
 have lenhac16_0 : (nm6 ([c.kind, c.client, c.seq, c.set, c.id, c.n] : List Int) k).length * 48 ≤ 140737488355328 := hac16_0.lenle
 refine WC.seq ?_
 refine WC.seq ?_
 refine WC.region ?_
 refine WO.v (R.move rfl) rfl ?_
 refine WO.v (R.move rfl) rfl ?_
 refine WO.v (R.len rfl Try.underlying22) rfl ?_
 refine WO.v (R.lss rfl rfl) rfl ?_
 refine WO.nil ?_
 refine WX.sel [0, 1, 2, 4, 5, 6, 7, 27] rfl ?_
 refine WX.next ?_
 refine WC.cond rfl (fun q18 => ?_) (fun q18 => ?_)
 have p18 : ((k : Nat) : Int) < ((6 : Nat) : Int) := of_decide_eq_true q18
 refine WC.skip ?_
 refine WX.next ?_
 refine WC.seq ?_
 refine WC.block ?_
 refine WC.seq ?_
 refine WC.region ?_
 refine WO.v (R.move rfl) rfl ?_
 refine WO.v (R.move rfl) rfl ?_
 obtain ⟨x19, hx19⟩ := get_ex (xs := ([c.kind, c.client, c.seq, c.set, c.id, c.n] : List Int)) (i := k) (by omega)
 have := nn6 (by omega) hx19
 obtain ⟨A20, cs21, hA20, loA20, hiA20, ccA20, r22⟩ := (((ac_kp0 (ac16) k17 (by omega) (by omega)).pub (L := 0) (H := w17.heap.size) (by omega) (by omega) (by omega) (by omega))).at_ hx19
 obtain ⟨rfl, i23⟩ := r22
 refine WO.v (R.indexAddrN rfl rfl Try.underlying22 sz3 hA20 (by omega)) rfl ?_
 refine WO.v (R.load1 rfl Try.underlying3 rfl (CellsAt.one0 ccA20)) rfl ?_
 refine WO.v (R.neq rfl rfl) rfl ?_
 refine WO.nil ?_
 refine WX.sel [0, 1, 2, 4, 5, 6, 7, 27, 34] rfl ?_
 refine WX.next ?_
 refine WC.cond rfl (fun q24 => ?_) (fun q24 => ?_)
 have p24 : ¬ (x19 = (0 : Int)) := of_decide_eq_false (bnot_t q24)
 refine WC.region ?_
 refine WO.v (R.move rfl) rfl ?_
 refine WO.v (R.move rfl) rfl ?_
 refine WO.v (R.inc rfl (by omega)) rfl ?_
 refine WO.v (R.move rfl) rfl ?_
 refine WO.v (R.move rfl) rfl ?_
 obtain ⟨A26, cs27, hA26, loA26, hiA26, ccA26, r28⟩ := (((ac_kp0 (ac16) k17 (by omega) (by omega)).pub (L := 0) (H := w17.heap.size) (by omega) (by omega) (by omega) (by omega))).at_ hx19
 obtain ⟨rfl, i29⟩ := r28
 refine WO.v (R.indexAddrN rfl rfl Try.underlying22 sz3 hA26 (by omega)) rfl ?_
 refine WO.v (R.load1 rfl Try.underlying3 rfl (CellsAt.one0 ccA26)) rfl ?_
 have hN30 : (x19).toNat < 18446744073709551616 := by have := i29; unfold I64 at this; omega
 refine WO.v (R.toU64J (a := (x19).toNat) rfl Try.underlying3 Try.underlying35 (by omega) hN30) rfl ?_
 refine WO.v (R.buildL (parts := [_, _]) (cells := #[(.int .i64 ((k + 1 : Nat) : Int)), (.int .i64 (0 : Int)), (.int .u64 (((x19).toNat : Nat) : Int)), (.slice none 0 0)]) rfl (by kernel_rfl)) rfl ?_
 refine WO.buildSlice (parts := [_]) (vss := [[_, _, _, _]]) Try.underlying25 sz37 zr37 rfl rfl (by simp) rfl rfl rfl ?_
 intro w31 n31
 have z31 := n31.lt
 have b31 := old_kp0 b17 n31.kp
 have y31 := b31.size
 have ac32 : Ac (α := Field) (w17.heap.size) true (w.heap.size) (w31.heap.size) (w31.heap.size) w31 (.slice (some ⟨w17.heap.size, 0, none⟩) 1 1) ([(⟨((k + 1 : Nat) : Int), (0 : Int), (⟨(x19).toNat⟩ : U64), []⟩ : Field)] : List Field) := Ac.lit (α := Field) (ys := ([(⟨((k + 1 : Nat) : Int), (0 : Int), (⟨(x19).toNat⟩ : U64), []⟩ : Field)] : List Field)) (css := [[_, _, _, _]]) n31.blk (.cons ((Field.mk_ (by exact ⟨by omega, by omega⟩) (show I64 0 from ⟨by omega, by omega⟩) (hN30) (x3 := []) (Sl.nil _ _ _ _))) (.nil)) (by omega) (by omega) (by simp [maxLen]) (by show 1 * 48 ≤ 140737488355328; decide) rfl
 have lenac32 : ([(⟨((k + 1 : Nat) : Int), (0 : Int), (⟨(x19).toNat⟩ : U64), []⟩ : Field)] : List Field).length = 1 := rfl
 have ac38 : Ac (α := Field) (w15.heap.size) true (w.heap.size) (w31.heap.size) (w17.heap.size) w31 (.slice aa0 (nm6 ([c.kind, c.client, c.seq, c.set, c.id, c.n] : List Int) k).length ac0) (nm6 ([c.kind, c.client, c.seq, c.set, c.id, c.n] : List Int) k) := (ac_kp0 (hac16_0) n31.kp (by omega) (by omega)).mono (Nat.le_refl _) (Nat.le_refl _) (by omega) (Nat.le_refl _)
 have bd33 := ac38.bd
 have ty39 := ac38.ty
 have lenac38 : ((nm6 ([c.kind, c.client, c.seq, c.set, c.id, c.n] : List Int) k)).length * 48 ≤ 140737488355328 := ac38.lenle
 have lxac38 : ((nm6 ([c.kind, c.client, c.seq, c.set, c.id, c.n] : List Int) k) ++ ([(⟨((k + 1 : Nat) : Int), (0 : Int), (⟨(x19).toNat⟩ : U64), []⟩ : Field)] : List Field)).length = (nm6 ([c.kind, c.client, c.seq, c.set, c.id, c.n] : List Int) k).length + ([(⟨((k + 1 : Nat) : Int), (0 : Int), (⟨(x19).toNat⟩ : U64), []⟩ : Field)] : List Field).length := List.length_append
 refine WO.append rfl ac38 (by omega) (by omega) (by omega) rfl rfl (ys := ([(⟨((k + 1 : Nat) : Int), (0 : Int), (⟨(x19).toNat⟩ : U64), []⟩ : Field)] : List Field)) (Src.of_ac ((ac32).mono (Nat.le_refl _) (by omega) (by omega) (Nat.le_refl _))) (.inr (.inl ⟨rfl, by decide⟩)) Try.underlying25 inf37 rfl rfl rfl (by decide) (by first | omega | (simp only [List.length_cons, List.length_nil]; omega) | (simp only [List.length_append, List.length_cons, List.length_nil]; omega)) (by omega) rfl ?_
 intro a35 c36 w34 h37 k34 or40
 have z34 := k34.size
 have b34 := old_kp b31 k34 (fun g hg => by have := bd33 g hg; omega)
 have y34 := b34.size
 refine WO.v (R.assign rfl) rfl ?_
 refine WO.nil ?_
 refine WX.sel [0, 1, 2, 4, 5, 6, 7, 27, 34] rfl ?_
 refine WX.blkNormal ?_
 refine WX.next ?_
 refine WC.region ?_
 refine WO.v (R.move rfl) rfl ?_
 refine WO.v (R.inc rfl (by omega)) rfl ?_
 refine WO.v (R.assign rfl) rfl ?_
 refine WO.nil ?_
 refine WX.sel [0, 1, 2, 4, 5, 6, 7, 27, 34] rfl ?_
 have E41 : ((nm6 ([c.kind, c.client, c.seq, c.set, c.id, c.n] : List Int) k) ++ ([(⟨((k + 1 : Nat) : Int), (0 : Int), (⟨(x19).toNat⟩ : U64), []⟩ : Field)] : List Field)) = nm6 ([c.kind, c.client, c.seq, c.set, c.id, c.n] : List Int) (k + 1) := (by first | exact nm6_yes hx19 (by omega) | exact nm6_no hx19 (by omega))
 have nE41 : ((nm6 ([c.kind, c.client, c.seq, c.set, c.id, c.n] : List Int) k) ++ ([(⟨((k + 1 : Nat) : Int), (0 : Int), (⟨(x19).toNat⟩ : U64), []⟩ : Field)] : List Field)).length = (nm6 ([c.kind, c.client, c.seq, c.set, c.id, c.n] : List Int) (k + 1)).length := by rw [E41]
 exact WX.loopNextK [0, 1, 2, 4, 6] (k + 1, a35, c36) rfl ⟨⟨_, rfl, rfl⟩, ⟨_, rfl, vs_n nE41⟩, trivial⟩ ⟨(((Kp.refl _).step k17 (by simp)).step n31.kp (by simp)).step k34 (fun g hg => .inr (by have := bd33 g hg; omega)), by omega, ac_n ((h37).mono (by omega) (by omega) (by omega) (by omega)) E41 nE41⟩ (by show (6 - (k + 1)) < (6 - k); omega)
 have p24 : x19 = (0 : Int) := of_decide_eq_true (bnot_f q24)
 refine WC.skip ?_
 refine WX.blkNormal ?_
 refine WX.next ?_
 refine WC.region ?_
 refine WO.v (R.move rfl) rfl ?_
 refine WO.v (R.inc rfl (by omega)) rfl ?_
 refine WO.v (R.assign rfl) rfl ?_
 refine WO.nil ?_
 refine WX.sel [0, 1, 2, 4, 5, 6, 7, 27, 34] rfl ?_
 have E42 : (nm6 ([c.kind, c.client, c.seq, c.set, c.id, c.n] : List Int) k) = nm6 ([c.kind, c.client, c.seq, c.set, c.id, c.n] : List Int) (k + 1) := (by first | exact nm6_yes hx19 (by omega) | exact nm6_no hx19 (by omega))
 have nE42 : (nm6 ([c.kind, c.client, c.seq, c.set, c.id, c.n] : List Int) k).length = (nm6 ([c.kind, c.client, c.seq, c.set, c.id, c.n] : List Int) (k + 1)).length := by rw [E42]
 exact WX.loopNextK [0, 1, 2, 4, 6] (k + 1, aa0, ac0) rfl ⟨⟨_, rfl, rfl⟩, ⟨_, rfl, vs_n nE42⟩, trivial⟩ ⟨(Kp.refl _).step k17 (by simp), by omega, ac_n ((hac16_0).mono (by omega) (by omega) (by omega) (by omega)) E42 nE42⟩ (by show (6 - (k + 1)) < (6 - k); omega)
 have p18 : ¬ (((k : Nat) : Int) < ((6 : Nat) : Int)) := of_decide_eq_false q18
 refine WC.exit ?_
 refine WX.thenExit ?_
 refine WX.loopExit ?_
 refine WX.blkHit ?_
 refine WX.next ?_
 refine WC.seq ?_
 refine WC.seq ?_
 refine WC.region ?_
 refine WO.v (fa24_6 rfl) rfl ?_
 have B43 := ((B14).kp0 n15.kp).kp0 k17
 refine WO.v (R.loadB rfl B43 rfl Try.underlying22 rfl) rfl ?_
 refine WO.v (R.len rfl Try.underlying22) rfl ?_
 refine WO.v (R.gtr rfl rfl) rfl ?_
 refine WO.nil ?_
 refine WX.sel [0, 1, 2, 4, 5, 6, 7, 27, 49] rfl ?_
 refine WX.next ?_
 refine WC.cond rfl (fun q44 => ?_) (fun q44 => ?_)
 have p44 : (0 : Int) < ((c.chunks.length : Nat) : Int) := of_decide_eq_true q44
 refine WC.seq ?_
 refine WC.region ?_
 refine WO.v (fa24_6 rfl) rfl ?_
 refine WO.v (R.loadB rfl B43 rfl Try.underlying22 rfl) rfl ?_
 refine WO.c (E.call rfl rfl Try.func23 rfl rfl) (chunksR_s (l := c.chunks) (a_l := a7) (c_l := c8) ((sl_old s9 b17).mono (lo' := 0) (hi' := w17.heap.size) (Nat.zero_le _) (by omega))) rfl ?_
 rintro _ w45 ⟨a46, c47, rfl, s48, k45⟩
 have ls48 : (chunksB (c.chunks)).length * 1 ≤ 140737488355328 := s48.lenle
 have z45 := k45.size
 have b45 := old_kp0 b17 k45
 have y45 := b45.size
 refine WO.v (R.move rfl) rfl ?_
 refine WO.v (R.extract rfl rfl) rfl ?_
 refine WO.v (R.extract rfl rfl) rfl ?_
 refine WO.v (R.assign rfl) rfl ?_
 refine WO.v (R.assign rfl) rfl ?_
 refine WO.nil ?_
 refine WX.sel [0, 1, 2, 4, 5, 6, 7, 8, 27, 49] rfl ?_
 refine WX.next ?_
 refine WC.region ?_
 refine WO.v (R.move rfl) rfl ?_
 refine WO.v (R.move rfl) rfl ?_
 refine WO.v (R.buildL (parts := [_, _, _]) (cells := #[(.int .i64 (7 : Int)), (.int .i64 (2 : Int)), (.int .u64 (0 : Int)), (.slice a46 (chunksB (c.chunks)).length c47)]) rfl (by kernel_rfl)) rfl ?_
 refine WO.buildSlice (parts := [_]) (vss := [[_, _, _, _]]) Try.underlying25 sz37 zr37 rfl rfl (by simp) rfl rfl rfl ?_
 intro w49 n49
 have z49 := n49.lt
 have b49 := old_kp0 b45 n49.kp
 have y49 := b49.size
 have ac50 : Ac (α := Field) (w45.heap.size) true (w.heap.size) (w49.heap.size) (w49.heap.size) w49 (.slice (some ⟨w45.heap.size, 0, none⟩) 1 1) ([(⟨(7 : Int), (2 : Int), (⟨0⟩ : U64), (chunksB (c.chunks))⟩ : Field)] : List Field) := Ac.lit (α := Field) (ys := ([(⟨(7 : Int), (2 : Int), (⟨0⟩ : U64), (chunksB (c.chunks))⟩ : Field)] : List Field)) (css := [[_, _, _, _]]) n49.blk (.cons ((Field.mk_ (show I64 (7) from ⟨by omega, by omega⟩) (show I64 (2) from ⟨by omega, by omega⟩) (by decide) ((ac_kp0 (s48) n49.kp (by omega) (by omega)).own (L := w.heap.size) (H := w49.heap.size) (by omega) (by omega) (by omega) (by omega)))) (.nil)) (by omega) (by omega) (by simp [maxLen]) (by show 1 * 48 ≤ 140737488355328; decide) rfl
 have lenac50 : ([(⟨(7 : Int), (2 : Int), (⟨0⟩ : U64), (chunksB (c.chunks))⟩ : Field)] : List Field).length = 1 := rfl
 have ac56 : Ac (α := Field) (w15.heap.size) true (w.heap.size) (w49.heap.size) (w17.heap.size) w49 (.slice aa0 (nm6 ([c.kind, c.client, c.seq, c.set, c.id, c.n] : List Int) k).length ac0) (nm6 ([c.kind, c.client, c.seq, c.set, c.id, c.n] : List Int) k) := (ac_kp0 (ac_kp0 (hac16_0) k45 (by omega) (by omega)) n49.kp (by omega) (by omega)).mono (Nat.le_refl _) (Nat.le_refl _) (by omega) (Nat.le_refl _)
 have bd51 := ac56.bd
 have ty57 := ac56.ty
 have lenac56 : ((nm6 ([c.kind, c.client, c.seq, c.set, c.id, c.n] : List Int) k)).length * 48 ≤ 140737488355328 := ac56.lenle
 have lxac56 : ((nm6 ([c.kind, c.client, c.seq, c.set, c.id, c.n] : List Int) k) ++ ([(⟨(7 : Int), (2 : Int), (⟨0⟩ : U64), (chunksB (c.chunks))⟩ : Field)] : List Field)).length = (nm6 ([c.kind, c.client, c.seq, c.set, c.id, c.n] : List Int) k).length + ([(⟨(7 : Int), (2 : Int), (⟨0⟩ : U64), (chunksB (c.chunks))⟩ : Field)] : List Field).length := List.length_append
 refine WO.append rfl ac56 (by omega) (by omega) (by omega) rfl rfl (ys := ([(⟨(7 : Int), (2 : Int), (⟨0⟩ : U64), (chunksB (c.chunks))⟩ : Field)] : List Field)) (Src.of_ac ((ac50).mono (Nat.le_refl _) (by omega) (by omega) (Nat.le_refl _))) (.inr (.inl ⟨rfl, by decide⟩)) Try.underlying25 inf37 rfl rfl rfl (by decide) (by first | omega | (simp only [List.length_cons, List.length_nil]; omega) | (simp only [List.length_append, List.length_cons, List.length_nil]; omega)) (by omega) rfl ?_
 intro a53 c54 w52 h55 k52 or58
 have z52 := k52.size
 have b52 := old_kp b49 k52 (fun g hg => by have := bd51 g hg; omega)
 have y52 := b52.size
 refine WO.v (R.assign rfl) rfl ?_
 refine WO.nil ?_
 refine WX.sel [0, 1, 2, 4, 5, 6, 7, 8, 27, 49] rfl ?_
 refine WX.next ?_
 refine WC.seq ?_
 refine WC.seq ?_
 refine WC.region ?_
 refine WO.v (fa24_7 rfl) rfl ?_
 have B59 := (((B43).kp0 k45).kp0 n49.kp).kp k52 (fun hm => by have := bd51 _ hm; omega)
 refine WO.v (R.loadB rfl B59 rfl Try.underlying9 rfl) rfl ?_
 refine WO.v (R.lenS rfl Try.underlying9) rfl ?_
 refine WO.v (R.gtr rfl rfl) rfl ?_
 refine WO.v (R.move rfl) rfl ?_
 refine WO.cutP 3 [(68, (.bool ((decide ((0 : Int) < ((c.text.b.length : Nat) : Int))) && (decide ((3 : Int) ≤ v)))))] (fun w' => w52 = w') ?_ ?_
 rcases Bool.eq_false_or_eq_true (decide ((0 : Int) < ((c.text.b.length : Nat) : Int))) with hb60 | hb60
 have phb60 : (0 : Int) < ((c.text.b.length : Nat) : Int) := of_decide_eq_true hb60
 refine WO.on rfl rfl hb60 ?_
 refine WO.v (R.move rfl) rfl ?_
 refine WO.on rfl rfl hb60 ?_
 refine WO.v (R.geq rfl rfl) rfl ?_
 refine WO.v (R.pickT rfl hb60 rfl) rfl ?_
 refine WO.nil ?_
 exact WX.cutDoneP 3 rfl rfl ⟨⟨_, rfl, vb (band_on hb60)⟩, trivial⟩ (rfl)
 have phb60 : ¬ ((0 : Int) < ((c.text.b.length : Nat) : Int)) := of_decide_eq_false hb60
 refine WO.off rfl rfl hb60 rfl ?_
 refine WO.off rfl rfl hb60 rfl ?_
 refine WO.v (R.pickF rfl hb60 rfl) rfl ?_
 refine WO.nil ?_
 exact WX.cutDoneP 3 rfl rfl ⟨⟨_, rfl, vb (band_off hb60)⟩, trivial⟩ (rfl)
 rintro _ rfl
 refine WO.nil ?_
 refine WX.sel [0, 1, 2, 4, 5, 6, 7, 8, 27, 49, 68] rfl ?_
 refine WX.next ?_
 refine WC.cond rfl (fun q61 => ?_) (fun q61 => ?_)
 have p61 : ((0 : Int) < ((c.text.b.length : Nat) : Int)) ∧ ((3 : Int) ≤ v) := ⟨of_decide_eq_true (band_t q61).1, of_decide_eq_true (band_t q61).2⟩
 refine WC.region ?_
 refine WO.v (R.move rfl) rfl ?_
 refine WO.v (fa24_7 rfl) rfl ?_
 refine WO.v (R.loadB rfl B59 rfl Try.underlying9 rfl) rfl ?_
 refine WO.toBytes (s := c.text) (B := w.heap.size) (by rfl) i10 Try.underlying9 Try.underlying27 Try.underlying5 rfl (by omega) ?_
 intro a63 c64 w62 s65 k62
 have z62 := k62.size
 have b62 := old_kp0 b52 k62
 have y62 := b62.size
 have ls65 : (c.text.b).length * 1 ≤ 140737488355328 := s65.lenle
 refine WO.v (R.buildL (parts := [_, _, _]) (cells := #[(.int .i64 (8 : Int)), (.int .i64 (2 : Int)), (.int .u64 (0 : Int)), (.slice a63 c.text.b.length c64)]) rfl (by kernel_rfl)) rfl ?_
 refine WO.buildSlice (parts := [_]) (vss := [[_, _, _, _]]) Try.underlying25 sz37 zr37 rfl rfl (by simp) rfl rfl rfl ?_
 intro w66 n66
 have z66 := n66.lt
 have b66 := old_kp0 b62 n66.kp
 have y66 := b66.size
 have ac67 : Ac (α := Field) (w62.heap.size) true (w.heap.size) (w66.heap.size) (w66.heap.size) w66 (.slice (some ⟨w62.heap.size, 0, none⟩) 1 1) ([(⟨(8 : Int), (2 : Int), (⟨0⟩ : U64), c.text.b⟩ : Field)] : List Field) := Ac.lit (α := Field) (ys := ([(⟨(8 : Int), (2 : Int), (⟨0⟩ : U64), c.text.b⟩ : Field)] : List Field)) (css := [[_, _, _, _]]) n66.blk (.cons ((Field.mk_ (show I64 (8) from ⟨by omega, by omega⟩) (show I64 (2) from ⟨by omega, by omega⟩) (by decide) ((sl_kp0 (s65) n66.kp (by omega)).mono (lo' := w.heap.size) (hi' := w66.heap.size) (by omega) (by omega)))) (.nil)) (by omega) (by omega) (by simp [maxLen]) (by show 1 * 48 ≤ 140737488355328; decide) rfl
 have lenac67 : ([(⟨(8 : Int), (2 : Int), (⟨0⟩ : U64), c.text.b⟩ : Field)] : List Field).length = 1 := rfl
 have ac73 : Ac (α := Field) (w15.heap.size) true (w.heap.size) (w66.heap.size) (w52.heap.size) w66 (.slice a53 ((nm6 ([c.kind, c.client, c.seq, c.set, c.id, c.n] : List Int) k) ++ ([(⟨(7 : Int), (2 : Int), (⟨0⟩ : U64), (chunksB (c.chunks))⟩ : Field)] : List Field)).length c54) ((nm6 ([c.kind, c.client, c.seq, c.set, c.id, c.n] : List Int) k) ++ ([(⟨(7 : Int), (2 : Int), (⟨0⟩ : U64), (chunksB (c.chunks))⟩ : Field)] : List Field)) := (ac_kp0 (ac_kp0 (h55) k62 (by omega) (by omega)) n66.kp (by omega) (by omega)).mono (Nat.le_refl _) (Nat.le_refl _) (by omega) (Nat.le_refl _)
 have bd68 := ac73.bd
 have ty74 := ac73.ty
 have lenac73 : (((nm6 ([c.kind, c.client, c.seq, c.set, c.id, c.n] : List Int) k) ++ ([(⟨(7 : Int), (2 : Int), (⟨0⟩ : U64), (chunksB (c.chunks))⟩ : Field)] : List Field))).length * 48 ≤ 140737488355328 := ac73.lenle
 have lxac73 : (((nm6 ([c.kind, c.client, c.seq, c.set, c.id, c.n] : List Int) k) ++ ([(⟨(7 : Int), (2 : Int), (⟨0⟩ : U64), (chunksB (c.chunks))⟩ : Field)] : List Field)) ++ ([(⟨(8 : Int), (2 : Int), (⟨0⟩ : U64), c.text.b⟩ : Field)] : List Field)).length = ((nm6 ([c.kind, c.client, c.seq, c.set, c.id, c.n] : List Int) k) ++ ([(⟨(7 : Int), (2 : Int), (⟨0⟩ : U64), (chunksB (c.chunks))⟩ : Field)] : List Field)).length + ([(⟨(8 : Int), (2 : Int), (⟨0⟩ : U64), c.text.b⟩ : Field)] : List Field).length := List.length_append
 refine WO.append rfl ac73 (by omega) (by omega) (by omega) rfl rfl (ys := ([(⟨(8 : Int), (2 : Int), (⟨0⟩ : U64), c.text.b⟩ : Field)] : List Field)) (Src.of_ac ((ac67).mono (Nat.le_refl _) (by omega) (by omega) (Nat.le_refl _))) (.inr (.inl ⟨rfl, by decide⟩)) Try.underlying25 inf37 rfl rfl rfl (by decide) (by first | omega | (simp only [List.length_cons, List.length_nil]; omega) | (simp only [List.length_append, List.length_cons, List.length_nil]; omega)) (by omega) rfl ?_
 intro a70 c71 w69 h72 k69 or75
 have z69 := k69.size
 have b69 := old_kp b66 k69 (fun g hg => by have := bd68 g hg; omega)
 have y69 := b69.size
 refine WO.v (R.assign rfl) rfl ?_
 refine WO.nil ?_
 refine WX.sel [0, 1, 2, 4, 5, 6, 7, 8, 27, 49, 68] rfl ?_
 refine WX.next ?_
 refine WC.seq ?_
 refine WC.region ?_
 refine WO.v (R.move rfl) rfl ?_
 refine WO.v (R.assign rfl) rfl ?_
 refine WO.nil ?_
 refine WX.sel [0, 1, 2, 4, 5, 6, 7, 8, 27, 49, 68] rfl ?_
 refine WX.next ?_
 refine WC.ret ?_
 have e0 : (((nm6 ([c.kind, c.client, c.seq, c.set, c.id, c.n] : List Int) k) ++ ([(⟨(7 : Int), (2 : Int), (⟨0⟩ : U64), (chunksB (c.chunks))⟩ : Field)] : List Field)) ++ ([(⟨(8 : Int), (2 : Int), (⟨0⟩ : U64), c.text.b⟩ : Field)] : List Field)) = (fieldsF c v) := by first | exact fs_11 (nm6_end hk (by omega)) (by assumption) (by omega) (by omega) | exact fs_01 (nm6_end hk (by omega)) (by omega) (by omega) | exact fs_10 (nm6_end hk (by omega)) (by assumption) (by omega) (by omega) | exact fs_00 (nm6_end hk (by omega)) (by omega) (by omega)
 have n0 : (((nm6 ([c.kind, c.client, c.seq, c.set, c.id, c.n] : List Int) k) ++ ([(⟨(7 : Int), (2 : Int), (⟨0⟩ : U64), (chunksB (c.chunks))⟩ : Field)] : List Field)) ++ ([(⟨(8 : Int), (2 : Int), (⟨0⟩ : U64), c.text.b⟩ : Field)] : List Field)).length = (fieldsF c v).length := by rw [e0]
 have f0 : Sl true w.heap.size w69.heap.size w69 (.slice a70 (((nm6 ([c.kind, c.client, c.seq, c.set, c.id, c.n] : List Int) k) ++ ([(⟨(7 : Int), (2 : Int), (⟨0⟩ : U64), (chunksB (c.chunks))⟩ : Field)] : List Field)) ++ ([(⟨(8 : Int), (2 : Int), (⟨0⟩ : U64), c.text.b⟩ : Field)] : List Field)).length c71) (((nm6 ([c.kind, c.client, c.seq, c.set, c.id, c.n] : List Int) k) ++ ([(⟨(7 : Int), (2 : Int), (⟨0⟩ : U64), (chunksB (c.chunks))⟩ : Field)] : List Field)) ++ ([(⟨(8 : Int), (2 : Int), (⟨0⟩ : U64), c.text.b⟩ : Field)] : List Field)) := ((h72).own (L := w.heap.size) (H := w69.heap.size) (by omega) (by omega) (by omega) (by omega))
 refine WX.ret1 Try.results41 rfl ?_
 exact ⟨a70, c71, by rw [n0], (sl_n f0 e0 n0), Kp.of_below b69⟩
 have p61 : (¬ ((0 : Int) < ((c.text.b.length : Nat) : Int))) ∨ (¬ ((3 : Int) ≤ v)) := Or.imp (fun h => of_decide_eq_false h) (fun h => of_decide_eq_false h) (band_f q61)
 refine WC.skip ?_
 refine WX.next ?_
 refine WC.seq ?_
 refine WC.region ?_
 refine WO.v (R.move rfl) rfl ?_
 refine WO.v (R.assign rfl) rfl ?_
 refine WO.nil ?_
 refine WX.sel [0, 1, 2, 4, 5, 6, 7, 8, 27, 49, 68] rfl ?_
 refine WX.next ?_
 refine WC.ret ?_
 have e0 : ((nm6 ([c.kind, c.client, c.seq, c.set, c.id, c.n] : List Int) k) ++ ([(⟨(7 : Int), (2 : Int), (⟨0⟩ : U64), (chunksB (c.chunks))⟩ : Field)] : List Field)) = (fieldsF c v) := by first | exact fs_11 (nm6_end hk (by omega)) (by assumption) (by omega) (by omega) | exact fs_01 (nm6_end hk (by omega)) (by omega) (by omega) | exact fs_10 (nm6_end hk (by omega)) (by assumption) (by omega) (by omega) | exact fs_00 (nm6_end hk (by omega)) (by omega) (by omega)
 have n0 : ((nm6 ([c.kind, c.client, c.seq, c.set, c.id, c.n] : List Int) k) ++ ([(⟨(7 : Int), (2 : Int), (⟨0⟩ : U64), (chunksB (c.chunks))⟩ : Field)] : List Field)).length = (fieldsF c v).length := by rw [e0]
 have f0 : Sl true w.heap.size w52.heap.size w52 (.slice a53 ((nm6 ([c.kind, c.client, c.seq, c.set, c.id, c.n] : List Int) k) ++ ([(⟨(7 : Int), (2 : Int), (⟨0⟩ : U64), (chunksB (c.chunks))⟩ : Field)] : List Field)).length c54) ((nm6 ([c.kind, c.client, c.seq, c.set, c.id, c.n] : List Int) k) ++ ([(⟨(7 : Int), (2 : Int), (⟨0⟩ : U64), (chunksB (c.chunks))⟩ : Field)] : List Field)) := ((h55).own (L := w.heap.size) (H := w52.heap.size) (by omega) (by omega) (by omega) (by omega))
 refine WX.ret1 Try.results41 rfl ?_
 exact ⟨a53, c54, by rw [n0], (sl_n f0 e0 n0), Kp.of_below b52⟩
 have p44 : ¬ ((0 : Int) < ((c.chunks.length : Nat) : Int)) := of_decide_eq_false q44
 refine WC.skip ?_
 refine WX.next ?_
 refine WC.seq ?_
 refine WC.seq ?_
 refine WC.region ?_
 refine WO.v (fa24_7 rfl) rfl ?_
 refine WO.v (R.loadB rfl B43 rfl Try.underlying9 rfl) rfl ?_
 refine WO.v (R.lenS rfl Try.underlying9) rfl ?_
 refine WO.v (R.gtr rfl rfl) rfl ?_
 refine WO.v (R.move rfl) rfl ?_
 refine WO.cutP 3 [(68, (.bool ((decide ((0 : Int) < ((c.text.b.length : Nat) : Int))) && (decide ((3 : Int) ≤ v)))))] (fun w' => w17 = w') ?_ ?_
 rcases Bool.eq_false_or_eq_true (decide ((0 : Int) < ((c.text.b.length : Nat) : Int))) with hb76 | hb76
 have phb76 : (0 : Int) < ((c.text.b.length : Nat) : Int) := of_decide_eq_true hb76
 refine WO.on rfl rfl hb76 ?_
 refine WO.v (R.move rfl) rfl ?_
 refine WO.on rfl rfl hb76 ?_
 refine WO.v (R.geq rfl rfl) rfl ?_
 refine WO.v (R.pickT rfl hb76 rfl) rfl ?_
 refine WO.nil ?_
 exact WX.cutDoneP 3 rfl rfl ⟨⟨_, rfl, vb (band_on hb76)⟩, trivial⟩ (rfl)
 have phb76 : ¬ ((0 : Int) < ((c.text.b.length : Nat) : Int)) := of_decide_eq_false hb76
 refine WO.off rfl rfl hb76 rfl ?_
 refine WO.off rfl rfl hb76 rfl ?_
 refine WO.v (R.pickF rfl hb76 rfl) rfl ?_
 refine WO.nil ?_
 exact WX.cutDoneP 3 rfl rfl ⟨⟨_, rfl, vb (band_off hb76)⟩, trivial⟩ (rfl)
 rintro _ rfl
 refine WO.nil ?_
 refine WX.sel [0, 1, 2, 4, 5, 6, 7, 27, 49, 68] rfl ?_
 refine WX.next ?_
 refine WC.cond rfl (fun q77 => ?_) (fun q77 => ?_)
 have p77 : ((0 : Int) < ((c.text.b.length : Nat) : Int)) ∧ ((3 : Int) ≤ v) := ⟨of_decide_eq_true (band_t q77).1, of_decide_eq_true (band_t q77).2⟩
 refine WC.region ?_
 refine WO.v (R.move rfl) rfl ?_
 refine WO.v (fa24_7 rfl) rfl ?_
 refine WO.v (R.loadB rfl B43 rfl Try.underlying9 rfl) rfl ?_
 refine WO.toBytes (s := c.text) (B := w.heap.size) (by rfl) i10 Try.underlying9 Try.underlying27 Try.underlying5 rfl (by omega) ?_
 intro a79 c80 w78 s81 k78
 have z78 := k78.size
 have b78 := old_kp0 b17 k78
 have y78 := b78.size
 have ls81 : (c.text.b).length * 1 ≤ 140737488355328 := s81.lenle
 refine WO.v (R.buildL (parts := [_, _, _]) (cells := #[(.int .i64 (8 : Int)), (.int .i64 (2 : Int)), (.int .u64 (0 : Int)), (.slice a79 c.text.b.length c80)]) rfl (by kernel_rfl)) rfl ?_
 refine WO.buildSlice (parts := [_]) (vss := [[_, _, _, _]]) Try.underlying25 sz37 zr37 rfl rfl (by simp) rfl rfl rfl ?_
 intro w82 n82
 have z82 := n82.lt
 have b82 := old_kp0 b78 n82.kp
 have y82 := b82.size
 have ac83 : Ac (α := Field) (w78.heap.size) true (w.heap.size) (w82.heap.size) (w82.heap.size) w82 (.slice (some ⟨w78.heap.size, 0, none⟩) 1 1) ([(⟨(8 : Int), (2 : Int), (⟨0⟩ : U64), c.text.b⟩ : Field)] : List Field) := Ac.lit (α := Field) (ys := ([(⟨(8 : Int), (2 : Int), (⟨0⟩ : U64), c.text.b⟩ : Field)] : List Field)) (css := [[_, _, _, _]]) n82.blk (.cons ((Field.mk_ (show I64 (8) from ⟨by omega, by omega⟩) (show I64 (2) from ⟨by omega, by omega⟩) (by decide) ((sl_kp0 (s81) n82.kp (by omega)).mono (lo' := w.heap.size) (hi' := w82.heap.size) (by omega) (by omega)))) (.nil)) (by omega) (by omega) (by simp [maxLen]) (by show 1 * 48 ≤ 140737488355328; decide) rfl
 have lenac83 : ([(⟨(8 : Int), (2 : Int), (⟨0⟩ : U64), c.text.b⟩ : Field)] : List Field).length = 1 := rfl
 have ac89 : Ac (α := Field) (w15.heap.size) true (w.heap.size) (w82.heap.size) (w17.heap.size) w82 (.slice aa0 (nm6 ([c.kind, c.client, c.seq, c.set, c.id, c.n] : List Int) k).length ac0) (nm6 ([c.kind, c.client, c.seq, c.set, c.id, c.n] : List Int) k) := (ac_kp0 (ac_kp0 (hac16_0) k78 (by omega) (by omega)) n82.kp (by omega) (by omega)).mono (Nat.le_refl _) (Nat.le_refl _) (by omega) (Nat.le_refl _)
 have bd84 := ac89.bd
 have ty90 := ac89.ty
 have lenac89 : ((nm6 ([c.kind, c.client, c.seq, c.set, c.id, c.n] : List Int) k)).length * 48 ≤ 140737488355328 := ac89.lenle
 have lxac89 : ((nm6 ([c.kind, c.client, c.seq, c.set, c.id, c.n] : List Int) k) ++ ([(⟨(8 : Int), (2 : Int), (⟨0⟩ : U64), c.text.b⟩ : Field)] : List Field)).length = (nm6 ([c.kind, c.client, c.seq, c.set, c.id, c.n] : List Int) k).length + ([(⟨(8 : Int), (2 : Int), (⟨0⟩ : U64), c.text.b⟩ : Field)] : List Field).length := List.length_append
 refine WO.append rfl ac89 (by omega) (by omega) (by omega) rfl rfl (ys := ([(⟨(8 : Int), (2 : Int), (⟨0⟩ : U64), c.text.b⟩ : Field)] : List Field)) (Src.of_ac ((ac83).mono (Nat.le_refl _) (by omega) (by omega) (Nat.le_refl _))) (.inr (.inl ⟨rfl, by decide⟩)) Try.underlying25 inf37 rfl rfl rfl (by decide) (by first | omega | (simp only [List.length_cons, List.length_nil]; omega) | (simp only [List.length_append, List.length_cons, List.length_nil]; omega)) (by omega) rfl ?_
 intro a86 c87 w85 h88 k85 or91
 have z85 := k85.size
 have b85 := old_kp b82 k85 (fun g hg => by have := bd84 g hg; omega)
 have y85 := b85.size
 refine WO.v (R.assign rfl) rfl ?_
 refine WO.nil ?_
 refine WX.sel [0, 1, 2, 4, 5, 6, 7, 27, 49, 68] rfl ?_
 refine WX.next ?_
 refine WC.seq ?_
 refine WC.region ?_
 refine WO.v (R.move rfl) rfl ?_
 refine WO.v (R.assign rfl) rfl ?_
 refine WO.nil ?_
 refine WX.sel [0, 1, 2, 4, 5, 6, 7, 27, 49, 68] rfl ?_
 refine WX.next ?_
 refine WC.ret ?_
 have e0 : ((nm6 ([c.kind, c.client, c.seq, c.set, c.id, c.n] : List Int) k) ++ ([(⟨(8 : Int), (2 : Int), (⟨0⟩ : U64), c.text.b⟩ : Field)] : List Field)) = (fieldsF c v) := by first | exact fs_11 (nm6_end hk (by omega)) (by assumption) (by omega) (by omega) | exact fs_01 (nm6_end hk (by omega)) (by omega) (by omega) | exact fs_10 (nm6_end hk (by omega)) (by assumption) (by omega) (by omega) | exact fs_00 (nm6_end hk (by omega)) (by omega) (by omega)
 have n0 : ((nm6 ([c.kind, c.client, c.seq, c.set, c.id, c.n] : List Int) k) ++ ([(⟨(8 : Int), (2 : Int), (⟨0⟩ : U64), c.text.b⟩ : Field)] : List Field)).length = (fieldsF c v).length := by rw [e0]
 have f0 : Sl true w.heap.size w85.heap.size w85 (.slice a86 ((nm6 ([c.kind, c.client, c.seq, c.set, c.id, c.n] : List Int) k) ++ ([(⟨(8 : Int), (2 : Int), (⟨0⟩ : U64), c.text.b⟩ : Field)] : List Field)).length c87) ((nm6 ([c.kind, c.client, c.seq, c.set, c.id, c.n] : List Int) k) ++ ([(⟨(8 : Int), (2 : Int), (⟨0⟩ : U64), c.text.b⟩ : Field)] : List Field)) := ((h88).own (L := w.heap.size) (H := w85.heap.size) (by omega) (by omega) (by omega) (by omega))
 refine WX.ret1 Try.results41 rfl ?_
 exact ⟨a86, c87, by rw [n0], (sl_n f0 e0 n0), Kp.of_below b85⟩
 have p77 : (¬ ((0 : Int) < ((c.text.b.length : Nat) : Int))) ∨ (¬ ((3 : Int) ≤ v)) := Or.imp (fun h => of_decide_eq_false h) (fun h => of_decide_eq_false h) (band_f q77)
 refine WC.skip ?_
 refine WX.next ?_
 refine WC.seq ?_
 refine WC.region ?_
 refine WO.v (R.move rfl) rfl ?_
 refine WO.v (R.assign rfl) rfl ?_
 refine WO.nil ?_
 refine WX.sel [0, 1, 2, 4, 5, 6, 7, 27, 49, 68] rfl ?_
 refine WX.next ?_
 refine WC.ret ?_
 have e0 : (nm6 ([c.kind, c.client, c.seq, c.set, c.id, c.n] : List Int) k) = (fieldsF c v) := by first | exact fs_11 (nm6_end hk (by omega)) (by assumption) (by omega) (by omega) | exact fs_01 (nm6_end hk (by omega)) (by omega) (by omega) | exact fs_10 (nm6_end hk (by omega)) (by assumption) (by omega) (by omega) | exact fs_00 (nm6_end hk (by omega)) (by omega) (by omega)
 have n0 : (nm6 ([c.kind, c.client, c.seq, c.set, c.id, c.n] : List Int) k).length = (fieldsF c v).length := by rw [e0]
 have f0 : Sl true w.heap.size w17.heap.size w17 (.slice aa0 (nm6 ([c.kind, c.client, c.seq, c.set, c.id, c.n] : List Int) k).length ac0) (nm6 ([c.kind, c.client, c.seq, c.set, c.id, c.n] : List Int) k) := ((hac16_0).own (L := w.heap.size) (H := w17.heap.size) (by omega) (by omega) (by omega) (by omega))
 refine WX.ret1 Try.results41 rfl ?_
 exact ⟨aa0, ac0, by rw [n0], (sl_n f0 e0 n0), Kp.of_below b17⟩


end Go.Proofs.Ytfmlgeeogbhppaa
