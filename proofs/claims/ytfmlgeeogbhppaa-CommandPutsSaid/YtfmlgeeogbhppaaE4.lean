/- Contracts of functions, walked operation by operation. -/
import Derived.Test.YtfmlgeeogbhppaaE3
namespace Go.Proofs.Ytfmlgeeogbhppaa
open Go.RowKit

def fineF (l : List Int) (k : Nat) : Bool := (decide ((1 : Int) ≤ ((l.length : Nat) : Int)) && decide (((l.length : Nat) : Int) ≤ 8)) && risingF id 64 0 (l.take k)
theorem fine_0 (l : List Int) : (decide ((1 : Int) ≤ ((l.length : Nat) : Int)) && decide (((l.length : Nat) : Int) ≤ 8)) = fineF l 0 := by unfold fineF; simp [risingF]
theorem fine_next {l : List Int} {k : Nat} {x : Int} (hx : l[k]? = some x) : fineF l (k + 1) = (((fineF l k && decide (1 ≤ x)) && decide (x ≤ 64)) && (decide (((k : Nat) : Int) = 0) || decide (l.getD (k - 1) 0 < x))) := by
  unfold fineF
  rw [take_succ_get hx, rising_snoc]
  cases hr : risingF id 64 0 (l.take k) with
  | false => simp
  | true =>
    have h0 := lastK_pos hr
    have hl : k = 0 ∨ lastK id 0 (l.take k) = l.getD (k - 1) 0 := by
      by_cases hk : k = 0
      · exact .inl hk
      · right
        have hkl := get_lt hx
        have h1 : l[k - 1]? = some l[k - 1] := List.getElem?_eq_getElem (by omega)
        rw [lastK_at (by omega) h1, List.getD, h1]; rfl
    have key : inB (id x) (lastK id 0 (l.take k) + 1) 64 = ((decide (1 ≤ x) && decide (x ≤ 64)) && (decide (((k : Nat) : Int) = 0) || decide (l.getD (k - 1) 0 < x))) := by
      rw [Bool.eq_iff_iff]
      simp only [inB, Bool.and_eq_true, Bool.or_eq_true, decide_eq_true_eq, id]
      rcases hl with hl | hl
      · subst hl
        have : lastK id 0 (l.take 0) = 0 := rfl
        rw [this]; omega
      · rw [hl] at h0 ⊢
        by_cases hk : k = 0
        · subst hk
          have e : lastK id 0 (l.take 0) = 0 := rfl
          rw [e] at hl; rw [← hl]; omega
        · omega
    rw [key, Bool.true_and, Bool.and_true]
    simp only [Bool.and_assoc]
theorem fine_f {l : List Int} {k : Nat} (h : fineF l k = false) : false = fineF l (k + 1) := by
  by_cases hk : k < l.length
  · rw [fine_next (List.getElem?_eq_getElem hk), h]; rfl
  · unfold fineF at *
    rw [List.take_of_length_le (show l.length ≤ k + 1 by omega)]
    rw [List.take_of_length_le (show l.length ≤ k by omega)] at h
    exact h.symm
theorem getD_eq {l : List Int} {k : Nat} {y : Int} (h : l[k]? = some y) : l.getD k 0 = y := by rw [List.getD, h]; rfl
theorem fine_all {l : List Int} {k : Nat} (hk : l.length ≤ k) : fineF l k = rowF l := by unfold fineF rowF; rw [List.take_of_length_le hk]
theorem puts_map {l : List Int} (h : ∀ x ∈ l, 0 < x ∧ x ≤ 64) : putsF l = l.map fun x => UInt8.ofNat x.toNat := by
  induction l with
  | nil => rfl
  | cons x r ih =>
    have hx := h x (by simp)
    simp only [putsF, List.flatMap_cons, List.map_cons] at *
    rw [putF_small (by omega), ih fun y hy => h y (List.mem_cons_of_mem _ hy)]; rfl
theorem bytes_puts {l : List Int} (h : ∀ x ∈ l, 0 < x ∧ x ≤ 64) : bytesI (l.map fun x => UInt8.ofNat x.toNat) = l := by
  unfold bytesI
  rw [List.map_map]
  refine (List.map_congr_left (g := id) fun x hx => ?_).trans (List.map_id _)
  have := h x hx
  show (((UInt8.ofNat x.toNat).toNat : Nat) : Int) = x
  rw [UInt8.toNat_ofNat']; omega
theorem row_parts {l : List Int} (h : rowF l = true) : chunksB l = (l.map fun x => UInt8.ofNat x.toNat) ∧ chunksE l = 0 ∧ unchB (chunksB l) = l ∧ unchE (chunksB l) = 0 := by
  have e := puts_map (row_le h)
  have e1 : chunksB l = (l.map fun x => UInt8.ofNat x.toNat) := by rw [chunksB, if_pos h, e]
  refine ⟨e1, by rw [chunksE, if_pos h], ?_, ?_⟩
  · rw [e1, unchB, bytes_puts (row_le h), if_pos h]
  · rw [e1, unchE, bytes_puts (row_le h), if_pos h]
theorem cc_no {l : List Int} {k : Nat} (hk : l.length ≤ k) (h : (!fineF l k) = true) : ((decide (chunksE l = (1 : Int))) && (decide ((((chunksB l).length : Nat) : Int) = (0 : Int)))) = true := by
  rw [fine_all hk] at h
  have h : rowF l = false := by cases hr : rowF l with | true => rw [hr] at h; cases h | false => rfl
  rw [chunksE, chunksB, h]; rfl
theorem cc_row {l : List Int} {k : Nat} (hk : l.length ≤ k) (h : (!fineF l k) = false) : rowF l = true := by
  rw [fine_all hk] at h; cases hr : rowF l with | true => rfl | false => rw [hr] at h; cases h
theorem cc_bad {l : List Int} {k : Nat} {u : UInt8} {x : Int} (h : rowF l = true) (hu : (chunksB l)[k]? = some u) (hx : l[k]? = some x) (hne : ¬ ((u.toNat : Nat) : Int) = x) : false = true := by
  rw [(row_parts h).1, List.getElem?_map, hx] at hu
  have hr := row_le h x (List.mem_of_getElem? hx)
  simp only [Option.map_some, Option.some.injEq] at hu
  subst hu
  rw [UInt8.toNat_ofNat'] at hne; omega
theorem cc_yes {l : List Int} (h : rowF l = true) : ((((decide (chunksE l = (0 : Int))) && (decide ((((chunksB l).length : Nat) : Int) = (((l).length : Nat) : Int)))) && (decide (unchE (chunksB l) = (0 : Int)))) && (decide (unchB (chunksB l) = l))) = true := by
  obtain ⟨h1, h2, h3, h4⟩ := row_parts h
  rw [h2, h4, h3, h1, List.length_map]; simp
theorem chunksB_le (l : List Int) : (chunksB l).length ≤ 80 := by
  unfold chunksB; split
  · rename_i h; have h1 := puts_len (l := l) (fun x hx => (row_le h x hx).2); have := row_len h; omega
  · simp
theorem row_min {l : List Int} (h : rowF l = true) : min (chunksB l).length l.length = l.length := by rw [(row_parts h).1, List.length_map, Nat.min_self]



set_option maxRecDepth 100000 in
set_option maxHeartbeats 1000000 in
theorem cmdchunks_s {w : World} {a_l : Option Addr} {c_l : Nat} {l : List Int} (h_l : Sl false 0 w.heap.size w (.slice a_l l.length c_l) l) :
    Ret Try.prog 6 [.slice a_l l.length c_l].toArray w fun r w' => r = .bool true ∧ Kp [] w w' := by
 have len_l : (l).length * 8 ≤ 140737488355328 := h_l.lenle
 have hcl := chunksB_le (l.take 12)
 refine Ret.enter Try.func6 rfl Try.ntmps6 rfl rfl ?_
 refine WC.sel [0] rfl ?_
 refine WC.seq ?_
 refine WC.region ?_
 refine WO.v (R.assign rfl) rfl ?_
 refine WO.nil ?_
 refine WX.sel [0, 2] rfl ?_
 refine WX.next ?_
 refine WC.seq ?_
 refine WC.region ?_
 refine WO.c (E.call rfl rfl Try.func11 rfl rfl) (shown5_s  ) rfl ?_
 rintro _ w1 ⟨rfl, k1⟩
 have z1 := k1.size
 have b1 := old_kp0 (Below.refl w.heap.size w) k1
 have y1 := b1.size
 refine WO.v (R.assign rfl) rfl ?_
 refine WO.nil ?_
 refine WX.sel [0, 2, 3] rfl ?_
 refine WX.next ?_
 refine WC.seq ?_
 refine WC.seq ?_
 refine WC.region ?_
 refine WO.v (R.move rfl) rfl ?_
 refine WO.v (R.len rfl Try.underlying22) rfl ?_
 refine WO.v (R.gtr rfl rfl) rfl ?_
 refine WO.nil ?_
 refine WX.sel [0, 2, 3, 15] rfl ?_
 refine WX.next ?_
 refine WC.cutEndSK [2, 3, 15] rfl (fun zz => [(0, (.slice (zz.1) (l.take 12).length (zz.2)))]) (fun (zz : Option Addr × Nat) (w' : World) => Kp [] w1 w' ∧ Sl (α := Int) false 0 w.heap.size w' (.slice (zz.1) (l.take 12).length (zz.2)) (l.take 12)) ?_ ?_
 refine WC.cond rfl (fun q5 => ?_) (fun q5 => ?_)
 have p5 : (12 : Int) < ((l.length : Nat) : Int) := of_decide_eq_true q5
 refine WC.region ?_
 refine WO.v (R.move rfl) rfl ?_
 obtain ⟨a6, ha7, s8, mc9, ln10⟩ := Sl.cut (i := 0) (j := 12) (s := 1) (sl_old h_l b1) rfl (by omega) (by omega)
 refine WO.v (R.sliceH (j := 12) rfl rfl Try.underlying22 sz3 ha7 (by omega)) rfl ?_
 replace s8 : Sl false (0) (w.heap.size) w1 (.slice a6 12 c_l) (l.take 12) := s8
 replace ln10 : (l.take 12).length = 12 := ln10
 have ls8 : ((l.take 12)).length * 8 ≤ 140737488355328 := s8.lenle
 refine WO.v (R.assign rfl) rfl ?_
 refine WO.nil ?_
 refine WX.sel [0, 2, 3, 15] rfl ?_
 have E11 : (l.take 12) = l.take 12 := rfl
 have nE11 : 12 = (l.take 12).length := by rw [← E11]; simp only [List.length_take]; omega
 exact WX.cutDoneSK [2, 3, 15] (a6, c_l) rfl ⟨⟨_, rfl, vs_n nE11⟩, trivial⟩ ⟨(Kp.refl _), (sl_n ((s8).mono (lo' := 0) (hi' := w.heap.size) (Nat.zero_le _) (by omega)) E11 nE11)⟩
 have p5 : ¬ ((12 : Int) < ((l.length : Nat) : Int)) := of_decide_eq_false q5
 refine WC.skip ?_
 have E12 : l = l.take 12 := (List.take_of_length_le (by omega)).symm
 have nE12 : l.length = (l.take 12).length := by rw [← E12]
 exact WX.cutDoneSK [2, 3, 15] (a_l, c_l) rfl ⟨⟨_, rfl, vs_n nE12⟩, trivial⟩ ⟨(Kp.refl _), (sl_n ((sl_old h_l b1).mono (lo' := 0) (hi' := w.heap.size) (Nat.zero_le _) (by omega)) E12 nE12)⟩
 rintro ⟨ja2, jc3⟩ w13 ⟨k13, jf4⟩
 try dsimp only at jf4
 refine (?_ : WX _ _ _ ([(0, (.slice ja2 (l.take 12).length jc3))] ++ _) w13)
 have z13 := k13.size
 have b13 := old_kp0 b1 k13
 have y13 := b13.size
 have ljf4 : ((l.take 12)).length * 8 ≤ 140737488355328 := jf4.lenle
 refine WX.next ?_
 refine WC.seq ?_
 refine WC.region ?_
 refine WO.v (R.move rfl) rfl ?_
 refine WO.c (E.call rfl rfl Try.func20 rfl rfl) (chunks_s (l := (l.take 12)) (a_l := ja2) (c_l := jc3) ((jf4).mono (lo' := 0) (hi' := w13.heap.size) (Nat.zero_le _) (by omega))) rfl ?_
 rintro _ w14 ⟨a15, c16, rfl, s17, k14⟩
 have ls17 : (chunksB ((l.take 12))).length * 1 ≤ 140737488355328 := s17.lenle
 have z14 := k14.size
 have b14 := old_kp0 b13 k14
 have y14 := b14.size
 refine WO.v (R.move rfl) rfl ?_
 refine WO.v (R.extract rfl rfl) rfl ?_
 refine WO.v (R.extract rfl rfl) rfl ?_
 refine WO.v (R.assign rfl) rfl ?_
 refine WO.v (R.assign rfl) rfl ?_
 refine WO.nil ?_
 refine WX.sel [0, 2, 3, 4, 5, 15] rfl ?_
 refine WX.next ?_
 refine WC.seq ?_
 refine WC.region ?_
 refine WO.v (R.move rfl) rfl ?_
 refine WO.v (R.len rfl Try.underlying22) rfl ?_
 refine WO.v (R.geq rfl rfl) rfl ?_
 refine WO.v (R.move rfl) rfl ?_
 refine WO.cutP 4 [(30, (.bool ((decide ((1 : Int) ≤ (((l.take 12).length : Nat) : Int))) && (decide ((((l.take 12).length : Nat) : Int) ≤ (8 : Int))))))] (fun w' => w14 = w') ?_ ?_
 rcases Bool.eq_false_or_eq_true (decide ((1 : Int) ≤ (((l.take 12).length : Nat) : Int))) with hb18 | hb18
 have phb18 : (1 : Int) ≤ (((l.take 12).length : Nat) : Int) := of_decide_eq_true hb18
 refine WO.on rfl rfl hb18 ?_
 refine WO.v (R.move rfl) rfl ?_
 refine WO.on rfl rfl hb18 ?_
 refine WO.v (R.len rfl Try.underlying22) rfl ?_
 refine WO.on rfl rfl hb18 ?_
 refine WO.v (R.leq rfl rfl) rfl ?_
 refine WO.v (R.pickT rfl hb18 rfl) rfl ?_
 refine WO.nil ?_
 exact WX.cutDoneP 4 rfl rfl ⟨⟨_, rfl, vb (band_on hb18)⟩, trivial⟩ (rfl)
 have phb18 : ¬ ((1 : Int) ≤ (((l.take 12).length : Nat) : Int)) := of_decide_eq_false hb18
 refine WO.off rfl rfl hb18 rfl ?_
 refine WO.off rfl rfl hb18 rfl ?_
 refine WO.off rfl rfl hb18 rfl ?_
 refine WO.v (R.pickF rfl hb18 rfl) rfl ?_
 refine WO.nil ?_
 exact WX.cutDoneP 4 rfl rfl ⟨⟨_, rfl, vb (band_off hb18)⟩, trivial⟩ (rfl)
 rintro _ rfl
 refine WO.v (R.assign rfl) rfl ?_
 refine WO.nil ?_
 refine WX.sel [0, 2, 3, 4, 5, 6, 15] rfl ?_
 refine WX.next ?_
 refine WC.seq ?_
 refine WC.seq ?_
 refine WC.region ?_
 refine WO.v (R.assign rfl) rfl ?_
 refine WO.nil ?_
 refine WX.sel [0, 2, 3, 4, 5, 6, 7, 15] rfl ?_
 refine WX.next ?_
 refine WC.block ?_
 refine WC.loopK [0, 2, 3, 4, 5, 15] rfl (fun zz : Nat => [(7, (.int .i64 (((zz) : Nat) : Int))), (6, (.bool (fineF (l.take 12) (zz))))]) (fun (zz : Nat) (w' : World) => (Kp [] w14 w') ∧ ((zz) ≤ (l.take 12).length)) (fun zz => (l.take 12).length - (zz)) (0) ?_ ?_ ?_
 exact ⟨⟨_, rfl, rfl⟩, ⟨_, rfl, vb (fine_0 _)⟩, trivial⟩
 exact ⟨Kp.refl _, Nat.zero_le _⟩
 rintro k w19 ⟨k19, hk⟩
 try dsimp only at hk
 have z19 := k19.size
 have b19 := old_kp0 b14 k19
 have y19 := b19.size
 refine (?_ : WC _ _ _ _ ([(7, (.int .i64 ((k : Nat) : Int))), (6, (.bool (fineF (l.take 12) k)))] ++ _) w19)
 refine WC.seq ?_
 refine WC.seq ?_
 refine WC.region ?_
 refine WO.v (R.move rfl) rfl ?_
 refine WO.v (R.move rfl) rfl ?_
 refine WO.v (R.len rfl Try.underlying22) rfl ?_
 refine WO.v (R.lss rfl rfl) rfl ?_
 refine WO.nil ?_
 refine WX.sel [0, 2, 3, 4, 5, 6, 7, 15, 34] rfl ?_
 refine WX.next ?_
 refine WC.cond rfl (fun q20 => ?_) (fun q20 => ?_)
 have p20 : ((k : Nat) : Int) < (((l.take 12).length : Nat) : Int) := of_decide_eq_true q20
 refine WC.skip ?_
 refine WX.next ?_
 refine WC.seq ?_
 refine WC.block ?_
 refine WC.sel [0, 2, 3, 4, 5, 6, 7, 15, 34] rfl ?_
 rcases Bool.eq_false_or_eq_true (fineF (l.take 12) k) with hb21 | hb21
 have phb21 : (fineF (l.take 12) k) = true := hb21
 obtain ⟨x22, hx22⟩ := get_ex (xs := (l.take 12)) (i := k) (by omega)
 obtain ⟨A23, cs24, hA23, loA23, hiA23, ccA23, r25⟩ := (sl_kp0 (sl_kp0 (jf4) k14 (by omega)) k19 (by omega)).at_ hx22
 obtain ⟨rfl, i26⟩ := r25
 rcases Bool.eq_false_or_eq_true (decide ((1 : Int) ≤ x22)) with hb27 | hb27
 have phb27 : (1 : Int) ≤ x22 := of_decide_eq_true hb27
 obtain ⟨A29, cs30, hA29, loA29, hiA29, ccA29, r31⟩ := (sl_kp0 (sl_kp0 (jf4) k14 (by omega)) k19 (by omega)).at_ hx22
 obtain ⟨rfl, i32⟩ := r31
 rcases Bool.eq_false_or_eq_true (decide (x22 ≤ (64 : Int))) with hb33 | hb33
 have phb33 : x22 ≤ (64 : Int) := of_decide_eq_true hb33
 rcases Bool.eq_false_or_eq_true (decide (((k : Nat) : Int) = (0 : Int))) with hb34 | hb34
 have phb34 : ((k : Nat) : Int) = (0 : Int) := of_decide_eq_true hb34
 refine WC.draw' mixed_orders [.ex [] (.bool (fineF (l.take 12) k)), .ex [0] (.bool true), .ex [1] (.slice ja2 (l.take 12).length jc3), .ex [1] (.int .i64 ((k : Nat) : Int)), .ex [1, 2, 3] (.pointer (some (A23.add (k * 1)))), .ex [1, 4] (.int .i64 x22), .ex [1, 5] (.bool (decide ((1 : Int) ≤ x22))), .ex [1, 6] (.bool (decide ((1 : Int) ≤ x22))), .ex [7] (.bool true), .ex [8] (.slice ja2 (l.take 12).length jc3), .ex [8] (.int .i64 ((k : Nat) : Int)), .ex [8, 9, 10] (.pointer (some (A29.add (k * 1)))), .ex [8, 11] (.int .i64 x22), .ex [8, 12] (.bool (decide (x22 ≤ (64 : Int)))), .ex [8, 13] (.bool (decide (x22 ≤ (64 : Int)))), .ex [14] (.bool true), .ex [15] (.int .i64 ((k : Nat) : Int)), .ex [15, 16] (.bool (decide (((k : Nat) : Int) = (0 : Int)))), .ex [15, 17] (.bool true), .ex [18] undef, .ex [18] undef, .ex [18] undef, .ex [18] undef, .ex [18] undef, .ex [18] undef, .ex [18] undef, .ex [18] undef, .ex [18] undef, .ex [18] undef, .ex [15, 18] (.bool true), .ex [15, 29] (.bool true)] 31 (by kernel_rfl) ⟨fun _ _ _ h _ => h, fun _ _ _ h _ => h, fun _ _ _ h _ => h, fun _ _ _ h _ => h, fun _ _ _ h _ => h, fun _ _ _ h _ => h, fun _ _ _ h _ => h, fun _ _ _ h _ => h, fun _ _ _ h _ => h, fun _ _ _ h _ => h, fun _ _ _ h _ => h, fun _ _ _ h _ => h, fun _ _ _ h _ => h, fun _ _ _ h _ => h, fun _ _ _ h _ => h, fun _ _ _ h _ => h, fun _ _ _ h _ => h, fun _ _ _ h _ => h, fun _ _ _ h _ => h, fun _ _ _ h _ => h, fun _ _ _ h _ => h, fun _ _ _ h _ => h, fun _ _ _ h _ => h, fun _ _ _ h _ => h, fun _ _ _ h _ => h, fun _ _ _ h _ => h, fun _ _ _ h _ => h, fun _ _ _ h _ => h, fun _ _ _ h _ => h, fun _ _ _ h _ => h, fun _ _ _ h _ => h, trivial⟩ ⟨?_, ?_, ?_, ?_, ?_, ?_, ?_, ?_, ?_, ?_, ?_, ?_, ?_, ?_, ?_, ?_, ?_, ?_, ?_, ?_, ?_, ?_, ?_, ?_, ?_, ?_, ?_, ?_, ?_, ?_, ?_, trivial⟩ ?_
 rintro vs w35 k35 ⟨-⟩
 replace k35 : Kp [] w19 w35 := k35
 refine WO.haves (fr' := [(6, _)]) ⟨⟨_, rfl, rfl⟩, trivial⟩ ?_
 refine WO.v (R.move rfl) rfl ?_
 refine WO.nil ?_
 exact WX.stepDone rfl rfl (Kp.refl _)
 rintro vs w36 k36 ⟨e37, -⟩
 replace k36 : Kp [] w19 w36 := k36
 refine WO.haves (fr' := [(37, _)]) ⟨⟨_, rfl, e37⟩, trivial⟩ ?_
 refine WO.v (R.move rfl) rfl ?_
 refine WO.nil ?_
 exact WX.stepDone rfl (vb hb21) (Kp.refl _)
 rintro vs w38 k38 ⟨e39, -⟩
 replace k38 : Kp [] w19 w38 := k38
 refine WO.haves (fr' := [(38, _), (0, _)]) ⟨⟨_, rfl, e39⟩, ⟨_, rfl, rfl⟩, trivial⟩ ?_
 refine WO.on rfl rfl rfl ?_
 refine WO.v (R.move rfl) rfl ?_
 refine WO.nil ?_
 exact WX.stepDone rfl rfl (Kp.refl _)
 rintro vs w40 k40 ⟨e41, -⟩
 replace k40 : Kp [] w19 w40 := k40
 refine WO.haves (fr' := [(38, _), (7, _)]) ⟨⟨_, rfl, e41⟩, ⟨_, rfl, rfl⟩, trivial⟩ ?_
 refine WO.on rfl rfl rfl ?_
 refine WO.v (R.move rfl) rfl ?_
 refine WO.nil ?_
 exact WX.stepDone rfl rfl (Kp.refl _)
 rintro vs w42 k42 ⟨e43, e44, e45, -⟩
 replace k42 : Kp [] w19 w42 := k42
 refine WO.haves (fr' := [(38, _), (39, _), (40, _)]) ⟨⟨_, rfl, e43⟩, ⟨_, rfl, e44⟩, ⟨_, rfl, e45⟩, trivial⟩ ?_
 refine WO.on rfl rfl rfl ?_
 refine WO.v (R.indexAddrN rfl rfl Try.underlying22 sz3 hA23 (by omega)) rfl ?_
 refine WO.nil ?_
 exact WX.stepDone rfl rfl (Kp.refl _)
 rintro vs w46 k46 ⟨e47, e48, -⟩
 replace k46 : Kp [] w19 w46 := k46
 have z46 := k46.size
 have b46 := old_kp0 b19 k46
 have y46 := b46.size
 refine WO.haves (fr' := [(38, _), (41, _)]) ⟨⟨_, rfl, e47⟩, ⟨_, rfl, e48⟩, trivial⟩ ?_
 refine WO.on rfl rfl rfl ?_
 refine WO.v (R.load1 rfl Try.underlying3 rfl (CellsAt.one0 ((ccA23).kpA k46 (by omega) (by simp)))) rfl ?_
 refine WO.nil ?_
 exact WX.stepDone rfl rfl (Kp.refl _)
 rintro vs w49 k49 ⟨e50, e51, -⟩
 replace k49 : Kp [] w19 w49 := k49
 refine WO.haves (fr' := [(38, _), (42, _)]) ⟨⟨_, rfl, e50⟩, ⟨_, rfl, e51⟩, trivial⟩ ?_
 refine WO.on rfl rfl rfl ?_
 refine WO.v (R.geq rfl rfl) rfl ?_
 refine WO.nil ?_
 exact WX.stepDone rfl rfl (Kp.refl _)
 rintro vs w52 k52 ⟨e53, e54, -⟩
 replace k52 : Kp [] w19 w52 := k52
 refine WO.haves (fr' := [(38, _), (43, _)]) ⟨⟨_, rfl, e53⟩, ⟨_, rfl, e54⟩, trivial⟩ ?_
 refine WO.v (R.pickT rfl rfl rfl) rfl ?_
 refine WO.nil ?_
 exact WX.stepDone rfl rfl (Kp.refl _)
 rintro vs w55 k55 ⟨e56, -⟩
 replace k55 : Kp [] w19 w55 := k55
 refine WO.haves (fr' := [(44, _)]) ⟨⟨_, rfl, e56⟩, trivial⟩ ?_
 refine WO.v (R.move rfl) rfl ?_
 refine WO.nil ?_
 exact WX.stepDone rfl (vb hb27) (Kp.refl _)
 rintro vs w57 k57 ⟨e58, -⟩
 replace k57 : Kp [] w19 w57 := k57
 refine WO.haves (fr' := [(45, _), (0, _)]) ⟨⟨_, rfl, e58⟩, ⟨_, rfl, rfl⟩, trivial⟩ ?_
 refine WO.on rfl rfl rfl ?_
 refine WO.v (R.move rfl) rfl ?_
 refine WO.nil ?_
 exact WX.stepDone rfl rfl (Kp.refl _)
 rintro vs w59 k59 ⟨e60, -⟩
 replace k59 : Kp [] w19 w59 := k59
 refine WO.haves (fr' := [(45, _), (7, _)]) ⟨⟨_, rfl, e60⟩, ⟨_, rfl, rfl⟩, trivial⟩ ?_
 refine WO.on rfl rfl rfl ?_
 refine WO.v (R.move rfl) rfl ?_
 refine WO.nil ?_
 exact WX.stepDone rfl rfl (Kp.refl _)
 rintro vs w61 k61 ⟨e62, e63, e64, -⟩
 replace k61 : Kp [] w19 w61 := k61
 refine WO.haves (fr' := [(45, _), (46, _), (47, _)]) ⟨⟨_, rfl, e62⟩, ⟨_, rfl, e63⟩, ⟨_, rfl, e64⟩, trivial⟩ ?_
 refine WO.on rfl rfl rfl ?_
 refine WO.v (R.indexAddrN rfl rfl Try.underlying22 sz3 hA29 (by omega)) rfl ?_
 refine WO.nil ?_
 exact WX.stepDone rfl rfl (Kp.refl _)
 rintro vs w65 k65 ⟨e66, e67, -⟩
 replace k65 : Kp [] w19 w65 := k65
 have z65 := k65.size
 have b65 := old_kp0 b19 k65
 have y65 := b65.size
 refine WO.haves (fr' := [(45, _), (48, _)]) ⟨⟨_, rfl, e66⟩, ⟨_, rfl, e67⟩, trivial⟩ ?_
 refine WO.on rfl rfl rfl ?_
 refine WO.v (R.load1 rfl Try.underlying3 rfl (CellsAt.one0 ((ccA29).kpA k65 (by omega) (by simp)))) rfl ?_
 refine WO.nil ?_
 exact WX.stepDone rfl rfl (Kp.refl _)
 rintro vs w68 k68 ⟨e69, e70, -⟩
 replace k68 : Kp [] w19 w68 := k68
 refine WO.haves (fr' := [(45, _), (49, _)]) ⟨⟨_, rfl, e69⟩, ⟨_, rfl, e70⟩, trivial⟩ ?_
 refine WO.on rfl rfl rfl ?_
 refine WO.v (R.leq rfl rfl) rfl ?_
 refine WO.nil ?_
 exact WX.stepDone rfl rfl (Kp.refl _)
 rintro vs w71 k71 ⟨e72, e73, -⟩
 replace k71 : Kp [] w19 w71 := k71
 refine WO.haves (fr' := [(45, _), (50, _)]) ⟨⟨_, rfl, e72⟩, ⟨_, rfl, e73⟩, trivial⟩ ?_
 refine WO.v (R.pickT rfl rfl rfl) rfl ?_
 refine WO.nil ?_
 exact WX.stepDone rfl rfl (Kp.refl _)
 rintro vs w74 k74 ⟨e75, -⟩
 replace k74 : Kp [] w19 w74 := k74
 refine WO.haves (fr' := [(51, _)]) ⟨⟨_, rfl, e75⟩, trivial⟩ ?_
 refine WO.v (R.move rfl) rfl ?_
 refine WO.nil ?_
 exact WX.stepDone rfl (vb hb33) (Kp.refl _)
 rintro vs w76 k76 ⟨e77, -⟩
 replace k76 : Kp [] w19 w76 := k76
 refine WO.haves (fr' := [(52, _), (7, _)]) ⟨⟨_, rfl, e77⟩, ⟨_, rfl, rfl⟩, trivial⟩ ?_
 refine WO.on rfl rfl rfl ?_
 refine WO.v (R.move rfl) rfl ?_
 refine WO.nil ?_
 exact WX.stepDone rfl rfl (Kp.refl _)
 rintro vs w78 k78 ⟨e79, e80, -⟩
 replace k78 : Kp [] w19 w78 := k78
 refine WO.haves (fr' := [(52, _), (53, _)]) ⟨⟨_, rfl, e79⟩, ⟨_, rfl, e80⟩, trivial⟩ ?_
 refine WO.on rfl rfl rfl ?_
 refine WO.v (R.eql rfl rfl) rfl ?_
 refine WO.nil ?_
 exact WX.stepDone rfl rfl (Kp.refl _)
 rintro vs w81 k81 ⟨e82, e83, -⟩
 replace k81 : Kp [] w19 w81 := k81
 refine WO.haves (fr' := [(52, _), (54, _)]) ⟨⟨_, rfl, e82⟩, ⟨_, rfl, e83⟩, trivial⟩ ?_
 refine WO.on rfl rfl rfl ?_
 refine WO.v (R.move rfl) rfl ?_
 refine WO.nil ?_
 exact WX.stepDone rfl (vb hb34) (Kp.refl _)
 rintro vs w84 k84 ⟨e85, -⟩
 replace k84 : Kp [] w19 w84 := k84
 refine WO.haves (fr' := [(55, _), (0, _)]) ⟨⟨_, rfl, e85⟩, ⟨_, rfl, rfl⟩, trivial⟩ ?_
 refine WO.off rfl rfl rfl rfl ?_
 refine WO.nil ?_
 exact WX.stepDone rfl rfl (Kp.refl _)
 rintro vs w86 k86 ⟨e87, -⟩
 replace k86 : Kp [] w19 w86 := k86
 refine WO.haves (fr' := [(55, _), (7, _)]) ⟨⟨_, rfl, e87⟩, ⟨_, rfl, rfl⟩, trivial⟩ ?_
 refine WO.off rfl rfl rfl rfl ?_
 refine WO.nil ?_
 exact WX.stepDone rfl rfl (Kp.refl _)
 rintro vs w88 k88 ⟨e89, -⟩
 replace k88 : Kp [] w19 w88 := k88
 refine WO.haves (fr' := [(55, _)]) ⟨⟨_, rfl, e89⟩, trivial⟩ ?_
 refine WO.off rfl rfl rfl rfl ?_
 refine WO.nil ?_
 exact WX.stepDone rfl rfl (Kp.refl _)
 rintro vs w90 k90 ⟨e91, -⟩
 replace k90 : Kp [] w19 w90 := k90
 refine WO.haves (fr' := [(55, _)]) ⟨⟨_, rfl, e91⟩, trivial⟩ ?_
 refine WO.off rfl rfl rfl rfl ?_
 refine WO.nil ?_
 exact WX.stepDone rfl rfl (Kp.refl _)
 rintro vs w92 k92 ⟨e93, -⟩
 replace k92 : Kp [] w19 w92 := k92
 refine WO.haves (fr' := [(55, _), (0, _)]) ⟨⟨_, rfl, e93⟩, ⟨_, rfl, rfl⟩, trivial⟩ ?_
 refine WO.off rfl rfl rfl rfl ?_
 refine WO.nil ?_
 exact WX.stepDone rfl rfl (Kp.refl _)
 rintro vs w94 k94 ⟨e95, -⟩
 replace k94 : Kp [] w19 w94 := k94
 refine WO.haves (fr' := [(55, _), (7, _)]) ⟨⟨_, rfl, e95⟩, ⟨_, rfl, rfl⟩, trivial⟩ ?_
 refine WO.off rfl rfl rfl rfl ?_
 refine WO.nil ?_
 exact WX.stepDone rfl rfl (Kp.refl _)
 rintro vs w96 k96 ⟨e97, -⟩
 replace k96 : Kp [] w19 w96 := k96
 refine WO.haves (fr' := [(55, _)]) ⟨⟨_, rfl, e97⟩, trivial⟩ ?_
 refine WO.off rfl rfl rfl rfl ?_
 refine WO.nil ?_
 exact WX.stepDone rfl rfl (Kp.refl _)
 rintro vs w98 k98 ⟨e99, -⟩
 replace k98 : Kp [] w19 w98 := k98
 refine WO.haves (fr' := [(55, _)]) ⟨⟨_, rfl, e99⟩, trivial⟩ ?_
 refine WO.off rfl rfl rfl rfl ?_
 refine WO.nil ?_
 exact WX.stepDone rfl rfl (Kp.refl _)
 rintro vs w100 k100 ⟨e101, -⟩
 replace k100 : Kp [] w19 w100 := k100
 refine WO.haves (fr' := [(55, _)]) ⟨⟨_, rfl, e101⟩, trivial⟩ ?_
 refine WO.off rfl rfl rfl rfl ?_
 refine WO.nil ?_
 exact WX.stepDone rfl rfl (Kp.refl _)
 rintro vs w102 k102 ⟨e103, -⟩
 replace k102 : Kp [] w19 w102 := k102
 refine WO.haves (fr' := [(55, _)]) ⟨⟨_, rfl, e103⟩, trivial⟩ ?_
 refine WO.off rfl rfl rfl rfl ?_
 refine WO.nil ?_
 exact WX.stepDone rfl rfl (Kp.refl _)
 rintro vs w104 k104 ⟨e105, e106, -⟩
 replace k104 : Kp [] w19 w104 := k104
 refine WO.haves (fr' := [(52, _), (55, _)]) ⟨⟨_, rfl, e105⟩, ⟨_, rfl, e106⟩, trivial⟩ ?_
 refine WO.on rfl rfl rfl ?_
 refine WO.v (R.pickT rfl rfl rfl) rfl ?_
 refine WO.nil ?_
 exact WX.stepDone rfl rfl (Kp.refl _)
 rintro vs w107 k107 ⟨e108, e109, -⟩
 replace k107 : Kp [] w19 w107 := k107
 refine WO.haves (fr' := [(52, _), (66, _)]) ⟨⟨_, rfl, e108⟩, ⟨_, rfl, e109⟩, trivial⟩ ?_
 refine WO.v (R.pickT rfl rfl rfl) rfl ?_
 refine WO.nil ?_
 exact WX.stepDone rfl rfl (Kp.refl _)
 rintro vs w110 k110 ⟨-, -, -, -, -, -, -, -, -, -, -, -, -, -, -, -, -, -, -, -, -, -, -, -, -, -, -, -, -, -, e141, -⟩
 replace k110 : Kp [] w19 w110 := k110
 have z110 := k110.size
 have b110 := old_kp0 b19 k110
 have y110 := b110.size
 refine WO.haves (fr' := [(67, _), (0, _), (2, _), (3, _), (4, _), (5, _), (6, _), (7, _), (15, _), (34, _)]) ⟨⟨_, rfl, e141⟩, ⟨_, rfl, rfl⟩, ⟨_, rfl, rfl⟩, ⟨_, rfl, rfl⟩, ⟨_, rfl, rfl⟩, ⟨_, rfl, rfl⟩, ⟨_, rfl, rfl⟩, ⟨_, rfl, rfl⟩, ⟨_, rfl, rfl⟩, ⟨_, rfl, rfl⟩, trivial⟩ ?_
 refine WO.v (R.assign rfl) rfl ?_
 refine WO.nil ?_
 refine WX.sel [0, 2, 3, 4, 5, 6, 7, 15, 34] rfl ?_
 refine WX.blkNormal ?_
 refine WX.next ?_
 refine WC.region ?_
 refine WO.v (R.move rfl) rfl ?_
 refine WO.v (R.inc rfl (by omega)) rfl ?_
 refine WO.v (R.assign rfl) rfl ?_
 refine WO.nil ?_
 refine WX.sel [0, 2, 3, 4, 5, 6, 7, 15, 34] rfl ?_
 exact WX.loopNextK [0, 2, 3, 4, 5, 15] (k + 1) rfl ⟨⟨_, rfl, rfl⟩, ⟨_, rfl, vb (by first | (rw [fine_next hx22, hb21]; rfl) | (rw [fine_next hx22, hb21, hb27]; rfl) | (rw [fine_next hx22, hb21, hb27, hb33]; rfl) | (rw [fine_next hx22, hb21, hb27, hb33, hb34]; rfl) | (rw [fine_next hx22, hb21, hb27, hb33, hb34, getD_eq (l := (l.take 12)) (k := k - 1) (by assumption)]; rfl))⟩, trivial⟩ ⟨((Kp.refl _).step k19 (by simp)).step k110 (by simp), by omega⟩ (by show ((l.take 12).length - (k + 1)) < ((l.take 12).length - k); omega)
 have phb34 : ¬ (((k : Nat) : Int) = (0 : Int)) := of_decide_eq_false hb34
 obtain ⟨A143, cs144, hA143, loA143, hiA143, ccA143, r145⟩ := (sl_kp0 (sl_kp0 (jf4) k14 (by omega)) k19 (by omega)).at_ hx22
 obtain ⟨rfl, i146⟩ := r145
 have i147 : I64 (((k : Nat) : Int) - (1 : Int)) := by exact ⟨by omega, by omega⟩
 obtain ⟨x148, hx148⟩ := get_ex (xs := (l.take 12)) (i := (k - 1)) (by omega)
 obtain ⟨A149, cs150, hA149, loA149, hiA149, ccA149, r151⟩ := (sl_kp0 (sl_kp0 (jf4) k14 (by omega)) k19 (by omega)).at_ hx148
 obtain ⟨rfl, i152⟩ := r151
 refine WC.draw' mixed_orders [.ex [] (.bool (fineF (l.take 12) k)), .ex [0] (.bool true), .ex [1] (.slice ja2 (l.take 12).length jc3), .ex [1] (.int .i64 ((k : Nat) : Int)), .ex [1, 2, 3] (.pointer (some (A23.add (k * 1)))), .ex [1, 4] (.int .i64 x22), .ex [1, 5] (.bool (decide ((1 : Int) ≤ x22))), .ex [1, 6] (.bool (decide ((1 : Int) ≤ x22))), .ex [7] (.bool true), .ex [8] (.slice ja2 (l.take 12).length jc3), .ex [8] (.int .i64 ((k : Nat) : Int)), .ex [8, 9, 10] (.pointer (some (A29.add (k * 1)))), .ex [8, 11] (.int .i64 x22), .ex [8, 12] (.bool (decide (x22 ≤ (64 : Int)))), .ex [8, 13] (.bool (decide (x22 ≤ (64 : Int)))), .ex [14] (.bool true), .ex [15] (.int .i64 ((k : Nat) : Int)), .ex [15, 16] (.bool (decide (((k : Nat) : Int) = (0 : Int)))), .ex [15, 17] (.bool false), .ex [18] (.slice ja2 (l.take 12).length jc3), .ex [18] (.int .i64 ((k : Nat) : Int)), .ex [18, 19, 20] (.pointer (some (A143.add (k * 1)))), .ex [18, 21] (.int .i64 x22), .ex [18] (.slice ja2 (l.take 12).length jc3), .ex [18] (.int .i64 ((k : Nat) : Int)), .ex [18, 24] (.int .i64 (((k : Nat) : Int) - (1 : Int))), .ex [18, 23, 25] (.pointer (some (A149.add ((k - 1) * 1)))), .ex [18, 26] (.int .i64 x148), .ex [18, 22, 27] (.bool (decide (x148 < x22))), .ex [15, 18, 28] (.bool (decide (x148 < x22))), .ex [15, 29] (.bool (decide (x148 < x22)))] 31 (by kernel_rfl) ⟨fun _ _ _ h _ => h, fun _ _ _ h _ => h, fun _ _ _ h _ => h, fun _ _ _ h _ => h, fun _ _ _ h _ => h, fun _ _ _ h _ => h, fun _ _ _ h _ => h, fun _ _ _ h _ => h, fun _ _ _ h _ => h, fun _ _ _ h _ => h, fun _ _ _ h _ => h, fun _ _ _ h _ => h, fun _ _ _ h _ => h, fun _ _ _ h _ => h, fun _ _ _ h _ => h, fun _ _ _ h _ => h, fun _ _ _ h _ => h, fun _ _ _ h _ => h, fun _ _ _ h _ => h, fun _ _ _ h _ => h, fun _ _ _ h _ => h, fun _ _ _ h _ => h, fun _ _ _ h _ => h, fun _ _ _ h _ => h, fun _ _ _ h _ => h, fun _ _ _ h _ => h, fun _ _ _ h _ => h, fun _ _ _ h _ => h, fun _ _ _ h _ => h, fun _ _ _ h _ => h, fun _ _ _ h _ => h, trivial⟩ ⟨?_, ?_, ?_, ?_, ?_, ?_, ?_, ?_, ?_, ?_, ?_, ?_, ?_, ?_, ?_, ?_, ?_, ?_, ?_, ?_, ?_, ?_, ?_, ?_, ?_, ?_, ?_, ?_, ?_, ?_, ?_, trivial⟩ ?_
 rintro vs w153 k153 ⟨-⟩
 replace k153 : Kp [] w19 w153 := k153
 refine WO.haves (fr' := [(6, _)]) ⟨⟨_, rfl, rfl⟩, trivial⟩ ?_
 refine WO.v (R.move rfl) rfl ?_
 refine WO.nil ?_
 exact WX.stepDone rfl rfl (Kp.refl _)
 rintro vs w154 k154 ⟨e155, -⟩
 replace k154 : Kp [] w19 w154 := k154
 refine WO.haves (fr' := [(37, _)]) ⟨⟨_, rfl, e155⟩, trivial⟩ ?_
 refine WO.v (R.move rfl) rfl ?_
 refine WO.nil ?_
 exact WX.stepDone rfl (vb hb21) (Kp.refl _)
 rintro vs w156 k156 ⟨e157, -⟩
 replace k156 : Kp [] w19 w156 := k156
 refine WO.haves (fr' := [(38, _), (0, _)]) ⟨⟨_, rfl, e157⟩, ⟨_, rfl, rfl⟩, trivial⟩ ?_
 refine WO.on rfl rfl rfl ?_
 refine WO.v (R.move rfl) rfl ?_
 refine WO.nil ?_
 exact WX.stepDone rfl rfl (Kp.refl _)
 rintro vs w158 k158 ⟨e159, -⟩
 replace k158 : Kp [] w19 w158 := k158
 refine WO.haves (fr' := [(38, _), (7, _)]) ⟨⟨_, rfl, e159⟩, ⟨_, rfl, rfl⟩, trivial⟩ ?_
 refine WO.on rfl rfl rfl ?_
 refine WO.v (R.move rfl) rfl ?_
 refine WO.nil ?_
 exact WX.stepDone rfl rfl (Kp.refl _)
 rintro vs w160 k160 ⟨e161, e162, e163, -⟩
 replace k160 : Kp [] w19 w160 := k160
 refine WO.haves (fr' := [(38, _), (39, _), (40, _)]) ⟨⟨_, rfl, e161⟩, ⟨_, rfl, e162⟩, ⟨_, rfl, e163⟩, trivial⟩ ?_
 refine WO.on rfl rfl rfl ?_
 refine WO.v (R.indexAddrN rfl rfl Try.underlying22 sz3 hA23 (by omega)) rfl ?_
 refine WO.nil ?_
 exact WX.stepDone rfl rfl (Kp.refl _)
 rintro vs w164 k164 ⟨e165, e166, -⟩
 replace k164 : Kp [] w19 w164 := k164
 have z164 := k164.size
 have b164 := old_kp0 b19 k164
 have y164 := b164.size
 refine WO.haves (fr' := [(38, _), (41, _)]) ⟨⟨_, rfl, e165⟩, ⟨_, rfl, e166⟩, trivial⟩ ?_
 refine WO.on rfl rfl rfl ?_
 refine WO.v (R.load1 rfl Try.underlying3 rfl (CellsAt.one0 ((ccA23).kpA k164 (by omega) (by simp)))) rfl ?_
 refine WO.nil ?_
 exact WX.stepDone rfl rfl (Kp.refl _)
 rintro vs w167 k167 ⟨e168, e169, -⟩
 replace k167 : Kp [] w19 w167 := k167
 refine WO.haves (fr' := [(38, _), (42, _)]) ⟨⟨_, rfl, e168⟩, ⟨_, rfl, e169⟩, trivial⟩ ?_
 refine WO.on rfl rfl rfl ?_
 refine WO.v (R.geq rfl rfl) rfl ?_
 refine WO.nil ?_
 exact WX.stepDone rfl rfl (Kp.refl _)
 rintro vs w170 k170 ⟨e171, e172, -⟩
 replace k170 : Kp [] w19 w170 := k170
 refine WO.haves (fr' := [(38, _), (43, _)]) ⟨⟨_, rfl, e171⟩, ⟨_, rfl, e172⟩, trivial⟩ ?_
 refine WO.v (R.pickT rfl rfl rfl) rfl ?_
 refine WO.nil ?_
 exact WX.stepDone rfl rfl (Kp.refl _)
 rintro vs w173 k173 ⟨e174, -⟩
 replace k173 : Kp [] w19 w173 := k173
 refine WO.haves (fr' := [(44, _)]) ⟨⟨_, rfl, e174⟩, trivial⟩ ?_
 refine WO.v (R.move rfl) rfl ?_
 refine WO.nil ?_
 exact WX.stepDone rfl (vb hb27) (Kp.refl _)
 rintro vs w175 k175 ⟨e176, -⟩
 replace k175 : Kp [] w19 w175 := k175
 refine WO.haves (fr' := [(45, _), (0, _)]) ⟨⟨_, rfl, e176⟩, ⟨_, rfl, rfl⟩, trivial⟩ ?_
 refine WO.on rfl rfl rfl ?_
 refine WO.v (R.move rfl) rfl ?_
 refine WO.nil ?_
 exact WX.stepDone rfl rfl (Kp.refl _)
 rintro vs w177 k177 ⟨e178, -⟩
 replace k177 : Kp [] w19 w177 := k177
 refine WO.haves (fr' := [(45, _), (7, _)]) ⟨⟨_, rfl, e178⟩, ⟨_, rfl, rfl⟩, trivial⟩ ?_
 refine WO.on rfl rfl rfl ?_
 refine WO.v (R.move rfl) rfl ?_
 refine WO.nil ?_
 exact WX.stepDone rfl rfl (Kp.refl _)
 rintro vs w179 k179 ⟨e180, e181, e182, -⟩
 replace k179 : Kp [] w19 w179 := k179
 refine WO.haves (fr' := [(45, _), (46, _), (47, _)]) ⟨⟨_, rfl, e180⟩, ⟨_, rfl, e181⟩, ⟨_, rfl, e182⟩, trivial⟩ ?_
 refine WO.on rfl rfl rfl ?_
 refine WO.v (R.indexAddrN rfl rfl Try.underlying22 sz3 hA29 (by omega)) rfl ?_
 refine WO.nil ?_
 exact WX.stepDone rfl rfl (Kp.refl _)
 rintro vs w183 k183 ⟨e184, e185, -⟩
 replace k183 : Kp [] w19 w183 := k183
 have z183 := k183.size
 have b183 := old_kp0 b19 k183
 have y183 := b183.size
 refine WO.haves (fr' := [(45, _), (48, _)]) ⟨⟨_, rfl, e184⟩, ⟨_, rfl, e185⟩, trivial⟩ ?_
 refine WO.on rfl rfl rfl ?_
 refine WO.v (R.load1 rfl Try.underlying3 rfl (CellsAt.one0 ((ccA29).kpA k183 (by omega) (by simp)))) rfl ?_
 refine WO.nil ?_
 exact WX.stepDone rfl rfl (Kp.refl _)
 rintro vs w186 k186 ⟨e187, e188, -⟩
 replace k186 : Kp [] w19 w186 := k186
 refine WO.haves (fr' := [(45, _), (49, _)]) ⟨⟨_, rfl, e187⟩, ⟨_, rfl, e188⟩, trivial⟩ ?_
 refine WO.on rfl rfl rfl ?_
 refine WO.v (R.leq rfl rfl) rfl ?_
 refine WO.nil ?_
 exact WX.stepDone rfl rfl (Kp.refl _)
 rintro vs w189 k189 ⟨e190, e191, -⟩
 replace k189 : Kp [] w19 w189 := k189
 refine WO.haves (fr' := [(45, _), (50, _)]) ⟨⟨_, rfl, e190⟩, ⟨_, rfl, e191⟩, trivial⟩ ?_
 refine WO.v (R.pickT rfl rfl rfl) rfl ?_
 refine WO.nil ?_
 exact WX.stepDone rfl rfl (Kp.refl _)
 rintro vs w192 k192 ⟨e193, -⟩
 replace k192 : Kp [] w19 w192 := k192
 refine WO.haves (fr' := [(51, _)]) ⟨⟨_, rfl, e193⟩, trivial⟩ ?_
 refine WO.v (R.move rfl) rfl ?_
 refine WO.nil ?_
 exact WX.stepDone rfl (vb hb33) (Kp.refl _)
 rintro vs w194 k194 ⟨e195, -⟩
 replace k194 : Kp [] w19 w194 := k194
 refine WO.haves (fr' := [(52, _), (7, _)]) ⟨⟨_, rfl, e195⟩, ⟨_, rfl, rfl⟩, trivial⟩ ?_
 refine WO.on rfl rfl rfl ?_
 refine WO.v (R.move rfl) rfl ?_
 refine WO.nil ?_
 exact WX.stepDone rfl rfl (Kp.refl _)
 rintro vs w196 k196 ⟨e197, e198, -⟩
 replace k196 : Kp [] w19 w196 := k196
 refine WO.haves (fr' := [(52, _), (53, _)]) ⟨⟨_, rfl, e197⟩, ⟨_, rfl, e198⟩, trivial⟩ ?_
 refine WO.on rfl rfl rfl ?_
 refine WO.v (R.eql rfl rfl) rfl ?_
 refine WO.nil ?_
 exact WX.stepDone rfl rfl (Kp.refl _)
 rintro vs w199 k199 ⟨e200, e201, -⟩
 replace k199 : Kp [] w19 w199 := k199
 refine WO.haves (fr' := [(52, _), (54, _)]) ⟨⟨_, rfl, e200⟩, ⟨_, rfl, e201⟩, trivial⟩ ?_
 refine WO.on rfl rfl rfl ?_
 refine WO.v (R.move rfl) rfl ?_
 refine WO.nil ?_
 exact WX.stepDone rfl (vb hb34) (Kp.refl _)
 rintro vs w202 k202 ⟨e203, -⟩
 replace k202 : Kp [] w19 w202 := k202
 refine WO.haves (fr' := [(55, _), (0, _)]) ⟨⟨_, rfl, e203⟩, ⟨_, rfl, rfl⟩, trivial⟩ ?_
 refine WO.on rfl rfl rfl ?_
 refine WO.v (R.move rfl) rfl ?_
 refine WO.nil ?_
 exact WX.stepDone rfl rfl (Kp.refl _)
 rintro vs w204 k204 ⟨e205, -⟩
 replace k204 : Kp [] w19 w204 := k204
 refine WO.haves (fr' := [(55, _), (7, _)]) ⟨⟨_, rfl, e205⟩, ⟨_, rfl, rfl⟩, trivial⟩ ?_
 refine WO.on rfl rfl rfl ?_
 refine WO.v (R.move rfl) rfl ?_
 refine WO.nil ?_
 exact WX.stepDone rfl rfl (Kp.refl _)
 rintro vs w206 k206 ⟨e207, e208, e209, -⟩
 replace k206 : Kp [] w19 w206 := k206
 refine WO.haves (fr' := [(55, _), (56, _), (57, _)]) ⟨⟨_, rfl, e207⟩, ⟨_, rfl, e208⟩, ⟨_, rfl, e209⟩, trivial⟩ ?_
 refine WO.on rfl rfl rfl ?_
 refine WO.v (R.indexAddrN rfl rfl Try.underlying22 sz3 hA143 (by omega)) rfl ?_
 refine WO.nil ?_
 exact WX.stepDone rfl rfl (Kp.refl _)
 rintro vs w210 k210 ⟨e211, e212, -⟩
 replace k210 : Kp [] w19 w210 := k210
 have z210 := k210.size
 have b210 := old_kp0 b19 k210
 have y210 := b210.size
 refine WO.haves (fr' := [(55, _), (58, _)]) ⟨⟨_, rfl, e211⟩, ⟨_, rfl, e212⟩, trivial⟩ ?_
 refine WO.on rfl rfl rfl ?_
 refine WO.v (R.load1 rfl Try.underlying3 rfl (CellsAt.one0 ((ccA143).kpA k210 (by omega) (by simp)))) rfl ?_
 refine WO.nil ?_
 exact WX.stepDone rfl rfl (Kp.refl _)
 rintro vs w213 k213 ⟨e214, -⟩
 replace k213 : Kp [] w19 w213 := k213
 refine WO.haves (fr' := [(55, _), (0, _)]) ⟨⟨_, rfl, e214⟩, ⟨_, rfl, rfl⟩, trivial⟩ ?_
 refine WO.on rfl rfl rfl ?_
 refine WO.v (R.move rfl) rfl ?_
 refine WO.nil ?_
 exact WX.stepDone rfl rfl (Kp.refl _)
 rintro vs w215 k215 ⟨e216, -⟩
 replace k215 : Kp [] w19 w215 := k215
 refine WO.haves (fr' := [(55, _), (7, _)]) ⟨⟨_, rfl, e216⟩, ⟨_, rfl, rfl⟩, trivial⟩ ?_
 refine WO.on rfl rfl rfl ?_
 refine WO.v (R.move rfl) rfl ?_
 refine WO.nil ?_
 exact WX.stepDone rfl rfl (Kp.refl _)
 rintro vs w217 k217 ⟨e218, e219, -⟩
 replace k217 : Kp [] w19 w217 := k217
 refine WO.haves (fr' := [(55, _), (61, _)]) ⟨⟨_, rfl, e218⟩, ⟨_, rfl, e219⟩, trivial⟩ ?_
 refine WO.on rfl rfl rfl ?_
 have i220 : I64 (((k : Nat) : Int) - (1 : Int)) := by exact ⟨by omega, by omega⟩
 refine WO.v (R.sub rfl rfl i220) rfl ?_
 refine WO.nil ?_
 exact WX.stepDone rfl rfl (Kp.refl _)
 rintro vs w221 k221 ⟨e222, e223, e224, -⟩
 replace k221 : Kp [] w19 w221 := k221
 refine WO.haves (fr' := [(55, _), (60, _), (62, _)]) ⟨⟨_, rfl, e222⟩, ⟨_, rfl, e223⟩, ⟨_, rfl, e224⟩, trivial⟩ ?_
 refine WO.on rfl rfl rfl ?_
 refine WO.v (R.indexAddrJ rfl rfl Try.underlying22 sz3 hA149 (i := (k - 1)) (by omega) (by omega)) rfl ?_
 refine WO.nil ?_
 exact WX.stepDone rfl rfl (Kp.refl _)
 rintro vs w225 k225 ⟨e226, e227, -⟩
 replace k225 : Kp [] w19 w225 := k225
 have z225 := k225.size
 have b225 := old_kp0 b19 k225
 have y225 := b225.size
 refine WO.haves (fr' := [(55, _), (63, _)]) ⟨⟨_, rfl, e226⟩, ⟨_, rfl, e227⟩, trivial⟩ ?_
 refine WO.on rfl rfl rfl ?_
 refine WO.v (R.load1 rfl Try.underlying3 rfl (CellsAt.one0 ((ccA149).kpA k225 (by omega) (by simp)))) rfl ?_
 refine WO.nil ?_
 exact WX.stepDone rfl rfl (Kp.refl _)
 rintro vs w228 k228 ⟨e229, e230, e231, -⟩
 replace k228 : Kp [] w19 w228 := k228
 refine WO.haves (fr' := [(55, _), (59, _), (64, _)]) ⟨⟨_, rfl, e229⟩, ⟨_, rfl, e230⟩, ⟨_, rfl, e231⟩, trivial⟩ ?_
 refine WO.on rfl rfl rfl ?_
 refine WO.v (R.gtr rfl rfl) rfl ?_
 refine WO.nil ?_
 exact WX.stepDone rfl rfl (Kp.refl _)
 rintro vs w232 k232 ⟨e233, e234, e235, -⟩
 replace k232 : Kp [] w19 w232 := k232
 refine WO.haves (fr' := [(52, _), (55, _), (65, _)]) ⟨⟨_, rfl, e233⟩, ⟨_, rfl, e234⟩, ⟨_, rfl, e235⟩, trivial⟩ ?_
 refine WO.on rfl rfl rfl ?_
 refine WO.v (R.pickF rfl rfl rfl) rfl ?_
 refine WO.nil ?_
 exact WX.stepDone rfl rfl (Kp.refl _)
 rintro vs w236 k236 ⟨e237, e238, -⟩
 replace k236 : Kp [] w19 w236 := k236
 refine WO.haves (fr' := [(52, _), (66, _)]) ⟨⟨_, rfl, e237⟩, ⟨_, rfl, e238⟩, trivial⟩ ?_
 refine WO.v (R.pickT rfl rfl rfl) rfl ?_
 refine WO.nil ?_
 exact WX.stepDone rfl rfl (Kp.refl _)
 rintro vs w239 k239 ⟨-, -, -, -, -, -, -, -, -, -, -, -, -, -, -, -, -, -, -, -, -, -, -, -, -, -, -, -, -, -, e270, -⟩
 replace k239 : Kp [] w19 w239 := k239
 have z239 := k239.size
 have b239 := old_kp0 b19 k239
 have y239 := b239.size
 refine WO.haves (fr' := [(67, _), (0, _), (2, _), (3, _), (4, _), (5, _), (6, _), (7, _), (15, _), (34, _)]) ⟨⟨_, rfl, e270⟩, ⟨_, rfl, rfl⟩, ⟨_, rfl, rfl⟩, ⟨_, rfl, rfl⟩, ⟨_, rfl, rfl⟩, ⟨_, rfl, rfl⟩, ⟨_, rfl, rfl⟩, ⟨_, rfl, rfl⟩, ⟨_, rfl, rfl⟩, ⟨_, rfl, rfl⟩, trivial⟩ ?_
 refine WO.v (R.assign rfl) rfl ?_
 refine WO.nil ?_
 refine WX.sel [0, 2, 3, 4, 5, 6, 7, 15, 34] rfl ?_
 refine WX.blkNormal ?_
 refine WX.next ?_
 refine WC.region ?_
 refine WO.v (R.move rfl) rfl ?_
 refine WO.v (R.inc rfl (by omega)) rfl ?_
 refine WO.v (R.assign rfl) rfl ?_
 refine WO.nil ?_
 refine WX.sel [0, 2, 3, 4, 5, 6, 7, 15, 34] rfl ?_
 exact WX.loopNextK [0, 2, 3, 4, 5, 15] (k + 1) rfl ⟨⟨_, rfl, rfl⟩, ⟨_, rfl, vb (by first | (rw [fine_next hx22, hb21]; rfl) | (rw [fine_next hx22, hb21, hb27]; rfl) | (rw [fine_next hx22, hb21, hb27, hb33]; rfl) | (rw [fine_next hx22, hb21, hb27, hb33, hb34]; rfl) | (rw [fine_next hx22, hb21, hb27, hb33, hb34, getD_eq (l := (l.take 12)) (k := k - 1) (by assumption)]; rfl))⟩, trivial⟩ ⟨((Kp.refl _).step k19 (by simp)).step k239 (by simp), by omega⟩ (by show ((l.take 12).length - (k + 1)) < ((l.take 12).length - k); omega)
 have phb33 : ¬ (x22 ≤ (64 : Int)) := of_decide_eq_false hb33
 refine WC.draw' mixed_orders [.ex [] (.bool (fineF (l.take 12) k)), .ex [0] (.bool true), .ex [1] (.slice ja2 (l.take 12).length jc3), .ex [1] (.int .i64 ((k : Nat) : Int)), .ex [1, 2, 3] (.pointer (some (A23.add (k * 1)))), .ex [1, 4] (.int .i64 x22), .ex [1, 5] (.bool (decide ((1 : Int) ≤ x22))), .ex [1, 6] (.bool (decide ((1 : Int) ≤ x22))), .ex [7] (.bool true), .ex [8] (.slice ja2 (l.take 12).length jc3), .ex [8] (.int .i64 ((k : Nat) : Int)), .ex [8, 9, 10] (.pointer (some (A29.add (k * 1)))), .ex [8, 11] (.int .i64 x22), .ex [8, 12] (.bool (decide (x22 ≤ (64 : Int)))), .ex [8, 13] (.bool (decide (x22 ≤ (64 : Int)))), .ex [14] (.bool false), .ex [15] undef, .ex [15] undef, .ex [15] undef, .ex [18] undef, .ex [18] undef, .ex [18] undef, .ex [18] undef, .ex [18] undef, .ex [18] undef, .ex [18] undef, .ex [18] undef, .ex [18] undef, .ex [18] undef, .ex [15] undef, .ex [15] (.bool false)] 31 (by kernel_rfl) ⟨fun _ _ _ h _ => h, fun _ _ _ h _ => h, fun _ _ _ h _ => h, fun _ _ _ h _ => h, fun _ _ _ h _ => h, fun _ _ _ h _ => h, fun _ _ _ h _ => h, fun _ _ _ h _ => h, fun _ _ _ h _ => h, fun _ _ _ h _ => h, fun _ _ _ h _ => h, fun _ _ _ h _ => h, fun _ _ _ h _ => h, fun _ _ _ h _ => h, fun _ _ _ h _ => h, fun _ _ _ h _ => h, fun _ _ _ h _ => h, fun _ _ _ h _ => h, fun _ _ _ h _ => h, fun _ _ _ h _ => h, fun _ _ _ h _ => h, fun _ _ _ h _ => h, fun _ _ _ h _ => h, fun _ _ _ h _ => h, fun _ _ _ h _ => h, fun _ _ _ h _ => h, fun _ _ _ h _ => h, fun _ _ _ h _ => h, fun _ _ _ h _ => h, fun _ _ _ h _ => h, fun _ _ _ h _ => h, trivial⟩ ⟨?_, ?_, ?_, ?_, ?_, ?_, ?_, ?_, ?_, ?_, ?_, ?_, ?_, ?_, ?_, ?_, ?_, ?_, ?_, ?_, ?_, ?_, ?_, ?_, ?_, ?_, ?_, ?_, ?_, ?_, ?_, trivial⟩ ?_
 rintro vs w271 k271 ⟨-⟩
 replace k271 : Kp [] w19 w271 := k271
 refine WO.haves (fr' := [(6, _)]) ⟨⟨_, rfl, rfl⟩, trivial⟩ ?_
 refine WO.v (R.move rfl) rfl ?_
 refine WO.nil ?_
 exact WX.stepDone rfl rfl (Kp.refl _)
 rintro vs w272 k272 ⟨e273, -⟩
 replace k272 : Kp [] w19 w272 := k272
 refine WO.haves (fr' := [(37, _)]) ⟨⟨_, rfl, e273⟩, trivial⟩ ?_
 refine WO.v (R.move rfl) rfl ?_
 refine WO.nil ?_
 exact WX.stepDone rfl (vb hb21) (Kp.refl _)
 rintro vs w274 k274 ⟨e275, -⟩
 replace k274 : Kp [] w19 w274 := k274
 refine WO.haves (fr' := [(38, _), (0, _)]) ⟨⟨_, rfl, e275⟩, ⟨_, rfl, rfl⟩, trivial⟩ ?_
 refine WO.on rfl rfl rfl ?_
 refine WO.v (R.move rfl) rfl ?_
 refine WO.nil ?_
 exact WX.stepDone rfl rfl (Kp.refl _)
 rintro vs w276 k276 ⟨e277, -⟩
 replace k276 : Kp [] w19 w276 := k276
 refine WO.haves (fr' := [(38, _), (7, _)]) ⟨⟨_, rfl, e277⟩, ⟨_, rfl, rfl⟩, trivial⟩ ?_
 refine WO.on rfl rfl rfl ?_
 refine WO.v (R.move rfl) rfl ?_
 refine WO.nil ?_
 exact WX.stepDone rfl rfl (Kp.refl _)
 rintro vs w278 k278 ⟨e279, e280, e281, -⟩
 replace k278 : Kp [] w19 w278 := k278
 refine WO.haves (fr' := [(38, _), (39, _), (40, _)]) ⟨⟨_, rfl, e279⟩, ⟨_, rfl, e280⟩, ⟨_, rfl, e281⟩, trivial⟩ ?_
 refine WO.on rfl rfl rfl ?_
 refine WO.v (R.indexAddrN rfl rfl Try.underlying22 sz3 hA23 (by omega)) rfl ?_
 refine WO.nil ?_
 exact WX.stepDone rfl rfl (Kp.refl _)
 rintro vs w282 k282 ⟨e283, e284, -⟩
 replace k282 : Kp [] w19 w282 := k282
 have z282 := k282.size
 have b282 := old_kp0 b19 k282
 have y282 := b282.size
 refine WO.haves (fr' := [(38, _), (41, _)]) ⟨⟨_, rfl, e283⟩, ⟨_, rfl, e284⟩, trivial⟩ ?_
 refine WO.on rfl rfl rfl ?_
 refine WO.v (R.load1 rfl Try.underlying3 rfl (CellsAt.one0 ((ccA23).kpA k282 (by omega) (by simp)))) rfl ?_
 refine WO.nil ?_
 exact WX.stepDone rfl rfl (Kp.refl _)
 rintro vs w285 k285 ⟨e286, e287, -⟩
 replace k285 : Kp [] w19 w285 := k285
 refine WO.haves (fr' := [(38, _), (42, _)]) ⟨⟨_, rfl, e286⟩, ⟨_, rfl, e287⟩, trivial⟩ ?_
 refine WO.on rfl rfl rfl ?_
 refine WO.v (R.geq rfl rfl) rfl ?_
 refine WO.nil ?_
 exact WX.stepDone rfl rfl (Kp.refl _)
 rintro vs w288 k288 ⟨e289, e290, -⟩
 replace k288 : Kp [] w19 w288 := k288
 refine WO.haves (fr' := [(38, _), (43, _)]) ⟨⟨_, rfl, e289⟩, ⟨_, rfl, e290⟩, trivial⟩ ?_
 refine WO.v (R.pickT rfl rfl rfl) rfl ?_
 refine WO.nil ?_
 exact WX.stepDone rfl rfl (Kp.refl _)
 rintro vs w291 k291 ⟨e292, -⟩
 replace k291 : Kp [] w19 w291 := k291
 refine WO.haves (fr' := [(44, _)]) ⟨⟨_, rfl, e292⟩, trivial⟩ ?_
 refine WO.v (R.move rfl) rfl ?_
 refine WO.nil ?_
 exact WX.stepDone rfl (vb hb27) (Kp.refl _)
 rintro vs w293 k293 ⟨e294, -⟩
 replace k293 : Kp [] w19 w293 := k293
 refine WO.haves (fr' := [(45, _), (0, _)]) ⟨⟨_, rfl, e294⟩, ⟨_, rfl, rfl⟩, trivial⟩ ?_
 refine WO.on rfl rfl rfl ?_
 refine WO.v (R.move rfl) rfl ?_
 refine WO.nil ?_
 exact WX.stepDone rfl rfl (Kp.refl _)
 rintro vs w295 k295 ⟨e296, -⟩
 replace k295 : Kp [] w19 w295 := k295
 refine WO.haves (fr' := [(45, _), (7, _)]) ⟨⟨_, rfl, e296⟩, ⟨_, rfl, rfl⟩, trivial⟩ ?_
 refine WO.on rfl rfl rfl ?_
 refine WO.v (R.move rfl) rfl ?_
 refine WO.nil ?_
 exact WX.stepDone rfl rfl (Kp.refl _)
 rintro vs w297 k297 ⟨e298, e299, e300, -⟩
 replace k297 : Kp [] w19 w297 := k297
 refine WO.haves (fr' := [(45, _), (46, _), (47, _)]) ⟨⟨_, rfl, e298⟩, ⟨_, rfl, e299⟩, ⟨_, rfl, e300⟩, trivial⟩ ?_
 refine WO.on rfl rfl rfl ?_
 refine WO.v (R.indexAddrN rfl rfl Try.underlying22 sz3 hA29 (by omega)) rfl ?_
 refine WO.nil ?_
 exact WX.stepDone rfl rfl (Kp.refl _)
 rintro vs w301 k301 ⟨e302, e303, -⟩
 replace k301 : Kp [] w19 w301 := k301
 have z301 := k301.size
 have b301 := old_kp0 b19 k301
 have y301 := b301.size
 refine WO.haves (fr' := [(45, _), (48, _)]) ⟨⟨_, rfl, e302⟩, ⟨_, rfl, e303⟩, trivial⟩ ?_
 refine WO.on rfl rfl rfl ?_
 refine WO.v (R.load1 rfl Try.underlying3 rfl (CellsAt.one0 ((ccA29).kpA k301 (by omega) (by simp)))) rfl ?_
 refine WO.nil ?_
 exact WX.stepDone rfl rfl (Kp.refl _)
 rintro vs w304 k304 ⟨e305, e306, -⟩
 replace k304 : Kp [] w19 w304 := k304
 refine WO.haves (fr' := [(45, _), (49, _)]) ⟨⟨_, rfl, e305⟩, ⟨_, rfl, e306⟩, trivial⟩ ?_
 refine WO.on rfl rfl rfl ?_
 refine WO.v (R.leq rfl rfl) rfl ?_
 refine WO.nil ?_
 exact WX.stepDone rfl rfl (Kp.refl _)
 rintro vs w307 k307 ⟨e308, e309, -⟩
 replace k307 : Kp [] w19 w307 := k307
 refine WO.haves (fr' := [(45, _), (50, _)]) ⟨⟨_, rfl, e308⟩, ⟨_, rfl, e309⟩, trivial⟩ ?_
 refine WO.v (R.pickT rfl rfl rfl) rfl ?_
 refine WO.nil ?_
 exact WX.stepDone rfl rfl (Kp.refl _)
 rintro vs w310 k310 ⟨e311, -⟩
 replace k310 : Kp [] w19 w310 := k310
 refine WO.haves (fr' := [(51, _)]) ⟨⟨_, rfl, e311⟩, trivial⟩ ?_
 refine WO.v (R.move rfl) rfl ?_
 refine WO.nil ?_
 exact WX.stepDone rfl (vb hb33) (Kp.refl _)
 rintro vs w312 k312 ⟨e313, -⟩
 replace k312 : Kp [] w19 w312 := k312
 refine WO.haves (fr' := [(52, _), (7, _)]) ⟨⟨_, rfl, e313⟩, ⟨_, rfl, rfl⟩, trivial⟩ ?_
 refine WO.off rfl rfl rfl rfl ?_
 refine WO.nil ?_
 exact WX.stepDone rfl rfl (Kp.refl _)
 rintro vs w314 k314 ⟨e315, -⟩
 replace k314 : Kp [] w19 w314 := k314
 refine WO.haves (fr' := [(52, _)]) ⟨⟨_, rfl, e315⟩, trivial⟩ ?_
 refine WO.off rfl rfl rfl rfl ?_
 refine WO.nil ?_
 exact WX.stepDone rfl rfl (Kp.refl _)
 rintro vs w316 k316 ⟨e317, -⟩
 replace k316 : Kp [] w19 w316 := k316
 refine WO.haves (fr' := [(52, _)]) ⟨⟨_, rfl, e317⟩, trivial⟩ ?_
 refine WO.off rfl rfl rfl rfl ?_
 refine WO.nil ?_
 exact WX.stepDone rfl rfl (Kp.refl _)
 rintro vs w318 k318 ⟨e319, -⟩
 replace k318 : Kp [] w19 w318 := k318
 refine WO.haves (fr' := [(55, _), (0, _)]) ⟨⟨_, rfl, e319⟩, ⟨_, rfl, rfl⟩, trivial⟩ ?_
 refine WO.offU rfl rfl rfl ?_
 refine WO.nil ?_
 exact WX.stepDone rfl rfl (Kp.refl _)
 rintro vs w320 k320 ⟨e321, -⟩
 replace k320 : Kp [] w19 w320 := k320
 refine WO.haves (fr' := [(55, _), (7, _)]) ⟨⟨_, rfl, e321⟩, ⟨_, rfl, rfl⟩, trivial⟩ ?_
 refine WO.offU rfl rfl rfl ?_
 refine WO.nil ?_
 exact WX.stepDone rfl rfl (Kp.refl _)
 rintro vs w322 k322 ⟨e323, -⟩
 replace k322 : Kp [] w19 w322 := k322
 refine WO.haves (fr' := [(55, _)]) ⟨⟨_, rfl, e323⟩, trivial⟩ ?_
 refine WO.offU rfl rfl rfl ?_
 refine WO.nil ?_
 exact WX.stepDone rfl rfl (Kp.refl _)
 rintro vs w324 k324 ⟨e325, -⟩
 replace k324 : Kp [] w19 w324 := k324
 refine WO.haves (fr' := [(55, _)]) ⟨⟨_, rfl, e325⟩, trivial⟩ ?_
 refine WO.offU rfl rfl rfl ?_
 refine WO.nil ?_
 exact WX.stepDone rfl rfl (Kp.refl _)
 rintro vs w326 k326 ⟨e327, -⟩
 replace k326 : Kp [] w19 w326 := k326
 refine WO.haves (fr' := [(55, _), (0, _)]) ⟨⟨_, rfl, e327⟩, ⟨_, rfl, rfl⟩, trivial⟩ ?_
 refine WO.offU rfl rfl rfl ?_
 refine WO.nil ?_
 exact WX.stepDone rfl rfl (Kp.refl _)
 rintro vs w328 k328 ⟨e329, -⟩
 replace k328 : Kp [] w19 w328 := k328
 refine WO.haves (fr' := [(55, _), (7, _)]) ⟨⟨_, rfl, e329⟩, ⟨_, rfl, rfl⟩, trivial⟩ ?_
 refine WO.offU rfl rfl rfl ?_
 refine WO.nil ?_
 exact WX.stepDone rfl rfl (Kp.refl _)
 rintro vs w330 k330 ⟨e331, -⟩
 replace k330 : Kp [] w19 w330 := k330
 refine WO.haves (fr' := [(55, _)]) ⟨⟨_, rfl, e331⟩, trivial⟩ ?_
 refine WO.offU rfl rfl rfl ?_
 refine WO.nil ?_
 exact WX.stepDone rfl rfl (Kp.refl _)
 rintro vs w332 k332 ⟨e333, -⟩
 replace k332 : Kp [] w19 w332 := k332
 refine WO.haves (fr' := [(55, _)]) ⟨⟨_, rfl, e333⟩, trivial⟩ ?_
 refine WO.offU rfl rfl rfl ?_
 refine WO.nil ?_
 exact WX.stepDone rfl rfl (Kp.refl _)
 rintro vs w334 k334 ⟨e335, -⟩
 replace k334 : Kp [] w19 w334 := k334
 refine WO.haves (fr' := [(55, _)]) ⟨⟨_, rfl, e335⟩, trivial⟩ ?_
 refine WO.offU rfl rfl rfl ?_
 refine WO.nil ?_
 exact WX.stepDone rfl rfl (Kp.refl _)
 rintro vs w336 k336 ⟨e337, -⟩
 replace k336 : Kp [] w19 w336 := k336
 refine WO.haves (fr' := [(55, _)]) ⟨⟨_, rfl, e337⟩, trivial⟩ ?_
 refine WO.offU rfl rfl rfl ?_
 refine WO.nil ?_
 exact WX.stepDone rfl rfl (Kp.refl _)
 rintro vs w338 k338 ⟨e339, -⟩
 replace k338 : Kp [] w19 w338 := k338
 refine WO.haves (fr' := [(52, _)]) ⟨⟨_, rfl, e339⟩, trivial⟩ ?_
 refine WO.off rfl rfl rfl rfl ?_
 refine WO.nil ?_
 exact WX.stepDone rfl rfl (Kp.refl _)
 rintro vs w340 k340 ⟨e341, -⟩
 replace k340 : Kp [] w19 w340 := k340
 refine WO.haves (fr' := [(52, _)]) ⟨⟨_, rfl, e341⟩, trivial⟩ ?_
 refine WO.v (R.pickF rfl rfl rfl) rfl ?_
 refine WO.nil ?_
 exact WX.stepDone rfl rfl (Kp.refl _)
 rintro vs w342 k342 ⟨-, -, -, -, -, -, -, -, -, -, -, -, -, -, -, -, -, -, -, -, -, -, -, -, -, -, -, -, -, -, e373, -⟩
 replace k342 : Kp [] w19 w342 := k342
 have z342 := k342.size
 have b342 := old_kp0 b19 k342
 have y342 := b342.size
 refine WO.haves (fr' := [(67, _), (0, _), (2, _), (3, _), (4, _), (5, _), (6, _), (7, _), (15, _), (34, _)]) ⟨⟨_, rfl, e373⟩, ⟨_, rfl, rfl⟩, ⟨_, rfl, rfl⟩, ⟨_, rfl, rfl⟩, ⟨_, rfl, rfl⟩, ⟨_, rfl, rfl⟩, ⟨_, rfl, rfl⟩, ⟨_, rfl, rfl⟩, ⟨_, rfl, rfl⟩, ⟨_, rfl, rfl⟩, trivial⟩ ?_
 refine WO.v (R.assign rfl) rfl ?_
 refine WO.nil ?_
 refine WX.sel [0, 2, 3, 4, 5, 6, 7, 15, 34] rfl ?_
 refine WX.blkNormal ?_
 refine WX.next ?_
 refine WC.region ?_
 refine WO.v (R.move rfl) rfl ?_
 refine WO.v (R.inc rfl (by omega)) rfl ?_
 refine WO.v (R.assign rfl) rfl ?_
 refine WO.nil ?_
 refine WX.sel [0, 2, 3, 4, 5, 6, 7, 15, 34] rfl ?_
 exact WX.loopNextK [0, 2, 3, 4, 5, 15] (k + 1) rfl ⟨⟨_, rfl, rfl⟩, ⟨_, rfl, vb (by first | (rw [fine_next hx22, hb21]; rfl) | (rw [fine_next hx22, hb21, hb27]; rfl) | (rw [fine_next hx22, hb21, hb27, hb33]; rfl) | (rw [fine_next hx22, hb21, hb27, hb33, getD_eq (l := (l.take 12)) (k := k - 1) (by assumption)]; rfl))⟩, trivial⟩ ⟨((Kp.refl _).step k19 (by simp)).step k342 (by simp), by omega⟩ (by show ((l.take 12).length - (k + 1)) < ((l.take 12).length - k); omega)
 have phb27 : ¬ ((1 : Int) ≤ x22) := of_decide_eq_false hb27
 refine WC.draw' mixed_orders [.ex [] (.bool (fineF (l.take 12) k)), .ex [0] (.bool true), .ex [1] (.slice ja2 (l.take 12).length jc3), .ex [1] (.int .i64 ((k : Nat) : Int)), .ex [1, 2, 3] (.pointer (some (A23.add (k * 1)))), .ex [1, 4] (.int .i64 x22), .ex [1, 5] (.bool (decide ((1 : Int) ≤ x22))), .ex [1, 6] (.bool (decide ((1 : Int) ≤ x22))), .ex [7] (.bool false), .ex [8] undef, .ex [8] undef, .ex [8] undef, .ex [8] undef, .ex [8] undef, .ex [8] (.bool false), .ex [14] (.bool false), .ex [15] undef, .ex [15] undef, .ex [15] undef, .ex [18] undef, .ex [18] undef, .ex [18] undef, .ex [18] undef, .ex [18] undef, .ex [18] undef, .ex [18] undef, .ex [18] undef, .ex [18] undef, .ex [18] undef, .ex [15] undef, .ex [15] (.bool false)] 31 (by kernel_rfl) ⟨fun _ _ _ h _ => h, fun _ _ _ h _ => h, fun _ _ _ h _ => h, fun _ _ _ h _ => h, fun _ _ _ h _ => h, fun _ _ _ h _ => h, fun _ _ _ h _ => h, fun _ _ _ h _ => h, fun _ _ _ h _ => h, fun _ _ _ h _ => h, fun _ _ _ h _ => h, fun _ _ _ h _ => h, fun _ _ _ h _ => h, fun _ _ _ h _ => h, fun _ _ _ h _ => h, fun _ _ _ h _ => h, fun _ _ _ h _ => h, fun _ _ _ h _ => h, fun _ _ _ h _ => h, fun _ _ _ h _ => h, fun _ _ _ h _ => h, fun _ _ _ h _ => h, fun _ _ _ h _ => h, fun _ _ _ h _ => h, fun _ _ _ h _ => h, fun _ _ _ h _ => h, fun _ _ _ h _ => h, fun _ _ _ h _ => h, fun _ _ _ h _ => h, fun _ _ _ h _ => h, fun _ _ _ h _ => h, trivial⟩ ⟨?_, ?_, ?_, ?_, ?_, ?_, ?_, ?_, ?_, ?_, ?_, ?_, ?_, ?_, ?_, ?_, ?_, ?_, ?_, ?_, ?_, ?_, ?_, ?_, ?_, ?_, ?_, ?_, ?_, ?_, ?_, trivial⟩ ?_
 rintro vs w374 k374 ⟨-⟩
 replace k374 : Kp [] w19 w374 := k374
 refine WO.haves (fr' := [(6, _)]) ⟨⟨_, rfl, rfl⟩, trivial⟩ ?_
 refine WO.v (R.move rfl) rfl ?_
 refine WO.nil ?_
 exact WX.stepDone rfl rfl (Kp.refl _)
 rintro vs w375 k375 ⟨e376, -⟩
 replace k375 : Kp [] w19 w375 := k375
 refine WO.haves (fr' := [(37, _)]) ⟨⟨_, rfl, e376⟩, trivial⟩ ?_
 refine WO.v (R.move rfl) rfl ?_
 refine WO.nil ?_
 exact WX.stepDone rfl (vb hb21) (Kp.refl _)
 rintro vs w377 k377 ⟨e378, -⟩
 replace k377 : Kp [] w19 w377 := k377
 refine WO.haves (fr' := [(38, _), (0, _)]) ⟨⟨_, rfl, e378⟩, ⟨_, rfl, rfl⟩, trivial⟩ ?_
 refine WO.on rfl rfl rfl ?_
 refine WO.v (R.move rfl) rfl ?_
 refine WO.nil ?_
 exact WX.stepDone rfl rfl (Kp.refl _)
 rintro vs w379 k379 ⟨e380, -⟩
 replace k379 : Kp [] w19 w379 := k379
 refine WO.haves (fr' := [(38, _), (7, _)]) ⟨⟨_, rfl, e380⟩, ⟨_, rfl, rfl⟩, trivial⟩ ?_
 refine WO.on rfl rfl rfl ?_
 refine WO.v (R.move rfl) rfl ?_
 refine WO.nil ?_
 exact WX.stepDone rfl rfl (Kp.refl _)
 rintro vs w381 k381 ⟨e382, e383, e384, -⟩
 replace k381 : Kp [] w19 w381 := k381
 refine WO.haves (fr' := [(38, _), (39, _), (40, _)]) ⟨⟨_, rfl, e382⟩, ⟨_, rfl, e383⟩, ⟨_, rfl, e384⟩, trivial⟩ ?_
 refine WO.on rfl rfl rfl ?_
 refine WO.v (R.indexAddrN rfl rfl Try.underlying22 sz3 hA23 (by omega)) rfl ?_
 refine WO.nil ?_
 exact WX.stepDone rfl rfl (Kp.refl _)
 rintro vs w385 k385 ⟨e386, e387, -⟩
 replace k385 : Kp [] w19 w385 := k385
 have z385 := k385.size
 have b385 := old_kp0 b19 k385
 have y385 := b385.size
 refine WO.haves (fr' := [(38, _), (41, _)]) ⟨⟨_, rfl, e386⟩, ⟨_, rfl, e387⟩, trivial⟩ ?_
 refine WO.on rfl rfl rfl ?_
 refine WO.v (R.load1 rfl Try.underlying3 rfl (CellsAt.one0 ((ccA23).kpA k385 (by omega) (by simp)))) rfl ?_
 refine WO.nil ?_
 exact WX.stepDone rfl rfl (Kp.refl _)
 rintro vs w388 k388 ⟨e389, e390, -⟩
 replace k388 : Kp [] w19 w388 := k388
 refine WO.haves (fr' := [(38, _), (42, _)]) ⟨⟨_, rfl, e389⟩, ⟨_, rfl, e390⟩, trivial⟩ ?_
 refine WO.on rfl rfl rfl ?_
 refine WO.v (R.geq rfl rfl) rfl ?_
 refine WO.nil ?_
 exact WX.stepDone rfl rfl (Kp.refl _)
 rintro vs w391 k391 ⟨e392, e393, -⟩
 replace k391 : Kp [] w19 w391 := k391
 refine WO.haves (fr' := [(38, _), (43, _)]) ⟨⟨_, rfl, e392⟩, ⟨_, rfl, e393⟩, trivial⟩ ?_
 refine WO.v (R.pickT rfl rfl rfl) rfl ?_
 refine WO.nil ?_
 exact WX.stepDone rfl rfl (Kp.refl _)
 rintro vs w394 k394 ⟨e395, -⟩
 replace k394 : Kp [] w19 w394 := k394
 refine WO.haves (fr' := [(44, _)]) ⟨⟨_, rfl, e395⟩, trivial⟩ ?_
 refine WO.v (R.move rfl) rfl ?_
 refine WO.nil ?_
 exact WX.stepDone rfl (vb hb27) (Kp.refl _)
 rintro vs w396 k396 ⟨e397, -⟩
 replace k396 : Kp [] w19 w396 := k396
 refine WO.haves (fr' := [(45, _), (0, _)]) ⟨⟨_, rfl, e397⟩, ⟨_, rfl, rfl⟩, trivial⟩ ?_
 refine WO.off rfl rfl rfl rfl ?_
 refine WO.nil ?_
 exact WX.stepDone rfl rfl (Kp.refl _)
 rintro vs w398 k398 ⟨e399, -⟩
 replace k398 : Kp [] w19 w398 := k398
 refine WO.haves (fr' := [(45, _), (7, _)]) ⟨⟨_, rfl, e399⟩, ⟨_, rfl, rfl⟩, trivial⟩ ?_
 refine WO.off rfl rfl rfl rfl ?_
 refine WO.nil ?_
 exact WX.stepDone rfl rfl (Kp.refl _)
 rintro vs w400 k400 ⟨e401, -⟩
 replace k400 : Kp [] w19 w400 := k400
 refine WO.haves (fr' := [(45, _)]) ⟨⟨_, rfl, e401⟩, trivial⟩ ?_
 refine WO.off rfl rfl rfl rfl ?_
 refine WO.nil ?_
 exact WX.stepDone rfl rfl (Kp.refl _)
 rintro vs w402 k402 ⟨e403, -⟩
 replace k402 : Kp [] w19 w402 := k402
 refine WO.haves (fr' := [(45, _)]) ⟨⟨_, rfl, e403⟩, trivial⟩ ?_
 refine WO.off rfl rfl rfl rfl ?_
 refine WO.nil ?_
 exact WX.stepDone rfl rfl (Kp.refl _)
 rintro vs w404 k404 ⟨e405, -⟩
 replace k404 : Kp [] w19 w404 := k404
 refine WO.haves (fr' := [(45, _)]) ⟨⟨_, rfl, e405⟩, trivial⟩ ?_
 refine WO.off rfl rfl rfl rfl ?_
 refine WO.nil ?_
 exact WX.stepDone rfl rfl (Kp.refl _)
 rintro vs w406 k406 ⟨e407, -⟩
 replace k406 : Kp [] w19 w406 := k406
 refine WO.haves (fr' := [(45, _)]) ⟨⟨_, rfl, e407⟩, trivial⟩ ?_
 refine WO.v (R.pickF rfl rfl rfl) rfl ?_
 refine WO.nil ?_
 exact WX.stepDone rfl rfl (Kp.refl _)
 rintro vs w408 k408 ⟨e409, -⟩
 replace k408 : Kp [] w19 w408 := k408
 refine WO.haves (fr' := [(51, _)]) ⟨⟨_, rfl, e409⟩, trivial⟩ ?_
 refine WO.v (R.move rfl) rfl ?_
 refine WO.nil ?_
 exact WX.stepDone rfl rfl (Kp.refl _)
 rintro vs w410 k410 ⟨e411, -⟩
 replace k410 : Kp [] w19 w410 := k410
 refine WO.haves (fr' := [(52, _), (7, _)]) ⟨⟨_, rfl, e411⟩, ⟨_, rfl, rfl⟩, trivial⟩ ?_
 refine WO.off rfl rfl rfl rfl ?_
 refine WO.nil ?_
 exact WX.stepDone rfl rfl (Kp.refl _)
 rintro vs w412 k412 ⟨e413, -⟩
 replace k412 : Kp [] w19 w412 := k412
 refine WO.haves (fr' := [(52, _)]) ⟨⟨_, rfl, e413⟩, trivial⟩ ?_
 refine WO.off rfl rfl rfl rfl ?_
 refine WO.nil ?_
 exact WX.stepDone rfl rfl (Kp.refl _)
 rintro vs w414 k414 ⟨e415, -⟩
 replace k414 : Kp [] w19 w414 := k414
 refine WO.haves (fr' := [(52, _)]) ⟨⟨_, rfl, e415⟩, trivial⟩ ?_
 refine WO.off rfl rfl rfl rfl ?_
 refine WO.nil ?_
 exact WX.stepDone rfl rfl (Kp.refl _)
 rintro vs w416 k416 ⟨e417, -⟩
 replace k416 : Kp [] w19 w416 := k416
 refine WO.haves (fr' := [(55, _), (0, _)]) ⟨⟨_, rfl, e417⟩, ⟨_, rfl, rfl⟩, trivial⟩ ?_
 refine WO.offU rfl rfl rfl ?_
 refine WO.nil ?_
 exact WX.stepDone rfl rfl (Kp.refl _)
 rintro vs w418 k418 ⟨e419, -⟩
 replace k418 : Kp [] w19 w418 := k418
 refine WO.haves (fr' := [(55, _), (7, _)]) ⟨⟨_, rfl, e419⟩, ⟨_, rfl, rfl⟩, trivial⟩ ?_
 refine WO.offU rfl rfl rfl ?_
 refine WO.nil ?_
 exact WX.stepDone rfl rfl (Kp.refl _)
 rintro vs w420 k420 ⟨e421, -⟩
 replace k420 : Kp [] w19 w420 := k420
 refine WO.haves (fr' := [(55, _)]) ⟨⟨_, rfl, e421⟩, trivial⟩ ?_
 refine WO.offU rfl rfl rfl ?_
 refine WO.nil ?_
 exact WX.stepDone rfl rfl (Kp.refl _)
 rintro vs w422 k422 ⟨e423, -⟩
 replace k422 : Kp [] w19 w422 := k422
 refine WO.haves (fr' := [(55, _)]) ⟨⟨_, rfl, e423⟩, trivial⟩ ?_
 refine WO.offU rfl rfl rfl ?_
 refine WO.nil ?_
 exact WX.stepDone rfl rfl (Kp.refl _)
 rintro vs w424 k424 ⟨e425, -⟩
 replace k424 : Kp [] w19 w424 := k424
 refine WO.haves (fr' := [(55, _), (0, _)]) ⟨⟨_, rfl, e425⟩, ⟨_, rfl, rfl⟩, trivial⟩ ?_
 refine WO.offU rfl rfl rfl ?_
 refine WO.nil ?_
 exact WX.stepDone rfl rfl (Kp.refl _)
 rintro vs w426 k426 ⟨e427, -⟩
 replace k426 : Kp [] w19 w426 := k426
 refine WO.haves (fr' := [(55, _), (7, _)]) ⟨⟨_, rfl, e427⟩, ⟨_, rfl, rfl⟩, trivial⟩ ?_
 refine WO.offU rfl rfl rfl ?_
 refine WO.nil ?_
 exact WX.stepDone rfl rfl (Kp.refl _)
 rintro vs w428 k428 ⟨e429, -⟩
 replace k428 : Kp [] w19 w428 := k428
 refine WO.haves (fr' := [(55, _)]) ⟨⟨_, rfl, e429⟩, trivial⟩ ?_
 refine WO.offU rfl rfl rfl ?_
 refine WO.nil ?_
 exact WX.stepDone rfl rfl (Kp.refl _)
 rintro vs w430 k430 ⟨e431, -⟩
 replace k430 : Kp [] w19 w430 := k430
 refine WO.haves (fr' := [(55, _)]) ⟨⟨_, rfl, e431⟩, trivial⟩ ?_
 refine WO.offU rfl rfl rfl ?_
 refine WO.nil ?_
 exact WX.stepDone rfl rfl (Kp.refl _)
 rintro vs w432 k432 ⟨e433, -⟩
 replace k432 : Kp [] w19 w432 := k432
 refine WO.haves (fr' := [(55, _)]) ⟨⟨_, rfl, e433⟩, trivial⟩ ?_
 refine WO.offU rfl rfl rfl ?_
 refine WO.nil ?_
 exact WX.stepDone rfl rfl (Kp.refl _)
 rintro vs w434 k434 ⟨e435, -⟩
 replace k434 : Kp [] w19 w434 := k434
 refine WO.haves (fr' := [(55, _)]) ⟨⟨_, rfl, e435⟩, trivial⟩ ?_
 refine WO.offU rfl rfl rfl ?_
 refine WO.nil ?_
 exact WX.stepDone rfl rfl (Kp.refl _)
 rintro vs w436 k436 ⟨e437, -⟩
 replace k436 : Kp [] w19 w436 := k436
 refine WO.haves (fr' := [(52, _)]) ⟨⟨_, rfl, e437⟩, trivial⟩ ?_
 refine WO.off rfl rfl rfl rfl ?_
 refine WO.nil ?_
 exact WX.stepDone rfl rfl (Kp.refl _)
 rintro vs w438 k438 ⟨e439, -⟩
 replace k438 : Kp [] w19 w438 := k438
 refine WO.haves (fr' := [(52, _)]) ⟨⟨_, rfl, e439⟩, trivial⟩ ?_
 refine WO.v (R.pickF rfl rfl rfl) rfl ?_
 refine WO.nil ?_
 exact WX.stepDone rfl rfl (Kp.refl _)
 rintro vs w440 k440 ⟨-, -, -, -, -, -, -, -, -, -, -, -, -, -, -, -, -, -, -, -, -, -, -, -, -, -, -, -, -, -, e471, -⟩
 replace k440 : Kp [] w19 w440 := k440
 have z440 := k440.size
 have b440 := old_kp0 b19 k440
 have y440 := b440.size
 refine WO.haves (fr' := [(67, _), (0, _), (2, _), (3, _), (4, _), (5, _), (6, _), (7, _), (15, _), (34, _)]) ⟨⟨_, rfl, e471⟩, ⟨_, rfl, rfl⟩, ⟨_, rfl, rfl⟩, ⟨_, rfl, rfl⟩, ⟨_, rfl, rfl⟩, ⟨_, rfl, rfl⟩, ⟨_, rfl, rfl⟩, ⟨_, rfl, rfl⟩, ⟨_, rfl, rfl⟩, ⟨_, rfl, rfl⟩, trivial⟩ ?_
 refine WO.v (R.assign rfl) rfl ?_
 refine WO.nil ?_
 refine WX.sel [0, 2, 3, 4, 5, 6, 7, 15, 34] rfl ?_
 refine WX.blkNormal ?_
 refine WX.next ?_
 refine WC.region ?_
 refine WO.v (R.move rfl) rfl ?_
 refine WO.v (R.inc rfl (by omega)) rfl ?_
 refine WO.v (R.assign rfl) rfl ?_
 refine WO.nil ?_
 refine WX.sel [0, 2, 3, 4, 5, 6, 7, 15, 34] rfl ?_
 exact WX.loopNextK [0, 2, 3, 4, 5, 15] (k + 1) rfl ⟨⟨_, rfl, rfl⟩, ⟨_, rfl, vb (by first | (rw [fine_next hx22, hb21]; rfl) | (rw [fine_next hx22, hb21, hb27]; rfl) | (rw [fine_next hx22, hb21, hb27, getD_eq (l := (l.take 12)) (k := k - 1) (by assumption)]; rfl))⟩, trivial⟩ ⟨((Kp.refl _).step k19 (by simp)).step k440 (by simp), by omega⟩ (by show ((l.take 12).length - (k + 1)) < ((l.take 12).length - k); omega)
 have phb21 : (fineF (l.take 12) k) = false := hb21
 refine WC.draw' mixed_orders [.ex [] (.bool (fineF (l.take 12) k)), .ex [0] (.bool false), .ex [1] undef, .ex [1] undef, .ex [1] undef, .ex [1] undef, .ex [1] undef, .ex [1] (.bool false), .ex [7] (.bool false), .ex [8] undef, .ex [8] undef, .ex [8] undef, .ex [8] undef, .ex [8] undef, .ex [8] (.bool false), .ex [14] (.bool false), .ex [15] undef, .ex [15] undef, .ex [15] undef, .ex [18] undef, .ex [18] undef, .ex [18] undef, .ex [18] undef, .ex [18] undef, .ex [18] undef, .ex [18] undef, .ex [18] undef, .ex [18] undef, .ex [18] undef, .ex [15] undef, .ex [15] (.bool false)] 31 (by kernel_rfl) ⟨fun _ _ _ h _ => h, fun _ _ _ h _ => h, fun _ _ _ h _ => h, fun _ _ _ h _ => h, fun _ _ _ h _ => h, fun _ _ _ h _ => h, fun _ _ _ h _ => h, fun _ _ _ h _ => h, fun _ _ _ h _ => h, fun _ _ _ h _ => h, fun _ _ _ h _ => h, fun _ _ _ h _ => h, fun _ _ _ h _ => h, fun _ _ _ h _ => h, fun _ _ _ h _ => h, fun _ _ _ h _ => h, fun _ _ _ h _ => h, fun _ _ _ h _ => h, fun _ _ _ h _ => h, fun _ _ _ h _ => h, fun _ _ _ h _ => h, fun _ _ _ h _ => h, fun _ _ _ h _ => h, fun _ _ _ h _ => h, fun _ _ _ h _ => h, fun _ _ _ h _ => h, fun _ _ _ h _ => h, fun _ _ _ h _ => h, fun _ _ _ h _ => h, fun _ _ _ h _ => h, fun _ _ _ h _ => h, trivial⟩ ⟨?_, ?_, ?_, ?_, ?_, ?_, ?_, ?_, ?_, ?_, ?_, ?_, ?_, ?_, ?_, ?_, ?_, ?_, ?_, ?_, ?_, ?_, ?_, ?_, ?_, ?_, ?_, ?_, ?_, ?_, ?_, trivial⟩ ?_
 rintro vs w472 k472 ⟨-⟩
 replace k472 : Kp [] w19 w472 := k472
 refine WO.haves (fr' := [(6, _)]) ⟨⟨_, rfl, rfl⟩, trivial⟩ ?_
 refine WO.v (R.move rfl) rfl ?_
 refine WO.nil ?_
 exact WX.stepDone rfl rfl (Kp.refl _)
 rintro vs w473 k473 ⟨e474, -⟩
 replace k473 : Kp [] w19 w473 := k473
 refine WO.haves (fr' := [(37, _)]) ⟨⟨_, rfl, e474⟩, trivial⟩ ?_
 refine WO.v (R.move rfl) rfl ?_
 refine WO.nil ?_
 exact WX.stepDone rfl (vb hb21) (Kp.refl _)
 rintro vs w475 k475 ⟨e476, -⟩
 replace k475 : Kp [] w19 w475 := k475
 refine WO.haves (fr' := [(38, _), (0, _)]) ⟨⟨_, rfl, e476⟩, ⟨_, rfl, rfl⟩, trivial⟩ ?_
 refine WO.off rfl rfl rfl rfl ?_
 refine WO.nil ?_
 exact WX.stepDone rfl rfl (Kp.refl _)
 rintro vs w477 k477 ⟨e478, -⟩
 replace k477 : Kp [] w19 w477 := k477
 refine WO.haves (fr' := [(38, _), (7, _)]) ⟨⟨_, rfl, e478⟩, ⟨_, rfl, rfl⟩, trivial⟩ ?_
 refine WO.off rfl rfl rfl rfl ?_
 refine WO.nil ?_
 exact WX.stepDone rfl rfl (Kp.refl _)
 rintro vs w479 k479 ⟨e480, -⟩
 replace k479 : Kp [] w19 w479 := k479
 refine WO.haves (fr' := [(38, _)]) ⟨⟨_, rfl, e480⟩, trivial⟩ ?_
 refine WO.off rfl rfl rfl rfl ?_
 refine WO.nil ?_
 exact WX.stepDone rfl rfl (Kp.refl _)
 rintro vs w481 k481 ⟨e482, -⟩
 replace k481 : Kp [] w19 w481 := k481
 refine WO.haves (fr' := [(38, _)]) ⟨⟨_, rfl, e482⟩, trivial⟩ ?_
 refine WO.off rfl rfl rfl rfl ?_
 refine WO.nil ?_
 exact WX.stepDone rfl rfl (Kp.refl _)
 rintro vs w483 k483 ⟨e484, -⟩
 replace k483 : Kp [] w19 w483 := k483
 refine WO.haves (fr' := [(38, _)]) ⟨⟨_, rfl, e484⟩, trivial⟩ ?_
 refine WO.off rfl rfl rfl rfl ?_
 refine WO.nil ?_
 exact WX.stepDone rfl rfl (Kp.refl _)
 rintro vs w485 k485 ⟨e486, -⟩
 replace k485 : Kp [] w19 w485 := k485
 refine WO.haves (fr' := [(38, _)]) ⟨⟨_, rfl, e486⟩, trivial⟩ ?_
 refine WO.v (R.pickF rfl rfl rfl) rfl ?_
 refine WO.nil ?_
 exact WX.stepDone rfl rfl (Kp.refl _)
 rintro vs w487 k487 ⟨e488, -⟩
 replace k487 : Kp [] w19 w487 := k487
 refine WO.haves (fr' := [(44, _)]) ⟨⟨_, rfl, e488⟩, trivial⟩ ?_
 refine WO.v (R.move rfl) rfl ?_
 refine WO.nil ?_
 exact WX.stepDone rfl rfl (Kp.refl _)
 rintro vs w489 k489 ⟨e490, -⟩
 replace k489 : Kp [] w19 w489 := k489
 refine WO.haves (fr' := [(45, _), (0, _)]) ⟨⟨_, rfl, e490⟩, ⟨_, rfl, rfl⟩, trivial⟩ ?_
 refine WO.off rfl rfl rfl rfl ?_
 refine WO.nil ?_
 exact WX.stepDone rfl rfl (Kp.refl _)
 rintro vs w491 k491 ⟨e492, -⟩
 replace k491 : Kp [] w19 w491 := k491
 refine WO.haves (fr' := [(45, _), (7, _)]) ⟨⟨_, rfl, e492⟩, ⟨_, rfl, rfl⟩, trivial⟩ ?_
 refine WO.off rfl rfl rfl rfl ?_
 refine WO.nil ?_
 exact WX.stepDone rfl rfl (Kp.refl _)
 rintro vs w493 k493 ⟨e494, -⟩
 replace k493 : Kp [] w19 w493 := k493
 refine WO.haves (fr' := [(45, _)]) ⟨⟨_, rfl, e494⟩, trivial⟩ ?_
 refine WO.off rfl rfl rfl rfl ?_
 refine WO.nil ?_
 exact WX.stepDone rfl rfl (Kp.refl _)
 rintro vs w495 k495 ⟨e496, -⟩
 replace k495 : Kp [] w19 w495 := k495
 refine WO.haves (fr' := [(45, _)]) ⟨⟨_, rfl, e496⟩, trivial⟩ ?_
 refine WO.off rfl rfl rfl rfl ?_
 refine WO.nil ?_
 exact WX.stepDone rfl rfl (Kp.refl _)
 rintro vs w497 k497 ⟨e498, -⟩
 replace k497 : Kp [] w19 w497 := k497
 refine WO.haves (fr' := [(45, _)]) ⟨⟨_, rfl, e498⟩, trivial⟩ ?_
 refine WO.off rfl rfl rfl rfl ?_
 refine WO.nil ?_
 exact WX.stepDone rfl rfl (Kp.refl _)
 rintro vs w499 k499 ⟨e500, -⟩
 replace k499 : Kp [] w19 w499 := k499
 refine WO.haves (fr' := [(45, _)]) ⟨⟨_, rfl, e500⟩, trivial⟩ ?_
 refine WO.v (R.pickF rfl rfl rfl) rfl ?_
 refine WO.nil ?_
 exact WX.stepDone rfl rfl (Kp.refl _)
 rintro vs w501 k501 ⟨e502, -⟩
 replace k501 : Kp [] w19 w501 := k501
 refine WO.haves (fr' := [(51, _)]) ⟨⟨_, rfl, e502⟩, trivial⟩ ?_
 refine WO.v (R.move rfl) rfl ?_
 refine WO.nil ?_
 exact WX.stepDone rfl rfl (Kp.refl _)
 rintro vs w503 k503 ⟨e504, -⟩
 replace k503 : Kp [] w19 w503 := k503
 refine WO.haves (fr' := [(52, _), (7, _)]) ⟨⟨_, rfl, e504⟩, ⟨_, rfl, rfl⟩, trivial⟩ ?_
 refine WO.off rfl rfl rfl rfl ?_
 refine WO.nil ?_
 exact WX.stepDone rfl rfl (Kp.refl _)
 rintro vs w505 k505 ⟨e506, -⟩
 replace k505 : Kp [] w19 w505 := k505
 refine WO.haves (fr' := [(52, _)]) ⟨⟨_, rfl, e506⟩, trivial⟩ ?_
 refine WO.off rfl rfl rfl rfl ?_
 refine WO.nil ?_
 exact WX.stepDone rfl rfl (Kp.refl _)
 rintro vs w507 k507 ⟨e508, -⟩
 replace k507 : Kp [] w19 w507 := k507
 refine WO.haves (fr' := [(52, _)]) ⟨⟨_, rfl, e508⟩, trivial⟩ ?_
 refine WO.off rfl rfl rfl rfl ?_
 refine WO.nil ?_
 exact WX.stepDone rfl rfl (Kp.refl _)
 rintro vs w509 k509 ⟨e510, -⟩
 replace k509 : Kp [] w19 w509 := k509
 refine WO.haves (fr' := [(55, _), (0, _)]) ⟨⟨_, rfl, e510⟩, ⟨_, rfl, rfl⟩, trivial⟩ ?_
 refine WO.offU rfl rfl rfl ?_
 refine WO.nil ?_
 exact WX.stepDone rfl rfl (Kp.refl _)
 rintro vs w511 k511 ⟨e512, -⟩
 replace k511 : Kp [] w19 w511 := k511
 refine WO.haves (fr' := [(55, _), (7, _)]) ⟨⟨_, rfl, e512⟩, ⟨_, rfl, rfl⟩, trivial⟩ ?_
 refine WO.offU rfl rfl rfl ?_
 refine WO.nil ?_
 exact WX.stepDone rfl rfl (Kp.refl _)
 rintro vs w513 k513 ⟨e514, -⟩
 replace k513 : Kp [] w19 w513 := k513
 refine WO.haves (fr' := [(55, _)]) ⟨⟨_, rfl, e514⟩, trivial⟩ ?_
 refine WO.offU rfl rfl rfl ?_
 refine WO.nil ?_
 exact WX.stepDone rfl rfl (Kp.refl _)
 rintro vs w515 k515 ⟨e516, -⟩
 replace k515 : Kp [] w19 w515 := k515
 refine WO.haves (fr' := [(55, _)]) ⟨⟨_, rfl, e516⟩, trivial⟩ ?_
 refine WO.offU rfl rfl rfl ?_
 refine WO.nil ?_
 exact WX.stepDone rfl rfl (Kp.refl _)
 rintro vs w517 k517 ⟨e518, -⟩
 replace k517 : Kp [] w19 w517 := k517
 refine WO.haves (fr' := [(55, _), (0, _)]) ⟨⟨_, rfl, e518⟩, ⟨_, rfl, rfl⟩, trivial⟩ ?_
 refine WO.offU rfl rfl rfl ?_
 refine WO.nil ?_
 exact WX.stepDone rfl rfl (Kp.refl _)
 rintro vs w519 k519 ⟨e520, -⟩
 replace k519 : Kp [] w19 w519 := k519
 refine WO.haves (fr' := [(55, _), (7, _)]) ⟨⟨_, rfl, e520⟩, ⟨_, rfl, rfl⟩, trivial⟩ ?_
 refine WO.offU rfl rfl rfl ?_
 refine WO.nil ?_
 exact WX.stepDone rfl rfl (Kp.refl _)
 rintro vs w521 k521 ⟨e522, -⟩
 replace k521 : Kp [] w19 w521 := k521
 refine WO.haves (fr' := [(55, _)]) ⟨⟨_, rfl, e522⟩, trivial⟩ ?_
 refine WO.offU rfl rfl rfl ?_
 refine WO.nil ?_
 exact WX.stepDone rfl rfl (Kp.refl _)
 rintro vs w523 k523 ⟨e524, -⟩
 replace k523 : Kp [] w19 w523 := k523
 refine WO.haves (fr' := [(55, _)]) ⟨⟨_, rfl, e524⟩, trivial⟩ ?_
 refine WO.offU rfl rfl rfl ?_
 refine WO.nil ?_
 exact WX.stepDone rfl rfl (Kp.refl _)
 rintro vs w525 k525 ⟨e526, -⟩
 replace k525 : Kp [] w19 w525 := k525
 refine WO.haves (fr' := [(55, _)]) ⟨⟨_, rfl, e526⟩, trivial⟩ ?_
 refine WO.offU rfl rfl rfl ?_
 refine WO.nil ?_
 exact WX.stepDone rfl rfl (Kp.refl _)
 rintro vs w527 k527 ⟨e528, -⟩
 replace k527 : Kp [] w19 w527 := k527
 refine WO.haves (fr' := [(55, _)]) ⟨⟨_, rfl, e528⟩, trivial⟩ ?_
 refine WO.offU rfl rfl rfl ?_
 refine WO.nil ?_
 exact WX.stepDone rfl rfl (Kp.refl _)
 rintro vs w529 k529 ⟨e530, -⟩
 replace k529 : Kp [] w19 w529 := k529
 refine WO.haves (fr' := [(52, _)]) ⟨⟨_, rfl, e530⟩, trivial⟩ ?_
 refine WO.off rfl rfl rfl rfl ?_
 refine WO.nil ?_
 exact WX.stepDone rfl rfl (Kp.refl _)
 rintro vs w531 k531 ⟨e532, -⟩
 replace k531 : Kp [] w19 w531 := k531
 refine WO.haves (fr' := [(52, _)]) ⟨⟨_, rfl, e532⟩, trivial⟩ ?_
 refine WO.v (R.pickF rfl rfl rfl) rfl ?_
 refine WO.nil ?_
 exact WX.stepDone rfl rfl (Kp.refl _)
 rintro vs w533 k533 ⟨-, -, -, -, -, -, -, -, -, -, -, -, -, -, -, -, -, -, -, -, -, -, -, -, -, -, -, -, -, -, e564, -⟩
 replace k533 : Kp [] w19 w533 := k533
 have z533 := k533.size
 have b533 := old_kp0 b19 k533
 have y533 := b533.size
 refine WO.haves (fr' := [(67, _), (0, _), (2, _), (3, _), (4, _), (5, _), (6, _), (7, _), (15, _), (34, _)]) ⟨⟨_, rfl, e564⟩, ⟨_, rfl, rfl⟩, ⟨_, rfl, rfl⟩, ⟨_, rfl, rfl⟩, ⟨_, rfl, rfl⟩, ⟨_, rfl, rfl⟩, ⟨_, rfl, rfl⟩, ⟨_, rfl, rfl⟩, ⟨_, rfl, rfl⟩, ⟨_, rfl, rfl⟩, trivial⟩ ?_
 refine WO.v (R.assign rfl) rfl ?_
 refine WO.nil ?_
 refine WX.sel [0, 2, 3, 4, 5, 6, 7, 15, 34] rfl ?_
 refine WX.blkNormal ?_
 refine WX.next ?_
 refine WC.region ?_
 refine WO.v (R.move rfl) rfl ?_
 refine WO.v (R.inc rfl (by omega)) rfl ?_
 refine WO.v (R.assign rfl) rfl ?_
 refine WO.nil ?_
 refine WX.sel [0, 2, 3, 4, 5, 6, 7, 15, 34] rfl ?_
 exact WX.loopNextK [0, 2, 3, 4, 5, 15] (k + 1) rfl ⟨⟨_, rfl, rfl⟩, ⟨_, rfl, vb (fine_f hb21)⟩, trivial⟩ ⟨((Kp.refl _).step k19 (by simp)).step k533 (by simp), by omega⟩ (by show ((l.take 12).length - (k + 1)) < ((l.take 12).length - k); omega)
 have p20 : ¬ (((k : Nat) : Int) < (((l.take 12).length : Nat) : Int)) := of_decide_eq_false q20
 refine WC.exit ?_
 refine WX.thenExit ?_
 refine WX.loopExit ?_
 refine WX.blkHit ?_
 refine WX.next ?_
 refine WC.seq ?_
 refine WC.seq ?_
 refine WC.region ?_
 refine WO.v (R.move rfl) rfl ?_
 refine WO.v (R.not rfl) rfl ?_
 refine WO.nil ?_
 refine WX.sel [0, 2, 3, 4, 5, 6, 7, 15, 34, 69] rfl ?_
 refine WX.next ?_
 refine WC.cond rfl (fun q565 => ?_) (fun q565 => ?_)
 have p565 : (fineF (l.take 12) k) = false := (bnot_t q565)
 refine WC.seq ?_
 refine WC.region ?_
 refine WO.v (R.move rfl) rfl ?_
 refine WO.v (R.move rfl) rfl ?_
 refine WO.on rfl rfl rfl ?_
 refine WO.v (R.move rfl) rfl ?_
 refine WO.on rfl rfl rfl ?_
 refine WO.v (R.eql rfl rfl) rfl ?_
 refine WO.v (R.pickT rfl rfl rfl) rfl ?_
 refine WO.v (R.move rfl) rfl ?_
 refine WO.cutP 4 [(79, (.bool ((decide (chunksE ((l.take 12)) = (1 : Int))) && (decide ((((chunksB ((l.take 12))).length : Nat) : Int) = (0 : Int))))))] (fun w' => w19 = w') ?_ ?_
 rcases Bool.eq_false_or_eq_true (decide (chunksE ((l.take 12)) = (1 : Int))) with hb566 | hb566
 have phb566 : chunksE ((l.take 12)) = (1 : Int) := of_decide_eq_true hb566
 refine WO.on rfl rfl hb566 ?_
 refine WO.v (R.move rfl) rfl ?_
 refine WO.on rfl rfl hb566 ?_
 refine WO.v (R.len rfl Try.underlying27) rfl ?_
 refine WO.on rfl rfl hb566 ?_
 refine WO.v (R.eql rfl rfl) rfl ?_
 refine WO.v (R.pickT rfl hb566 rfl) rfl ?_
 refine WO.nil ?_
 exact WX.cutDoneP 4 rfl rfl ⟨⟨_, rfl, vb (band_on hb566)⟩, trivial⟩ (rfl)
 have phb566 : ¬ (chunksE ((l.take 12)) = (1 : Int)) := of_decide_eq_false hb566
 refine WO.off rfl rfl hb566 rfl ?_
 refine WO.off rfl rfl hb566 rfl ?_
 refine WO.off rfl rfl hb566 rfl ?_
 refine WO.v (R.pickF rfl hb566 rfl) rfl ?_
 refine WO.nil ?_
 exact WX.cutDoneP 4 rfl rfl ⟨⟨_, rfl, vb (band_off hb566)⟩, trivial⟩ (rfl)
 rintro _ rfl
 refine WO.v (R.assign rfl) rfl ?_
 refine WO.nil ?_
 refine WX.sel [0, 2, 3, 4, 5, 6, 7, 15, 34, 69] rfl ?_
 refine WX.next ?_
 refine WC.ret ?_
 refine WX.thenRet ?_
 have e0 : ((decide (chunksE ((l.take 12)) = (1 : Int))) && (decide ((((chunksB ((l.take 12))).length : Nat) : Int) = (0 : Int)))) = true := by first | exact cc_no (k := k) (by omega) (by assumption) | exact cc_bad (by assumption) (by assumption) (by assumption) (by omega) | exact cc_yes (by assumption)
 refine WX.ret1 Try.results6 rfl ?_
 exact ⟨by rw [e0], Kp.of_below b19⟩
 have p565 : (fineF (l.take 12) k) = true := (bnot_f q565)
 refine WC.skip ?_
 refine WX.next ?_
 refine WC.seq ?_
 refine WC.region ?_
 refine WO.v (R.move rfl) rfl ?_
 refine WO.c (E.call rfl rfl Try.func21 rfl rfl) (unch_s (b := (chunksB ((l.take 12)))) (a_b := a15) (c_b := c16) ((ac_kp0 (s17) k19 (by omega) (by omega)).pub (L := 0) (H := w19.heap.size) (by omega) (by omega) (by omega) (by omega)) (by omega)) rfl ?_
 rintro _ w567 ⟨a568, c569, rfl, s570, k567⟩
 have ls570 : (unchB ((chunksB ((l.take 12))))).length * 8 ≤ 140737488355328 := s570.lenle
 have z567 := k567.size
 have b567 := old_kp0 b19 k567
 have y567 := b567.size
 refine WO.v (R.move rfl) rfl ?_
 refine WO.v (R.extract rfl rfl) rfl ?_
 refine WO.v (R.extract rfl rfl) rfl ?_
 refine WO.v (R.assign rfl) rfl ?_
 refine WO.v (R.assign rfl) rfl ?_
 refine WO.nil ?_
 refine WX.sel [0, 2, 3, 4, 5, 6, 7, 8, 9, 15, 34, 69] rfl ?_
 refine WX.next ?_
 refine WC.seq ?_
 refine WC.region ?_
 refine WO.v (R.move rfl) rfl ?_
 refine WO.v (R.move rfl) rfl ?_
 refine WO.c (E.call rfl rfl Try.func22 rfl rfl) (ints_s (l := (unchB ((chunksB ((l.take 12)))))) (a_l := a568) (c_l := c569) (m := (l.take 12)) (a_m := ja2) (c_m := jc3) ((s570).pub (L := 0) (H := w567.heap.size) (by omega) (by omega) (by omega) (by omega)) ((sl_kp0 (sl_kp0 (sl_kp0 (jf4) k14 (by omega)) k19 (by omega)) k567 (by omega)).mono (lo' := 0) (hi' := w567.heap.size) (Nat.zero_le _) (by omega))) rfl ?_
 rintro _ w571 ⟨rfl, k571⟩
 have z571 := k571.size
 have b571 := old_kp0 b567 k571
 have y571 := b571.size
 refine WO.v (R.assign rfl) rfl ?_
 refine WO.nil ?_
 refine WX.sel [0, 2, 3, 4, 5, 6, 7, 8, 9, 10, 15, 34, 69] rfl ?_
 refine WX.next ?_
 refine WC.seq ?_
 refine WC.seq ?_
 refine WC.region ?_
 refine WO.v (R.assign rfl) rfl ?_
 refine WO.nil ?_
 refine WX.sel [0, 2, 3, 4, 5, 6, 7, 8, 9, 10, 11, 15, 34, 69] rfl ?_
 refine WX.next ?_
 refine WC.block ?_
 refine WC.loopK [0, 2, 3, 4, 5, 6, 7, 8, 9, 10, 15, 34, 69] rfl (fun zz : Nat => [(11, (.int .i64 (((zz) : Nat) : Int)))]) (fun (zz : Nat) (w' : World) => (Kp [] w571 w') ∧ ((zz) ≤ (min (chunksB (l.take 12)).length (l.take 12).length))) (fun zz => (min (chunksB (l.take 12)).length (l.take 12).length) - (zz)) (0) ?_ ?_ ?_
 exact ⟨⟨_, rfl, rfl⟩, trivial⟩
 exact ⟨Kp.refl _, Nat.zero_le _⟩
 rintro j w572 ⟨k572, hj⟩
 try dsimp only at hj
 have z572 := k572.size
 have b572 := old_kp0 b571 k572
 have y572 := b572.size
 refine (?_ : WC _ _ _ _ ([(11, (.int .i64 ((j : Nat) : Int)))] ++ _) w572)
 have hrow : rowF (l.take 12) = true := cc_row (k := k) (by omega) (by assumption)
 refine WC.seq ?_
 refine WC.seq ?_
 refine WC.region ?_
 refine WO.v (R.move rfl) rfl ?_
 refine WO.v (R.move rfl) rfl ?_
 refine WO.v (R.len rfl Try.underlying27) rfl ?_
 refine WO.v (R.lss rfl rfl) rfl ?_
 refine WO.v (R.move rfl) rfl ?_
 refine WO.cutP 5 [(97, (.bool ((decide (((j : Nat) : Int) < (((chunksB ((l.take 12))).length : Nat) : Int))) && (decide (((j : Nat) : Int) < (((l.take 12).length : Nat) : Int))))))] (fun w' => w572 = w') ?_ ?_
 rcases Bool.eq_false_or_eq_true (decide (((j : Nat) : Int) < (((chunksB ((l.take 12))).length : Nat) : Int))) with hb573 | hb573
 have phb573 : ((j : Nat) : Int) < (((chunksB ((l.take 12))).length : Nat) : Int) := of_decide_eq_true hb573
 refine WO.on rfl rfl hb573 ?_
 refine WO.v (R.move rfl) rfl ?_
 refine WO.on rfl rfl hb573 ?_
 refine WO.v (R.move rfl) rfl ?_
 refine WO.on rfl rfl hb573 ?_
 refine WO.v (R.len rfl Try.underlying22) rfl ?_
 refine WO.on rfl rfl hb573 ?_
 refine WO.v (R.lss rfl rfl) rfl ?_
 refine WO.v (R.pickT rfl hb573 rfl) rfl ?_
 refine WO.nil ?_
 exact WX.cutDoneP 5 rfl rfl ⟨⟨_, rfl, vb (band_on hb573)⟩, trivial⟩ (rfl)
 have phb573 : ¬ (((j : Nat) : Int) < (((chunksB ((l.take 12))).length : Nat) : Int)) := of_decide_eq_false hb573
 refine WO.off rfl rfl hb573 rfl ?_
 refine WO.off rfl rfl hb573 rfl ?_
 refine WO.off rfl rfl hb573 rfl ?_
 refine WO.off rfl rfl hb573 rfl ?_
 refine WO.v (R.pickF rfl hb573 rfl) rfl ?_
 refine WO.nil ?_
 exact WX.cutDoneP 5 rfl rfl ⟨⟨_, rfl, vb (band_off hb573)⟩, trivial⟩ (rfl)
 rintro _ rfl
 refine WO.nil ?_
 refine WX.sel [0, 2, 3, 4, 5, 6, 7, 8, 9, 10, 11, 15, 34, 69, 97] rfl ?_
 refine WX.next ?_
 refine WC.cond rfl (fun q574 => ?_) (fun q574 => ?_)
 have p574 : (((j : Nat) : Int) < (((chunksB ((l.take 12))).length : Nat) : Int)) ∧ (((j : Nat) : Int) < (((l.take 12).length : Nat) : Int)) := ⟨of_decide_eq_true (band_t q574).1, of_decide_eq_true (band_t q574).2⟩
 refine WC.skip ?_
 refine WX.next ?_
 refine WC.seq ?_
 refine WC.block ?_
 refine WC.seq ?_
 refine WC.sel [0, 2, 3, 4, 5, 6, 7, 8, 9, 10, 11, 15, 34, 69, 97] rfl ?_
 obtain ⟨x575, hx575⟩ := get_ex (xs := (chunksB ((l.take 12)))) (i := j) (by omega)
 obtain ⟨A576, cs577, hA576, loA576, hiA576, ccA576, r578⟩ := (((ac_kp0 (ac_kp0 (ac_kp0 (ac_kp0 (s17) k19 (by omega) (by omega)) k567 (by omega) (by omega)) k571 (by omega) (by omega)) k572 (by omega) (by omega)).pub (L := 0) (H := w572.heap.size) (by omega) (by omega) (by omega) (by omega))).at_ hx575
 obtain rfl := r578
 have u578 := UInt8.toNat_lt x575
 obtain ⟨x580, hx580⟩ := get_ex (xs := (l.take 12)) (i := j) (by omega)
 obtain ⟨A581, cs582, hA581, loA581, hiA581, ccA581, r583⟩ := (sl_kp0 (sl_kp0 (sl_kp0 (sl_kp0 (sl_kp0 (jf4) k14 (by omega)) k19 (by omega)) k567 (by omega)) k571 (by omega)) k572 (by omega)).at_ hx580
 obtain ⟨rfl, i584⟩ := r583
 refine WC.draw' mixed_orders [.ex [] (.slice a15 (chunksB ((l.take 12))).length c16), .ex [] (.int .i64 ((j : Nat) : Int)), .ex [0, 1] (.pointer (some (A576.add (j * 1)))), .ex [2] (.int .u8 (x575.toNat : Int)), .ex [3] (.int .i64 ((x575.toNat : Nat) : Int)), .ex [] (.slice ja2 (l.take 12).length jc3), .ex [] (.int .i64 ((j : Nat) : Int)), .ex [5, 6] (.pointer (some (A581.add (j * 1)))), .ex [7] (.int .i64 x580), .ex [4, 8] (.bool (!(decide (((x575.toNat : Nat) : Int) = x580))))] 10 (by kernel_rfl) ⟨fun _ _ _ h _ => h, fun _ _ _ h _ => h, fun _ _ _ h _ => h, fun _ _ _ h _ => h, fun _ _ _ h _ => h, fun _ _ _ h _ => h, fun _ _ _ h _ => h, fun _ _ _ h _ => h, fun _ _ _ h _ => h, fun _ _ _ h _ => h, trivial⟩ ⟨?_, ?_, ?_, ?_, ?_, ?_, ?_, ?_, ?_, ?_, trivial⟩ ?_
 rintro vs w585 k585 ⟨-⟩
 replace k585 : Kp [] w572 w585 := k585
 refine WO.haves (fr' := [(4, _)]) ⟨⟨_, rfl, rfl⟩, trivial⟩ ?_
 refine WO.v (R.move rfl) rfl ?_
 refine WO.nil ?_
 exact WX.stepDone rfl rfl (Kp.refl _)
 rintro vs w586 k586 ⟨-⟩
 replace k586 : Kp [] w572 w586 := k586
 refine WO.haves (fr' := [(11, _)]) ⟨⟨_, rfl, rfl⟩, trivial⟩ ?_
 refine WO.v (R.move rfl) rfl ?_
 refine WO.nil ?_
 exact WX.stepDone rfl rfl (Kp.refl _)
 rintro vs w587 k587 ⟨e588, e589, -⟩
 replace k587 : Kp [] w572 w587 := k587
 refine WO.haves (fr' := [(100, _), (101, _)]) ⟨⟨_, rfl, e588⟩, ⟨_, rfl, e589⟩, trivial⟩ ?_
 refine WO.v (R.indexAddrN rfl rfl Try.underlying27 sz5 hA576 (by omega)) rfl ?_
 refine WO.nil ?_
 exact WX.stepDone rfl rfl (Kp.refl _)
 rintro vs w590 k590 ⟨e591, -⟩
 replace k590 : Kp [] w572 w590 := k590
 have z590 := k590.size
 have b590 := old_kp0 b572 k590
 have y590 := b590.size
 refine WO.haves (fr' := [(102, _)]) ⟨⟨_, rfl, e591⟩, trivial⟩ ?_
 refine WO.v (R.load1 rfl Try.underlying5 rfl (CellsAt.one0 ((ccA576).kpA k590 (by omega) (by simp)))) rfl ?_
 refine WO.nil ?_
 exact WX.stepDone rfl rfl (Kp.refl _)
 rintro vs w592 k592 ⟨e593, -⟩
 replace k592 : Kp [] w572 w592 := k592
 refine WO.haves (fr' := [(103, _)]) ⟨⟨_, rfl, e593⟩, trivial⟩ ?_
 have u593 := UInt8.toNat_lt x575
 refine WO.v (R.convU8 (b := x575) rfl Try.underlying5 Try.underlying3) rfl ?_
 refine WO.nil ?_
 exact WX.stepDone rfl rfl (Kp.refl _)
 rintro vs w595 k595 ⟨-⟩
 replace k595 : Kp [] w572 w595 := k595
 refine WO.haves (fr' := [(0, _)]) ⟨⟨_, rfl, rfl⟩, trivial⟩ ?_
 refine WO.v (R.move rfl) rfl ?_
 refine WO.nil ?_
 exact WX.stepDone rfl rfl (Kp.refl _)
 rintro vs w596 k596 ⟨-⟩
 replace k596 : Kp [] w572 w596 := k596
 refine WO.haves (fr' := [(11, _)]) ⟨⟨_, rfl, rfl⟩, trivial⟩ ?_
 refine WO.v (R.move rfl) rfl ?_
 refine WO.nil ?_
 exact WX.stepDone rfl rfl (Kp.refl _)
 rintro vs w597 k597 ⟨e598, e599, -⟩
 replace k597 : Kp [] w572 w597 := k597
 refine WO.haves (fr' := [(105, _), (106, _)]) ⟨⟨_, rfl, e598⟩, ⟨_, rfl, e599⟩, trivial⟩ ?_
 refine WO.v (R.indexAddrN rfl rfl Try.underlying22 sz3 hA581 (by omega)) rfl ?_
 refine WO.nil ?_
 exact WX.stepDone rfl rfl (Kp.refl _)
 rintro vs w600 k600 ⟨e601, -⟩
 replace k600 : Kp [] w572 w600 := k600
 have z600 := k600.size
 have b600 := old_kp0 b572 k600
 have y600 := b600.size
 refine WO.haves (fr' := [(107, _)]) ⟨⟨_, rfl, e601⟩, trivial⟩ ?_
 refine WO.v (R.load1 rfl Try.underlying3 rfl (CellsAt.one0 ((ccA581).kpA k600 (by omega) (by simp)))) rfl ?_
 refine WO.nil ?_
 exact WX.stepDone rfl rfl (Kp.refl _)
 rintro vs w602 k602 ⟨e603, e604, -⟩
 replace k602 : Kp [] w572 w602 := k602
 refine WO.haves (fr' := [(104, _), (108, _)]) ⟨⟨_, rfl, e603⟩, ⟨_, rfl, e604⟩, trivial⟩ ?_
 refine WO.v (R.neq rfl rfl) rfl ?_
 refine WO.nil ?_
 exact WX.stepDone rfl rfl (Kp.refl _)
 rintro vs w605 k605 ⟨-, -, -, -, -, -, -, -, -, e615, -⟩
 replace k605 : Kp [] w572 w605 := k605
 have z605 := k605.size
 have b605 := old_kp0 b572 k605
 have y605 := b605.size
 refine WO.haves (fr' := [(109, _), (0, _), (2, _), (3, _), (4, _), (5, _), (6, _), (7, _), (8, _), (9, _), (10, _), (11, _), (15, _), (34, _), (69, _), (97, _)]) ⟨⟨_, rfl, e615⟩, ⟨_, rfl, rfl⟩, ⟨_, rfl, rfl⟩, ⟨_, rfl, rfl⟩, ⟨_, rfl, rfl⟩, ⟨_, rfl, rfl⟩, ⟨_, rfl, rfl⟩, ⟨_, rfl, rfl⟩, ⟨_, rfl, rfl⟩, ⟨_, rfl, rfl⟩, ⟨_, rfl, rfl⟩, ⟨_, rfl, rfl⟩, ⟨_, rfl, rfl⟩, ⟨_, rfl, rfl⟩, ⟨_, rfl, rfl⟩, ⟨_, rfl, rfl⟩, trivial⟩ ?_
 refine WO.nil ?_
 refine WX.sel [0, 2, 3, 4, 5, 6, 7, 8, 9, 10, 11, 15, 34, 69, 97, 109] rfl ?_
 refine WX.next ?_
 refine WC.cond rfl (fun q616 => ?_) (fun q616 => ?_)
 have p616 : ¬ (((x575.toNat : Nat) : Int) = x580) := of_decide_eq_false (bnot_t q616)
 refine WC.seq ?_
 refine WC.region ?_
 refine WO.v (R.assign rfl) rfl ?_
 refine WO.nil ?_
 refine WX.sel [0, 2, 3, 4, 5, 6, 7, 8, 9, 10, 11, 15, 34, 69, 97, 109] rfl ?_
 refine WX.next ?_
 refine WC.ret ?_
 refine WX.blkRet ?_
 refine WX.thenRet ?_
 refine WX.loopRet ?_
 refine WX.blkRet ?_
 refine WX.thenRet ?_
 have e0 : false = true := by first | exact cc_no (k := k) (by omega) (by assumption) | exact cc_bad (by assumption) (by assumption) (by assumption) (by omega) | exact cc_yes (by assumption)
 refine WX.ret1 Try.results6 rfl ?_
 exact ⟨by rw [e0], Kp.of_below b605⟩
 have p616 : ((x575.toNat : Nat) : Int) = x580 := of_decide_eq_true (bnot_f q616)
 refine WC.skip ?_
 refine WX.blkNormal ?_
 refine WX.next ?_
 refine WC.region ?_
 refine WO.v (R.move rfl) rfl ?_
 refine WO.v (R.inc rfl (by omega)) rfl ?_
 refine WO.v (R.assign rfl) rfl ?_
 refine WO.nil ?_
 refine WX.sel [0, 2, 3, 4, 5, 6, 7, 8, 9, 10, 11, 15, 34, 69, 97, 109] rfl ?_
 exact WX.loopNextK [0, 2, 3, 4, 5, 6, 7, 8, 9, 10, 15, 34, 69] (j + 1) rfl ⟨⟨_, rfl, rfl⟩, trivial⟩ ⟨((Kp.refl _).step k572 (by simp)).step k605 (by simp), by omega⟩ (by show ((min (chunksB (l.take 12)).length (l.take 12).length) - (j + 1)) < ((min (chunksB (l.take 12)).length (l.take 12).length) - j); omega)
 have p574 : (¬ (((j : Nat) : Int) < (((chunksB ((l.take 12))).length : Nat) : Int))) ∨ (¬ (((j : Nat) : Int) < (((l.take 12).length : Nat) : Int))) := Or.imp (fun h => of_decide_eq_false h) (fun h => of_decide_eq_false h) (band_f q574)
 refine WC.exit ?_
 refine WX.thenExit ?_
 refine WX.loopExit ?_
 refine WX.blkHit ?_
 refine WX.next ?_
 refine WC.seq ?_
 refine WC.region ?_
 refine WO.v (R.move rfl) rfl ?_
 refine WO.v (R.move rfl) rfl ?_
 refine WO.on rfl rfl rfl ?_
 refine WO.v (R.move rfl) rfl ?_
 refine WO.on rfl rfl rfl ?_
 refine WO.v (R.eql rfl rfl) rfl ?_
 refine WO.v (R.pickT rfl rfl rfl) rfl ?_
 refine WO.v (R.move rfl) rfl ?_
 refine WO.cutP 6 [(121, (.bool ((decide (chunksE ((l.take 12)) = (0 : Int))) && (decide ((((chunksB ((l.take 12))).length : Nat) : Int) = (((l.take 12).length : Nat) : Int))))))] (fun w' => w572 = w') ?_ ?_
 rcases Bool.eq_false_or_eq_true (decide (chunksE ((l.take 12)) = (0 : Int))) with hb617 | hb617
 have phb617 : chunksE ((l.take 12)) = (0 : Int) := of_decide_eq_true hb617
 refine WO.on rfl rfl hb617 ?_
 refine WO.v (R.move rfl) rfl ?_
 refine WO.on rfl rfl hb617 ?_
 refine WO.v (R.len rfl Try.underlying27) rfl ?_
 refine WO.on rfl rfl hb617 ?_
 refine WO.v (R.move rfl) rfl ?_
 refine WO.on rfl rfl hb617 ?_
 refine WO.v (R.len rfl Try.underlying22) rfl ?_
 refine WO.on rfl rfl hb617 ?_
 refine WO.v (R.eql rfl rfl) rfl ?_
 refine WO.v (R.pickT rfl hb617 rfl) rfl ?_
 refine WO.nil ?_
 exact WX.cutDoneP 6 rfl rfl ⟨⟨_, rfl, vb (band_on hb617)⟩, trivial⟩ (rfl)
 have phb617 : ¬ (chunksE ((l.take 12)) = (0 : Int)) := of_decide_eq_false hb617
 refine WO.off rfl rfl hb617 rfl ?_
 refine WO.off rfl rfl hb617 rfl ?_
 refine WO.off rfl rfl hb617 rfl ?_
 refine WO.off rfl rfl hb617 rfl ?_
 refine WO.off rfl rfl hb617 rfl ?_
 refine WO.v (R.pickF rfl hb617 rfl) rfl ?_
 refine WO.nil ?_
 exact WX.cutDoneP 6 rfl rfl ⟨⟨_, rfl, vb (band_off hb617)⟩, trivial⟩ (rfl)
 rintro _ rfl
 refine WO.v (R.move rfl) rfl ?_
 refine WO.cutP 3 [(125, (.bool (((decide (chunksE ((l.take 12)) = (0 : Int))) && (decide ((((chunksB ((l.take 12))).length : Nat) : Int) = (((l.take 12).length : Nat) : Int)))) && (decide (unchE ((chunksB ((l.take 12)))) = (0 : Int))))))] (fun w' => w572 = w') ?_ ?_
 rcases Bool.eq_false_or_eq_true ((decide (chunksE ((l.take 12)) = (0 : Int))) && (decide ((((chunksB ((l.take 12))).length : Nat) : Int) = (((l.take 12).length : Nat) : Int)))) with hb618 | hb618
 have phb618 : (chunksE ((l.take 12)) = (0 : Int)) ∧ ((((chunksB ((l.take 12))).length : Nat) : Int) = (((l.take 12).length : Nat) : Int)) := ⟨of_decide_eq_true (band_t hb618).1, of_decide_eq_true (band_t hb618).2⟩
 refine WO.on rfl rfl hb618 ?_
 refine WO.v (R.move rfl) rfl ?_
 refine WO.on rfl rfl hb618 ?_
 refine WO.v (R.eql rfl rfl) rfl ?_
 refine WO.v (R.pickT rfl hb618 rfl) rfl ?_
 refine WO.nil ?_
 exact WX.cutDoneP 3 rfl rfl ⟨⟨_, rfl, vb (band_on hb618)⟩, trivial⟩ (rfl)
 have phb618 : (¬ (chunksE ((l.take 12)) = (0 : Int))) ∨ (¬ ((((chunksB ((l.take 12))).length : Nat) : Int) = (((l.take 12).length : Nat) : Int))) := Or.imp (fun h => of_decide_eq_false h) (fun h => of_decide_eq_false h) (band_f hb618)
 refine WO.off rfl rfl hb618 rfl ?_
 refine WO.off rfl rfl hb618 rfl ?_
 refine WO.v (R.pickF rfl hb618 rfl) rfl ?_
 refine WO.nil ?_
 exact WX.cutDoneP 3 rfl rfl ⟨⟨_, rfl, vb (band_off hb618)⟩, trivial⟩ (rfl)
 rintro _ rfl
 refine WO.v (R.move rfl) rfl ?_
 refine WO.cutP 2 [(128, (.bool ((((decide (chunksE ((l.take 12)) = (0 : Int))) && (decide ((((chunksB ((l.take 12))).length : Nat) : Int) = (((l.take 12).length : Nat) : Int)))) && (decide (unchE ((chunksB ((l.take 12)))) = (0 : Int)))) && (decide (((unchB ((chunksB ((l.take 12)))))) = ((l.take 12)))))))] (fun w' => w572 = w') ?_ ?_
 rcases Bool.eq_false_or_eq_true (((decide (chunksE ((l.take 12)) = (0 : Int))) && (decide ((((chunksB ((l.take 12))).length : Nat) : Int) = (((l.take 12).length : Nat) : Int)))) && (decide (unchE ((chunksB ((l.take 12)))) = (0 : Int)))) with hb619 | hb619
 have phb619 : ((chunksE ((l.take 12)) = (0 : Int)) ∧ ((((chunksB ((l.take 12))).length : Nat) : Int) = (((l.take 12).length : Nat) : Int))) ∧ (unchE ((chunksB ((l.take 12)))) = (0 : Int)) := ⟨⟨of_decide_eq_true (band_t (band_t hb619).1).1, of_decide_eq_true (band_t (band_t hb619).1).2⟩, of_decide_eq_true (band_t hb619).2⟩
 refine WO.on rfl rfl hb619 ?_
 refine WO.v (R.move rfl) rfl ?_
 refine WO.v (R.pickT rfl hb619 rfl) rfl ?_
 refine WO.nil ?_
 exact WX.cutDoneP 2 rfl rfl ⟨⟨_, rfl, vb (band_on hb619)⟩, trivial⟩ (rfl)
 have phb619 : ((¬ (chunksE ((l.take 12)) = (0 : Int))) ∨ (¬ ((((chunksB ((l.take 12))).length : Nat) : Int) = (((l.take 12).length : Nat) : Int)))) ∨ (¬ (unchE ((chunksB ((l.take 12)))) = (0 : Int))) := Or.imp (fun h => Or.imp (fun h => of_decide_eq_false h) (fun h => of_decide_eq_false h) (band_f h)) (fun h => of_decide_eq_false h) (band_f hb619)
 refine WO.off rfl rfl hb619 rfl ?_
 refine WO.v (R.pickF rfl hb619 rfl) rfl ?_
 refine WO.nil ?_
 exact WX.cutDoneP 2 rfl rfl ⟨⟨_, rfl, vb (band_off hb619)⟩, trivial⟩ (rfl)
 rintro _ rfl
 refine WO.v (R.assign rfl) rfl ?_
 refine WO.nil ?_
 refine WX.sel [0, 2, 3, 4, 5, 6, 7, 8, 9, 10, 11, 15, 34, 69, 97] rfl ?_
 refine WX.next ?_
 refine WC.ret ?_
 have e0 : ((((decide (chunksE ((l.take 12)) = (0 : Int))) && (decide ((((chunksB ((l.take 12))).length : Nat) : Int) = (((l.take 12).length : Nat) : Int)))) && (decide (unchE ((chunksB ((l.take 12)))) = (0 : Int)))) && (decide (((unchB ((chunksB ((l.take 12)))))) = ((l.take 12))))) = true := by first | exact cc_no (k := k) (by omega) (by assumption) | exact cc_bad (by assumption) (by assumption) (by assumption) (by omega) | exact cc_yes (by assumption)
 refine WX.ret1 Try.results6 rfl ?_
 exact ⟨by rw [e0], Kp.of_below b572⟩


end Go.Proofs.Ytfmlgeeogbhppaa
