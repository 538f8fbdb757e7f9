/- Contracts of functions, walked operation by operation. -/
import Derived.Test.YtfmlgeeogbhppaaD7
namespace Go.Proofs.Ytfmlgeeogbhppaa
open Go.RowKit

theorem and1 (x : UInt8) : (x &&& 1).toNat ≤ 1 := by rw [UInt8.toNat_and]; exact Nat.and_le_right
theorem proj_twice {c : Command} {v : Int} : projF (projF c v) v = projF c v := by
  unfold projF; by_cases h : v < 3 <;> simp [h]
theorem proj_3 {c : Command} : projF c 3 = c := by unfold projF; simp
theorem may_of {c : Command} {v : Int} (h1 : 1 ≤ v ∧ v ≤ 3) (h2 : ¬ needF c.kind = 0) (h3 : needF c.kind ≤ v) : mayC c v = if !fitsF c then 1 else 0 := by
  have e : (!(inB v 1 3) || decide (needF c.kind = 0)) = false := by
    rw [show inB v 1 3 = true by unfold inB; rw [Bool.and_eq_true, decide_eq_true_eq, decide_eq_true_eq]; exact h1, decide_eq_false h2]; rfl
  unfold mayC; rw [e, if_neg (by decide), if_neg (by omega)]
theorem may_need0 {c : Command} {v : Int} (h : needF c.kind = 0) : mayC c v = 1 := by unfold mayC; rw [decide_eq_true h, Bool.or_true, if_pos rfl]
theorem may_10 {c : Command} {v : Int} (h1 : 1 ≤ v ∧ v ≤ 3) (h2 : ¬ needF c.kind = 0) (h3 : v < needF c.kind) : mayC c v = 10 := by
  have e : (!(inB v 1 3) || decide (needF c.kind = 0)) = false := by
    rw [show inB v 1 3 = true by unfold inB; rw [Bool.and_eq_true, decide_eq_true_eq, decide_eq_true_eq]; exact h1, decide_eq_false h2]; rfl
  unfold mayC; rw [e, if_neg (by decide), if_pos h3]
theorem grow1 {c : Command} {n : Nat} (h1 : 1 ≤ n) (h2 : n ≤ 2) (h : mayC c (n : Int) = 0) : (((((decide (mayC c ((n + 1 : Nat) : Int) = (0 : Int))) && (decide ((1 : Int) ≤ needF c.kind))) && (decide (needF c.kind ≤ (n : Int)))) && (decide (projF (projF c (n : Int)) (n : Int) = projF c (n : Int)))) && (decide (projF c 3 = c))) = true := by
  obtain ⟨hv, hn, hl, hf⟩ := may_fits h
  have hr := need_range hn
  have h1' : 1 ≤ needF c.kind := by rw [need_at hr]; split <;> (try split) <;> omega
  have hm : mayC c ((n + 1 : Nat) : Int) = 0 := by rw [may_of (by omega) hn (by omega), hf]; rfl
  rw [hm, proj_twice, proj_3, decide_eq_true h1', decide_eq_true hl]; simp
theorem grow2 {c : Command} {n : Nat} (h1 : 1 ≤ n) (h2 : n ≤ 2) (h : ¬ mayC c (n : Int) = 0) : ((((((decide (mayC c (n : Int) = (10 : Int))) == (decide ((n : Int) < needF c.kind)))) && ((decide (mayC c (n : Int) = (10 : Int))) || (decide (mayC c ((n + 1 : Nat) : Int) = mayC c (n : Int))))) && (decide (projF (projF c (n : Int)) (n : Int) = projF c (n : Int)))) && (decide (projF c 3 = c))) = true := by
  rw [proj_twice, proj_3]
  by_cases h0 : needF c.kind = 0
  · rw [may_need0 h0, may_need0 h0, h0, decide_eq_false (show ¬ (n : Int) < 0 by omega)]; simp
  · by_cases hl : (n : Int) < needF c.kind
    · rw [may_10 (by omega) h0 hl, decide_eq_true hl]; simp
    · have e1 := may_of (c := c) (v := (n : Int)) (by omega) h0 (by omega)
      have e2 := may_of (c := c) (v := ((n + 1 : Nat) : Int)) (by omega) h0 (by omega)
      rw [e1] at h
      rw [e1, e2, decide_eq_false hl]
      cases hf : fitsF c with
      | true => rw [hf] at h; simp at h
      | false => simp



set_option maxRecDepth 100000 in
set_option maxHeartbeats 400000 in
theorem grows_s {w : World} {cs_c : List Value} {c : Command} (version : UInt8) (h_c : Rp.rp false 0 w.heap.size w cs_c c) :
    Ret Try.prog 5 [.agg cs_c.toArray, .int .u8 (version.toNat : Int)].toArray w fun r w' => r = .bool true ∧ Kp [] w w' := by
 obtain ⟨a7, c8, rfl, i1, i2, i3, i4, i5, i6, s9, i10⟩ := Command.el h_c
 have ls9 : (c.chunks).length * 8 ≤ 140737488355328 := s9.lenle
 refine Ret.enter Try.func5 rfl Try.ntmps5 rfl rfl ?_
 refine WC.sel [0, 1] rfl ?_
 refine WC.seq ?_
 refine WC.region ?_
 refine WO.box rfl rfl rfl ?_
 intro w11 n11
 have z11 := n11.lt
 have b11 := old_kp0 (Below.refl w.heap.size w) n11.kp
 have y11 := b11.size
 refine WO.v (R.assign rfl) rfl ?_
 refine WO.nil ?_
 refine WX.sel [0, 1, 2, 4] rfl ?_
 refine WX.next ?_
 refine WC.seq ?_
 refine WC.region ?_
 refine WO.c (E.call rfl rfl Try.func11 rfl rfl) (shown5_s  ) rfl ?_
 rintro _ w12 ⟨rfl, k12⟩
 have z12 := k12.size
 have b12 := old_kp0 b11 k12
 have y12 := b12.size
 refine WO.v (R.assign rfl) rfl ?_
 refine WO.nil ?_
 refine WX.sel [0, 1, 2, 4, 5] rfl ?_
 refine WX.next ?_
 refine WC.seq ?_
 refine WC.region ?_
 have B13 := (n11.blk).kp0 k12
 refine WO.v (R.loadBN (vs := [_, _, _, _, _, _, _, _]) rfl B13 rfl Try.underlying24 rfl sz24) rfl ?_
 refine WO.c (E.call rfl rfl Try.func13 rfl rfl) (few_s (c := c) (B := w.heap.size) (by omega) (Command.mk_ (i1) (i2) (i3) (i4) (i5) (i6) ((sl_old s9 b12).mono (lo' := 0) (hi' := w.heap.size) (Nat.zero_le _) (by omega)) i10)) rfl ?_
 rintro _ w14 ⟨a21, c22, rfl, i15, i16, i17, i18, i19, i20, s23, i24, k14⟩
 have z14 := k14.size
 have b14 := old_kp0 b12 k14
 have y14 := b14.size
 have ls23 : ((fewF (c)).chunks).length * 8 ≤ 140737488355328 := s23.lenle
 have B25 := (B13).kp0 k14
 refine WO.storeBN rfl rfl B25 rfl (by simp [Value.oneCell', Str.val]) sz24 ?_
 intro w26 k26 B26 z_26
 have z26 := z_26.symm
 have b26 := old_kp b14 k26 (mem1 (by omega))
 have y26 := b26.size
 refine WO.nil ?_
 refine WX.sel [0, 1, 2, 4, 5] rfl ?_
 refine WX.next ?_
 refine WC.seq ?_
 refine WC.region ?_
 refine WO.v (R.move rfl) rfl ?_
 refine WO.v (R.andU8 (a := version) (b := (1 : UInt8)) rfl rfl) rfl ?_
 have u26 := UInt8.toNat_lt (version &&& (1 : UInt8))
 refine WO.v (R.convU8 (b := (version &&& (1 : UInt8))) rfl Try.underlying5 Try.underlying3) rfl ?_
 refine WO.v (R.addN (a := 1) (b := (version &&& (1 : UInt8)).toNat) rfl rfl (by omega)) rfl ?_
 refine WO.v (R.assign rfl) rfl ?_
 refine WO.nil ?_
 refine WX.sel [0, 1, 2, 4, 5, 6] rfl ?_
 refine WX.next ?_
 refine WC.seq ?_
 refine WC.region ?_
 refine WO.v (R.loadBN (vs := [_, _, _, _, _, _, _, _]) rfl B26 rfl Try.underlying24 rfl sz24) rfl ?_
 refine WO.v (R.move rfl) rfl ?_
 refine WO.c (E.call rfl rfl Try.func17 rfl rfl) (mayC_s (v := (((1 + (version &&& (1 : UInt8)).toNat) : Nat) : Int)) (c := (fewF (c))) (Command.mk_ (i15) (i16) (i17) (i18) (i19) (i20) ((sl_kp (s23) k26 (by omega) (mem1 (by omega))).mono (lo' := 0) (hi' := w26.heap.size) (Nat.zero_le _) (by omega)) i24)) rfl ?_
 rintro _ w28 ⟨rfl, k28⟩
 have z28 := k28.size
 have b28 := old_kp0 b26 k28
 have y28 := b28.size
 refine WO.v (R.assign rfl) rfl ?_
 refine WO.nil ?_
 refine WX.sel [0, 1, 2, 4, 5, 6, 7] rfl ?_
 refine WX.next ?_
 refine WC.seq ?_
 refine WC.region ?_
 have B29 := (B26).kp0 k28
 refine WO.v (R.loadBN (vs := [_, _, _, _, _, _, _, _]) rfl B29 rfl Try.underlying24 rfl sz24) rfl ?_
 refine WO.v (R.move rfl) rfl ?_
 refine WO.v (R.inc rfl (by omega)) rfl ?_
 refine WO.c (E.call rfl rfl Try.func17 rfl rfl) (mayC_s (v := (((1 + (version &&& (1 : UInt8)).toNat) + 1 : Nat) : Int)) (c := (fewF (c))) (Command.mk_ (i15) (i16) (i17) (i18) (i19) (i20) ((sl_kp0 (sl_kp (s23) k26 (by omega) (mem1 (by omega))) k28 (by omega)).mono (lo' := 0) (hi' := w28.heap.size) (Nat.zero_le _) (by omega)) i24)) rfl ?_
 rintro _ w30 ⟨rfl, k30⟩
 have z30 := k30.size
 have b30 := old_kp0 b28 k30
 have y30 := b30.size
 refine WO.v (R.assign rfl) rfl ?_
 refine WO.nil ?_
 refine WX.sel [0, 1, 2, 4, 5, 6, 7, 8] rfl ?_
 refine WX.next ?_
 refine WC.seq ?_
 refine WC.region ?_
 refine WO.v (fa24_0 rfl) rfl ?_
 have B31 := (B29).kp0 k30
 refine WO.v (R.loadB rfl B31 rfl Try.underlying3 rfl) rfl ?_
 refine WO.c (E.call rfl rfl Try.func18 rfl rfl) (need_s (k := (fewF (c)).kind) ) rfl ?_
 rintro _ w32 ⟨rfl, k32⟩
 have z32 := k32.size
 have b32 := old_kp0 b30 k32
 have y32 := b32.size
 refine WO.v (R.assign rfl) rfl ?_
 refine WO.nil ?_
 refine WX.sel [0, 1, 2, 4, 5, 6, 7, 8, 9] rfl ?_
 refine WX.next ?_
 refine WC.seq ?_
 refine WC.region ?_
 have B33 := (B31).kp0 k32
 refine WO.v (R.loadBN (vs := [_, _, _, _, _, _, _, _]) rfl B33 rfl Try.underlying24 rfl sz24) rfl ?_
 refine WO.v (R.move rfl) rfl ?_
 refine WO.c (E.call rfl rfl Try.func19 rfl rfl) (proj_s (v := (((1 + (version &&& (1 : UInt8)).toNat) : Nat) : Int)) (c := (fewF (c))) (Command.mk_ (i15) (i16) (i17) (i18) (i19) (i20) ((sl_kp0 (sl_kp0 (sl_kp0 (sl_kp (s23) k26 (by omega) (mem1 (by omega))) k28 (by omega)) k30 (by omega)) k32 (by omega)).mono (lo' := 0) (hi' := w32.heap.size) (Nat.zero_le _) (by omega)) i24)) rfl ?_
 rintro _ w34 ⟨cs35, rfl, r36, k34⟩
 have z34 := k34.size
 have b34 := old_kp0 b32 k34
 have y34 := b34.size
 obtain ⟨a43, c44, rfl, i37, i38, i39, i40, i41, i42, s45, i46⟩ := Command.el r36
 have ls45 : ((projF ((fewF (c))) ((((1 + (version &&& (1 : UInt8)).toNat) : Nat) : Int))).chunks).length * 8 ≤ 140737488355328 := s45.lenle
 refine WO.alloc zr24 rfl ?_
 intro w47 n47
 have z47 := n47.lt
 have b47 := old_kp0 b34 n47.kp
 have y47 := b47.size
 refine WO.storeBN rfl rfl n47.blk rfl (by simp [Value.oneCell', Str.val]) sz24 ?_
 intro w48 k48 B48 z_48
 have z48 := z_48.symm
 have b48 := old_kp b47 k48 (mem1 (by omega))
 have y48 := b48.size
 refine WO.nil ?_
 refine WX.sel [0, 1, 2, 4, 5, 6, 7, 8, 9, 10] rfl ?_
 refine WX.next ?_
 refine WC.seq ?_
 refine WC.sel [0, 1, 2, 4, 5, 6, 7, 8, 9, 10] rfl ?_
 refine WC.draw' mixed_orders [.ex [] (.agg #[(.int .i64 (projF ((fewF (c))) ((((1 + (version &&& (1 : UInt8)).toNat) : Nat) : Int))).kind), (.int .i64 (projF ((fewF (c))) ((((1 + (version &&& (1 : UInt8)).toNat) : Nat) : Int))).client), (.int .i64 (projF ((fewF (c))) ((((1 + (version &&& (1 : UInt8)).toNat) : Nat) : Int))).seq), (.int .i64 (projF ((fewF (c))) ((((1 + (version &&& (1 : UInt8)).toNat) : Nat) : Int))).set), (.int .i64 (projF ((fewF (c))) ((((1 + (version &&& (1 : UInt8)).toNat) : Nat) : Int))).id), (.int .i64 (projF ((fewF (c))) ((((1 + (version &&& (1 : UInt8)).toNat) : Nat) : Int))).n), (.slice a43 (projF ((fewF (c))) ((((1 + (version &&& (1 : UInt8)).toNat) : Nat) : Int))).chunks.length c44), (projF ((fewF (c))) ((((1 + (version &&& (1 : UInt8)).toNat) : Nat) : Int))).text.val]), .ex [] (.int .i64 (((1 + (version &&& (1 : UInt8)).toNat) : Nat) : Int)), ⟨[0, 1], [], fun u w' => ∃ cs, u = .agg cs.toArray ∧ Rp.rp (α := Command) false 0 w'.heap.size w' cs (projF ((projF ((fewF (c))) ((((1 + (version &&& (1 : UInt8)).toNat) : Nat) : Int)))) ((((1 + (version &&& (1 : UInt8)).toNat) : Nat) : Int)))⟩, .ex [] (.agg #[(.int .i64 (projF ((fewF (c))) ((((1 + (version &&& (1 : UInt8)).toNat) : Nat) : Int))).kind), (.int .i64 (projF ((fewF (c))) ((((1 + (version &&& (1 : UInt8)).toNat) : Nat) : Int))).client), (.int .i64 (projF ((fewF (c))) ((((1 + (version &&& (1 : UInt8)).toNat) : Nat) : Int))).seq), (.int .i64 (projF ((fewF (c))) ((((1 + (version &&& (1 : UInt8)).toNat) : Nat) : Int))).set), (.int .i64 (projF ((fewF (c))) ((((1 + (version &&& (1 : UInt8)).toNat) : Nat) : Int))).id), (.int .i64 (projF ((fewF (c))) ((((1 + (version &&& (1 : UInt8)).toNat) : Nat) : Int))).n), (.slice a43 (projF ((fewF (c))) ((((1 + (version &&& (1 : UInt8)).toNat) : Nat) : Int))).chunks.length c44), (projF ((fewF (c))) ((((1 + (version &&& (1 : UInt8)).toNat) : Nat) : Int))).text.val]), .ex [2, 3] (.bool (decide (((projF ((projF ((fewF (c))) ((((1 + (version &&& (1 : UInt8)).toNat) : Nat) : Int)))) ((((1 + (version &&& (1 : UInt8)).toNat) : Nat) : Int)))) = ((projF ((fewF (c))) ((((1 + (version &&& (1 : UInt8)).toNat) : Nat) : Int))))))), .ex [4] (.bool (decide (((projF ((projF ((fewF (c))) ((((1 + (version &&& (1 : UInt8)).toNat) : Nat) : Int)))) ((((1 + (version &&& (1 : UInt8)).toNat) : Nat) : Int)))) = ((projF ((fewF (c))) ((((1 + (version &&& (1 : UInt8)).toNat) : Nat) : Int)))))))] 6 (by kernel_rfl) ⟨fun _ _ _ h _ => h, fun _ _ _ h _ => h, fun _ _ _ h k => stabAgg h k, fun _ _ _ h _ => h, fun _ _ _ h _ => h, fun _ _ _ h _ => h, trivial⟩ ⟨?_, ?_, ?_, ?_, ?_, ?_, trivial⟩ ?_
 rintro vs w63 k63 ⟨-⟩
 replace k63 : Kp [] w48 w63 := k63
 have z63 := k63.size
 have b63 := old_kp0 b48 k63
 have y63 := b63.size
 refine WO.haves (fr' := [(10, _)]) ⟨⟨_, rfl, rfl⟩, trivial⟩ ?_
 have B64 := (B48).kp0 k63
 refine WO.v (R.loadBN (vs := [_, _, _, _, _, _, _, _]) rfl B64 rfl Try.underlying24 rfl sz24) rfl ?_
 refine WO.nil ?_
 exact WX.stepDone rfl rfl (Kp.refl _)
 rintro vs w65 k65 ⟨-⟩
 replace k65 : Kp [] w48 w65 := k65
 refine WO.haves (fr' := [(6, _)]) ⟨⟨_, rfl, rfl⟩, trivial⟩ ?_
 refine WO.v (R.move rfl) rfl ?_
 refine WO.nil ?_
 exact WX.stepDone rfl rfl (Kp.refl _)
 rintro vs w66 k66 ⟨e67, e68, -⟩
 replace k66 : Kp [] w48 w66 := k66
 have z66 := k66.size
 have b66 := old_kp0 b48 k66
 have y66 := b66.size
 refine WO.haves (fr' := [(33, _), (34, _)]) ⟨⟨_, rfl, e67⟩, ⟨_, rfl, e68⟩, trivial⟩ ?_
 refine WO.c (E.call rfl rfl Try.func19 rfl rfl) (proj_s (v := (((1 + (version &&& (1 : UInt8)).toNat) : Nat) : Int)) (c := (projF ((fewF (c))) ((((1 + (version &&& (1 : UInt8)).toNat) : Nat) : Int)))) (Command.mk_ (i37) (i38) (i39) (i40) (i41) (i42) ((sl_kp0 (sl_kp (sl_kp0 (s45) n47.kp (by omega)) k48 (by omega) (mem1 (by omega))) k66 (by omega)).mono (lo' := 0) (hi' := w66.heap.size) (Nat.zero_le _) (by omega)) i46)) rfl ?_
 rintro _ w69 ⟨cs70, rfl, r71, k69⟩
 have z69 := k69.size
 have b69 := old_kp0 b66 k69
 have y69 := b69.size
 obtain ⟨a78, c79, rfl, i72, i73, i74, i75, i76, i77, s80, i81⟩ := Command.el r71
 have ls80 : ((projF ((projF ((fewF (c))) ((((1 + (version &&& (1 : UInt8)).toNat) : Nat) : Int)))) ((((1 + (version &&& (1 : UInt8)).toNat) : Nat) : Int))).chunks).length * 8 ≤ 140737488355328 := s80.lenle
 refine WO.nil ?_
 exact WX.stepDone rfl ⟨[(.int .i64 (projF ((projF ((fewF (c))) ((((1 + (version &&& (1 : UInt8)).toNat) : Nat) : Int)))) ((((1 + (version &&& (1 : UInt8)).toNat) : Nat) : Int))).kind), (.int .i64 (projF ((projF ((fewF (c))) ((((1 + (version &&& (1 : UInt8)).toNat) : Nat) : Int)))) ((((1 + (version &&& (1 : UInt8)).toNat) : Nat) : Int))).client), (.int .i64 (projF ((projF ((fewF (c))) ((((1 + (version &&& (1 : UInt8)).toNat) : Nat) : Int)))) ((((1 + (version &&& (1 : UInt8)).toNat) : Nat) : Int))).seq), (.int .i64 (projF ((projF ((fewF (c))) ((((1 + (version &&& (1 : UInt8)).toNat) : Nat) : Int)))) ((((1 + (version &&& (1 : UInt8)).toNat) : Nat) : Int))).set), (.int .i64 (projF ((projF ((fewF (c))) ((((1 + (version &&& (1 : UInt8)).toNat) : Nat) : Int)))) ((((1 + (version &&& (1 : UInt8)).toNat) : Nat) : Int))).id), (.int .i64 (projF ((projF ((fewF (c))) ((((1 + (version &&& (1 : UInt8)).toNat) : Nat) : Int)))) ((((1 + (version &&& (1 : UInt8)).toNat) : Nat) : Int))).n), (.slice a78 (projF ((projF ((fewF (c))) ((((1 + (version &&& (1 : UInt8)).toNat) : Nat) : Int)))) ((((1 + (version &&& (1 : UInt8)).toNat) : Nat) : Int))).chunks.length c79), (projF ((projF ((fewF (c))) ((((1 + (version &&& (1 : UInt8)).toNat) : Nat) : Int)))) ((((1 + (version &&& (1 : UInt8)).toNat) : Nat) : Int))).text.val], rfl, (Command.mk_ (i72) (i73) (i74) (i75) (i76) (i77) ((s80).mono (lo' := 0) (hi' := w69.heap.size) (Nat.zero_le _) (by omega)) i81)⟩ ((Kp.refl _).step k69 (by simp))
 rintro vs w82 k82 ⟨-⟩
 replace k82 : Kp [] w48 w82 := k82
 have z82 := k82.size
 have b82 := old_kp0 b48 k82
 have y82 := b82.size
 refine WO.haves (fr' := [(10, _)]) ⟨⟨_, rfl, rfl⟩, trivial⟩ ?_
 have B83 := (B48).kp0 k82
 refine WO.v (R.loadBN (vs := [_, _, _, _, _, _, _, _]) rfl B83 rfl Try.underlying24 rfl sz24) rfl ?_
 refine WO.nil ?_
 exact WX.stepDone rfl rfl (Kp.refl _)
 rintro vs w84 k84 ⟨e85, e86, -⟩
 replace k84 : Kp [] w48 w84 := k84
 have z84 := k84.size
 have b84 := old_kp0 b48 k84
 have y84 := b84.size
 obtain ⟨cs87, e88, r89⟩ := e85
 obtain ⟨a96, c97, rfl, i90, i91, i92, i93, i94, i95, s98, i99⟩ := Command.el r89
 have ls98 : ((projF ((projF ((fewF (c))) ((((1 + (version &&& (1 : UInt8)).toNat) : Nat) : Int)))) ((((1 + (version &&& (1 : UInt8)).toNat) : Nat) : Int))).chunks).length * 8 ≤ 140737488355328 := s98.lenle
 refine WO.haves (fr' := [(35, _), (36, _)]) ⟨⟨_, rfl, e88⟩, ⟨_, rfl, e86⟩, trivial⟩ ?_
 refine WO.c (E.call rfl rfl Try.func16 rfl rfl) (same5_s (a := (projF ((projF ((fewF (c))) ((((1 + (version &&& (1 : UInt8)).toNat) : Nat) : Int)))) ((((1 + (version &&& (1 : UInt8)).toNat) : Nat) : Int)))) (b := (projF ((fewF (c))) ((((1 + (version &&& (1 : UInt8)).toNat) : Nat) : Int)))) (Command.mk_ (i90) (i91) (i92) (i93) (i94) (i95) ((s98).mono (lo' := 0) (hi' := w84.heap.size) (Nat.zero_le _) (by omega)) i99) (Command.mk_ (i37) (i38) (i39) (i40) (i41) (i42) ((sl_kp0 (sl_kp (sl_kp0 (s45) n47.kp (by omega)) k48 (by omega) (mem1 (by omega))) k84 (by omega)).mono (lo' := 0) (hi' := w84.heap.size) (Nat.zero_le _) (by omega)) i46)) rfl ?_
 rintro _ w100 ⟨rfl, k100⟩
 have z100 := k100.size
 have b100 := old_kp0 b84 k100
 have y100 := b100.size
 refine WO.nil ?_
 exact WX.stepDone rfl rfl ((Kp.refl _).step k100 (by simp))
 rintro vs w101 k101 ⟨e102, -⟩
 replace k101 : Kp [] w48 w101 := k101
 have z101 := k101.size
 have b101 := old_kp0 b48 k101
 have y101 := b101.size
 refine WO.haves (fr' := [(37, _)]) ⟨⟨_, rfl, e102⟩, trivial⟩ ?_
 refine WO.v (R.assign rfl) rfl ?_
 refine WO.nil ?_
 exact WX.stepDone rfl rfl (Kp.refl _)
 rintro vs w103 k103 ⟨-, -, -, -, -, e109, -⟩
 replace k103 : Kp [] w48 w103 := k103
 have z103 := k103.size
 have b103 := old_kp0 b48 k103
 have y103 := b103.size
 refine WO.haves (fr' := [(11, _), (0, _), (1, _), (2, _), (4, _), (5, _), (6, _), (7, _), (8, _), (9, _), (10, _)]) ⟨⟨_, rfl, e109⟩, ⟨_, rfl, rfl⟩, ⟨_, rfl, rfl⟩, ⟨_, rfl, rfl⟩, ⟨_, rfl, rfl⟩, ⟨_, rfl, rfl⟩, ⟨_, rfl, rfl⟩, ⟨_, rfl, rfl⟩, ⟨_, rfl, rfl⟩, ⟨_, rfl, rfl⟩, ⟨_, rfl, rfl⟩, trivial⟩ ?_
 refine WO.nil ?_
 refine WX.sel [0, 1, 2, 4, 5, 6, 7, 8, 9, 10, 11] rfl ?_
 refine WX.next ?_
 refine WC.seq ?_
 refine WC.sel [0, 1, 2, 4, 5, 6, 7, 8, 9, 10, 11] rfl ?_
 refine WC.draw' mixed_orders [.ex [] (.agg #[(.int .i64 (fewF (c)).kind), (.int .i64 (fewF (c)).client), (.int .i64 (fewF (c)).seq), (.int .i64 (fewF (c)).set), (.int .i64 (fewF (c)).id), (.int .i64 (fewF (c)).n), (.slice a21 (fewF (c)).chunks.length c22), (fewF (c)).text.val]), ⟨[0], [], fun u w' => ∃ cs, u = .agg cs.toArray ∧ Rp.rp (α := Command) false 0 w'.heap.size w' cs (projF ((fewF (c))) ((3 : Int)))⟩, .ex [] (.agg #[(.int .i64 (fewF (c)).kind), (.int .i64 (fewF (c)).client), (.int .i64 (fewF (c)).seq), (.int .i64 (fewF (c)).set), (.int .i64 (fewF (c)).id), (.int .i64 (fewF (c)).n), (.slice a21 (fewF (c)).chunks.length c22), (fewF (c)).text.val]), .ex [1, 2] (.bool (decide (((projF ((fewF (c))) ((3 : Int)))) = ((fewF (c)))))), .ex [3] (.bool (decide (((projF ((fewF (c))) ((3 : Int)))) = ((fewF (c))))))] 5 (by kernel_rfl) ⟨fun _ _ _ h _ => h, fun _ _ _ h k => stabAgg h k, fun _ _ _ h _ => h, fun _ _ _ h _ => h, fun _ _ _ h _ => h, trivial⟩ ⟨?_, ?_, ?_, ?_, ?_, trivial⟩ ?_
 rintro vs w126 k126 ⟨-⟩
 replace k126 : Kp [] w103 w126 := k126
 have z126 := k126.size
 have b126 := old_kp0 b103 k126
 have y126 := b126.size
 refine WO.haves (fr' := [(2, _)]) ⟨⟨_, rfl, rfl⟩, trivial⟩ ?_
 have B127 := (((((B33).kp0 k34).kp0 n47.kp).kp1 k48 (by omega)).kp0 k103).kp0 k126
 refine WO.v (R.loadBN (vs := [_, _, _, _, _, _, _, _]) rfl B127 rfl Try.underlying24 rfl sz24) rfl ?_
 refine WO.nil ?_
 exact WX.stepDone rfl rfl (Kp.refl _)
 rintro vs w128 k128 ⟨e129, -⟩
 replace k128 : Kp [] w103 w128 := k128
 have z128 := k128.size
 have b128 := old_kp0 b103 k128
 have y128 := b128.size
 refine WO.haves (fr' := [(38, _)]) ⟨⟨_, rfl, e129⟩, trivial⟩ ?_
 refine WO.c (E.call rfl rfl Try.func19 rfl rfl) (proj_s (v := (3 : Int)) (c := (fewF (c))) (Command.mk_ (i15) (i16) (i17) (i18) (i19) (i20) ((sl_kp0 (sl_kp0 (sl_kp (sl_kp0 (sl_kp0 (sl_kp0 (sl_kp0 (sl_kp0 (sl_kp (s23) k26 (by omega) (mem1 (by omega))) k28 (by omega)) k30 (by omega)) k32 (by omega)) k34 (by omega)) n47.kp (by omega)) k48 (by omega) (mem1 (by omega))) k103 (by omega)) k128 (by omega)).mono (lo' := 0) (hi' := w128.heap.size) (Nat.zero_le _) (by omega)) i24)) rfl ?_
 rintro _ w130 ⟨cs131, rfl, r132, k130⟩
 have z130 := k130.size
 have b130 := old_kp0 b128 k130
 have y130 := b130.size
 obtain ⟨a139, c140, rfl, i133, i134, i135, i136, i137, i138, s141, i142⟩ := Command.el r132
 have ls141 : ((projF ((fewF (c))) ((3 : Int))).chunks).length * 8 ≤ 140737488355328 := s141.lenle
 refine WO.nil ?_
 exact WX.stepDone rfl ⟨[(.int .i64 (projF ((fewF (c))) ((3 : Int))).kind), (.int .i64 (projF ((fewF (c))) ((3 : Int))).client), (.int .i64 (projF ((fewF (c))) ((3 : Int))).seq), (.int .i64 (projF ((fewF (c))) ((3 : Int))).set), (.int .i64 (projF ((fewF (c))) ((3 : Int))).id), (.int .i64 (projF ((fewF (c))) ((3 : Int))).n), (.slice a139 (projF ((fewF (c))) ((3 : Int))).chunks.length c140), (projF ((fewF (c))) ((3 : Int))).text.val], rfl, (Command.mk_ (i133) (i134) (i135) (i136) (i137) (i138) ((s141).mono (lo' := 0) (hi' := w130.heap.size) (Nat.zero_le _) (by omega)) i142)⟩ ((Kp.refl _).step k130 (by simp))
 rintro vs w143 k143 ⟨-⟩
 replace k143 : Kp [] w103 w143 := k143
 have z143 := k143.size
 have b143 := old_kp0 b103 k143
 have y143 := b143.size
 refine WO.haves (fr' := [(2, _)]) ⟨⟨_, rfl, rfl⟩, trivial⟩ ?_
 have B144 := (((((B33).kp0 k34).kp0 n47.kp).kp1 k48 (by omega)).kp0 k103).kp0 k143
 refine WO.v (R.loadBN (vs := [_, _, _, _, _, _, _, _]) rfl B144 rfl Try.underlying24 rfl sz24) rfl ?_
 refine WO.nil ?_
 exact WX.stepDone rfl rfl (Kp.refl _)
 rintro vs w145 k145 ⟨e146, e147, -⟩
 replace k145 : Kp [] w103 w145 := k145
 have z145 := k145.size
 have b145 := old_kp0 b103 k145
 have y145 := b145.size
 obtain ⟨cs148, e149, r150⟩ := e146
 obtain ⟨a157, c158, rfl, i151, i152, i153, i154, i155, i156, s159, i160⟩ := Command.el r150
 have ls159 : ((projF ((fewF (c))) ((3 : Int))).chunks).length * 8 ≤ 140737488355328 := s159.lenle
 refine WO.haves (fr' := [(39, _), (40, _)]) ⟨⟨_, rfl, e149⟩, ⟨_, rfl, e147⟩, trivial⟩ ?_
 refine WO.c (E.call rfl rfl Try.func16 rfl rfl) (same5_s (a := (projF ((fewF (c))) ((3 : Int)))) (b := (fewF (c))) (Command.mk_ (i151) (i152) (i153) (i154) (i155) (i156) ((s159).mono (lo' := 0) (hi' := w145.heap.size) (Nat.zero_le _) (by omega)) i160) (Command.mk_ (i15) (i16) (i17) (i18) (i19) (i20) ((sl_kp0 (sl_kp0 (sl_kp (sl_kp0 (sl_kp0 (sl_kp0 (sl_kp0 (sl_kp0 (sl_kp (s23) k26 (by omega) (mem1 (by omega))) k28 (by omega)) k30 (by omega)) k32 (by omega)) k34 (by omega)) n47.kp (by omega)) k48 (by omega) (mem1 (by omega))) k103 (by omega)) k145 (by omega)).mono (lo' := 0) (hi' := w145.heap.size) (Nat.zero_le _) (by omega)) i24)) rfl ?_
 rintro _ w161 ⟨rfl, k161⟩
 have z161 := k161.size
 have b161 := old_kp0 b145 k161
 have y161 := b161.size
 refine WO.nil ?_
 exact WX.stepDone rfl rfl ((Kp.refl _).step k161 (by simp))
 rintro vs w162 k162 ⟨e163, -⟩
 replace k162 : Kp [] w103 w162 := k162
 have z162 := k162.size
 have b162 := old_kp0 b103 k162
 have y162 := b162.size
 refine WO.haves (fr' := [(41, _)]) ⟨⟨_, rfl, e163⟩, trivial⟩ ?_
 refine WO.v (R.assign rfl) rfl ?_
 refine WO.nil ?_
 exact WX.stepDone rfl rfl (Kp.refl _)
 rintro vs w164 k164 ⟨-, -, -, -, e169, -⟩
 replace k164 : Kp [] w103 w164 := k164
 have z164 := k164.size
 have b164 := old_kp0 b103 k164
 have y164 := b164.size
 refine WO.haves (fr' := [(12, _), (0, _), (1, _), (2, _), (4, _), (5, _), (6, _), (7, _), (8, _), (9, _), (10, _), (11, _)]) ⟨⟨_, rfl, e169⟩, ⟨_, rfl, rfl⟩, ⟨_, rfl, rfl⟩, ⟨_, rfl, rfl⟩, ⟨_, rfl, rfl⟩, ⟨_, rfl, rfl⟩, ⟨_, rfl, rfl⟩, ⟨_, rfl, rfl⟩, ⟨_, rfl, rfl⟩, ⟨_, rfl, rfl⟩, ⟨_, rfl, rfl⟩, ⟨_, rfl, rfl⟩, trivial⟩ ?_
 refine WO.nil ?_
 refine WX.sel [0, 1, 2, 4, 5, 6, 7, 8, 9, 10, 11, 12] rfl ?_
 refine WX.next ?_
 refine WC.seq ?_
 refine WC.seq ?_
 refine WC.region ?_
 refine WO.v (R.move rfl) rfl ?_
 refine WO.v (R.eql rfl rfl) rfl ?_
 refine WO.nil ?_
 refine WX.sel [0, 1, 2, 4, 5, 6, 7, 8, 9, 10, 11, 12, 43] rfl ?_
 refine WX.next ?_
 refine WC.cond rfl (fun q170 => ?_) (fun q170 => ?_)
 have p170 : mayC ((fewF (c))) ((((1 + (version &&& (1 : UInt8)).toNat) : Nat) : Int)) = (0 : Int) := of_decide_eq_true q170
 refine WC.seq ?_
 refine WC.region ?_
 refine WO.v (R.move rfl) rfl ?_
 refine WO.v (R.move rfl) rfl ?_
 refine WO.on rfl rfl rfl ?_
 refine WO.v (R.move rfl) rfl ?_
 refine WO.on rfl rfl rfl ?_
 refine WO.v (R.eql rfl rfl) rfl ?_
 refine WO.v (R.pickT rfl rfl rfl) rfl ?_
 refine WO.v (R.move rfl) rfl ?_
 refine WO.cutP 3 [(52, (.bool ((decide (mayC ((fewF (c))) ((((1 + (version &&& (1 : UInt8)).toNat) + 1 : Nat) : Int)) = (0 : Int))) && (decide ((1 : Int) ≤ needF ((fewF (c)).kind))))))] (fun w' => w164 = w') ?_ ?_
 rcases Bool.eq_false_or_eq_true (decide (mayC ((fewF (c))) ((((1 + (version &&& (1 : UInt8)).toNat) + 1 : Nat) : Int)) = (0 : Int))) with hb171 | hb171
 have phb171 : mayC ((fewF (c))) ((((1 + (version &&& (1 : UInt8)).toNat) + 1 : Nat) : Int)) = (0 : Int) := of_decide_eq_true hb171
 refine WO.on rfl rfl hb171 ?_
 refine WO.v (R.move rfl) rfl ?_
 refine WO.on rfl rfl hb171 ?_
 refine WO.v (R.geq rfl rfl) rfl ?_
 refine WO.v (R.pickT rfl hb171 rfl) rfl ?_
 refine WO.nil ?_
 exact WX.cutDoneP 3 rfl rfl ⟨⟨_, rfl, vb (band_on hb171)⟩, trivial⟩ (rfl)
 have phb171 : ¬ (mayC ((fewF (c))) ((((1 + (version &&& (1 : UInt8)).toNat) + 1 : Nat) : Int)) = (0 : Int)) := of_decide_eq_false hb171
 refine WO.off rfl rfl hb171 rfl ?_
 refine WO.off rfl rfl hb171 rfl ?_
 refine WO.v (R.pickF rfl hb171 rfl) rfl ?_
 refine WO.nil ?_
 exact WX.cutDoneP 3 rfl rfl ⟨⟨_, rfl, vb (band_off hb171)⟩, trivial⟩ (rfl)
 rintro _ rfl
 refine WO.v (R.move rfl) rfl ?_
 refine WO.cutP 4 [(57, (.bool (((decide (mayC ((fewF (c))) ((((1 + (version &&& (1 : UInt8)).toNat) + 1 : Nat) : Int)) = (0 : Int))) && (decide ((1 : Int) ≤ needF ((fewF (c)).kind)))) && (decide (needF ((fewF (c)).kind) ≤ (((1 + (version &&& (1 : UInt8)).toNat) : Nat) : Int))))))] (fun w' => w164 = w') ?_ ?_
 rcases Bool.eq_false_or_eq_true ((decide (mayC ((fewF (c))) ((((1 + (version &&& (1 : UInt8)).toNat) + 1 : Nat) : Int)) = (0 : Int))) && (decide ((1 : Int) ≤ needF ((fewF (c)).kind)))) with hb172 | hb172
 have phb172 : (mayC ((fewF (c))) ((((1 + (version &&& (1 : UInt8)).toNat) + 1 : Nat) : Int)) = (0 : Int)) ∧ ((1 : Int) ≤ needF ((fewF (c)).kind)) := ⟨of_decide_eq_true (band_t hb172).1, of_decide_eq_true (band_t hb172).2⟩
 refine WO.on rfl rfl hb172 ?_
 refine WO.v (R.move rfl) rfl ?_
 refine WO.on rfl rfl hb172 ?_
 refine WO.v (R.move rfl) rfl ?_
 refine WO.on rfl rfl hb172 ?_
 refine WO.v (R.leq rfl rfl) rfl ?_
 refine WO.v (R.pickT rfl hb172 rfl) rfl ?_
 refine WO.nil ?_
 exact WX.cutDoneP 4 rfl rfl ⟨⟨_, rfl, vb (band_on hb172)⟩, trivial⟩ (rfl)
 have phb172 : (¬ (mayC ((fewF (c))) ((((1 + (version &&& (1 : UInt8)).toNat) + 1 : Nat) : Int)) = (0 : Int))) ∨ (¬ ((1 : Int) ≤ needF ((fewF (c)).kind))) := Or.imp (fun h => of_decide_eq_false h) (fun h => of_decide_eq_false h) (band_f hb172)
 refine WO.off rfl rfl hb172 rfl ?_
 refine WO.off rfl rfl hb172 rfl ?_
 refine WO.off rfl rfl hb172 rfl ?_
 refine WO.v (R.pickF rfl hb172 rfl) rfl ?_
 refine WO.nil ?_
 exact WX.cutDoneP 4 rfl rfl ⟨⟨_, rfl, vb (band_off hb172)⟩, trivial⟩ (rfl)
 rintro _ rfl
 refine WO.v (R.move rfl) rfl ?_
 refine WO.cutP 2 [(60, (.bool ((((decide (mayC ((fewF (c))) ((((1 + (version &&& (1 : UInt8)).toNat) + 1 : Nat) : Int)) = (0 : Int))) && (decide ((1 : Int) ≤ needF ((fewF (c)).kind)))) && (decide (needF ((fewF (c)).kind) ≤ (((1 + (version &&& (1 : UInt8)).toNat) : Nat) : Int)))) && (decide (((projF ((projF ((fewF (c))) ((((1 + (version &&& (1 : UInt8)).toNat) : Nat) : Int)))) ((((1 + (version &&& (1 : UInt8)).toNat) : Nat) : Int)))) = ((projF ((fewF (c))) ((((1 + (version &&& (1 : UInt8)).toNat) : Nat) : Int)))))))))] (fun w' => w164 = w') ?_ ?_
 rcases Bool.eq_false_or_eq_true (((decide (mayC ((fewF (c))) ((((1 + (version &&& (1 : UInt8)).toNat) + 1 : Nat) : Int)) = (0 : Int))) && (decide ((1 : Int) ≤ needF ((fewF (c)).kind)))) && (decide (needF ((fewF (c)).kind) ≤ (((1 + (version &&& (1 : UInt8)).toNat) : Nat) : Int)))) with hb173 | hb173
 have phb173 : ((mayC ((fewF (c))) ((((1 + (version &&& (1 : UInt8)).toNat) + 1 : Nat) : Int)) = (0 : Int)) ∧ ((1 : Int) ≤ needF ((fewF (c)).kind))) ∧ (needF ((fewF (c)).kind) ≤ (((1 + (version &&& (1 : UInt8)).toNat) : Nat) : Int)) := ⟨⟨of_decide_eq_true (band_t (band_t hb173).1).1, of_decide_eq_true (band_t (band_t hb173).1).2⟩, of_decide_eq_true (band_t hb173).2⟩
 refine WO.on rfl rfl hb173 ?_
 refine WO.v (R.move rfl) rfl ?_
 refine WO.v (R.pickT rfl hb173 rfl) rfl ?_
 refine WO.nil ?_
 exact WX.cutDoneP 2 rfl rfl ⟨⟨_, rfl, vb (band_on hb173)⟩, trivial⟩ (rfl)
 have phb173 : ((¬ (mayC ((fewF (c))) ((((1 + (version &&& (1 : UInt8)).toNat) + 1 : Nat) : Int)) = (0 : Int))) ∨ (¬ ((1 : Int) ≤ needF ((fewF (c)).kind)))) ∨ (¬ (needF ((fewF (c)).kind) ≤ (((1 + (version &&& (1 : UInt8)).toNat) : Nat) : Int))) := Or.imp (fun h => Or.imp (fun h => of_decide_eq_false h) (fun h => of_decide_eq_false h) (band_f h)) (fun h => of_decide_eq_false h) (band_f hb173)
 refine WO.off rfl rfl hb173 rfl ?_
 refine WO.v (R.pickF rfl hb173 rfl) rfl ?_
 refine WO.nil ?_
 exact WX.cutDoneP 2 rfl rfl ⟨⟨_, rfl, vb (band_off hb173)⟩, trivial⟩ (rfl)
 rintro _ rfl
 refine WO.v (R.move rfl) rfl ?_
 refine WO.cutP 2 [(63, (.bool (((((decide (mayC ((fewF (c))) ((((1 + (version &&& (1 : UInt8)).toNat) + 1 : Nat) : Int)) = (0 : Int))) && (decide ((1 : Int) ≤ needF ((fewF (c)).kind)))) && (decide (needF ((fewF (c)).kind) ≤ (((1 + (version &&& (1 : UInt8)).toNat) : Nat) : Int)))) && (decide (((projF ((projF ((fewF (c))) ((((1 + (version &&& (1 : UInt8)).toNat) : Nat) : Int)))) ((((1 + (version &&& (1 : UInt8)).toNat) : Nat) : Int)))) = ((projF ((fewF (c))) ((((1 + (version &&& (1 : UInt8)).toNat) : Nat) : Int))))))) && (decide (((projF ((fewF (c))) ((3 : Int)))) = ((fewF (c))))))))] (fun w' => w164 = w') ?_ ?_
 rcases Bool.eq_false_or_eq_true ((((decide (mayC ((fewF (c))) ((((1 + (version &&& (1 : UInt8)).toNat) + 1 : Nat) : Int)) = (0 : Int))) && (decide ((1 : Int) ≤ needF ((fewF (c)).kind)))) && (decide (needF ((fewF (c)).kind) ≤ (((1 + (version &&& (1 : UInt8)).toNat) : Nat) : Int)))) && (decide (((projF ((projF ((fewF (c))) ((((1 + (version &&& (1 : UInt8)).toNat) : Nat) : Int)))) ((((1 + (version &&& (1 : UInt8)).toNat) : Nat) : Int)))) = ((projF ((fewF (c))) ((((1 + (version &&& (1 : UInt8)).toNat) : Nat) : Int))))))) with hb174 | hb174
 have phb174 : (((mayC ((fewF (c))) ((((1 + (version &&& (1 : UInt8)).toNat) + 1 : Nat) : Int)) = (0 : Int)) ∧ ((1 : Int) ≤ needF ((fewF (c)).kind))) ∧ (needF ((fewF (c)).kind) ≤ (((1 + (version &&& (1 : UInt8)).toNat) : Nat) : Int))) ∧ ((decide (((projF ((projF ((fewF (c))) ((((1 + (version &&& (1 : UInt8)).toNat) : Nat) : Int)))) ((((1 + (version &&& (1 : UInt8)).toNat) : Nat) : Int)))) = ((projF ((fewF (c))) ((((1 + (version &&& (1 : UInt8)).toNat) : Nat) : Int)))))) = true) := ⟨⟨⟨of_decide_eq_true (band_t (band_t (band_t hb174).1).1).1, of_decide_eq_true (band_t (band_t (band_t hb174).1).1).2⟩, of_decide_eq_true (band_t (band_t hb174).1).2⟩, (band_t hb174).2⟩
 refine WO.on rfl rfl hb174 ?_
 refine WO.v (R.move rfl) rfl ?_
 refine WO.v (R.pickT rfl hb174 rfl) rfl ?_
 refine WO.nil ?_
 exact WX.cutDoneP 2 rfl rfl ⟨⟨_, rfl, vb (band_on hb174)⟩, trivial⟩ (rfl)
 have phb174 : (((¬ (mayC ((fewF (c))) ((((1 + (version &&& (1 : UInt8)).toNat) + 1 : Nat) : Int)) = (0 : Int))) ∨ (¬ ((1 : Int) ≤ needF ((fewF (c)).kind)))) ∨ (¬ (needF ((fewF (c)).kind) ≤ (((1 + (version &&& (1 : UInt8)).toNat) : Nat) : Int)))) ∨ ((decide (((projF ((projF ((fewF (c))) ((((1 + (version &&& (1 : UInt8)).toNat) : Nat) : Int)))) ((((1 + (version &&& (1 : UInt8)).toNat) : Nat) : Int)))) = ((projF ((fewF (c))) ((((1 + (version &&& (1 : UInt8)).toNat) : Nat) : Int)))))) = false) := Or.imp (fun h => Or.imp (fun h => Or.imp (fun h => of_decide_eq_false h) (fun h => of_decide_eq_false h) (band_f h)) (fun h => of_decide_eq_false h) (band_f h)) (fun h => h) (band_f hb174)
 refine WO.off rfl rfl hb174 rfl ?_
 refine WO.v (R.pickF rfl hb174 rfl) rfl ?_
 refine WO.nil ?_
 exact WX.cutDoneP 2 rfl rfl ⟨⟨_, rfl, vb (band_off hb174)⟩, trivial⟩ (rfl)
 rintro _ rfl
 refine WO.v (R.assign rfl) rfl ?_
 refine WO.nil ?_
 refine WX.sel [0, 1, 2, 4, 5, 6, 7, 8, 9, 10, 11, 12, 43] rfl ?_
 refine WX.next ?_
 refine WC.ret ?_
 refine WX.thenRet ?_
 have e0 : (((((decide (mayC ((fewF (c))) ((((1 + (version &&& (1 : UInt8)).toNat) + 1 : Nat) : Int)) = (0 : Int))) && (decide ((1 : Int) ≤ needF ((fewF (c)).kind)))) && (decide (needF ((fewF (c)).kind) ≤ (((1 + (version &&& (1 : UInt8)).toNat) : Nat) : Int)))) && (decide (((projF ((projF ((fewF (c))) ((((1 + (version &&& (1 : UInt8)).toNat) : Nat) : Int)))) ((((1 + (version &&& (1 : UInt8)).toNat) : Nat) : Int)))) = ((projF ((fewF (c))) ((((1 + (version &&& (1 : UInt8)).toNat) : Nat) : Int))))))) && (decide (((projF ((fewF (c))) ((3 : Int)))) = ((fewF (c)))))) = true := by first | exact grow1 (by have := and1 version; omega) (by have := and1 version; omega) (by omega) | exact grow2 (by have := and1 version; omega) (by have := and1 version; omega) (by omega)
 refine WX.ret1 Try.results5 rfl ?_
 exact ⟨by rw [e0], Kp.of_below b164⟩
 have p170 : ¬ (mayC ((fewF (c))) ((((1 + (version &&& (1 : UInt8)).toNat) : Nat) : Int)) = (0 : Int)) := of_decide_eq_false q170
 refine WC.skip ?_
 refine WX.next ?_
 refine WC.seq ?_
 refine WC.region ?_
 refine WO.v (R.move rfl) rfl ?_
 refine WO.v (R.move rfl) rfl ?_
 refine WO.on rfl rfl rfl ?_
 refine WO.v (R.move rfl) rfl ?_
 refine WO.on rfl rfl rfl ?_
 refine WO.v (R.eql rfl rfl) rfl ?_
 refine WO.on rfl rfl rfl ?_
 refine WO.v (R.move rfl) rfl ?_
 refine WO.on rfl rfl rfl ?_
 refine WO.v (R.move rfl) rfl ?_
 refine WO.on rfl rfl rfl ?_
 refine WO.v (R.gtr rfl rfl) rfl ?_
 refine WO.on rfl rfl rfl ?_
 refine WO.v (R.eqlB rfl rfl Try.underlying4) rfl ?_
 refine WO.v (R.pickT rfl rfl rfl) rfl ?_
 refine WO.v (R.move rfl) rfl ?_
 refine WO.cutP 8 [(81, (.bool ((((decide (mayC ((fewF (c))) ((((1 + (version &&& (1 : UInt8)).toNat) : Nat) : Int)) = (10 : Int))) == (decide ((((1 + (version &&& (1 : UInt8)).toNat) : Nat) : Int) < needF ((fewF (c)).kind))))) && ((decide (mayC ((fewF (c))) ((((1 + (version &&& (1 : UInt8)).toNat) : Nat) : Int)) = (10 : Int))) || (decide (mayC ((fewF (c))) ((((1 + (version &&& (1 : UInt8)).toNat) + 1 : Nat) : Int)) = mayC ((fewF (c))) ((((1 + (version &&& (1 : UInt8)).toNat) : Nat) : Int))))))))] (fun w' => w164 = w') ?_ ?_
 rcases Bool.eq_false_or_eq_true (((decide (mayC ((fewF (c))) ((((1 + (version &&& (1 : UInt8)).toNat) : Nat) : Int)) = (10 : Int))) == (decide ((((1 + (version &&& (1 : UInt8)).toNat) : Nat) : Int) < needF ((fewF (c)).kind))))) with hb175 | hb175
 have phb175 : (((decide (mayC ((fewF (c))) ((((1 + (version &&& (1 : UInt8)).toNat) : Nat) : Int)) = (10 : Int))) == (decide ((((1 + (version &&& (1 : UInt8)).toNat) : Nat) : Int) < needF ((fewF (c)).kind))))) = true := hb175
 refine WO.on rfl rfl hb175 ?_
 refine WO.v (R.move rfl) rfl ?_
 refine WO.on rfl rfl hb175 ?_
 refine WO.v (R.eql rfl rfl) rfl ?_
 refine WO.on rfl rfl hb175 ?_
 refine WO.v (R.move rfl) rfl ?_
 refine WO.cutP 4 [(80, (.bool ((decide (mayC ((fewF (c))) ((((1 + (version &&& (1 : UInt8)).toNat) : Nat) : Int)) = (10 : Int))) || (decide (mayC ((fewF (c))) ((((1 + (version &&& (1 : UInt8)).toNat) + 1 : Nat) : Int)) = mayC ((fewF (c))) ((((1 + (version &&& (1 : UInt8)).toNat) : Nat) : Int)))))))] (fun w' => w164 = w') ?_ ?_
 rcases Bool.eq_false_or_eq_true (decide (mayC ((fewF (c))) ((((1 + (version &&& (1 : UInt8)).toNat) : Nat) : Int)) = (10 : Int))) with hb176 | hb176
 have phb176 : mayC ((fewF (c))) ((((1 + (version &&& (1 : UInt8)).toNat) : Nat) : Int)) = (10 : Int) := of_decide_eq_true hb176
 refine WO.off rfl rfl hb176 rfl ?_
 refine WO.off rfl rfl hb176 rfl ?_
 refine WO.off rfl rfl hb176 rfl ?_
 refine WO.on rfl rfl hb175 ?_
 refine WO.v (R.pickT rfl hb176 rfl) rfl ?_
 refine WO.nil ?_
 exact WX.cutDoneP 4 rfl rfl ⟨⟨_, rfl, vb (bor_on hb176)⟩, trivial⟩ (rfl)
 have phb176 : ¬ (mayC ((fewF (c))) ((((1 + (version &&& (1 : UInt8)).toNat) : Nat) : Int)) = (10 : Int)) := of_decide_eq_false hb176
 refine WO.on rfl rfl hb176 ?_
 refine WO.v (R.move rfl) rfl ?_
 refine WO.on rfl rfl hb176 ?_
 refine WO.v (R.move rfl) rfl ?_
 refine WO.on rfl rfl hb176 ?_
 refine WO.v (R.eql rfl rfl) rfl ?_
 refine WO.on rfl rfl hb175 ?_
 refine WO.v (R.pickF rfl hb176 rfl) rfl ?_
 refine WO.nil ?_
 exact WX.cutDoneP 4 rfl rfl ⟨⟨_, rfl, vb (bor_off hb176)⟩, trivial⟩ (rfl)
 rintro _ rfl
 refine WO.v (R.pickT rfl hb175 rfl) rfl ?_
 refine WO.nil ?_
 exact WX.cutDoneP 5 rfl rfl ⟨⟨_, rfl, vb (band_on hb175)⟩, trivial⟩ (rfl)
 have phb175 : (((decide (mayC ((fewF (c))) ((((1 + (version &&& (1 : UInt8)).toNat) : Nat) : Int)) = (10 : Int))) == (decide ((((1 + (version &&& (1 : UInt8)).toNat) : Nat) : Int) < needF ((fewF (c)).kind))))) = false := hb175
 refine WO.off rfl rfl hb175 rfl ?_
 refine WO.off rfl rfl hb175 rfl ?_
 refine WO.off rfl rfl hb175 rfl ?_
 refine WO.offU rfl rfl rfl ?_
 refine WO.offU rfl rfl rfl ?_
 refine WO.offU rfl rfl rfl ?_
 refine WO.off rfl rfl hb175 rfl ?_
 refine WO.v (R.pickF rfl hb175 rfl) rfl ?_
 refine WO.nil ?_
 exact WX.cutDoneP 8 rfl rfl ⟨⟨_, rfl, vb (band_off hb175)⟩, trivial⟩ (rfl)
 rintro _ rfl
 refine WO.v (R.move rfl) rfl ?_
 refine WO.cutP 2 [(84, (.bool (((((decide (mayC ((fewF (c))) ((((1 + (version &&& (1 : UInt8)).toNat) : Nat) : Int)) = (10 : Int))) == (decide ((((1 + (version &&& (1 : UInt8)).toNat) : Nat) : Int) < needF ((fewF (c)).kind))))) && ((decide (mayC ((fewF (c))) ((((1 + (version &&& (1 : UInt8)).toNat) : Nat) : Int)) = (10 : Int))) || (decide (mayC ((fewF (c))) ((((1 + (version &&& (1 : UInt8)).toNat) + 1 : Nat) : Int)) = mayC ((fewF (c))) ((((1 + (version &&& (1 : UInt8)).toNat) : Nat) : Int)))))) && (decide (((projF ((projF ((fewF (c))) ((((1 + (version &&& (1 : UInt8)).toNat) : Nat) : Int)))) ((((1 + (version &&& (1 : UInt8)).toNat) : Nat) : Int)))) = ((projF ((fewF (c))) ((((1 + (version &&& (1 : UInt8)).toNat) : Nat) : Int)))))))))] (fun w' => w164 = w') ?_ ?_
 rcases Bool.eq_false_or_eq_true ((((decide (mayC ((fewF (c))) ((((1 + (version &&& (1 : UInt8)).toNat) : Nat) : Int)) = (10 : Int))) == (decide ((((1 + (version &&& (1 : UInt8)).toNat) : Nat) : Int) < needF ((fewF (c)).kind))))) && ((decide (mayC ((fewF (c))) ((((1 + (version &&& (1 : UInt8)).toNat) : Nat) : Int)) = (10 : Int))) || (decide (mayC ((fewF (c))) ((((1 + (version &&& (1 : UInt8)).toNat) + 1 : Nat) : Int)) = mayC ((fewF (c))) ((((1 + (version &&& (1 : UInt8)).toNat) : Nat) : Int)))))) with hb177 | hb177
 have phb177 : ((((decide (mayC ((fewF (c))) ((((1 + (version &&& (1 : UInt8)).toNat) : Nat) : Int)) = (10 : Int))) == (decide ((((1 + (version &&& (1 : UInt8)).toNat) : Nat) : Int) < needF ((fewF (c)).kind))))) = true) ∧ ((mayC ((fewF (c))) ((((1 + (version &&& (1 : UInt8)).toNat) : Nat) : Int)) = (10 : Int)) ∨ (mayC ((fewF (c))) ((((1 + (version &&& (1 : UInt8)).toNat) + 1 : Nat) : Int)) = mayC ((fewF (c))) ((((1 + (version &&& (1 : UInt8)).toNat) : Nat) : Int)))) := ⟨(band_t hb177).1, Or.imp (fun h => of_decide_eq_true h) (fun h => of_decide_eq_true h) (bor_t (band_t hb177).2)⟩
 refine WO.on rfl rfl hb177 ?_
 refine WO.v (R.move rfl) rfl ?_
 refine WO.v (R.pickT rfl hb177 rfl) rfl ?_
 refine WO.nil ?_
 exact WX.cutDoneP 2 rfl rfl ⟨⟨_, rfl, vb (band_on hb177)⟩, trivial⟩ (rfl)
 have phb177 : ((((decide (mayC ((fewF (c))) ((((1 + (version &&& (1 : UInt8)).toNat) : Nat) : Int)) = (10 : Int))) == (decide ((((1 + (version &&& (1 : UInt8)).toNat) : Nat) : Int) < needF ((fewF (c)).kind))))) = false) ∨ ((¬ (mayC ((fewF (c))) ((((1 + (version &&& (1 : UInt8)).toNat) : Nat) : Int)) = (10 : Int))) ∧ (¬ (mayC ((fewF (c))) ((((1 + (version &&& (1 : UInt8)).toNat) + 1 : Nat) : Int)) = mayC ((fewF (c))) ((((1 + (version &&& (1 : UInt8)).toNat) : Nat) : Int))))) := Or.imp (fun h => h) (fun h => ⟨of_decide_eq_false (bor_f h).1, of_decide_eq_false (bor_f h).2⟩) (band_f hb177)
 refine WO.off rfl rfl hb177 rfl ?_
 refine WO.v (R.pickF rfl hb177 rfl) rfl ?_
 refine WO.nil ?_
 exact WX.cutDoneP 2 rfl rfl ⟨⟨_, rfl, vb (band_off hb177)⟩, trivial⟩ (rfl)
 rintro _ rfl
 refine WO.v (R.move rfl) rfl ?_
 refine WO.cutP 2 [(87, (.bool ((((((decide (mayC ((fewF (c))) ((((1 + (version &&& (1 : UInt8)).toNat) : Nat) : Int)) = (10 : Int))) == (decide ((((1 + (version &&& (1 : UInt8)).toNat) : Nat) : Int) < needF ((fewF (c)).kind))))) && ((decide (mayC ((fewF (c))) ((((1 + (version &&& (1 : UInt8)).toNat) : Nat) : Int)) = (10 : Int))) || (decide (mayC ((fewF (c))) ((((1 + (version &&& (1 : UInt8)).toNat) + 1 : Nat) : Int)) = mayC ((fewF (c))) ((((1 + (version &&& (1 : UInt8)).toNat) : Nat) : Int)))))) && (decide (((projF ((projF ((fewF (c))) ((((1 + (version &&& (1 : UInt8)).toNat) : Nat) : Int)))) ((((1 + (version &&& (1 : UInt8)).toNat) : Nat) : Int)))) = ((projF ((fewF (c))) ((((1 + (version &&& (1 : UInt8)).toNat) : Nat) : Int))))))) && (decide (((projF ((fewF (c))) ((3 : Int)))) = ((fewF (c))))))))] (fun w' => w164 = w') ?_ ?_
 rcases Bool.eq_false_or_eq_true (((((decide (mayC ((fewF (c))) ((((1 + (version &&& (1 : UInt8)).toNat) : Nat) : Int)) = (10 : Int))) == (decide ((((1 + (version &&& (1 : UInt8)).toNat) : Nat) : Int) < needF ((fewF (c)).kind))))) && ((decide (mayC ((fewF (c))) ((((1 + (version &&& (1 : UInt8)).toNat) : Nat) : Int)) = (10 : Int))) || (decide (mayC ((fewF (c))) ((((1 + (version &&& (1 : UInt8)).toNat) + 1 : Nat) : Int)) = mayC ((fewF (c))) ((((1 + (version &&& (1 : UInt8)).toNat) : Nat) : Int)))))) && (decide (((projF ((projF ((fewF (c))) ((((1 + (version &&& (1 : UInt8)).toNat) : Nat) : Int)))) ((((1 + (version &&& (1 : UInt8)).toNat) : Nat) : Int)))) = ((projF ((fewF (c))) ((((1 + (version &&& (1 : UInt8)).toNat) : Nat) : Int))))))) with hb178 | hb178
 have phb178 : (((((decide (mayC ((fewF (c))) ((((1 + (version &&& (1 : UInt8)).toNat) : Nat) : Int)) = (10 : Int))) == (decide ((((1 + (version &&& (1 : UInt8)).toNat) : Nat) : Int) < needF ((fewF (c)).kind))))) = true) ∧ ((mayC ((fewF (c))) ((((1 + (version &&& (1 : UInt8)).toNat) : Nat) : Int)) = (10 : Int)) ∨ (mayC ((fewF (c))) ((((1 + (version &&& (1 : UInt8)).toNat) + 1 : Nat) : Int)) = mayC ((fewF (c))) ((((1 + (version &&& (1 : UInt8)).toNat) : Nat) : Int))))) ∧ ((decide (((projF ((projF ((fewF (c))) ((((1 + (version &&& (1 : UInt8)).toNat) : Nat) : Int)))) ((((1 + (version &&& (1 : UInt8)).toNat) : Nat) : Int)))) = ((projF ((fewF (c))) ((((1 + (version &&& (1 : UInt8)).toNat) : Nat) : Int)))))) = true) := ⟨⟨(band_t (band_t hb178).1).1, Or.imp (fun h => of_decide_eq_true h) (fun h => of_decide_eq_true h) (bor_t (band_t (band_t hb178).1).2)⟩, (band_t hb178).2⟩
 refine WO.on rfl rfl hb178 ?_
 refine WO.v (R.move rfl) rfl ?_
 refine WO.v (R.pickT rfl hb178 rfl) rfl ?_
 refine WO.nil ?_
 exact WX.cutDoneP 2 rfl rfl ⟨⟨_, rfl, vb (band_on hb178)⟩, trivial⟩ (rfl)
 have phb178 : (((((decide (mayC ((fewF (c))) ((((1 + (version &&& (1 : UInt8)).toNat) : Nat) : Int)) = (10 : Int))) == (decide ((((1 + (version &&& (1 : UInt8)).toNat) : Nat) : Int) < needF ((fewF (c)).kind))))) = false) ∨ ((¬ (mayC ((fewF (c))) ((((1 + (version &&& (1 : UInt8)).toNat) : Nat) : Int)) = (10 : Int))) ∧ (¬ (mayC ((fewF (c))) ((((1 + (version &&& (1 : UInt8)).toNat) + 1 : Nat) : Int)) = mayC ((fewF (c))) ((((1 + (version &&& (1 : UInt8)).toNat) : Nat) : Int)))))) ∨ ((decide (((projF ((projF ((fewF (c))) ((((1 + (version &&& (1 : UInt8)).toNat) : Nat) : Int)))) ((((1 + (version &&& (1 : UInt8)).toNat) : Nat) : Int)))) = ((projF ((fewF (c))) ((((1 + (version &&& (1 : UInt8)).toNat) : Nat) : Int)))))) = false) := Or.imp (fun h => Or.imp (fun h => h) (fun h => ⟨of_decide_eq_false (bor_f h).1, of_decide_eq_false (bor_f h).2⟩) (band_f h)) (fun h => h) (band_f hb178)
 refine WO.off rfl rfl hb178 rfl ?_
 refine WO.v (R.pickF rfl hb178 rfl) rfl ?_
 refine WO.nil ?_
 exact WX.cutDoneP 2 rfl rfl ⟨⟨_, rfl, vb (band_off hb178)⟩, trivial⟩ (rfl)
 rintro _ rfl
 refine WO.v (R.assign rfl) rfl ?_
 refine WO.nil ?_
 refine WX.sel [0, 1, 2, 4, 5, 6, 7, 8, 9, 10, 11, 12, 43] rfl ?_
 refine WX.next ?_
 refine WC.ret ?_
 have e0 : ((((((decide (mayC ((fewF (c))) ((((1 + (version &&& (1 : UInt8)).toNat) : Nat) : Int)) = (10 : Int))) == (decide ((((1 + (version &&& (1 : UInt8)).toNat) : Nat) : Int) < needF ((fewF (c)).kind))))) && ((decide (mayC ((fewF (c))) ((((1 + (version &&& (1 : UInt8)).toNat) : Nat) : Int)) = (10 : Int))) || (decide (mayC ((fewF (c))) ((((1 + (version &&& (1 : UInt8)).toNat) + 1 : Nat) : Int)) = mayC ((fewF (c))) ((((1 + (version &&& (1 : UInt8)).toNat) : Nat) : Int)))))) && (decide (((projF ((projF ((fewF (c))) ((((1 + (version &&& (1 : UInt8)).toNat) : Nat) : Int)))) ((((1 + (version &&& (1 : UInt8)).toNat) : Nat) : Int)))) = ((projF ((fewF (c))) ((((1 + (version &&& (1 : UInt8)).toNat) : Nat) : Int))))))) && (decide (((projF ((fewF (c))) ((3 : Int)))) = ((fewF (c)))))) = true := by first | exact grow1 (by have := and1 version; omega) (by have := and1 version; omega) (by omega) | exact grow2 (by have := and1 version; omega) (by have := and1 version; omega) (by omega)
 refine WX.ret1 Try.results5 rfl ?_
 exact ⟨by rw [e0], Kp.of_below b164⟩


end Go.Proofs.Ytfmlgeeogbhppaa
