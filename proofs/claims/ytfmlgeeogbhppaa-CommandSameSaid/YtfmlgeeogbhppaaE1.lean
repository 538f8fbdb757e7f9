/- Contracts of functions, walked operation by operation. -/
import Derived.Test.YtfmlgeeogbhppaaD9
namespace Go.Proofs.Ytfmlgeeogbhppaa
open Go.RowKit

theorem sm1 {p : Prop} {b : Bool} {h : Prop} (L : b = true ∧ h) (hb : b = false) : p := by rw [L.1] at hb; cases hb
theorem sm2 {p : Prop} {a : Command} {v : Int} {b : Bool} {q : Prop} (L : b = true ∧ putCE a [f99] v = 0 ∧ q) (h : decide (putCE a [f99] v = (0 : Int)) = false) : p := by rw [L.2.1] at h; cases h
theorem sm3 {p : Prop} {a : Command} {v : Int} {b : Bool} {q : Prop} (L : b = true ∧ q ∧ putCB a [f99] v = putCB a [] v ++ fieldB f99) (h : decide ((((putCB a [f99] v).length : Nat) : Int) = (((putCB a [] v).length + 3 : Nat) : Int)) = false) : p := by
  rw [L.2.2, List.length_append, f99_len] at h; simp at h
theorem sm4 {a : Command} {v : Int} {b : Bool} {q : Prop} (L : b = true ∧ q ∧ putCB a [f99] v = putCB a [] v ++ fieldB f99) : decide ((⟨(putCB a [f99] v).take (putCB a [] v).length⟩ : Str) = ⟨putCB a [] v⟩) = true := by
  rw [L.2.2, List.take_left]; simp



set_option maxRecDepth 100000 in
set_option maxHeartbeats 1000000 in
theorem cmdsame_s {w : World} {cs_a : List Value} {a : Command} {cs_b : List Value} {b : Command} (version : UInt8) (h_a : Rp.rp false 0 w.heap.size w cs_a a) (h_b : Rp.rp false 0 w.heap.size w cs_b b) :
    Ret Try.prog 4 [.agg cs_a.toArray, .agg cs_b.toArray, .int .u8 (version.toNat : Int)].toArray w fun r w' => r = .bool true ∧ Kp [] w w' := by
 obtain ⟨a7, c8, rfl, i1, i2, i3, i4, i5, i6, s9, i10⟩ := Command.el h_a
 have ls9 : (a.chunks).length * 8 ≤ 140737488355328 := s9.lenle
 obtain ⟨a17, c18, rfl, i11, i12, i13, i14, i15, i16, s19, i20⟩ := Command.el h_b
 have ls19 : (b.chunks).length * 8 ≤ 140737488355328 := s19.lenle
 refine Ret.enter Try.func4 rfl Try.ntmps4 rfl rfl ?_
 refine WC.sel [0, 1, 2] rfl ?_
 refine WC.seq ?_
 refine WC.region ?_
 refine WO.box rfl rfl rfl ?_
 intro w21 n21
 have z21 := n21.lt
 have b21 := old_kp0 (Below.refl w.heap.size w) n21.kp
 have y21 := b21.size
 refine WO.box rfl rfl rfl ?_
 intro w22 n22
 have z22 := n22.lt
 have b22 := old_kp0 b21 n22.kp
 have y22 := b22.size
 refine WO.v (R.assign rfl) rfl ?_
 refine WO.nil ?_
 refine WX.sel [0, 1, 2, 3, 4, 6] rfl ?_
 refine WX.next ?_
 refine WC.seq ?_
 refine WC.region ?_
 refine WO.c (E.call rfl rfl Try.func11 rfl rfl) (shown5_s  ) rfl ?_
 rintro _ w23 ⟨rfl, k23⟩
 have z23 := k23.size
 have b23 := old_kp0 b22 k23
 have y23 := b23.size
 refine WO.v (R.assign rfl) rfl ?_
 refine WO.nil ?_
 refine WX.sel [0, 1, 2, 3, 4, 6, 7] rfl ?_
 refine WX.next ?_
 refine WC.seq ?_
 refine WC.region ?_
 have B24 := ((n21.blk).kp0 n22.kp).kp0 k23
 refine WO.v (R.loadBN (vs := [_, _, _, _, _, _, _, _]) rfl B24 rfl Try.underlying24 rfl sz24) rfl ?_
 refine WO.c (E.call rfl rfl Try.func13 rfl rfl) (few_s (c := a) (B := w.heap.size) (by omega) (Command.mk_ (i1) (i2) (i3) (i4) (i5) (i6) ((sl_old s9 b23).mono (lo' := 0) (hi' := w.heap.size) (Nat.zero_le _) (by omega)) i10)) rfl ?_
 rintro _ w25 ⟨a32, c33, rfl, i26, i27, i28, i29, i30, i31, s34, i35, k25⟩
 have z25 := k25.size
 have b25 := old_kp0 b23 k25
 have y25 := b25.size
 have ls34 : ((fewF (a)).chunks).length * 8 ≤ 140737488355328 := s34.lenle
 have B36 := (B24).kp0 k25
 refine WO.storeBN rfl rfl B36 rfl (by simp [Value.oneCell', Str.val]) sz24 ?_
 intro w37 k37 B37 z_37
 have z37 := z_37.symm
 have b37 := old_kp b25 k37 (mem1 (by omega))
 have y37 := b37.size
 refine WO.nil ?_
 refine WX.sel [0, 1, 2, 3, 4, 6, 7] rfl ?_
 refine WX.next ?_
 refine WC.seq ?_
 refine WC.region ?_
 have B38 := (((n22.blk).kp0 k23).kp0 k25).kp1 k37 (by omega)
 refine WO.v (R.loadBN (vs := [_, _, _, _, _, _, _, _]) rfl B38 rfl Try.underlying24 rfl sz24) rfl ?_
 refine WO.c (E.call rfl rfl Try.func13 rfl rfl) (few_s (c := b) (B := w.heap.size) (by omega) (Command.mk_ (i11) (i12) (i13) (i14) (i15) (i16) ((sl_old s19 b37).mono (lo' := 0) (hi' := w.heap.size) (Nat.zero_le _) (by omega)) i20)) rfl ?_
 rintro _ w39 ⟨a46, c47, rfl, i40, i41, i42, i43, i44, i45, s48, i49, k39⟩
 have z39 := k39.size
 have b39 := old_kp0 b37 k39
 have y39 := b39.size
 have ls48 : ((fewF (b)).chunks).length * 8 ≤ 140737488355328 := s48.lenle
 have B50 := (B38).kp0 k39
 refine WO.storeBN rfl rfl B50 rfl (by simp [Value.oneCell', Str.val]) sz24 ?_
 intro w51 k51 B51 z_51
 have z51 := z_51.symm
 have b51 := old_kp b39 k51 (mem1 (by omega))
 have y51 := b51.size
 refine WO.nil ?_
 refine WX.sel [0, 1, 2, 3, 4, 6, 7] rfl ?_
 refine WX.next ?_
 refine WC.seq ?_
 refine WC.region ?_
 refine WO.v (R.move rfl) rfl ?_
 have u51 := UInt8.toNat_lt version
 refine WO.v (R.convU8 (b := version) rfl Try.underlying5 Try.underlying3) rfl ?_
 refine WO.v (R.remN (a := version.toNat) (b := 3) rfl rfl (by omega)) rfl ?_
 refine WO.v (R.addN (a := 1) (b := (version.toNat % 3)) rfl rfl (by omega)) rfl ?_
 refine WO.v (R.assign rfl) rfl ?_
 refine WO.nil ?_
 refine WX.sel [0, 1, 2, 3, 4, 6, 7, 8] rfl ?_
 refine WX.next ?_
 refine WC.seq ?_
 refine WC.region ?_
 have B53 := ((B37).kp0 k39).kp1 k51 (by omega)
 refine WO.v (R.loadBN (vs := [_, _, _, _, _, _, _, _]) rfl B53 rfl Try.underlying24 rfl sz24) rfl ?_
 refine WO.v (R.move rfl) rfl ?_
 refine WO.c (E.call rfl rfl Try.func12 rfl rfl) (putC_s (v := (((1 + (version.toNat % 3)) : Nat) : Int)) (rest := []) (a_rest := none) (c_rest := 0) (c := (fewF (a))) (Command.mk_ (i26) (i27) (i28) (i29) (i30) (i31) ((sl_kp (sl_kp0 (sl_kp (s34) k37 (by omega) (mem1 (by omega))) k39 (by omega)) k51 (by omega) (mem1 (by omega))).mono (lo' := 0) (hi' := w51.heap.size) (Nat.zero_le _) (by omega)) i35) (Sl.nil _ _ _ _) (by first | omega | simp)) rfl ?_
 rintro _ w54 ⟨a55, c56, rfl, s57, k54⟩
 have ls57 : (putCB ((fewF (a))) ([]) ((((1 + (version.toNat % 3)) : Nat) : Int))).length * 1 ≤ 140737488355328 := s57.lenle
 have z54 := k54.size
 have b54 := old_kp0 b51 k54
 have y54 := b54.size
 refine WO.v (R.move rfl) rfl ?_
 refine WO.v (R.extract rfl rfl) rfl ?_
 refine WO.v (R.extract rfl rfl) rfl ?_
 refine WO.v (R.assign rfl) rfl ?_
 refine WO.v (R.assign rfl) rfl ?_
 refine WO.nil ?_
 refine WX.sel [0, 1, 2, 3, 4, 6, 7, 8, 9, 10] rfl ?_
 refine WX.next ?_
 refine WC.seq ?_
 refine WC.region ?_
 have B58 := (B51).kp0 k54
 refine WO.v (R.loadBN (vs := [_, _, _, _, _, _, _, _]) rfl B58 rfl Try.underlying24 rfl sz24) rfl ?_
 refine WO.v (R.move rfl) rfl ?_
 refine WO.c (E.call rfl rfl Try.func12 rfl rfl) (putC_s (v := (((1 + (version.toNat % 3)) : Nat) : Int)) (rest := []) (a_rest := none) (c_rest := 0) (c := (fewF (b))) (Command.mk_ (i40) (i41) (i42) (i43) (i44) (i45) ((sl_kp0 (sl_kp (s48) k51 (by omega) (mem1 (by omega))) k54 (by omega)).mono (lo' := 0) (hi' := w54.heap.size) (Nat.zero_le _) (by omega)) i49) (Sl.nil _ _ _ _) (by first | omega | simp)) rfl ?_
 rintro _ w59 ⟨a60, c61, rfl, s62, k59⟩
 have ls62 : (putCB ((fewF (b))) ([]) ((((1 + (version.toNat % 3)) : Nat) : Int))).length * 1 ≤ 140737488355328 := s62.lenle
 have z59 := k59.size
 have b59 := old_kp0 b54 k59
 have y59 := b59.size
 refine WO.v (R.move rfl) rfl ?_
 refine WO.v (R.extract rfl rfl) rfl ?_
 refine WO.v (R.extract rfl rfl) rfl ?_
 refine WO.v (R.assign rfl) rfl ?_
 refine WO.v (R.assign rfl) rfl ?_
 refine WO.nil ?_
 refine WX.sel [0, 1, 2, 3, 4, 6, 7, 8, 9, 10, 11, 12] rfl ?_
 refine WX.next ?_
 refine WC.seq ?_
 refine WC.seq ?_
 refine WC.region ?_
 refine WO.v (R.move rfl) rfl ?_
 refine WO.v (R.neq rfl rfl) rfl ?_
 refine WO.v (R.move rfl) rfl ?_
 refine WO.cutP 3 [(42, (.bool ((!(decide (putCE ((fewF (a))) ([]) ((((1 + (version.toNat % 3)) : Nat) : Int)) = (0 : Int)))) || (!(decide (putCE ((fewF (b))) ([]) ((((1 + (version.toNat % 3)) : Nat) : Int)) = (0 : Int)))))))] (fun w' => w59 = w') ?_ ?_
 rcases Bool.eq_false_or_eq_true (!(decide (putCE ((fewF (a))) ([]) ((((1 + (version.toNat % 3)) : Nat) : Int)) = (0 : Int)))) with hb63 | hb63
 have phb63 : ¬ (putCE ((fewF (a))) ([]) ((((1 + (version.toNat % 3)) : Nat) : Int)) = (0 : Int)) := of_decide_eq_false (bnot_t hb63)
 refine WO.off rfl rfl hb63 rfl ?_
 refine WO.off rfl rfl hb63 rfl ?_
 refine WO.v (R.pickT rfl hb63 rfl) rfl ?_
 refine WO.nil ?_
 exact WX.cutDoneP 3 rfl rfl ⟨⟨_, rfl, vb (bor_on hb63)⟩, trivial⟩ (rfl)
 have phb63 : putCE ((fewF (a))) ([]) ((((1 + (version.toNat % 3)) : Nat) : Int)) = (0 : Int) := of_decide_eq_true (bnot_f hb63)
 refine WO.on rfl rfl hb63 ?_
 refine WO.v (R.move rfl) rfl ?_
 refine WO.on rfl rfl hb63 ?_
 refine WO.v (R.neq rfl rfl) rfl ?_
 refine WO.v (R.pickF rfl hb63 rfl) rfl ?_
 refine WO.nil ?_
 exact WX.cutDoneP 3 rfl rfl ⟨⟨_, rfl, vb (bor_off hb63)⟩, trivial⟩ (rfl)
 rintro _ rfl
 refine WO.nil ?_
 refine WX.sel [0, 1, 2, 3, 4, 6, 7, 8, 9, 10, 11, 12, 42] rfl ?_
 refine WX.next ?_
 refine WC.cond rfl (fun q64 => ?_) (fun q64 => ?_)
 have p64 : (¬ (putCE ((fewF (a))) ([]) ((((1 + (version.toNat % 3)) : Nat) : Int)) = (0 : Int))) ∨ (¬ (putCE ((fewF (b))) ([]) ((((1 + (version.toNat % 3)) : Nat) : Int)) = (0 : Int))) := Or.imp (fun h => of_decide_eq_false (bnot_t h)) (fun h => of_decide_eq_false (bnot_t h)) (bor_t q64)
 refine WC.seq ?_
 refine WC.region ?_
 refine WO.v (R.move rfl) rfl ?_
 refine WO.v (R.assign rfl) rfl ?_
 refine WO.nil ?_
 refine WX.sel [0, 1, 2, 3, 4, 6, 7, 8, 9, 10, 11, 12, 42] rfl ?_
 refine WX.next ?_
 refine WC.ret ?_
 refine WX.thenRet ?_
 have e0 : true = true := by first | rfl | exact sm4 (sml (a := fewF a) (b := fewF b) (by omega) ⟨‹I64 (fewF a).kind›.2, ‹I64 (fewF a).client›.2, ‹I64 (fewF a).seq›.2, ‹I64 (fewF a).set›.2, ‹I64 (fewF a).id›.2, ‹I64 (fewF a).n›.2⟩ q64) | exact sm1 (sml (a := fewF a) (b := fewF b) (by omega) ⟨‹I64 (fewF a).kind›.2, ‹I64 (fewF a).client›.2, ‹I64 (fewF a).seq›.2, ‹I64 (fewF a).set›.2, ‹I64 (fewF a).id›.2, ‹I64 (fewF a).n›.2⟩ q64) (by assumption) | exact sm2 (sml (a := fewF a) (b := fewF b) (by omega) ⟨‹I64 (fewF a).kind›.2, ‹I64 (fewF a).client›.2, ‹I64 (fewF a).seq›.2, ‹I64 (fewF a).set›.2, ‹I64 (fewF a).id›.2, ‹I64 (fewF a).n›.2⟩ q64) (by assumption) | exact sm3 (sml (a := fewF a) (b := fewF b) (by omega) ⟨‹I64 (fewF a).kind›.2, ‹I64 (fewF a).client›.2, ‹I64 (fewF a).seq›.2, ‹I64 (fewF a).set›.2, ‹I64 (fewF a).id›.2, ‹I64 (fewF a).n›.2⟩ q64) (by assumption)
 refine WX.ret1 Try.results4 rfl ?_
 exact ⟨by rw [e0], Kp.of_below b59⟩
 have p64 : (putCE ((fewF (a))) ([]) ((((1 + (version.toNat % 3)) : Nat) : Int)) = (0 : Int)) ∧ (putCE ((fewF (b))) ([]) ((((1 + (version.toNat % 3)) : Nat) : Int)) = (0 : Int)) := ⟨of_decide_eq_true (bnot_f (bor_f q64).1), of_decide_eq_true (bnot_f (bor_f q64).2)⟩
 refine WC.skip ?_
 refine WX.next ?_
 refine WC.seq ?_
 refine WC.region ?_
 have B65 := ((B53).kp0 k54).kp0 k59
 refine WO.v (R.loadBN (vs := [_, _, _, _, _, _, _, _]) rfl B65 rfl Try.underlying24 rfl sz24) rfl ?_
 have B66 := (B58).kp0 k59
 refine WO.v (R.loadBN (vs := [_, _, _, _, _, _, _, _]) rfl B66 rfl Try.underlying24 rfl sz24) rfl ?_
 refine WO.c (E.call rfl rfl Try.func16 rfl rfl) (same5_s (a := (fewF (a))) (b := (fewF (b))) (Command.mk_ (i26) (i27) (i28) (i29) (i30) (i31) ((sl_kp0 (sl_kp0 (sl_kp (sl_kp0 (sl_kp (s34) k37 (by omega) (mem1 (by omega))) k39 (by omega)) k51 (by omega) (mem1 (by omega))) k54 (by omega)) k59 (by omega)).mono (lo' := 0) (hi' := w59.heap.size) (Nat.zero_le _) (by omega)) i35) (Command.mk_ (i40) (i41) (i42) (i43) (i44) (i45) ((sl_kp0 (sl_kp0 (sl_kp (s48) k51 (by omega) (mem1 (by omega))) k54 (by omega)) k59 (by omega)).mono (lo' := 0) (hi' := w59.heap.size) (Nat.zero_le _) (by omega)) i49)) rfl ?_
 rintro _ w67 ⟨rfl, k67⟩
 have z67 := k67.size
 have b67 := old_kp0 b59 k67
 have y67 := b67.size
 refine WO.v (R.assign rfl) rfl ?_
 refine WO.nil ?_
 refine WX.sel [0, 1, 2, 3, 4, 6, 7, 8, 9, 10, 11, 12, 13, 42] rfl ?_
 refine WX.next ?_
 refine WC.seq ?_
 refine WC.region ?_
 have B68 := (B65).kp0 k67
 refine WO.v (R.loadBN (vs := [_, _, _, _, _, _, _, _]) rfl B68 rfl Try.underlying24 rfl sz24) rfl ?_
 refine WO.v (R.buildL (parts := [_, _]) (cells := #[(.int .i64 (99 : Int)), (.int .i64 (0 : Int)), (.int .u64 (1 : Int)), (.slice none 0 0)]) rfl (by kernel_rfl)) rfl ?_
 refine WO.buildSlice (parts := [_]) (vss := [[_, _, _, _]]) Try.underlying25 sz37 zr37 rfl rfl (by simp) rfl rfl rfl ?_
 intro w69 n69
 have z69 := n69.lt
 have b69 := old_kp0 b67 n69.kp
 have y69 := b69.size
 have ac70 : Ac (α := Field) (w67.heap.size) true (w.heap.size) (w69.heap.size) (w69.heap.size) w69 (.slice (some ⟨w67.heap.size, 0, none⟩) 1 1) ([(⟨(99 : Int), (0 : Int), (⟨1⟩ : U64), []⟩ : Field)] : List Field) := Ac.lit (α := Field) (ys := ([(⟨(99 : Int), (0 : Int), (⟨1⟩ : U64), []⟩ : Field)] : List Field)) (css := [[_, _, _, _]]) n69.blk (.cons ((Field.mk_ (show I64 (99) from ⟨by omega, by omega⟩) (show I64 0 from ⟨by omega, by omega⟩) (by decide) (x3 := []) (Sl.nil _ _ _ _))) (.nil)) (by omega) (by omega) (by simp [maxLen]) (by show 1 * 48 ≤ 140737488355328; decide) rfl
 have lenac70 : ([(⟨(99 : Int), (0 : Int), (⟨1⟩ : U64), []⟩ : Field)] : List Field).length = 1 := rfl
 refine WO.v (R.move rfl) rfl ?_
 refine WO.c (E.call rfl rfl Try.func12 rfl rfl) (putC_s (v := (((1 + (version.toNat % 3)) : Nat) : Int)) (rest := ([(⟨(99 : Int), (0 : Int), (⟨1⟩ : U64), []⟩ : Field)] : List Field)) (a_rest := (some ⟨w67.heap.size, 0, none⟩)) (c_rest := 1) (c := (fewF (a))) (Command.mk_ (i26) (i27) (i28) (i29) (i30) (i31) ((sl_kp0 (sl_kp0 (sl_kp0 (sl_kp0 (sl_kp (sl_kp0 (sl_kp (s34) k37 (by omega) (mem1 (by omega))) k39 (by omega)) k51 (by omega) (mem1 (by omega))) k54 (by omega)) k59 (by omega)) k67 (by omega)) n69.kp (by omega)).mono (lo' := 0) (hi' := w69.heap.size) (Nat.zero_le _) (by omega)) i35) ((ac70).pub (L := 0) (H := w69.heap.size) (by omega) (by omega) (by omega) (by omega)) (by omega)) rfl ?_
 rintro _ w71 ⟨a72, c73, rfl, s74, k71⟩
 have ls74 : (putCB ((fewF (a))) (([(⟨(99 : Int), (0 : Int), (⟨1⟩ : U64), []⟩ : Field)] : List Field)) ((((1 + (version.toNat % 3)) : Nat) : Int))).length * 1 ≤ 140737488355328 := s74.lenle
 have z71 := k71.size
 have b71 := old_kp0 b69 k71
 have y71 := b71.size
 refine WO.v (R.move rfl) rfl ?_
 refine WO.v (R.extract rfl rfl) rfl ?_
 refine WO.v (R.extract rfl rfl) rfl ?_
 refine WO.v (R.assign rfl) rfl ?_
 refine WO.v (R.assign rfl) rfl ?_
 refine WO.nil ?_
 refine WX.sel [0, 1, 2, 3, 4, 6, 7, 8, 9, 10, 11, 12, 13, 14, 15, 42] rfl ?_
 refine WX.next ?_
 refine WC.seq ?_
 refine WC.sel [0, 1, 2, 3, 4, 6, 7, 8, 9, 10, 11, 12, 13, 14, 15, 42] rfl ?_
 rcases Bool.eq_false_or_eq_true (((decide ((⟨(putCB ((fewF (a))) ([]) ((((1 + (version.toNat % 3)) : Nat) : Int)))⟩ : Str) = (⟨(putCB ((fewF (b))) ([]) ((((1 + (version.toNat % 3)) : Nat) : Int)))⟩ : Str))) == (decide (((fewF (a))) = ((fewF (b))))))) with hb75 | hb75
 have phb75 : (((decide ((⟨(putCB ((fewF (a))) ([]) ((((1 + (version.toNat % 3)) : Nat) : Int)))⟩ : Str) = (⟨(putCB ((fewF (b))) ([]) ((((1 + (version.toNat % 3)) : Nat) : Int)))⟩ : Str))) == (decide (((fewF (a))) = ((fewF (b))))))) = true := hb75
 rcases Bool.eq_false_or_eq_true (decide (putCE ((fewF (a))) (([(⟨(99 : Int), (0 : Int), (⟨1⟩ : U64), []⟩ : Field)] : List Field)) ((((1 + (version.toNat % 3)) : Nat) : Int)) = (0 : Int))) with hb76 | hb76
 have phb76 : putCE ((fewF (a))) (([(⟨(99 : Int), (0 : Int), (⟨1⟩ : U64), []⟩ : Field)] : List Field)) ((((1 + (version.toNat % 3)) : Nat) : Int)) = (0 : Int) := of_decide_eq_true hb76
 rcases Bool.eq_false_or_eq_true (decide ((((putCB ((fewF (a))) (([(⟨(99 : Int), (0 : Int), (⟨1⟩ : U64), []⟩ : Field)] : List Field)) ((((1 + (version.toNat % 3)) : Nat) : Int))).length : Nat) : Int) = ((((putCB ((fewF (a))) ([]) ((((1 + (version.toNat % 3)) : Nat) : Int))).length + 3) : Nat) : Int))) with hb77 | hb77
 have phb77 : (((putCB ((fewF (a))) (([(⟨(99 : Int), (0 : Int), (⟨1⟩ : U64), []⟩ : Field)] : List Field)) ((((1 + (version.toNat % 3)) : Nat) : Int))).length : Nat) : Int) = ((((putCB ((fewF (a))) ([]) ((((1 + (version.toNat % 3)) : Nat) : Int))).length + 3) : Nat) : Int) := of_decide_eq_true hb77
 obtain ⟨a78, ha79, s80, mc81, ln82⟩ := Sl.cut (i := 0) (j := (putCB ((fewF (a))) ([]) ((((1 + (version.toNat % 3)) : Nat) : Int))).length) (s := 1) ((s74).pub (L := 0) (H := w71.heap.size) (by omega) (by omega) (by omega) (by omega)) rfl (by omega) (by omega)
 replace s80 : Sl false (0) (w71.heap.size) w71 (.slice a78 (putCB ((fewF (a))) ([]) ((((1 + (version.toNat % 3)) : Nat) : Int))).length c73) ((putCB ((fewF (a))) (([(⟨(99 : Int), (0 : Int), (⟨1⟩ : U64), []⟩ : Field)] : List Field)) ((((1 + (version.toNat % 3)) : Nat) : Int))).take (putCB ((fewF (a))) ([]) ((((1 + (version.toNat % 3)) : Nat) : Int))).length) := s80
 replace ln82 : ((putCB ((fewF (a))) (([(⟨(99 : Int), (0 : Int), (⟨1⟩ : U64), []⟩ : Field)] : List Field)) ((((1 + (version.toNat % 3)) : Nat) : Int))).take (putCB ((fewF (a))) ([]) ((((1 + (version.toNat % 3)) : Nat) : Int))).length).length = (putCB ((fewF (a))) ([]) ((((1 + (version.toNat % 3)) : Nat) : Int))).length := ln82
 have ls80 : (((putCB ((fewF (a))) (([(⟨(99 : Int), (0 : Int), (⟨1⟩ : U64), []⟩ : Field)] : List Field)) ((((1 + (version.toNat % 3)) : Nat) : Int))).take (putCB ((fewF (a))) ([]) ((((1 + (version.toNat % 3)) : Nat) : Int))).length)).length * 1 ≤ 140737488355328 := s80.lenle
 refine WC.draw' mixed_orders [.ex [] (.bool true), .ex [0] (.bool true), .ex [1] (.slice a55 (putCB ((fewF (a))) ([]) ((((1 + (version.toNat % 3)) : Nat) : Int))).length c56), .ex [1, 2] (⟨(putCB ((fewF (a))) ([]) ((((1 + (version.toNat % 3)) : Nat) : Int)))⟩ : Str).val, .ex [1] (.slice a60 (putCB ((fewF (b))) ([]) ((((1 + (version.toNat % 3)) : Nat) : Int))).length c61), .ex [1, 4] (⟨(putCB ((fewF (b))) ([]) ((((1 + (version.toNat % 3)) : Nat) : Int)))⟩ : Str).val, .ex [1, 3, 5] (.bool (decide ((⟨(putCB ((fewF (a))) ([]) ((((1 + (version.toNat % 3)) : Nat) : Int)))⟩ : Str) = (⟨(putCB ((fewF (b))) ([]) ((((1 + (version.toNat % 3)) : Nat) : Int)))⟩ : Str)))), .ex [1] (.bool (decide (((fewF (a))) = ((fewF (b)))))), .ex [1, 6, 7] (.bool (((decide ((⟨(putCB ((fewF (a))) ([]) ((((1 + (version.toNat % 3)) : Nat) : Int)))⟩ : Str) = (⟨(putCB ((fewF (b))) ([]) ((((1 + (version.toNat % 3)) : Nat) : Int)))⟩ : Str))) == (decide (((fewF (a))) = ((fewF (b)))))))), .ex [1, 8] (.bool (((decide ((⟨(putCB ((fewF (a))) ([]) ((((1 + (version.toNat % 3)) : Nat) : Int)))⟩ : Str) = (⟨(putCB ((fewF (b))) ([]) ((((1 + (version.toNat % 3)) : Nat) : Int)))⟩ : Str))) == (decide (((fewF (a))) = ((fewF (b)))))))), .ex [9] (.bool true), .ex [10] (.int .i64 (putCE ((fewF (a))) (([(⟨(99 : Int), (0 : Int), (⟨1⟩ : U64), []⟩ : Field)] : List Field)) ((((1 + (version.toNat % 3)) : Nat) : Int)))), .ex [10, 11] (.bool (decide (putCE ((fewF (a))) (([(⟨(99 : Int), (0 : Int), (⟨1⟩ : U64), []⟩ : Field)] : List Field)) ((((1 + (version.toNat % 3)) : Nat) : Int)) = (0 : Int)))), .ex [10, 12] (.bool (decide (putCE ((fewF (a))) (([(⟨(99 : Int), (0 : Int), (⟨1⟩ : U64), []⟩ : Field)] : List Field)) ((((1 + (version.toNat % 3)) : Nat) : Int)) = (0 : Int)))), .ex [13] (.bool true), .ex [14] (.slice a72 (putCB ((fewF (a))) (([(⟨(99 : Int), (0 : Int), (⟨1⟩ : U64), []⟩ : Field)] : List Field)) ((((1 + (version.toNat % 3)) : Nat) : Int))).length c73), .ex [14, 15] (.int .i64 (((putCB ((fewF (a))) (([(⟨(99 : Int), (0 : Int), (⟨1⟩ : U64), []⟩ : Field)] : List Field)) ((((1 + (version.toNat % 3)) : Nat) : Int))).length : Nat) : Int)), .ex [14] (.slice a55 (putCB ((fewF (a))) ([]) ((((1 + (version.toNat % 3)) : Nat) : Int))).length c56), .ex [14, 17] (.int .i64 (((putCB ((fewF (a))) ([]) ((((1 + (version.toNat % 3)) : Nat) : Int))).length : Nat) : Int)), .ex [14, 18] (.int .i64 ((((putCB ((fewF (a))) ([]) ((((1 + (version.toNat % 3)) : Nat) : Int))).length + 3) : Nat) : Int)), .ex [14, 16, 19] (.bool (decide ((((putCB ((fewF (a))) (([(⟨(99 : Int), (0 : Int), (⟨1⟩ : U64), []⟩ : Field)] : List Field)) ((((1 + (version.toNat % 3)) : Nat) : Int))).length : Nat) : Int) = ((((putCB ((fewF (a))) ([]) ((((1 + (version.toNat % 3)) : Nat) : Int))).length + 3) : Nat) : Int)))), .ex [14, 20] (.bool (decide ((((putCB ((fewF (a))) (([(⟨(99 : Int), (0 : Int), (⟨1⟩ : U64), []⟩ : Field)] : List Field)) ((((1 + (version.toNat % 3)) : Nat) : Int))).length : Nat) : Int) = ((((putCB ((fewF (a))) ([]) ((((1 + (version.toNat % 3)) : Nat) : Int))).length + 3) : Nat) : Int)))), .ex [21] (.bool true), .ex [22] (.slice a72 (putCB ((fewF (a))) (([(⟨(99 : Int), (0 : Int), (⟨1⟩ : U64), []⟩ : Field)] : List Field)) ((((1 + (version.toNat % 3)) : Nat) : Int))).length c73), .ex [22] (.slice a55 (putCB ((fewF (a))) ([]) ((((1 + (version.toNat % 3)) : Nat) : Int))).length c56), .ex [22, 24] (.int .i64 (((putCB ((fewF (a))) ([]) ((((1 + (version.toNat % 3)) : Nat) : Int))).length : Nat) : Int)), .ex [22, 23, 25] (.slice a78 (putCB ((fewF (a))) ([]) ((((1 + (version.toNat % 3)) : Nat) : Int))).length c73), .ex [22, 26] (⟨((putCB ((fewF (a))) (([(⟨(99 : Int), (0 : Int), (⟨1⟩ : U64), []⟩ : Field)] : List Field)) ((((1 + (version.toNat % 3)) : Nat) : Int))).take (putCB ((fewF (a))) ([]) ((((1 + (version.toNat % 3)) : Nat) : Int))).length)⟩ : Str).val, .ex [22] (.slice a55 (putCB ((fewF (a))) ([]) ((((1 + (version.toNat % 3)) : Nat) : Int))).length c56), .ex [22, 28] (⟨(putCB ((fewF (a))) ([]) ((((1 + (version.toNat % 3)) : Nat) : Int)))⟩ : Str).val, .ex [22, 27, 29] (.bool (decide ((⟨((putCB ((fewF (a))) (([(⟨(99 : Int), (0 : Int), (⟨1⟩ : U64), []⟩ : Field)] : List Field)) ((((1 + (version.toNat % 3)) : Nat) : Int))).take (putCB ((fewF (a))) ([]) ((((1 + (version.toNat % 3)) : Nat) : Int))).length)⟩ : Str) = (⟨(putCB ((fewF (a))) ([]) ((((1 + (version.toNat % 3)) : Nat) : Int)))⟩ : Str)))), .ex [22, 30] (.bool (decide ((⟨((putCB ((fewF (a))) (([(⟨(99 : Int), (0 : Int), (⟨1⟩ : U64), []⟩ : Field)] : List Field)) ((((1 + (version.toNat % 3)) : Nat) : Int))).take (putCB ((fewF (a))) ([]) ((((1 + (version.toNat % 3)) : Nat) : Int))).length)⟩ : Str) = (⟨(putCB ((fewF (a))) ([]) ((((1 + (version.toNat % 3)) : Nat) : Int)))⟩ : Str))))] 32 (by kernel_rfl) ⟨fun _ _ _ h _ => h, fun _ _ _ h _ => h, fun _ _ _ h _ => h, fun _ _ _ h _ => h, fun _ _ _ h _ => h, fun _ _ _ h _ => h, fun _ _ _ h _ => h, fun _ _ _ h _ => h, fun _ _ _ h _ => h, fun _ _ _ h _ => h, fun _ _ _ h _ => h, fun _ _ _ h _ => h, fun _ _ _ h _ => h, fun _ _ _ h _ => h, fun _ _ _ h _ => h, fun _ _ _ h _ => h, fun _ _ _ h _ => h, fun _ _ _ h _ => h, fun _ _ _ h _ => h, fun _ _ _ h _ => h, fun _ _ _ h _ => h, fun _ _ _ h _ => h, fun _ _ _ h _ => h, fun _ _ _ h _ => h, fun _ _ _ h _ => h, fun _ _ _ h _ => h, fun _ _ _ h _ => h, fun _ _ _ h _ => h, fun _ _ _ h _ => h, fun _ _ _ h _ => h, fun _ _ _ h _ => h, fun _ _ _ h _ => h, trivial⟩ ⟨?_, ?_, ?_, ?_, ?_, ?_, ?_, ?_, ?_, ?_, ?_, ?_, ?_, ?_, ?_, ?_, ?_, ?_, ?_, ?_, ?_, ?_, ?_, ?_, ?_, ?_, ?_, ?_, ?_, ?_, ?_, ?_, trivial⟩ ?_
 rintro vs w83 k83 ⟨-⟩
 replace k83 : Kp [] w71 w83 := k83
 refine WO.haves (fr' := [(7, _)]) ⟨⟨_, rfl, rfl⟩, trivial⟩ ?_
 refine WO.v (R.move rfl) rfl ?_
 refine WO.nil ?_
 exact WX.stepDone rfl rfl (Kp.refl _)
 rintro vs w84 k84 ⟨e85, -⟩
 replace k84 : Kp [] w71 w84 := k84
 refine WO.haves (fr' := [(55, _)]) ⟨⟨_, rfl, e85⟩, trivial⟩ ?_
 refine WO.v (R.move rfl) rfl ?_
 refine WO.nil ?_
 exact WX.stepDone rfl rfl (Kp.refl _)
 rintro vs w86 k86 ⟨e87, -⟩
 replace k86 : Kp [] w71 w86 := k86
 refine WO.haves (fr' := [(56, _), (9, _)]) ⟨⟨_, rfl, e87⟩, ⟨_, rfl, rfl⟩, trivial⟩ ?_
 refine WO.on rfl rfl rfl ?_
 refine WO.v (R.move rfl) rfl ?_
 refine WO.nil ?_
 exact WX.stepDone rfl rfl (Kp.refl _)
 rintro vs w88 k88 ⟨e89, e90, -⟩
 replace k88 : Kp [] w71 w88 := k88
 have z88 := k88.size
 have b88 := old_kp0 b71 k88
 have y88 := b88.size
 refine WO.haves (fr' := [(56, _), (57, _)]) ⟨⟨_, rfl, e89⟩, ⟨_, rfl, e90⟩, trivial⟩ ?_
 refine WO.on rfl rfl rfl ?_
 refine WO.v (R.toStr rfl Try.underlying27 Try.underlying9 Try.underlying5 (((ac_kp0 (ac_kp0 (ac_kp0 (ac_kp0 (ac_kp0 (s57) k59 (by omega) (by omega)) k67 (by omega) (by omega)) n69.kp (by omega) (by omega)) k71 (by omega) (by omega)) k88 (by omega) (by omega)).pub (L := 0) (H := w88.heap.size) (by omega) (by omega) (by omega) (by omega)))) rfl ?_
 refine WO.nil ?_
 exact WX.stepDone rfl rfl (Kp.refl _)
 rintro vs w91 k91 ⟨e92, -⟩
 replace k91 : Kp [] w71 w91 := k91
 refine WO.haves (fr' := [(56, _), (11, _)]) ⟨⟨_, rfl, e92⟩, ⟨_, rfl, rfl⟩, trivial⟩ ?_
 refine WO.on rfl rfl rfl ?_
 refine WO.v (R.move rfl) rfl ?_
 refine WO.nil ?_
 exact WX.stepDone rfl rfl (Kp.refl _)
 rintro vs w93 k93 ⟨e94, e95, -⟩
 replace k93 : Kp [] w71 w93 := k93
 have z93 := k93.size
 have b93 := old_kp0 b71 k93
 have y93 := b93.size
 refine WO.haves (fr' := [(56, _), (59, _)]) ⟨⟨_, rfl, e94⟩, ⟨_, rfl, e95⟩, trivial⟩ ?_
 refine WO.on rfl rfl rfl ?_
 refine WO.v (R.toStr rfl Try.underlying27 Try.underlying9 Try.underlying5 (((ac_kp0 (ac_kp0 (ac_kp0 (ac_kp0 (s62) k67 (by omega) (by omega)) n69.kp (by omega) (by omega)) k71 (by omega) (by omega)) k93 (by omega) (by omega)).pub (L := 0) (H := w93.heap.size) (by omega) (by omega) (by omega) (by omega)))) rfl ?_
 refine WO.nil ?_
 exact WX.stepDone rfl rfl (Kp.refl _)
 rintro vs w96 k96 ⟨e97, e98, e99, -⟩
 replace k96 : Kp [] w71 w96 := k96
 refine WO.haves (fr' := [(56, _), (58, _), (60, _)]) ⟨⟨_, rfl, e97⟩, ⟨_, rfl, e98⟩, ⟨_, rfl, e99⟩, trivial⟩ ?_
 refine WO.on rfl rfl rfl ?_
 refine WO.v (R.eqlS rfl rfl) rfl ?_
 refine WO.nil ?_
 exact WX.stepDone rfl rfl (Kp.refl _)
 rintro vs w100 k100 ⟨e101, -⟩
 replace k100 : Kp [] w71 w100 := k100
 refine WO.haves (fr' := [(56, _), (13, _)]) ⟨⟨_, rfl, e101⟩, ⟨_, rfl, rfl⟩, trivial⟩ ?_
 refine WO.on rfl rfl rfl ?_
 refine WO.v (R.move rfl) rfl ?_
 refine WO.nil ?_
 exact WX.stepDone rfl rfl (Kp.refl _)
 rintro vs w102 k102 ⟨e103, e104, e105, -⟩
 replace k102 : Kp [] w71 w102 := k102
 refine WO.haves (fr' := [(56, _), (61, _), (62, _)]) ⟨⟨_, rfl, e103⟩, ⟨_, rfl, e104⟩, ⟨_, rfl, e105⟩, trivial⟩ ?_
 refine WO.on rfl rfl rfl ?_
 refine WO.v (R.eqlB rfl rfl Try.underlying4) rfl ?_
 refine WO.nil ?_
 exact WX.stepDone rfl rfl (Kp.refl _)
 rintro vs w106 k106 ⟨e107, e108, -⟩
 replace k106 : Kp [] w71 w106 := k106
 refine WO.haves (fr' := [(56, _), (63, _)]) ⟨⟨_, rfl, e107⟩, ⟨_, rfl, e108⟩, trivial⟩ ?_
 refine WO.v (R.pickT rfl rfl rfl) rfl ?_
 refine WO.nil ?_
 exact WX.stepDone rfl rfl (Kp.refl _)
 rintro vs w109 k109 ⟨e110, -⟩
 replace k109 : Kp [] w71 w109 := k109
 refine WO.haves (fr' := [(64, _)]) ⟨⟨_, rfl, e110⟩, trivial⟩ ?_
 refine WO.v (R.move rfl) rfl ?_
 refine WO.nil ?_
 exact WX.stepDone rfl (vb hb75) (Kp.refl _)
 rintro vs w111 k111 ⟨e112, -⟩
 replace k111 : Kp [] w71 w111 := k111
 refine WO.haves (fr' := [(65, _), (15, _)]) ⟨⟨_, rfl, e112⟩, ⟨_, rfl, rfl⟩, trivial⟩ ?_
 refine WO.on rfl rfl rfl ?_
 refine WO.v (R.move rfl) rfl ?_
 refine WO.nil ?_
 exact WX.stepDone rfl rfl (Kp.refl _)
 rintro vs w113 k113 ⟨e114, e115, -⟩
 replace k113 : Kp [] w71 w113 := k113
 refine WO.haves (fr' := [(65, _), (66, _)]) ⟨⟨_, rfl, e114⟩, ⟨_, rfl, e115⟩, trivial⟩ ?_
 refine WO.on rfl rfl rfl ?_
 refine WO.v (R.eql rfl rfl) rfl ?_
 refine WO.nil ?_
 exact WX.stepDone rfl rfl (Kp.refl _)
 rintro vs w116 k116 ⟨e117, e118, -⟩
 replace k116 : Kp [] w71 w116 := k116
 refine WO.haves (fr' := [(65, _), (67, _)]) ⟨⟨_, rfl, e117⟩, ⟨_, rfl, e118⟩, trivial⟩ ?_
 refine WO.v (R.pickT rfl rfl rfl) rfl ?_
 refine WO.nil ?_
 exact WX.stepDone rfl rfl (Kp.refl _)
 rintro vs w119 k119 ⟨e120, -⟩
 replace k119 : Kp [] w71 w119 := k119
 refine WO.haves (fr' := [(68, _)]) ⟨⟨_, rfl, e120⟩, trivial⟩ ?_
 refine WO.v (R.move rfl) rfl ?_
 refine WO.nil ?_
 exact WX.stepDone rfl (vb hb76) (Kp.refl _)
 rintro vs w121 k121 ⟨e122, -⟩
 replace k121 : Kp [] w71 w121 := k121
 refine WO.haves (fr' := [(69, _), (14, _)]) ⟨⟨_, rfl, e122⟩, ⟨_, rfl, rfl⟩, trivial⟩ ?_
 refine WO.on rfl rfl rfl ?_
 refine WO.v (R.move rfl) rfl ?_
 refine WO.nil ?_
 exact WX.stepDone rfl rfl (Kp.refl _)
 rintro vs w123 k123 ⟨e124, e125, -⟩
 replace k123 : Kp [] w71 w123 := k123
 have z123 := k123.size
 have b123 := old_kp0 b71 k123
 have y123 := b123.size
 refine WO.haves (fr' := [(69, _), (70, _)]) ⟨⟨_, rfl, e124⟩, ⟨_, rfl, e125⟩, trivial⟩ ?_
 refine WO.on rfl rfl rfl ?_
 refine WO.v (R.len rfl Try.underlying27) rfl ?_
 refine WO.nil ?_
 exact WX.stepDone rfl rfl (Kp.refl _)
 rintro vs w126 k126 ⟨e127, -⟩
 replace k126 : Kp [] w71 w126 := k126
 refine WO.haves (fr' := [(69, _), (9, _)]) ⟨⟨_, rfl, e127⟩, ⟨_, rfl, rfl⟩, trivial⟩ ?_
 refine WO.on rfl rfl rfl ?_
 refine WO.v (R.move rfl) rfl ?_
 refine WO.nil ?_
 exact WX.stepDone rfl rfl (Kp.refl _)
 rintro vs w128 k128 ⟨e129, e130, -⟩
 replace k128 : Kp [] w71 w128 := k128
 have z128 := k128.size
 have b128 := old_kp0 b71 k128
 have y128 := b128.size
 refine WO.haves (fr' := [(69, _), (72, _)]) ⟨⟨_, rfl, e129⟩, ⟨_, rfl, e130⟩, trivial⟩ ?_
 refine WO.on rfl rfl rfl ?_
 refine WO.v (R.len rfl Try.underlying27) rfl ?_
 refine WO.nil ?_
 exact WX.stepDone rfl rfl (Kp.refl _)
 rintro vs w131 k131 ⟨e132, e133, -⟩
 replace k131 : Kp [] w71 w131 := k131
 refine WO.haves (fr' := [(69, _), (73, _)]) ⟨⟨_, rfl, e132⟩, ⟨_, rfl, e133⟩, trivial⟩ ?_
 refine WO.on rfl rfl rfl ?_
 refine WO.v (R.addN (a := (putCB ((fewF (a))) ([]) ((((1 + (version.toNat % 3)) : Nat) : Int))).length) (b := 3) rfl rfl (by omega)) rfl ?_
 refine WO.nil ?_
 exact WX.stepDone rfl rfl (Kp.refl _)
 rintro vs w134 k134 ⟨e135, e136, e137, -⟩
 replace k134 : Kp [] w71 w134 := k134
 refine WO.haves (fr' := [(69, _), (71, _), (74, _)]) ⟨⟨_, rfl, e135⟩, ⟨_, rfl, e136⟩, ⟨_, rfl, e137⟩, trivial⟩ ?_
 refine WO.on rfl rfl rfl ?_
 refine WO.v (R.eql rfl rfl) rfl ?_
 refine WO.nil ?_
 exact WX.stepDone rfl rfl (Kp.refl _)
 rintro vs w138 k138 ⟨e139, e140, -⟩
 replace k138 : Kp [] w71 w138 := k138
 refine WO.haves (fr' := [(69, _), (75, _)]) ⟨⟨_, rfl, e139⟩, ⟨_, rfl, e140⟩, trivial⟩ ?_
 refine WO.v (R.pickT rfl rfl rfl) rfl ?_
 refine WO.nil ?_
 exact WX.stepDone rfl rfl (Kp.refl _)
 rintro vs w141 k141 ⟨e142, -⟩
 replace k141 : Kp [] w71 w141 := k141
 refine WO.haves (fr' := [(76, _)]) ⟨⟨_, rfl, e142⟩, trivial⟩ ?_
 refine WO.v (R.move rfl) rfl ?_
 refine WO.nil ?_
 exact WX.stepDone rfl (vb hb77) (Kp.refl _)
 rintro vs w143 k143 ⟨e144, -⟩
 replace k143 : Kp [] w71 w143 := k143
 refine WO.haves (fr' := [(77, _), (14, _)]) ⟨⟨_, rfl, e144⟩, ⟨_, rfl, rfl⟩, trivial⟩ ?_
 refine WO.on rfl rfl rfl ?_
 refine WO.v (R.move rfl) rfl ?_
 refine WO.nil ?_
 exact WX.stepDone rfl rfl (Kp.refl _)
 rintro vs w145 k145 ⟨e146, -⟩
 replace k145 : Kp [] w71 w145 := k145
 refine WO.haves (fr' := [(77, _), (9, _)]) ⟨⟨_, rfl, e146⟩, ⟨_, rfl, rfl⟩, trivial⟩ ?_
 refine WO.on rfl rfl rfl ?_
 refine WO.v (R.move rfl) rfl ?_
 refine WO.nil ?_
 exact WX.stepDone rfl rfl (Kp.refl _)
 rintro vs w147 k147 ⟨e148, e149, -⟩
 replace k147 : Kp [] w71 w147 := k147
 have z147 := k147.size
 have b147 := old_kp0 b71 k147
 have y147 := b147.size
 refine WO.haves (fr' := [(77, _), (79, _)]) ⟨⟨_, rfl, e148⟩, ⟨_, rfl, e149⟩, trivial⟩ ?_
 refine WO.on rfl rfl rfl ?_
 refine WO.v (R.len rfl Try.underlying27) rfl ?_
 refine WO.nil ?_
 exact WX.stepDone rfl rfl (Kp.refl _)
 rintro vs w150 k150 ⟨e151, e152, e153, -⟩
 replace k150 : Kp [] w71 w150 := k150
 have z150 := k150.size
 have b150 := old_kp0 b71 k150
 have y150 := b150.size
 refine WO.haves (fr' := [(77, _), (78, _), (80, _)]) ⟨⟨_, rfl, e151⟩, ⟨_, rfl, e152⟩, ⟨_, rfl, e153⟩, trivial⟩ ?_
 refine WO.on rfl rfl rfl ?_
 refine WO.v (v := (.slice a78 (putCB ((fewF (a))) ([]) ((((1 + (version.toNat % 3)) : Nat) : Int))).length c73)) (R.sliceH (j := (putCB ((fewF (a))) ([]) ((((1 + (version.toNat % 3)) : Nat) : Int))).length) rfl rfl Try.underlying27 sz5 ha79 (by omega)) rfl ?_
 refine WO.nil ?_
 exact WX.stepDone rfl rfl (Kp.refl _)
 rintro vs w154 k154 ⟨e155, e156, -⟩
 replace k154 : Kp [] w71 w154 := k154
 have z154 := k154.size
 have b154 := old_kp0 b71 k154
 have y154 := b154.size
 refine WO.haves (fr' := [(77, _), (81, _)]) ⟨⟨_, rfl, e155⟩, ⟨_, rfl, e156⟩, trivial⟩ ?_
 refine WO.on rfl rfl rfl ?_
 refine WO.v (R.toStr rfl Try.underlying27 Try.underlying9 Try.underlying5 (((sl_kp0 (s80) k154 (by omega)).mono (lo' := 0) (hi' := w154.heap.size) (Nat.zero_le _) (by omega)))) rfl ?_
 refine WO.nil ?_
 exact WX.stepDone rfl rfl (Kp.refl _)
 rintro vs w157 k157 ⟨e158, -⟩
 replace k157 : Kp [] w71 w157 := k157
 refine WO.haves (fr' := [(77, _), (9, _)]) ⟨⟨_, rfl, e158⟩, ⟨_, rfl, rfl⟩, trivial⟩ ?_
 refine WO.on rfl rfl rfl ?_
 refine WO.v (R.move rfl) rfl ?_
 refine WO.nil ?_
 exact WX.stepDone rfl rfl (Kp.refl _)
 rintro vs w159 k159 ⟨e160, e161, -⟩
 replace k159 : Kp [] w71 w159 := k159
 have z159 := k159.size
 have b159 := old_kp0 b71 k159
 have y159 := b159.size
 refine WO.haves (fr' := [(77, _), (83, _)]) ⟨⟨_, rfl, e160⟩, ⟨_, rfl, e161⟩, trivial⟩ ?_
 refine WO.on rfl rfl rfl ?_
 refine WO.v (R.toStr rfl Try.underlying27 Try.underlying9 Try.underlying5 (((ac_kp0 (ac_kp0 (ac_kp0 (ac_kp0 (ac_kp0 (s57) k59 (by omega) (by omega)) k67 (by omega) (by omega)) n69.kp (by omega) (by omega)) k71 (by omega) (by omega)) k159 (by omega) (by omega)).pub (L := 0) (H := w159.heap.size) (by omega) (by omega) (by omega) (by omega)))) rfl ?_
 refine WO.nil ?_
 exact WX.stepDone rfl rfl (Kp.refl _)
 rintro vs w162 k162 ⟨e163, e164, e165, -⟩
 replace k162 : Kp [] w71 w162 := k162
 refine WO.haves (fr' := [(77, _), (82, _), (84, _)]) ⟨⟨_, rfl, e163⟩, ⟨_, rfl, e164⟩, ⟨_, rfl, e165⟩, trivial⟩ ?_
 refine WO.on rfl rfl rfl ?_
 refine WO.v (R.eqlS rfl rfl) rfl ?_
 refine WO.nil ?_
 exact WX.stepDone rfl rfl (Kp.refl _)
 rintro vs w166 k166 ⟨e167, e168, -⟩
 replace k166 : Kp [] w71 w166 := k166
 refine WO.haves (fr' := [(77, _), (85, _)]) ⟨⟨_, rfl, e167⟩, ⟨_, rfl, e168⟩, trivial⟩ ?_
 refine WO.v (R.pickT rfl rfl rfl) rfl ?_
 refine WO.nil ?_
 exact WX.stepDone rfl rfl (Kp.refl _)
 rintro vs w169 k169 ⟨-, -, -, -, -, -, -, -, -, -, -, -, -, -, -, -, -, -, -, -, -, -, -, -, -, -, -, -, -, -, -, e201, -⟩
 replace k169 : Kp [] w71 w169 := k169
 have z169 := k169.size
 have b169 := old_kp0 b71 k169
 have y169 := b169.size
 refine WO.haves (fr' := [(86, _), (0, _), (1, _), (2, _), (3, _), (4, _), (6, _), (7, _), (8, _), (9, _), (10, _), (11, _), (12, _), (13, _), (14, _), (15, _), (42, _)]) ⟨⟨_, rfl, e201⟩, ⟨_, rfl, rfl⟩, ⟨_, rfl, rfl⟩, ⟨_, rfl, rfl⟩, ⟨_, rfl, rfl⟩, ⟨_, rfl, rfl⟩, ⟨_, rfl, rfl⟩, ⟨_, rfl, rfl⟩, ⟨_, rfl, rfl⟩, ⟨_, rfl, rfl⟩, ⟨_, rfl, rfl⟩, ⟨_, rfl, rfl⟩, ⟨_, rfl, rfl⟩, ⟨_, rfl, rfl⟩, ⟨_, rfl, rfl⟩, ⟨_, rfl, rfl⟩, ⟨_, rfl, rfl⟩, trivial⟩ ?_
 refine WO.v (R.assign rfl) rfl ?_
 refine WO.nil ?_
 refine WX.sel [0, 1, 2, 3, 4, 6, 7, 8, 9, 10, 11, 12, 13, 14, 15, 42] rfl ?_
 refine WX.next ?_
 refine WC.ret ?_
 have e0 : (decide ((⟨((putCB ((fewF (a))) (([(⟨(99 : Int), (0 : Int), (⟨1⟩ : U64), []⟩ : Field)] : List Field)) ((((1 + (version.toNat % 3)) : Nat) : Int))).take (putCB ((fewF (a))) ([]) ((((1 + (version.toNat % 3)) : Nat) : Int))).length)⟩ : Str) = (⟨(putCB ((fewF (a))) ([]) ((((1 + (version.toNat % 3)) : Nat) : Int)))⟩ : Str))) = true := by first | rfl | exact sm4 (sml (a := fewF a) (b := fewF b) (by omega) ⟨‹I64 (fewF a).kind›.2, ‹I64 (fewF a).client›.2, ‹I64 (fewF a).seq›.2, ‹I64 (fewF a).set›.2, ‹I64 (fewF a).id›.2, ‹I64 (fewF a).n›.2⟩ q64) | exact sm1 (sml (a := fewF a) (b := fewF b) (by omega) ⟨‹I64 (fewF a).kind›.2, ‹I64 (fewF a).client›.2, ‹I64 (fewF a).seq›.2, ‹I64 (fewF a).set›.2, ‹I64 (fewF a).id›.2, ‹I64 (fewF a).n›.2⟩ q64) (by assumption) | exact sm2 (sml (a := fewF a) (b := fewF b) (by omega) ⟨‹I64 (fewF a).kind›.2, ‹I64 (fewF a).client›.2, ‹I64 (fewF a).seq›.2, ‹I64 (fewF a).set›.2, ‹I64 (fewF a).id›.2, ‹I64 (fewF a).n›.2⟩ q64) (by assumption) | exact sm3 (sml (a := fewF a) (b := fewF b) (by omega) ⟨‹I64 (fewF a).kind›.2, ‹I64 (fewF a).client›.2, ‹I64 (fewF a).seq›.2, ‹I64 (fewF a).set›.2, ‹I64 (fewF a).id›.2, ‹I64 (fewF a).n›.2⟩ q64) (by assumption)
 refine WX.ret1 Try.results4 rfl ?_
 exact ⟨by rw [e0], Kp.of_below b169⟩
 have phb77 : ¬ ((((putCB ((fewF (a))) (([(⟨(99 : Int), (0 : Int), (⟨1⟩ : U64), []⟩ : Field)] : List Field)) ((((1 + (version.toNat % 3)) : Nat) : Int))).length : Nat) : Int) = ((((putCB ((fewF (a))) ([]) ((((1 + (version.toNat % 3)) : Nat) : Int))).length + 3) : Nat) : Int)) := of_decide_eq_false hb77
 refine WC.draw' mixed_orders [.ex [] (.bool true), .ex [0] (.bool true), .ex [1] (.slice a55 (putCB ((fewF (a))) ([]) ((((1 + (version.toNat % 3)) : Nat) : Int))).length c56), .ex [1, 2] (⟨(putCB ((fewF (a))) ([]) ((((1 + (version.toNat % 3)) : Nat) : Int)))⟩ : Str).val, .ex [1] (.slice a60 (putCB ((fewF (b))) ([]) ((((1 + (version.toNat % 3)) : Nat) : Int))).length c61), .ex [1, 4] (⟨(putCB ((fewF (b))) ([]) ((((1 + (version.toNat % 3)) : Nat) : Int)))⟩ : Str).val, .ex [1, 3, 5] (.bool (decide ((⟨(putCB ((fewF (a))) ([]) ((((1 + (version.toNat % 3)) : Nat) : Int)))⟩ : Str) = (⟨(putCB ((fewF (b))) ([]) ((((1 + (version.toNat % 3)) : Nat) : Int)))⟩ : Str)))), .ex [1] (.bool (decide (((fewF (a))) = ((fewF (b)))))), .ex [1, 6, 7] (.bool (((decide ((⟨(putCB ((fewF (a))) ([]) ((((1 + (version.toNat % 3)) : Nat) : Int)))⟩ : Str) = (⟨(putCB ((fewF (b))) ([]) ((((1 + (version.toNat % 3)) : Nat) : Int)))⟩ : Str))) == (decide (((fewF (a))) = ((fewF (b)))))))), .ex [1, 8] (.bool (((decide ((⟨(putCB ((fewF (a))) ([]) ((((1 + (version.toNat % 3)) : Nat) : Int)))⟩ : Str) = (⟨(putCB ((fewF (b))) ([]) ((((1 + (version.toNat % 3)) : Nat) : Int)))⟩ : Str))) == (decide (((fewF (a))) = ((fewF (b)))))))), .ex [9] (.bool true), .ex [10] (.int .i64 (putCE ((fewF (a))) (([(⟨(99 : Int), (0 : Int), (⟨1⟩ : U64), []⟩ : Field)] : List Field)) ((((1 + (version.toNat % 3)) : Nat) : Int)))), .ex [10, 11] (.bool (decide (putCE ((fewF (a))) (([(⟨(99 : Int), (0 : Int), (⟨1⟩ : U64), []⟩ : Field)] : List Field)) ((((1 + (version.toNat % 3)) : Nat) : Int)) = (0 : Int)))), .ex [10, 12] (.bool (decide (putCE ((fewF (a))) (([(⟨(99 : Int), (0 : Int), (⟨1⟩ : U64), []⟩ : Field)] : List Field)) ((((1 + (version.toNat % 3)) : Nat) : Int)) = (0 : Int)))), .ex [13] (.bool true), .ex [14] (.slice a72 (putCB ((fewF (a))) (([(⟨(99 : Int), (0 : Int), (⟨1⟩ : U64), []⟩ : Field)] : List Field)) ((((1 + (version.toNat % 3)) : Nat) : Int))).length c73), .ex [14, 15] (.int .i64 (((putCB ((fewF (a))) (([(⟨(99 : Int), (0 : Int), (⟨1⟩ : U64), []⟩ : Field)] : List Field)) ((((1 + (version.toNat % 3)) : Nat) : Int))).length : Nat) : Int)), .ex [14] (.slice a55 (putCB ((fewF (a))) ([]) ((((1 + (version.toNat % 3)) : Nat) : Int))).length c56), .ex [14, 17] (.int .i64 (((putCB ((fewF (a))) ([]) ((((1 + (version.toNat % 3)) : Nat) : Int))).length : Nat) : Int)), .ex [14, 18] (.int .i64 ((((putCB ((fewF (a))) ([]) ((((1 + (version.toNat % 3)) : Nat) : Int))).length + 3) : Nat) : Int)), .ex [14, 16, 19] (.bool (decide ((((putCB ((fewF (a))) (([(⟨(99 : Int), (0 : Int), (⟨1⟩ : U64), []⟩ : Field)] : List Field)) ((((1 + (version.toNat % 3)) : Nat) : Int))).length : Nat) : Int) = ((((putCB ((fewF (a))) ([]) ((((1 + (version.toNat % 3)) : Nat) : Int))).length + 3) : Nat) : Int)))), .ex [14, 20] (.bool (decide ((((putCB ((fewF (a))) (([(⟨(99 : Int), (0 : Int), (⟨1⟩ : U64), []⟩ : Field)] : List Field)) ((((1 + (version.toNat % 3)) : Nat) : Int))).length : Nat) : Int) = ((((putCB ((fewF (a))) ([]) ((((1 + (version.toNat % 3)) : Nat) : Int))).length + 3) : Nat) : Int)))), .ex [21] (.bool false), .ex [22] undef, .ex [22] undef, .ex [22] undef, .ex [22] undef, .ex [22] undef, .ex [22] undef, .ex [22] undef, .ex [22] undef, .ex [22] (.bool false)] 32 (by kernel_rfl) ⟨fun _ _ _ h _ => h, fun _ _ _ h _ => h, fun _ _ _ h _ => h, fun _ _ _ h _ => h, fun _ _ _ h _ => h, fun _ _ _ h _ => h, fun _ _ _ h _ => h, fun _ _ _ h _ => h, fun _ _ _ h _ => h, fun _ _ _ h _ => h, fun _ _ _ h _ => h, fun _ _ _ h _ => h, fun _ _ _ h _ => h, fun _ _ _ h _ => h, fun _ _ _ h _ => h, fun _ _ _ h _ => h, fun _ _ _ h _ => h, fun _ _ _ h _ => h, fun _ _ _ h _ => h, fun _ _ _ h _ => h, fun _ _ _ h _ => h, fun _ _ _ h _ => h, fun _ _ _ h _ => h, fun _ _ _ h _ => h, fun _ _ _ h _ => h, fun _ _ _ h _ => h, fun _ _ _ h _ => h, fun _ _ _ h _ => h, fun _ _ _ h _ => h, fun _ _ _ h _ => h, fun _ _ _ h _ => h, fun _ _ _ h _ => h, trivial⟩ ⟨?_, ?_, ?_, ?_, ?_, ?_, ?_, ?_, ?_, ?_, ?_, ?_, ?_, ?_, ?_, ?_, ?_, ?_, ?_, ?_, ?_, ?_, ?_, ?_, ?_, ?_, ?_, ?_, ?_, ?_, ?_, ?_, trivial⟩ ?_
 rintro vs w202 k202 ⟨-⟩
 replace k202 : Kp [] w71 w202 := k202
 refine WO.haves (fr' := [(7, _)]) ⟨⟨_, rfl, rfl⟩, trivial⟩ ?_
 refine WO.v (R.move rfl) rfl ?_
 refine WO.nil ?_
 exact WX.stepDone rfl rfl (Kp.refl _)
 rintro vs w203 k203 ⟨e204, -⟩
 replace k203 : Kp [] w71 w203 := k203
 refine WO.haves (fr' := [(55, _)]) ⟨⟨_, rfl, e204⟩, trivial⟩ ?_
 refine WO.v (R.move rfl) rfl ?_
 refine WO.nil ?_
 exact WX.stepDone rfl rfl (Kp.refl _)
 rintro vs w205 k205 ⟨e206, -⟩
 replace k205 : Kp [] w71 w205 := k205
 refine WO.haves (fr' := [(56, _), (9, _)]) ⟨⟨_, rfl, e206⟩, ⟨_, rfl, rfl⟩, trivial⟩ ?_
 refine WO.on rfl rfl rfl ?_
 refine WO.v (R.move rfl) rfl ?_
 refine WO.nil ?_
 exact WX.stepDone rfl rfl (Kp.refl _)
 rintro vs w207 k207 ⟨e208, e209, -⟩
 replace k207 : Kp [] w71 w207 := k207
 have z207 := k207.size
 have b207 := old_kp0 b71 k207
 have y207 := b207.size
 refine WO.haves (fr' := [(56, _), (57, _)]) ⟨⟨_, rfl, e208⟩, ⟨_, rfl, e209⟩, trivial⟩ ?_
 refine WO.on rfl rfl rfl ?_
 refine WO.v (R.toStr rfl Try.underlying27 Try.underlying9 Try.underlying5 (((ac_kp0 (ac_kp0 (ac_kp0 (ac_kp0 (ac_kp0 (s57) k59 (by omega) (by omega)) k67 (by omega) (by omega)) n69.kp (by omega) (by omega)) k71 (by omega) (by omega)) k207 (by omega) (by omega)).pub (L := 0) (H := w207.heap.size) (by omega) (by omega) (by omega) (by omega)))) rfl ?_
 refine WO.nil ?_
 exact WX.stepDone rfl rfl (Kp.refl _)
 rintro vs w210 k210 ⟨e211, -⟩
 replace k210 : Kp [] w71 w210 := k210
 refine WO.haves (fr' := [(56, _), (11, _)]) ⟨⟨_, rfl, e211⟩, ⟨_, rfl, rfl⟩, trivial⟩ ?_
 refine WO.on rfl rfl rfl ?_
 refine WO.v (R.move rfl) rfl ?_
 refine WO.nil ?_
 exact WX.stepDone rfl rfl (Kp.refl _)
 rintro vs w212 k212 ⟨e213, e214, -⟩
 replace k212 : Kp [] w71 w212 := k212
 have z212 := k212.size
 have b212 := old_kp0 b71 k212
 have y212 := b212.size
 refine WO.haves (fr' := [(56, _), (59, _)]) ⟨⟨_, rfl, e213⟩, ⟨_, rfl, e214⟩, trivial⟩ ?_
 refine WO.on rfl rfl rfl ?_
 refine WO.v (R.toStr rfl Try.underlying27 Try.underlying9 Try.underlying5 (((ac_kp0 (ac_kp0 (ac_kp0 (ac_kp0 (s62) k67 (by omega) (by omega)) n69.kp (by omega) (by omega)) k71 (by omega) (by omega)) k212 (by omega) (by omega)).pub (L := 0) (H := w212.heap.size) (by omega) (by omega) (by omega) (by omega)))) rfl ?_
 refine WO.nil ?_
 exact WX.stepDone rfl rfl (Kp.refl _)
 rintro vs w215 k215 ⟨e216, e217, e218, -⟩
 replace k215 : Kp [] w71 w215 := k215
 refine WO.haves (fr' := [(56, _), (58, _), (60, _)]) ⟨⟨_, rfl, e216⟩, ⟨_, rfl, e217⟩, ⟨_, rfl, e218⟩, trivial⟩ ?_
 refine WO.on rfl rfl rfl ?_
 refine WO.v (R.eqlS rfl rfl) rfl ?_
 refine WO.nil ?_
 exact WX.stepDone rfl rfl (Kp.refl _)
 rintro vs w219 k219 ⟨e220, -⟩
 replace k219 : Kp [] w71 w219 := k219
 refine WO.haves (fr' := [(56, _), (13, _)]) ⟨⟨_, rfl, e220⟩, ⟨_, rfl, rfl⟩, trivial⟩ ?_
 refine WO.on rfl rfl rfl ?_
 refine WO.v (R.move rfl) rfl ?_
 refine WO.nil ?_
 exact WX.stepDone rfl rfl (Kp.refl _)
 rintro vs w221 k221 ⟨e222, e223, e224, -⟩
 replace k221 : Kp [] w71 w221 := k221
 refine WO.haves (fr' := [(56, _), (61, _), (62, _)]) ⟨⟨_, rfl, e222⟩, ⟨_, rfl, e223⟩, ⟨_, rfl, e224⟩, trivial⟩ ?_
 refine WO.on rfl rfl rfl ?_
 refine WO.v (R.eqlB rfl rfl Try.underlying4) rfl ?_
 refine WO.nil ?_
 exact WX.stepDone rfl rfl (Kp.refl _)
 rintro vs w225 k225 ⟨e226, e227, -⟩
 replace k225 : Kp [] w71 w225 := k225
 refine WO.haves (fr' := [(56, _), (63, _)]) ⟨⟨_, rfl, e226⟩, ⟨_, rfl, e227⟩, trivial⟩ ?_
 refine WO.v (R.pickT rfl rfl rfl) rfl ?_
 refine WO.nil ?_
 exact WX.stepDone rfl rfl (Kp.refl _)
 rintro vs w228 k228 ⟨e229, -⟩
 replace k228 : Kp [] w71 w228 := k228
 refine WO.haves (fr' := [(64, _)]) ⟨⟨_, rfl, e229⟩, trivial⟩ ?_
 refine WO.v (R.move rfl) rfl ?_
 refine WO.nil ?_
 exact WX.stepDone rfl (vb hb75) (Kp.refl _)
 rintro vs w230 k230 ⟨e231, -⟩
 replace k230 : Kp [] w71 w230 := k230
 refine WO.haves (fr' := [(65, _), (15, _)]) ⟨⟨_, rfl, e231⟩, ⟨_, rfl, rfl⟩, trivial⟩ ?_
 refine WO.on rfl rfl rfl ?_
 refine WO.v (R.move rfl) rfl ?_
 refine WO.nil ?_
 exact WX.stepDone rfl rfl (Kp.refl _)
 rintro vs w232 k232 ⟨e233, e234, -⟩
 replace k232 : Kp [] w71 w232 := k232
 refine WO.haves (fr' := [(65, _), (66, _)]) ⟨⟨_, rfl, e233⟩, ⟨_, rfl, e234⟩, trivial⟩ ?_
 refine WO.on rfl rfl rfl ?_
 refine WO.v (R.eql rfl rfl) rfl ?_
 refine WO.nil ?_
 exact WX.stepDone rfl rfl (Kp.refl _)
 rintro vs w235 k235 ⟨e236, e237, -⟩
 replace k235 : Kp [] w71 w235 := k235
 refine WO.haves (fr' := [(65, _), (67, _)]) ⟨⟨_, rfl, e236⟩, ⟨_, rfl, e237⟩, trivial⟩ ?_
 refine WO.v (R.pickT rfl rfl rfl) rfl ?_
 refine WO.nil ?_
 exact WX.stepDone rfl rfl (Kp.refl _)
 rintro vs w238 k238 ⟨e239, -⟩
 replace k238 : Kp [] w71 w238 := k238
 refine WO.haves (fr' := [(68, _)]) ⟨⟨_, rfl, e239⟩, trivial⟩ ?_
 refine WO.v (R.move rfl) rfl ?_
 refine WO.nil ?_
 exact WX.stepDone rfl (vb hb76) (Kp.refl _)
 rintro vs w240 k240 ⟨e241, -⟩
 replace k240 : Kp [] w71 w240 := k240
 refine WO.haves (fr' := [(69, _), (14, _)]) ⟨⟨_, rfl, e241⟩, ⟨_, rfl, rfl⟩, trivial⟩ ?_
 refine WO.on rfl rfl rfl ?_
 refine WO.v (R.move rfl) rfl ?_
 refine WO.nil ?_
 exact WX.stepDone rfl rfl (Kp.refl _)
 rintro vs w242 k242 ⟨e243, e244, -⟩
 replace k242 : Kp [] w71 w242 := k242
 have z242 := k242.size
 have b242 := old_kp0 b71 k242
 have y242 := b242.size
 refine WO.haves (fr' := [(69, _), (70, _)]) ⟨⟨_, rfl, e243⟩, ⟨_, rfl, e244⟩, trivial⟩ ?_
 refine WO.on rfl rfl rfl ?_
 refine WO.v (R.len rfl Try.underlying27) rfl ?_
 refine WO.nil ?_
 exact WX.stepDone rfl rfl (Kp.refl _)
 rintro vs w245 k245 ⟨e246, -⟩
 replace k245 : Kp [] w71 w245 := k245
 refine WO.haves (fr' := [(69, _), (9, _)]) ⟨⟨_, rfl, e246⟩, ⟨_, rfl, rfl⟩, trivial⟩ ?_
 refine WO.on rfl rfl rfl ?_
 refine WO.v (R.move rfl) rfl ?_
 refine WO.nil ?_
 exact WX.stepDone rfl rfl (Kp.refl _)
 rintro vs w247 k247 ⟨e248, e249, -⟩
 replace k247 : Kp [] w71 w247 := k247
 have z247 := k247.size
 have b247 := old_kp0 b71 k247
 have y247 := b247.size
 refine WO.haves (fr' := [(69, _), (72, _)]) ⟨⟨_, rfl, e248⟩, ⟨_, rfl, e249⟩, trivial⟩ ?_
 refine WO.on rfl rfl rfl ?_
 refine WO.v (R.len rfl Try.underlying27) rfl ?_
 refine WO.nil ?_
 exact WX.stepDone rfl rfl (Kp.refl _)
 rintro vs w250 k250 ⟨e251, e252, -⟩
 replace k250 : Kp [] w71 w250 := k250
 refine WO.haves (fr' := [(69, _), (73, _)]) ⟨⟨_, rfl, e251⟩, ⟨_, rfl, e252⟩, trivial⟩ ?_
 refine WO.on rfl rfl rfl ?_
 refine WO.v (R.addN (a := (putCB ((fewF (a))) ([]) ((((1 + (version.toNat % 3)) : Nat) : Int))).length) (b := 3) rfl rfl (by omega)) rfl ?_
 refine WO.nil ?_
 exact WX.stepDone rfl rfl (Kp.refl _)
 rintro vs w253 k253 ⟨e254, e255, e256, -⟩
 replace k253 : Kp [] w71 w253 := k253
 refine WO.haves (fr' := [(69, _), (71, _), (74, _)]) ⟨⟨_, rfl, e254⟩, ⟨_, rfl, e255⟩, ⟨_, rfl, e256⟩, trivial⟩ ?_
 refine WO.on rfl rfl rfl ?_
 refine WO.v (R.eql rfl rfl) rfl ?_
 refine WO.nil ?_
 exact WX.stepDone rfl rfl (Kp.refl _)
 rintro vs w257 k257 ⟨e258, e259, -⟩
 replace k257 : Kp [] w71 w257 := k257
 refine WO.haves (fr' := [(69, _), (75, _)]) ⟨⟨_, rfl, e258⟩, ⟨_, rfl, e259⟩, trivial⟩ ?_
 refine WO.v (R.pickT rfl rfl rfl) rfl ?_
 refine WO.nil ?_
 exact WX.stepDone rfl rfl (Kp.refl _)
 rintro vs w260 k260 ⟨e261, -⟩
 replace k260 : Kp [] w71 w260 := k260
 refine WO.haves (fr' := [(76, _)]) ⟨⟨_, rfl, e261⟩, trivial⟩ ?_
 refine WO.v (R.move rfl) rfl ?_
 refine WO.nil ?_
 exact WX.stepDone rfl (vb hb77) (Kp.refl _)
 rintro vs w262 k262 ⟨e263, -⟩
 replace k262 : Kp [] w71 w262 := k262
 refine WO.haves (fr' := [(77, _), (14, _)]) ⟨⟨_, rfl, e263⟩, ⟨_, rfl, rfl⟩, trivial⟩ ?_
 refine WO.off rfl rfl rfl rfl ?_
 refine WO.nil ?_
 exact WX.stepDone rfl rfl (Kp.refl _)
 rintro vs w264 k264 ⟨e265, -⟩
 replace k264 : Kp [] w71 w264 := k264
 refine WO.haves (fr' := [(77, _), (9, _)]) ⟨⟨_, rfl, e265⟩, ⟨_, rfl, rfl⟩, trivial⟩ ?_
 refine WO.off rfl rfl rfl rfl ?_
 refine WO.nil ?_
 exact WX.stepDone rfl rfl (Kp.refl _)
 rintro vs w266 k266 ⟨e267, -⟩
 replace k266 : Kp [] w71 w266 := k266
 refine WO.haves (fr' := [(77, _)]) ⟨⟨_, rfl, e267⟩, trivial⟩ ?_
 refine WO.off rfl rfl rfl rfl ?_
 refine WO.nil ?_
 exact WX.stepDone rfl rfl (Kp.refl _)
 rintro vs w268 k268 ⟨e269, -⟩
 replace k268 : Kp [] w71 w268 := k268
 refine WO.haves (fr' := [(77, _)]) ⟨⟨_, rfl, e269⟩, trivial⟩ ?_
 refine WO.off rfl rfl rfl rfl ?_
 refine WO.nil ?_
 exact WX.stepDone rfl rfl (Kp.refl _)
 rintro vs w270 k270 ⟨e271, -⟩
 replace k270 : Kp [] w71 w270 := k270
 refine WO.haves (fr' := [(77, _)]) ⟨⟨_, rfl, e271⟩, trivial⟩ ?_
 refine WO.off rfl rfl rfl rfl ?_
 refine WO.nil ?_
 exact WX.stepDone rfl rfl (Kp.refl _)
 rintro vs w272 k272 ⟨e273, -⟩
 replace k272 : Kp [] w71 w272 := k272
 refine WO.haves (fr' := [(77, _), (9, _)]) ⟨⟨_, rfl, e273⟩, ⟨_, rfl, rfl⟩, trivial⟩ ?_
 refine WO.off rfl rfl rfl rfl ?_
 refine WO.nil ?_
 exact WX.stepDone rfl rfl (Kp.refl _)
 rintro vs w274 k274 ⟨e275, -⟩
 replace k274 : Kp [] w71 w274 := k274
 refine WO.haves (fr' := [(77, _)]) ⟨⟨_, rfl, e275⟩, trivial⟩ ?_
 refine WO.off rfl rfl rfl rfl ?_
 refine WO.nil ?_
 exact WX.stepDone rfl rfl (Kp.refl _)
 rintro vs w276 k276 ⟨e277, -⟩
 replace k276 : Kp [] w71 w276 := k276
 refine WO.haves (fr' := [(77, _)]) ⟨⟨_, rfl, e277⟩, trivial⟩ ?_
 refine WO.off rfl rfl rfl rfl ?_
 refine WO.nil ?_
 exact WX.stepDone rfl rfl (Kp.refl _)
 rintro vs w278 k278 ⟨e279, -⟩
 replace k278 : Kp [] w71 w278 := k278
 refine WO.haves (fr' := [(77, _)]) ⟨⟨_, rfl, e279⟩, trivial⟩ ?_
 refine WO.v (R.pickF rfl rfl rfl) rfl ?_
 refine WO.nil ?_
 exact WX.stepDone rfl rfl (Kp.refl _)
 rintro vs w280 k280 ⟨-, -, -, -, -, -, -, -, -, -, -, -, -, -, -, -, -, -, -, -, -, -, -, -, -, -, -, -, -, -, -, e312, -⟩
 replace k280 : Kp [] w71 w280 := k280
 have z280 := k280.size
 have b280 := old_kp0 b71 k280
 have y280 := b280.size
 refine WO.haves (fr' := [(86, _), (0, _), (1, _), (2, _), (3, _), (4, _), (6, _), (7, _), (8, _), (9, _), (10, _), (11, _), (12, _), (13, _), (14, _), (15, _), (42, _)]) ⟨⟨_, rfl, e312⟩, ⟨_, rfl, rfl⟩, ⟨_, rfl, rfl⟩, ⟨_, rfl, rfl⟩, ⟨_, rfl, rfl⟩, ⟨_, rfl, rfl⟩, ⟨_, rfl, rfl⟩, ⟨_, rfl, rfl⟩, ⟨_, rfl, rfl⟩, ⟨_, rfl, rfl⟩, ⟨_, rfl, rfl⟩, ⟨_, rfl, rfl⟩, ⟨_, rfl, rfl⟩, ⟨_, rfl, rfl⟩, ⟨_, rfl, rfl⟩, ⟨_, rfl, rfl⟩, ⟨_, rfl, rfl⟩, trivial⟩ ?_
 refine WO.v (R.assign rfl) rfl ?_
 refine WO.nil ?_
 refine WX.sel [0, 1, 2, 3, 4, 6, 7, 8, 9, 10, 11, 12, 13, 14, 15, 42] rfl ?_
 refine WX.next ?_
 refine WC.ret ?_
 have e0 : false = true := by first | rfl | exact sm4 (sml (a := fewF a) (b := fewF b) (by omega) ⟨‹I64 (fewF a).kind›.2, ‹I64 (fewF a).client›.2, ‹I64 (fewF a).seq›.2, ‹I64 (fewF a).set›.2, ‹I64 (fewF a).id›.2, ‹I64 (fewF a).n›.2⟩ q64) | exact sm1 (sml (a := fewF a) (b := fewF b) (by omega) ⟨‹I64 (fewF a).kind›.2, ‹I64 (fewF a).client›.2, ‹I64 (fewF a).seq›.2, ‹I64 (fewF a).set›.2, ‹I64 (fewF a).id›.2, ‹I64 (fewF a).n›.2⟩ q64) (by assumption) | exact sm2 (sml (a := fewF a) (b := fewF b) (by omega) ⟨‹I64 (fewF a).kind›.2, ‹I64 (fewF a).client›.2, ‹I64 (fewF a).seq›.2, ‹I64 (fewF a).set›.2, ‹I64 (fewF a).id›.2, ‹I64 (fewF a).n›.2⟩ q64) (by assumption) | exact sm3 (sml (a := fewF a) (b := fewF b) (by omega) ⟨‹I64 (fewF a).kind›.2, ‹I64 (fewF a).client›.2, ‹I64 (fewF a).seq›.2, ‹I64 (fewF a).set›.2, ‹I64 (fewF a).id›.2, ‹I64 (fewF a).n›.2⟩ q64) (by assumption)
 refine WX.ret1 Try.results4 rfl ?_
 exact ⟨by rw [e0], Kp.of_below b280⟩
 have phb76 : ¬ (putCE ((fewF (a))) (([(⟨(99 : Int), (0 : Int), (⟨1⟩ : U64), []⟩ : Field)] : List Field)) ((((1 + (version.toNat % 3)) : Nat) : Int)) = (0 : Int)) := of_decide_eq_false hb76
 refine WC.draw' mixed_orders [.ex [] (.bool true), .ex [0] (.bool true), .ex [1] (.slice a55 (putCB ((fewF (a))) ([]) ((((1 + (version.toNat % 3)) : Nat) : Int))).length c56), .ex [1, 2] (⟨(putCB ((fewF (a))) ([]) ((((1 + (version.toNat % 3)) : Nat) : Int)))⟩ : Str).val, .ex [1] (.slice a60 (putCB ((fewF (b))) ([]) ((((1 + (version.toNat % 3)) : Nat) : Int))).length c61), .ex [1, 4] (⟨(putCB ((fewF (b))) ([]) ((((1 + (version.toNat % 3)) : Nat) : Int)))⟩ : Str).val, .ex [1, 3, 5] (.bool (decide ((⟨(putCB ((fewF (a))) ([]) ((((1 + (version.toNat % 3)) : Nat) : Int)))⟩ : Str) = (⟨(putCB ((fewF (b))) ([]) ((((1 + (version.toNat % 3)) : Nat) : Int)))⟩ : Str)))), .ex [1] (.bool (decide (((fewF (a))) = ((fewF (b)))))), .ex [1, 6, 7] (.bool (((decide ((⟨(putCB ((fewF (a))) ([]) ((((1 + (version.toNat % 3)) : Nat) : Int)))⟩ : Str) = (⟨(putCB ((fewF (b))) ([]) ((((1 + (version.toNat % 3)) : Nat) : Int)))⟩ : Str))) == (decide (((fewF (a))) = ((fewF (b)))))))), .ex [1, 8] (.bool (((decide ((⟨(putCB ((fewF (a))) ([]) ((((1 + (version.toNat % 3)) : Nat) : Int)))⟩ : Str) = (⟨(putCB ((fewF (b))) ([]) ((((1 + (version.toNat % 3)) : Nat) : Int)))⟩ : Str))) == (decide (((fewF (a))) = ((fewF (b)))))))), .ex [9] (.bool true), .ex [10] (.int .i64 (putCE ((fewF (a))) (([(⟨(99 : Int), (0 : Int), (⟨1⟩ : U64), []⟩ : Field)] : List Field)) ((((1 + (version.toNat % 3)) : Nat) : Int)))), .ex [10, 11] (.bool (decide (putCE ((fewF (a))) (([(⟨(99 : Int), (0 : Int), (⟨1⟩ : U64), []⟩ : Field)] : List Field)) ((((1 + (version.toNat % 3)) : Nat) : Int)) = (0 : Int)))), .ex [10, 12] (.bool (decide (putCE ((fewF (a))) (([(⟨(99 : Int), (0 : Int), (⟨1⟩ : U64), []⟩ : Field)] : List Field)) ((((1 + (version.toNat % 3)) : Nat) : Int)) = (0 : Int)))), .ex [13] (.bool false), .ex [14] undef, .ex [14] undef, .ex [14] undef, .ex [14] undef, .ex [14] undef, .ex [14] undef, .ex [14] (.bool false), .ex [21] (.bool false), .ex [22] undef, .ex [22] undef, .ex [22] undef, .ex [22] undef, .ex [22] undef, .ex [22] undef, .ex [22] undef, .ex [22] undef, .ex [22] (.bool false)] 32 (by kernel_rfl) ⟨fun _ _ _ h _ => h, fun _ _ _ h _ => h, fun _ _ _ h _ => h, fun _ _ _ h _ => h, fun _ _ _ h _ => h, fun _ _ _ h _ => h, fun _ _ _ h _ => h, fun _ _ _ h _ => h, fun _ _ _ h _ => h, fun _ _ _ h _ => h, fun _ _ _ h _ => h, fun _ _ _ h _ => h, fun _ _ _ h _ => h, fun _ _ _ h _ => h, fun _ _ _ h _ => h, fun _ _ _ h _ => h, fun _ _ _ h _ => h, fun _ _ _ h _ => h, fun _ _ _ h _ => h, fun _ _ _ h _ => h, fun _ _ _ h _ => h, fun _ _ _ h _ => h, fun _ _ _ h _ => h, fun _ _ _ h _ => h, fun _ _ _ h _ => h, fun _ _ _ h _ => h, fun _ _ _ h _ => h, fun _ _ _ h _ => h, fun _ _ _ h _ => h, fun _ _ _ h _ => h, fun _ _ _ h _ => h, fun _ _ _ h _ => h, trivial⟩ ⟨?_, ?_, ?_, ?_, ?_, ?_, ?_, ?_, ?_, ?_, ?_, ?_, ?_, ?_, ?_, ?_, ?_, ?_, ?_, ?_, ?_, ?_, ?_, ?_, ?_, ?_, ?_, ?_, ?_, ?_, ?_, ?_, trivial⟩ ?_
 rintro vs w313 k313 ⟨-⟩
 replace k313 : Kp [] w71 w313 := k313
 refine WO.haves (fr' := [(7, _)]) ⟨⟨_, rfl, rfl⟩, trivial⟩ ?_
 refine WO.v (R.move rfl) rfl ?_
 refine WO.nil ?_
 exact WX.stepDone rfl rfl (Kp.refl _)
 rintro vs w314 k314 ⟨e315, -⟩
 replace k314 : Kp [] w71 w314 := k314
 refine WO.haves (fr' := [(55, _)]) ⟨⟨_, rfl, e315⟩, trivial⟩ ?_
 refine WO.v (R.move rfl) rfl ?_
 refine WO.nil ?_
 exact WX.stepDone rfl rfl (Kp.refl _)
 rintro vs w316 k316 ⟨e317, -⟩
 replace k316 : Kp [] w71 w316 := k316
 refine WO.haves (fr' := [(56, _), (9, _)]) ⟨⟨_, rfl, e317⟩, ⟨_, rfl, rfl⟩, trivial⟩ ?_
 refine WO.on rfl rfl rfl ?_
 refine WO.v (R.move rfl) rfl ?_
 refine WO.nil ?_
 exact WX.stepDone rfl rfl (Kp.refl _)
 rintro vs w318 k318 ⟨e319, e320, -⟩
 replace k318 : Kp [] w71 w318 := k318
 have z318 := k318.size
 have b318 := old_kp0 b71 k318
 have y318 := b318.size
 refine WO.haves (fr' := [(56, _), (57, _)]) ⟨⟨_, rfl, e319⟩, ⟨_, rfl, e320⟩, trivial⟩ ?_
 refine WO.on rfl rfl rfl ?_
 refine WO.v (R.toStr rfl Try.underlying27 Try.underlying9 Try.underlying5 (((ac_kp0 (ac_kp0 (ac_kp0 (ac_kp0 (ac_kp0 (s57) k59 (by omega) (by omega)) k67 (by omega) (by omega)) n69.kp (by omega) (by omega)) k71 (by omega) (by omega)) k318 (by omega) (by omega)).pub (L := 0) (H := w318.heap.size) (by omega) (by omega) (by omega) (by omega)))) rfl ?_
 refine WO.nil ?_
 exact WX.stepDone rfl rfl (Kp.refl _)
 rintro vs w321 k321 ⟨e322, -⟩
 replace k321 : Kp [] w71 w321 := k321
 refine WO.haves (fr' := [(56, _), (11, _)]) ⟨⟨_, rfl, e322⟩, ⟨_, rfl, rfl⟩, trivial⟩ ?_
 refine WO.on rfl rfl rfl ?_
 refine WO.v (R.move rfl) rfl ?_
 refine WO.nil ?_
 exact WX.stepDone rfl rfl (Kp.refl _)
 rintro vs w323 k323 ⟨e324, e325, -⟩
 replace k323 : Kp [] w71 w323 := k323
 have z323 := k323.size
 have b323 := old_kp0 b71 k323
 have y323 := b323.size
 refine WO.haves (fr' := [(56, _), (59, _)]) ⟨⟨_, rfl, e324⟩, ⟨_, rfl, e325⟩, trivial⟩ ?_
 refine WO.on rfl rfl rfl ?_
 refine WO.v (R.toStr rfl Try.underlying27 Try.underlying9 Try.underlying5 (((ac_kp0 (ac_kp0 (ac_kp0 (ac_kp0 (s62) k67 (by omega) (by omega)) n69.kp (by omega) (by omega)) k71 (by omega) (by omega)) k323 (by omega) (by omega)).pub (L := 0) (H := w323.heap.size) (by omega) (by omega) (by omega) (by omega)))) rfl ?_
 refine WO.nil ?_
 exact WX.stepDone rfl rfl (Kp.refl _)
 rintro vs w326 k326 ⟨e327, e328, e329, -⟩
 replace k326 : Kp [] w71 w326 := k326
 refine WO.haves (fr' := [(56, _), (58, _), (60, _)]) ⟨⟨_, rfl, e327⟩, ⟨_, rfl, e328⟩, ⟨_, rfl, e329⟩, trivial⟩ ?_
 refine WO.on rfl rfl rfl ?_
 refine WO.v (R.eqlS rfl rfl) rfl ?_
 refine WO.nil ?_
 exact WX.stepDone rfl rfl (Kp.refl _)
 rintro vs w330 k330 ⟨e331, -⟩
 replace k330 : Kp [] w71 w330 := k330
 refine WO.haves (fr' := [(56, _), (13, _)]) ⟨⟨_, rfl, e331⟩, ⟨_, rfl, rfl⟩, trivial⟩ ?_
 refine WO.on rfl rfl rfl ?_
 refine WO.v (R.move rfl) rfl ?_
 refine WO.nil ?_
 exact WX.stepDone rfl rfl (Kp.refl _)
 rintro vs w332 k332 ⟨e333, e334, e335, -⟩
 replace k332 : Kp [] w71 w332 := k332
 refine WO.haves (fr' := [(56, _), (61, _), (62, _)]) ⟨⟨_, rfl, e333⟩, ⟨_, rfl, e334⟩, ⟨_, rfl, e335⟩, trivial⟩ ?_
 refine WO.on rfl rfl rfl ?_
 refine WO.v (R.eqlB rfl rfl Try.underlying4) rfl ?_
 refine WO.nil ?_
 exact WX.stepDone rfl rfl (Kp.refl _)
 rintro vs w336 k336 ⟨e337, e338, -⟩
 replace k336 : Kp [] w71 w336 := k336
 refine WO.haves (fr' := [(56, _), (63, _)]) ⟨⟨_, rfl, e337⟩, ⟨_, rfl, e338⟩, trivial⟩ ?_
 refine WO.v (R.pickT rfl rfl rfl) rfl ?_
 refine WO.nil ?_
 exact WX.stepDone rfl rfl (Kp.refl _)
 rintro vs w339 k339 ⟨e340, -⟩
 replace k339 : Kp [] w71 w339 := k339
 refine WO.haves (fr' := [(64, _)]) ⟨⟨_, rfl, e340⟩, trivial⟩ ?_
 refine WO.v (R.move rfl) rfl ?_
 refine WO.nil ?_
 exact WX.stepDone rfl (vb hb75) (Kp.refl _)
 rintro vs w341 k341 ⟨e342, -⟩
 replace k341 : Kp [] w71 w341 := k341
 refine WO.haves (fr' := [(65, _), (15, _)]) ⟨⟨_, rfl, e342⟩, ⟨_, rfl, rfl⟩, trivial⟩ ?_
 refine WO.on rfl rfl rfl ?_
 refine WO.v (R.move rfl) rfl ?_
 refine WO.nil ?_
 exact WX.stepDone rfl rfl (Kp.refl _)
 rintro vs w343 k343 ⟨e344, e345, -⟩
 replace k343 : Kp [] w71 w343 := k343
 refine WO.haves (fr' := [(65, _), (66, _)]) ⟨⟨_, rfl, e344⟩, ⟨_, rfl, e345⟩, trivial⟩ ?_
 refine WO.on rfl rfl rfl ?_
 refine WO.v (R.eql rfl rfl) rfl ?_
 refine WO.nil ?_
 exact WX.stepDone rfl rfl (Kp.refl _)
 rintro vs w346 k346 ⟨e347, e348, -⟩
 replace k346 : Kp [] w71 w346 := k346
 refine WO.haves (fr' := [(65, _), (67, _)]) ⟨⟨_, rfl, e347⟩, ⟨_, rfl, e348⟩, trivial⟩ ?_
 refine WO.v (R.pickT rfl rfl rfl) rfl ?_
 refine WO.nil ?_
 exact WX.stepDone rfl rfl (Kp.refl _)
 rintro vs w349 k349 ⟨e350, -⟩
 replace k349 : Kp [] w71 w349 := k349
 refine WO.haves (fr' := [(68, _)]) ⟨⟨_, rfl, e350⟩, trivial⟩ ?_
 refine WO.v (R.move rfl) rfl ?_
 refine WO.nil ?_
 exact WX.stepDone rfl (vb hb76) (Kp.refl _)
 rintro vs w351 k351 ⟨e352, -⟩
 replace k351 : Kp [] w71 w351 := k351
 refine WO.haves (fr' := [(69, _), (14, _)]) ⟨⟨_, rfl, e352⟩, ⟨_, rfl, rfl⟩, trivial⟩ ?_
 refine WO.off rfl rfl rfl rfl ?_
 refine WO.nil ?_
 exact WX.stepDone rfl rfl (Kp.refl _)
 rintro vs w353 k353 ⟨e354, -⟩
 replace k353 : Kp [] w71 w353 := k353
 refine WO.haves (fr' := [(69, _)]) ⟨⟨_, rfl, e354⟩, trivial⟩ ?_
 refine WO.off rfl rfl rfl rfl ?_
 refine WO.nil ?_
 exact WX.stepDone rfl rfl (Kp.refl _)
 rintro vs w355 k355 ⟨e356, -⟩
 replace k355 : Kp [] w71 w355 := k355
 refine WO.haves (fr' := [(69, _), (9, _)]) ⟨⟨_, rfl, e356⟩, ⟨_, rfl, rfl⟩, trivial⟩ ?_
 refine WO.off rfl rfl rfl rfl ?_
 refine WO.nil ?_
 exact WX.stepDone rfl rfl (Kp.refl _)
 rintro vs w357 k357 ⟨e358, -⟩
 replace k357 : Kp [] w71 w357 := k357
 refine WO.haves (fr' := [(69, _)]) ⟨⟨_, rfl, e358⟩, trivial⟩ ?_
 refine WO.off rfl rfl rfl rfl ?_
 refine WO.nil ?_
 exact WX.stepDone rfl rfl (Kp.refl _)
 rintro vs w359 k359 ⟨e360, -⟩
 replace k359 : Kp [] w71 w359 := k359
 refine WO.haves (fr' := [(69, _)]) ⟨⟨_, rfl, e360⟩, trivial⟩ ?_
 refine WO.off rfl rfl rfl rfl ?_
 refine WO.nil ?_
 exact WX.stepDone rfl rfl (Kp.refl _)
 rintro vs w361 k361 ⟨e362, -⟩
 replace k361 : Kp [] w71 w361 := k361
 refine WO.haves (fr' := [(69, _)]) ⟨⟨_, rfl, e362⟩, trivial⟩ ?_
 refine WO.off rfl rfl rfl rfl ?_
 refine WO.nil ?_
 exact WX.stepDone rfl rfl (Kp.refl _)
 rintro vs w363 k363 ⟨e364, -⟩
 replace k363 : Kp [] w71 w363 := k363
 refine WO.haves (fr' := [(69, _)]) ⟨⟨_, rfl, e364⟩, trivial⟩ ?_
 refine WO.v (R.pickF rfl rfl rfl) rfl ?_
 refine WO.nil ?_
 exact WX.stepDone rfl rfl (Kp.refl _)
 rintro vs w365 k365 ⟨e366, -⟩
 replace k365 : Kp [] w71 w365 := k365
 refine WO.haves (fr' := [(76, _)]) ⟨⟨_, rfl, e366⟩, trivial⟩ ?_
 refine WO.v (R.move rfl) rfl ?_
 refine WO.nil ?_
 exact WX.stepDone rfl rfl (Kp.refl _)
 rintro vs w367 k367 ⟨e368, -⟩
 replace k367 : Kp [] w71 w367 := k367
 refine WO.haves (fr' := [(77, _), (14, _)]) ⟨⟨_, rfl, e368⟩, ⟨_, rfl, rfl⟩, trivial⟩ ?_
 refine WO.off rfl rfl rfl rfl ?_
 refine WO.nil ?_
 exact WX.stepDone rfl rfl (Kp.refl _)
 rintro vs w369 k369 ⟨e370, -⟩
 replace k369 : Kp [] w71 w369 := k369
 refine WO.haves (fr' := [(77, _), (9, _)]) ⟨⟨_, rfl, e370⟩, ⟨_, rfl, rfl⟩, trivial⟩ ?_
 refine WO.off rfl rfl rfl rfl ?_
 refine WO.nil ?_
 exact WX.stepDone rfl rfl (Kp.refl _)
 rintro vs w371 k371 ⟨e372, -⟩
 replace k371 : Kp [] w71 w371 := k371
 refine WO.haves (fr' := [(77, _)]) ⟨⟨_, rfl, e372⟩, trivial⟩ ?_
 refine WO.off rfl rfl rfl rfl ?_
 refine WO.nil ?_
 exact WX.stepDone rfl rfl (Kp.refl _)
 rintro vs w373 k373 ⟨e374, -⟩
 replace k373 : Kp [] w71 w373 := k373
 refine WO.haves (fr' := [(77, _)]) ⟨⟨_, rfl, e374⟩, trivial⟩ ?_
 refine WO.off rfl rfl rfl rfl ?_
 refine WO.nil ?_
 exact WX.stepDone rfl rfl (Kp.refl _)
 rintro vs w375 k375 ⟨e376, -⟩
 replace k375 : Kp [] w71 w375 := k375
 refine WO.haves (fr' := [(77, _)]) ⟨⟨_, rfl, e376⟩, trivial⟩ ?_
 refine WO.off rfl rfl rfl rfl ?_
 refine WO.nil ?_
 exact WX.stepDone rfl rfl (Kp.refl _)
 rintro vs w377 k377 ⟨e378, -⟩
 replace k377 : Kp [] w71 w377 := k377
 refine WO.haves (fr' := [(77, _), (9, _)]) ⟨⟨_, rfl, e378⟩, ⟨_, rfl, rfl⟩, trivial⟩ ?_
 refine WO.off rfl rfl rfl rfl ?_
 refine WO.nil ?_
 exact WX.stepDone rfl rfl (Kp.refl _)
 rintro vs w379 k379 ⟨e380, -⟩
 replace k379 : Kp [] w71 w379 := k379
 refine WO.haves (fr' := [(77, _)]) ⟨⟨_, rfl, e380⟩, trivial⟩ ?_
 refine WO.off rfl rfl rfl rfl ?_
 refine WO.nil ?_
 exact WX.stepDone rfl rfl (Kp.refl _)
 rintro vs w381 k381 ⟨e382, -⟩
 replace k381 : Kp [] w71 w381 := k381
 refine WO.haves (fr' := [(77, _)]) ⟨⟨_, rfl, e382⟩, trivial⟩ ?_
 refine WO.off rfl rfl rfl rfl ?_
 refine WO.nil ?_
 exact WX.stepDone rfl rfl (Kp.refl _)
 rintro vs w383 k383 ⟨e384, -⟩
 replace k383 : Kp [] w71 w383 := k383
 refine WO.haves (fr' := [(77, _)]) ⟨⟨_, rfl, e384⟩, trivial⟩ ?_
 refine WO.v (R.pickF rfl rfl rfl) rfl ?_
 refine WO.nil ?_
 exact WX.stepDone rfl rfl (Kp.refl _)
 rintro vs w385 k385 ⟨-, -, -, -, -, -, -, -, -, -, -, -, -, -, -, -, -, -, -, -, -, -, -, -, -, -, -, -, -, -, -, e417, -⟩
 replace k385 : Kp [] w71 w385 := k385
 have z385 := k385.size
 have b385 := old_kp0 b71 k385
 have y385 := b385.size
 refine WO.haves (fr' := [(86, _), (0, _), (1, _), (2, _), (3, _), (4, _), (6, _), (7, _), (8, _), (9, _), (10, _), (11, _), (12, _), (13, _), (14, _), (15, _), (42, _)]) ⟨⟨_, rfl, e417⟩, ⟨_, rfl, rfl⟩, ⟨_, rfl, rfl⟩, ⟨_, rfl, rfl⟩, ⟨_, rfl, rfl⟩, ⟨_, rfl, rfl⟩, ⟨_, rfl, rfl⟩, ⟨_, rfl, rfl⟩, ⟨_, rfl, rfl⟩, ⟨_, rfl, rfl⟩, ⟨_, rfl, rfl⟩, ⟨_, rfl, rfl⟩, ⟨_, rfl, rfl⟩, ⟨_, rfl, rfl⟩, ⟨_, rfl, rfl⟩, ⟨_, rfl, rfl⟩, ⟨_, rfl, rfl⟩, trivial⟩ ?_
 refine WO.v (R.assign rfl) rfl ?_
 refine WO.nil ?_
 refine WX.sel [0, 1, 2, 3, 4, 6, 7, 8, 9, 10, 11, 12, 13, 14, 15, 42] rfl ?_
 refine WX.next ?_
 refine WC.ret ?_
 have e0 : false = true := by first | rfl | exact sm4 (sml (a := fewF a) (b := fewF b) (by omega) ⟨‹I64 (fewF a).kind›.2, ‹I64 (fewF a).client›.2, ‹I64 (fewF a).seq›.2, ‹I64 (fewF a).set›.2, ‹I64 (fewF a).id›.2, ‹I64 (fewF a).n›.2⟩ q64) | exact sm1 (sml (a := fewF a) (b := fewF b) (by omega) ⟨‹I64 (fewF a).kind›.2, ‹I64 (fewF a).client›.2, ‹I64 (fewF a).seq›.2, ‹I64 (fewF a).set›.2, ‹I64 (fewF a).id›.2, ‹I64 (fewF a).n›.2⟩ q64) (by assumption) | exact sm2 (sml (a := fewF a) (b := fewF b) (by omega) ⟨‹I64 (fewF a).kind›.2, ‹I64 (fewF a).client›.2, ‹I64 (fewF a).seq›.2, ‹I64 (fewF a).set›.2, ‹I64 (fewF a).id›.2, ‹I64 (fewF a).n›.2⟩ q64) (by assumption) | exact sm3 (sml (a := fewF a) (b := fewF b) (by omega) ⟨‹I64 (fewF a).kind›.2, ‹I64 (fewF a).client›.2, ‹I64 (fewF a).seq›.2, ‹I64 (fewF a).set›.2, ‹I64 (fewF a).id›.2, ‹I64 (fewF a).n›.2⟩ q64) (by assumption)
 refine WX.ret1 Try.results4 rfl ?_
 exact ⟨by rw [e0], Kp.of_below b385⟩
 have phb75 : (((decide ((⟨(putCB ((fewF (a))) ([]) ((((1 + (version.toNat % 3)) : Nat) : Int)))⟩ : Str) = (⟨(putCB ((fewF (b))) ([]) ((((1 + (version.toNat % 3)) : Nat) : Int)))⟩ : Str))) == (decide (((fewF (a))) = ((fewF (b))))))) = false := hb75
 refine WC.draw' mixed_orders [.ex [] (.bool true), .ex [0] (.bool true), .ex [1] (.slice a55 (putCB ((fewF (a))) ([]) ((((1 + (version.toNat % 3)) : Nat) : Int))).length c56), .ex [1, 2] (⟨(putCB ((fewF (a))) ([]) ((((1 + (version.toNat % 3)) : Nat) : Int)))⟩ : Str).val, .ex [1] (.slice a60 (putCB ((fewF (b))) ([]) ((((1 + (version.toNat % 3)) : Nat) : Int))).length c61), .ex [1, 4] (⟨(putCB ((fewF (b))) ([]) ((((1 + (version.toNat % 3)) : Nat) : Int)))⟩ : Str).val, .ex [1, 3, 5] (.bool (decide ((⟨(putCB ((fewF (a))) ([]) ((((1 + (version.toNat % 3)) : Nat) : Int)))⟩ : Str) = (⟨(putCB ((fewF (b))) ([]) ((((1 + (version.toNat % 3)) : Nat) : Int)))⟩ : Str)))), .ex [1] (.bool (decide (((fewF (a))) = ((fewF (b)))))), .ex [1, 6, 7] (.bool (((decide ((⟨(putCB ((fewF (a))) ([]) ((((1 + (version.toNat % 3)) : Nat) : Int)))⟩ : Str) = (⟨(putCB ((fewF (b))) ([]) ((((1 + (version.toNat % 3)) : Nat) : Int)))⟩ : Str))) == (decide (((fewF (a))) = ((fewF (b)))))))), .ex [1, 8] (.bool (((decide ((⟨(putCB ((fewF (a))) ([]) ((((1 + (version.toNat % 3)) : Nat) : Int)))⟩ : Str) = (⟨(putCB ((fewF (b))) ([]) ((((1 + (version.toNat % 3)) : Nat) : Int)))⟩ : Str))) == (decide (((fewF (a))) = ((fewF (b)))))))), .ex [9] (.bool false), .ex [10] undef, .ex [10] undef, .ex [10] (.bool false), .ex [13] (.bool false), .ex [14] undef, .ex [14] undef, .ex [14] undef, .ex [14] undef, .ex [14] undef, .ex [14] undef, .ex [14] (.bool false), .ex [21] (.bool false), .ex [22] undef, .ex [22] undef, .ex [22] undef, .ex [22] undef, .ex [22] undef, .ex [22] undef, .ex [22] undef, .ex [22] undef, .ex [22] (.bool false)] 32 (by kernel_rfl) ⟨fun _ _ _ h _ => h, fun _ _ _ h _ => h, fun _ _ _ h _ => h, fun _ _ _ h _ => h, fun _ _ _ h _ => h, fun _ _ _ h _ => h, fun _ _ _ h _ => h, fun _ _ _ h _ => h, fun _ _ _ h _ => h, fun _ _ _ h _ => h, fun _ _ _ h _ => h, fun _ _ _ h _ => h, fun _ _ _ h _ => h, fun _ _ _ h _ => h, fun _ _ _ h _ => h, fun _ _ _ h _ => h, fun _ _ _ h _ => h, fun _ _ _ h _ => h, fun _ _ _ h _ => h, fun _ _ _ h _ => h, fun _ _ _ h _ => h, fun _ _ _ h _ => h, fun _ _ _ h _ => h, fun _ _ _ h _ => h, fun _ _ _ h _ => h, fun _ _ _ h _ => h, fun _ _ _ h _ => h, fun _ _ _ h _ => h, fun _ _ _ h _ => h, fun _ _ _ h _ => h, fun _ _ _ h _ => h, fun _ _ _ h _ => h, trivial⟩ ⟨?_, ?_, ?_, ?_, ?_, ?_, ?_, ?_, ?_, ?_, ?_, ?_, ?_, ?_, ?_, ?_, ?_, ?_, ?_, ?_, ?_, ?_, ?_, ?_, ?_, ?_, ?_, ?_, ?_, ?_, ?_, ?_, trivial⟩ ?_
 rintro vs w418 k418 ⟨-⟩
 replace k418 : Kp [] w71 w418 := k418
 refine WO.haves (fr' := [(7, _)]) ⟨⟨_, rfl, rfl⟩, trivial⟩ ?_
 refine WO.v (R.move rfl) rfl ?_
 refine WO.nil ?_
 exact WX.stepDone rfl rfl (Kp.refl _)
 rintro vs w419 k419 ⟨e420, -⟩
 replace k419 : Kp [] w71 w419 := k419
 refine WO.haves (fr' := [(55, _)]) ⟨⟨_, rfl, e420⟩, trivial⟩ ?_
 refine WO.v (R.move rfl) rfl ?_
 refine WO.nil ?_
 exact WX.stepDone rfl rfl (Kp.refl _)
 rintro vs w421 k421 ⟨e422, -⟩
 replace k421 : Kp [] w71 w421 := k421
 refine WO.haves (fr' := [(56, _), (9, _)]) ⟨⟨_, rfl, e422⟩, ⟨_, rfl, rfl⟩, trivial⟩ ?_
 refine WO.on rfl rfl rfl ?_
 refine WO.v (R.move rfl) rfl ?_
 refine WO.nil ?_
 exact WX.stepDone rfl rfl (Kp.refl _)
 rintro vs w423 k423 ⟨e424, e425, -⟩
 replace k423 : Kp [] w71 w423 := k423
 have z423 := k423.size
 have b423 := old_kp0 b71 k423
 have y423 := b423.size
 refine WO.haves (fr' := [(56, _), (57, _)]) ⟨⟨_, rfl, e424⟩, ⟨_, rfl, e425⟩, trivial⟩ ?_
 refine WO.on rfl rfl rfl ?_
 refine WO.v (R.toStr rfl Try.underlying27 Try.underlying9 Try.underlying5 (((ac_kp0 (ac_kp0 (ac_kp0 (ac_kp0 (ac_kp0 (s57) k59 (by omega) (by omega)) k67 (by omega) (by omega)) n69.kp (by omega) (by omega)) k71 (by omega) (by omega)) k423 (by omega) (by omega)).pub (L := 0) (H := w423.heap.size) (by omega) (by omega) (by omega) (by omega)))) rfl ?_
 refine WO.nil ?_
 exact WX.stepDone rfl rfl (Kp.refl _)
 rintro vs w426 k426 ⟨e427, -⟩
 replace k426 : Kp [] w71 w426 := k426
 refine WO.haves (fr' := [(56, _), (11, _)]) ⟨⟨_, rfl, e427⟩, ⟨_, rfl, rfl⟩, trivial⟩ ?_
 refine WO.on rfl rfl rfl ?_
 refine WO.v (R.move rfl) rfl ?_
 refine WO.nil ?_
 exact WX.stepDone rfl rfl (Kp.refl _)
 rintro vs w428 k428 ⟨e429, e430, -⟩
 replace k428 : Kp [] w71 w428 := k428
 have z428 := k428.size
 have b428 := old_kp0 b71 k428
 have y428 := b428.size
 refine WO.haves (fr' := [(56, _), (59, _)]) ⟨⟨_, rfl, e429⟩, ⟨_, rfl, e430⟩, trivial⟩ ?_
 refine WO.on rfl rfl rfl ?_
 refine WO.v (R.toStr rfl Try.underlying27 Try.underlying9 Try.underlying5 (((ac_kp0 (ac_kp0 (ac_kp0 (ac_kp0 (s62) k67 (by omega) (by omega)) n69.kp (by omega) (by omega)) k71 (by omega) (by omega)) k428 (by omega) (by omega)).pub (L := 0) (H := w428.heap.size) (by omega) (by omega) (by omega) (by omega)))) rfl ?_
 refine WO.nil ?_
 exact WX.stepDone rfl rfl (Kp.refl _)
 rintro vs w431 k431 ⟨e432, e433, e434, -⟩
 replace k431 : Kp [] w71 w431 := k431
 refine WO.haves (fr' := [(56, _), (58, _), (60, _)]) ⟨⟨_, rfl, e432⟩, ⟨_, rfl, e433⟩, ⟨_, rfl, e434⟩, trivial⟩ ?_
 refine WO.on rfl rfl rfl ?_
 refine WO.v (R.eqlS rfl rfl) rfl ?_
 refine WO.nil ?_
 exact WX.stepDone rfl rfl (Kp.refl _)
 rintro vs w435 k435 ⟨e436, -⟩
 replace k435 : Kp [] w71 w435 := k435
 refine WO.haves (fr' := [(56, _), (13, _)]) ⟨⟨_, rfl, e436⟩, ⟨_, rfl, rfl⟩, trivial⟩ ?_
 refine WO.on rfl rfl rfl ?_
 refine WO.v (R.move rfl) rfl ?_
 refine WO.nil ?_
 exact WX.stepDone rfl rfl (Kp.refl _)
 rintro vs w437 k437 ⟨e438, e439, e440, -⟩
 replace k437 : Kp [] w71 w437 := k437
 refine WO.haves (fr' := [(56, _), (61, _), (62, _)]) ⟨⟨_, rfl, e438⟩, ⟨_, rfl, e439⟩, ⟨_, rfl, e440⟩, trivial⟩ ?_
 refine WO.on rfl rfl rfl ?_
 refine WO.v (R.eqlB rfl rfl Try.underlying4) rfl ?_
 refine WO.nil ?_
 exact WX.stepDone rfl rfl (Kp.refl _)
 rintro vs w441 k441 ⟨e442, e443, -⟩
 replace k441 : Kp [] w71 w441 := k441
 refine WO.haves (fr' := [(56, _), (63, _)]) ⟨⟨_, rfl, e442⟩, ⟨_, rfl, e443⟩, trivial⟩ ?_
 refine WO.v (R.pickT rfl rfl rfl) rfl ?_
 refine WO.nil ?_
 exact WX.stepDone rfl rfl (Kp.refl _)
 rintro vs w444 k444 ⟨e445, -⟩
 replace k444 : Kp [] w71 w444 := k444
 refine WO.haves (fr' := [(64, _)]) ⟨⟨_, rfl, e445⟩, trivial⟩ ?_
 refine WO.v (R.move rfl) rfl ?_
 refine WO.nil ?_
 exact WX.stepDone rfl (vb hb75) (Kp.refl _)
 rintro vs w446 k446 ⟨e447, -⟩
 replace k446 : Kp [] w71 w446 := k446
 refine WO.haves (fr' := [(65, _), (15, _)]) ⟨⟨_, rfl, e447⟩, ⟨_, rfl, rfl⟩, trivial⟩ ?_
 refine WO.off rfl rfl rfl rfl ?_
 refine WO.nil ?_
 exact WX.stepDone rfl rfl (Kp.refl _)
 rintro vs w448 k448 ⟨e449, -⟩
 replace k448 : Kp [] w71 w448 := k448
 refine WO.haves (fr' := [(65, _)]) ⟨⟨_, rfl, e449⟩, trivial⟩ ?_
 refine WO.off rfl rfl rfl rfl ?_
 refine WO.nil ?_
 exact WX.stepDone rfl rfl (Kp.refl _)
 rintro vs w450 k450 ⟨e451, -⟩
 replace k450 : Kp [] w71 w450 := k450
 refine WO.haves (fr' := [(65, _)]) ⟨⟨_, rfl, e451⟩, trivial⟩ ?_
 refine WO.v (R.pickF rfl rfl rfl) rfl ?_
 refine WO.nil ?_
 exact WX.stepDone rfl rfl (Kp.refl _)
 rintro vs w452 k452 ⟨e453, -⟩
 replace k452 : Kp [] w71 w452 := k452
 refine WO.haves (fr' := [(68, _)]) ⟨⟨_, rfl, e453⟩, trivial⟩ ?_
 refine WO.v (R.move rfl) rfl ?_
 refine WO.nil ?_
 exact WX.stepDone rfl rfl (Kp.refl _)
 rintro vs w454 k454 ⟨e455, -⟩
 replace k454 : Kp [] w71 w454 := k454
 refine WO.haves (fr' := [(69, _), (14, _)]) ⟨⟨_, rfl, e455⟩, ⟨_, rfl, rfl⟩, trivial⟩ ?_
 refine WO.off rfl rfl rfl rfl ?_
 refine WO.nil ?_
 exact WX.stepDone rfl rfl (Kp.refl _)
 rintro vs w456 k456 ⟨e457, -⟩
 replace k456 : Kp [] w71 w456 := k456
 refine WO.haves (fr' := [(69, _)]) ⟨⟨_, rfl, e457⟩, trivial⟩ ?_
 refine WO.off rfl rfl rfl rfl ?_
 refine WO.nil ?_
 exact WX.stepDone rfl rfl (Kp.refl _)
 rintro vs w458 k458 ⟨e459, -⟩
 replace k458 : Kp [] w71 w458 := k458
 refine WO.haves (fr' := [(69, _), (9, _)]) ⟨⟨_, rfl, e459⟩, ⟨_, rfl, rfl⟩, trivial⟩ ?_
 refine WO.off rfl rfl rfl rfl ?_
 refine WO.nil ?_
 exact WX.stepDone rfl rfl (Kp.refl _)
 rintro vs w460 k460 ⟨e461, -⟩
 replace k460 : Kp [] w71 w460 := k460
 refine WO.haves (fr' := [(69, _)]) ⟨⟨_, rfl, e461⟩, trivial⟩ ?_
 refine WO.off rfl rfl rfl rfl ?_
 refine WO.nil ?_
 exact WX.stepDone rfl rfl (Kp.refl _)
 rintro vs w462 k462 ⟨e463, -⟩
 replace k462 : Kp [] w71 w462 := k462
 refine WO.haves (fr' := [(69, _)]) ⟨⟨_, rfl, e463⟩, trivial⟩ ?_
 refine WO.off rfl rfl rfl rfl ?_
 refine WO.nil ?_
 exact WX.stepDone rfl rfl (Kp.refl _)
 rintro vs w464 k464 ⟨e465, -⟩
 replace k464 : Kp [] w71 w464 := k464
 refine WO.haves (fr' := [(69, _)]) ⟨⟨_, rfl, e465⟩, trivial⟩ ?_
 refine WO.off rfl rfl rfl rfl ?_
 refine WO.nil ?_
 exact WX.stepDone rfl rfl (Kp.refl _)
 rintro vs w466 k466 ⟨e467, -⟩
 replace k466 : Kp [] w71 w466 := k466
 refine WO.haves (fr' := [(69, _)]) ⟨⟨_, rfl, e467⟩, trivial⟩ ?_
 refine WO.v (R.pickF rfl rfl rfl) rfl ?_
 refine WO.nil ?_
 exact WX.stepDone rfl rfl (Kp.refl _)
 rintro vs w468 k468 ⟨e469, -⟩
 replace k468 : Kp [] w71 w468 := k468
 refine WO.haves (fr' := [(76, _)]) ⟨⟨_, rfl, e469⟩, trivial⟩ ?_
 refine WO.v (R.move rfl) rfl ?_
 refine WO.nil ?_
 exact WX.stepDone rfl rfl (Kp.refl _)
 rintro vs w470 k470 ⟨e471, -⟩
 replace k470 : Kp [] w71 w470 := k470
 refine WO.haves (fr' := [(77, _), (14, _)]) ⟨⟨_, rfl, e471⟩, ⟨_, rfl, rfl⟩, trivial⟩ ?_
 refine WO.off rfl rfl rfl rfl ?_
 refine WO.nil ?_
 exact WX.stepDone rfl rfl (Kp.refl _)
 rintro vs w472 k472 ⟨e473, -⟩
 replace k472 : Kp [] w71 w472 := k472
 refine WO.haves (fr' := [(77, _), (9, _)]) ⟨⟨_, rfl, e473⟩, ⟨_, rfl, rfl⟩, trivial⟩ ?_
 refine WO.off rfl rfl rfl rfl ?_
 refine WO.nil ?_
 exact WX.stepDone rfl rfl (Kp.refl _)
 rintro vs w474 k474 ⟨e475, -⟩
 replace k474 : Kp [] w71 w474 := k474
 refine WO.haves (fr' := [(77, _)]) ⟨⟨_, rfl, e475⟩, trivial⟩ ?_
 refine WO.off rfl rfl rfl rfl ?_
 refine WO.nil ?_
 exact WX.stepDone rfl rfl (Kp.refl _)
 rintro vs w476 k476 ⟨e477, -⟩
 replace k476 : Kp [] w71 w476 := k476
 refine WO.haves (fr' := [(77, _)]) ⟨⟨_, rfl, e477⟩, trivial⟩ ?_
 refine WO.off rfl rfl rfl rfl ?_
 refine WO.nil ?_
 exact WX.stepDone rfl rfl (Kp.refl _)
 rintro vs w478 k478 ⟨e479, -⟩
 replace k478 : Kp [] w71 w478 := k478
 refine WO.haves (fr' := [(77, _)]) ⟨⟨_, rfl, e479⟩, trivial⟩ ?_
 refine WO.off rfl rfl rfl rfl ?_
 refine WO.nil ?_
 exact WX.stepDone rfl rfl (Kp.refl _)
 rintro vs w480 k480 ⟨e481, -⟩
 replace k480 : Kp [] w71 w480 := k480
 refine WO.haves (fr' := [(77, _), (9, _)]) ⟨⟨_, rfl, e481⟩, ⟨_, rfl, rfl⟩, trivial⟩ ?_
 refine WO.off rfl rfl rfl rfl ?_
 refine WO.nil ?_
 exact WX.stepDone rfl rfl (Kp.refl _)
 rintro vs w482 k482 ⟨e483, -⟩
 replace k482 : Kp [] w71 w482 := k482
 refine WO.haves (fr' := [(77, _)]) ⟨⟨_, rfl, e483⟩, trivial⟩ ?_
 refine WO.off rfl rfl rfl rfl ?_
 refine WO.nil ?_
 exact WX.stepDone rfl rfl (Kp.refl _)
 rintro vs w484 k484 ⟨e485, -⟩
 replace k484 : Kp [] w71 w484 := k484
 refine WO.haves (fr' := [(77, _)]) ⟨⟨_, rfl, e485⟩, trivial⟩ ?_
 refine WO.off rfl rfl rfl rfl ?_
 refine WO.nil ?_
 exact WX.stepDone rfl rfl (Kp.refl _)
 rintro vs w486 k486 ⟨e487, -⟩
 replace k486 : Kp [] w71 w486 := k486
 refine WO.haves (fr' := [(77, _)]) ⟨⟨_, rfl, e487⟩, trivial⟩ ?_
 refine WO.v (R.pickF rfl rfl rfl) rfl ?_
 refine WO.nil ?_
 exact WX.stepDone rfl rfl (Kp.refl _)
 rintro vs w488 k488 ⟨-, -, -, -, -, -, -, -, -, -, -, -, -, -, -, -, -, -, -, -, -, -, -, -, -, -, -, -, -, -, -, e520, -⟩
 replace k488 : Kp [] w71 w488 := k488
 have z488 := k488.size
 have b488 := old_kp0 b71 k488
 have y488 := b488.size
 refine WO.haves (fr' := [(86, _), (0, _), (1, _), (2, _), (3, _), (4, _), (6, _), (7, _), (8, _), (9, _), (10, _), (11, _), (12, _), (13, _), (14, _), (15, _), (42, _)]) ⟨⟨_, rfl, e520⟩, ⟨_, rfl, rfl⟩, ⟨_, rfl, rfl⟩, ⟨_, rfl, rfl⟩, ⟨_, rfl, rfl⟩, ⟨_, rfl, rfl⟩, ⟨_, rfl, rfl⟩, ⟨_, rfl, rfl⟩, ⟨_, rfl, rfl⟩, ⟨_, rfl, rfl⟩, ⟨_, rfl, rfl⟩, ⟨_, rfl, rfl⟩, ⟨_, rfl, rfl⟩, ⟨_, rfl, rfl⟩, ⟨_, rfl, rfl⟩, ⟨_, rfl, rfl⟩, ⟨_, rfl, rfl⟩, trivial⟩ ?_
 refine WO.v (R.assign rfl) rfl ?_
 refine WO.nil ?_
 refine WX.sel [0, 1, 2, 3, 4, 6, 7, 8, 9, 10, 11, 12, 13, 14, 15, 42] rfl ?_
 refine WX.next ?_
 refine WC.ret ?_
 have e0 : false = true := by first | rfl | exact sm4 (sml (a := fewF a) (b := fewF b) (by omega) ⟨‹I64 (fewF a).kind›.2, ‹I64 (fewF a).client›.2, ‹I64 (fewF a).seq›.2, ‹I64 (fewF a).set›.2, ‹I64 (fewF a).id›.2, ‹I64 (fewF a).n›.2⟩ q64) | exact sm1 (sml (a := fewF a) (b := fewF b) (by omega) ⟨‹I64 (fewF a).kind›.2, ‹I64 (fewF a).client›.2, ‹I64 (fewF a).seq›.2, ‹I64 (fewF a).set›.2, ‹I64 (fewF a).id›.2, ‹I64 (fewF a).n›.2⟩ q64) (by assumption) | exact sm2 (sml (a := fewF a) (b := fewF b) (by omega) ⟨‹I64 (fewF a).kind›.2, ‹I64 (fewF a).client›.2, ‹I64 (fewF a).seq›.2, ‹I64 (fewF a).set›.2, ‹I64 (fewF a).id›.2, ‹I64 (fewF a).n›.2⟩ q64) (by assumption) | exact sm3 (sml (a := fewF a) (b := fewF b) (by omega) ⟨‹I64 (fewF a).kind›.2, ‹I64 (fewF a).client›.2, ‹I64 (fewF a).seq›.2, ‹I64 (fewF a).set›.2, ‹I64 (fewF a).id›.2, ‹I64 (fewF a).n›.2⟩ q64) (by assumption)
 refine WX.ret1 Try.results4 rfl ?_
 exact ⟨by rw [e0], Kp.of_below b488⟩


end Go.Proofs.Ytfmlgeeogbhppaa
