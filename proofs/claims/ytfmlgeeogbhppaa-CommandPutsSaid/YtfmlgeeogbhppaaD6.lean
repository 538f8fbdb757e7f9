/- Contracts of functions, walked operation by operation. -/
import Derived.Test.YtfmlgeeogbhppaaD5
namespace Go.Proofs.Ytfmlgeeogbhppaa
open Go.RowKit


theorem sz25 : (Try.prog.info? 25).map (·.size) = some 1 := by kernel_rfl
theorem inf37 : (Try.prog.info? 37).map (fun i => (i.zero.map Value.cells, i.size, i.bytes)) = some (some ([.int .i64 0, .int .i64 0, .int .u64 0, .slice none 0 0] : List Value).toArray, 4, 48) := by kernel_rfl
theorem zr25 : ((Try.prog.info? 25).bind (·.zero)).map Value.cells = some ([.slice none 0 0] : List Value).toArray := by kernel_rfl

set_option maxRecDepth 100000 in
set_option maxHeartbeats 400000 in
theorem fields_s {w : World} {cs_c : List Value} {c : Command} (v : Int) (h_c : Rp.rp false 0 w.heap.size w cs_c c) (pre0 : 0 ≤ c.kind) (pre1 : 0 ≤ c.client) (pre2 : 0 ≤ c.seq) (pre3 : 0 ≤ c.set) (pre4 : 0 ≤ c.id) (pre5 : 0 ≤ c.n) :
    Ret Try.prog 36 [.agg cs_c.toArray, .int .i64 v].toArray w fun r w' => ∃ (ra0 : Option Addr) (rc0 : Nat), r = .slice ra0 (fieldsF c v).length rc0 ∧ Sl true w.heap.size w'.heap.size w' (.slice ra0 (fieldsF c v).length rc0) (fieldsF c v) ∧ Kp [] w w' := by
 obtain ⟨a7, c8, rfl, i1, i2, i3, i4, i5, i6, s9, i10⟩ := Command.el h_c
 have ls9 : (c.chunks).length * 8 ≤ 140737488355328 := s9.lenle
 have hl1 := nm_len 1 c.kind; have hl2 := nm_len 2 c.client; have hl3 := nm_len 3 c.seq; have hl4 := nm_len 4 c.set; have hl5 := nm_len 5 c.id; have hl6 := nm_len 6 c.n
 have hl7 := by_len 7 (chunksB c.chunks); have hl8 := by_len 8 c.text.b
 refine Ret.enter Try.func36 rfl Try.ntmps36 rfl rfl ?_
 refine WC.sel [0, 1] rfl ?_
 refine WC.seq ?_
 refine WC.region ?_
 refine WO.box rfl rfl rfl ?_
 intro w11 n11
 have z11 := n11.lt
 have b11 := old_kp0 (Below.refl w.heap.size w) n11.kp
 have y11 := b11.size
 refine WO.v (R.assign rfl) rfl ?_
 refine WO.nil ?_
 refine WX.sel [0, 1, 2, 4] rfl ?_
 refine WX.next ?_
 refine WC.seq ?_
 refine WC.region ?_
 refine WO.alloc zr25 rfl ?_
 intro w12 n12
 have z12 := n12.lt
 have b12 := old_kp0 b11 n12.kp
 have y12 := b12.size
 refine WO.nil ?_
 refine WX.sel [0, 1, 2, 4, 5] rfl ?_
 refine WX.next ?_
 refine WC.seq ?_
 refine WC.region ?_
 refine WO.v (R.makeFunc1 rfl) rfl ?_
 refine WO.v (R.assign rfl) rfl ?_
 refine WO.nil ?_
 refine WX.sel [0, 1, 2, 4, 5, 6] rfl ?_
 refine WX.next ?_
 refine WC.seq ?_
 refine WC.region ?_
 refine WO.v (R.makeFunc1 rfl) rfl ?_
 refine WO.v (R.assign rfl) rfl ?_
 refine WO.nil ?_
 refine WX.sel [0, 1, 2, 4, 5, 6, 7] rfl ?_
 refine WX.next ?_
 refine WC.seq ?_
 refine WC.region ?_
 refine WO.v (R.move rfl) rfl ?_
 refine WO.v (fa24_0 rfl) rfl ?_
 have B13 := (n11.blk).kp0 n12.kp
 refine WO.v (R.loadB rfl B13 rfl Try.underlying3 rfl) rfl ?_
 refine WO.inl [(.int .i64 (1 : Int)), (.int .i64 c.kind), (.pointer (some ⟨w11.heap.size, 0, none⟩))] (E.call rfl rfl Try.func61 rfl rfl) rfl rfl ?_
 refine Ret.enter Try.func61 rfl Try.ntmps61 rfl rfl ?_
 refine WC.sel [0, 1, 2] rfl ?_
 refine WC.seq ?_
 refine WC.region ?_
 refine WO.v (R.move rfl) rfl ?_
 refine WO.v (R.neq rfl rfl) rfl ?_
 refine WO.nil ?_
 refine WX.sel [0, 1, 2, 6] rfl ?_
 refine WX.next ?_
 refine WC.cutEndK [0, 1, 2, 6] rfl [] (fun w' => ∃ (ja14 : Option Addr) (jc15 : Nat), Kp [w11.heap.size] w12 w' ∧ Blk w' (w11.heap.size) 25 [(.slice ja14 ((([] : List Field) ++ nmF (1 : Int) c.kind)).length jc15)] ∧ Ac (α := Field) (w12.heap.size) true (w.heap.size) (w'.heap.size) w'.heap.size w' (.slice ja14 ((([] : List Field) ++ nmF (1 : Int) c.kind)).length jc15) ((([] : List Field) ++ nmF (1 : Int) c.kind))) ?_ ?_
 refine WC.cond rfl (fun q17 => ?_) (fun q17 => ?_)
 have p17 : ¬ (c.kind = (0 : Int)) := of_decide_eq_false (bnot_t q17)
 refine WC.region ?_
 refine WO.v (R.loadB rfl n12.blk rfl Try.underlying25 rfl) rfl ?_
 refine WO.v (R.move rfl) rfl ?_
 refine WO.v (R.move rfl) rfl ?_
 have hN18 : (c.kind).toNat < 18446744073709551616 := by have := i1; unfold I64 at this; omega
 refine WO.v (R.toU64J (a := (c.kind).toNat) rfl Try.underlying3 Try.underlying35 (by omega) hN18) rfl ?_
 refine WO.v (R.buildL (parts := [_, _, _]) (cells := #[(.int .i64 (1 : Int)), (.int .i64 (0 : Int)), (.int .u64 (((c.kind).toNat : Nat) : Int)), (.slice none 0 0)]) rfl (by kernel_rfl)) rfl ?_
 refine WO.buildSlice (parts := [_]) (vss := [[_, _, _, _]]) Try.underlying25 sz37 zr37 rfl rfl (by simp) rfl rfl rfl ?_
 intro w19 n19
 have z19 := n19.lt
 have b19 := old_kp0 b12 n19.kp
 have y19 := b19.size
 have ac20 : Ac (α := Field) (w12.heap.size) true (w.heap.size) (w19.heap.size) (w19.heap.size) w19 (.slice (some ⟨w12.heap.size, 0, none⟩) 1 1) ([(⟨(1 : Int), (0 : Int), (⟨(c.kind).toNat⟩ : U64), []⟩ : Field)] : List Field) := Ac.lit (α := Field) (ys := ([(⟨(1 : Int), (0 : Int), (⟨(c.kind).toNat⟩ : U64), []⟩ : Field)] : List Field)) (css := [[_, _, _, _]]) n19.blk (.cons ((Field.mk_ (show I64 (1) from ⟨by omega, by omega⟩) (show I64 (0) from ⟨by omega, by omega⟩) (hN18) (x3 := []) (Sl.nil _ _ _ _))) (.nil)) (by omega) (by omega) (by simp [maxLen]) (by show 1 * 48 ≤ 140737488355328; decide) rfl
 have lenac20 : ([(⟨(1 : Int), (0 : Int), (⟨(c.kind).toNat⟩ : U64), []⟩ : Field)] : List Field).length = 1 := rfl
 have ac26 : Ac (α := Field) (w19.heap.size) true (w.heap.size) (w19.heap.size) (w19.heap.size) w19 (.slice none 0 0) ([] : List Field) := Ac.empty _ _ _ _ _ _ _
 have bd21 := ac26.bd
 have ty27 := ac26.ty
 have lenac26 : (([] : List Field)).length * 48 ≤ 140737488355328 := ac26.lenle
 have lxac26 : (([] : List Field) ++ ([(⟨(1 : Int), (0 : Int), (⟨(c.kind).toNat⟩ : U64), []⟩ : Field)] : List Field)).length = ([] : List Field).length + ([(⟨(1 : Int), (0 : Int), (⟨(c.kind).toNat⟩ : U64), []⟩ : Field)] : List Field).length := List.length_append
 refine WO.append rfl ac26 (by omega) (by omega) (by omega) rfl rfl (ys := ([(⟨(1 : Int), (0 : Int), (⟨(c.kind).toNat⟩ : U64), []⟩ : Field)] : List Field)) (Src.of_ac ((ac20).mono (Nat.le_refl _) (by omega) (by omega) (Nat.le_refl _))) (.inr (.inl ⟨rfl, by decide⟩)) Try.underlying25 inf37 rfl rfl rfl (by decide) (by first | omega | (simp only [List.length_cons, List.length_nil]; omega) | (simp only [List.length_append, List.length_cons, List.length_nil]; omega)) (by omega) rfl ?_
 intro a23 c24 w22 h25 k22 or28
 have z22 := k22.size
 have b22 := old_kp b19 k22 (fun g hg => by have := bd21 g hg; omega)
 have y22 := b22.size
 have B29 := ((n12.blk).kp0 n19.kp).kp k22 (fun hm => by have := bd21 _ hm; omega)
 refine WO.storeB (cs' := [_]) rfl rfl B29 rfl rfl sz25 rfl ?_
 intro w30 k30 B30 z_30
 have z30 := z_30.symm
 have b30 := old_kp b22 k30 (mem1 (by omega))
 have y30 := b30.size
 refine WO.nil ?_
 refine WX.sel [0, 1, 2, 6] rfl ?_
 have E31 : (([] : List Field) ++ ([(⟨(1 : Int), (0 : Int), (⟨(c.kind).toNat⟩ : U64), []⟩ : Field)] : List Field)) = (([] : List Field) ++ nmF (1 : Int) c.kind) := nm_1 (by assumption)
 have nE31 : (([] : List Field) ++ ([(⟨(1 : Int), (0 : Int), (⟨(c.kind).toNat⟩ : U64), []⟩ : Field)] : List Field)).length = ((([] : List Field) ++ nmF (1 : Int) c.kind)).length := by rw [← E31]
 exact WX.cutDoneK [0, 1, 2, 6] rfl trivial ⟨a23, c24, (((((Kp.refl _).sub (by simp)).step n19.kp (by simp)).step k22 (fun g hg => .inr (by have := bd21 g hg; omega))).step k30 (mem1 (.inl (by simp)))), (by rw [← nE31]; exact B30), ac_n ((ac_kpB (h25) k30 (by omega) (by omega) (mem1 (by omega)) (mem1 ⟨_, _, B29, by decide⟩)).mono (by omega) (by omega) (by omega) (by omega)) E31 nE31⟩
 have p17 : c.kind = (0 : Int) := of_decide_eq_true (bnot_f q17)
 refine WC.skip ?_
 have E32 : ([] : List Field) = (([] : List Field) ++ nmF (1 : Int) c.kind) := nm_0 (by first | assumption | omega)
 have nE32 : 0 = ((([] : List Field) ++ nmF (1 : Int) c.kind)).length := by rw [← E32]; (try simp only [List.length_nil]); (try omega)
 exact WX.cutDoneK [0, 1, 2, 6] rfl trivial ⟨none, 0, ((Kp.refl _).sub (by simp)), (by rw [← nE32]; exact n12.blk), ac_n (Ac.empty _ _ _ _ _ _ _) E32 nE32⟩
 rintro w33 ⟨ja14, jc15, k33, Bj34, jf16⟩
 have z33 := k33.size
 have b33 := old_kp b12 k33 (mem1 (by omega))
 have y33 := b33.size
 have ljf16 : (((([] : List Field) ++ nmF (1 : Int) c.kind))).length * 48 ≤ 140737488355328 := jf16.lenle
 refine WX.endRet ?_
 refine WX.ret0 Try.results61 ?_
 refine WO.nil ?_
 refine WX.sel [0, 1, 2, 4, 5, 6, 7] rfl ?_
 refine WX.next ?_
 refine WC.seq ?_
 refine WC.region ?_
 refine WO.v (R.move rfl) rfl ?_
 refine WO.v (fa24_1 rfl) rfl ?_
 have B35 := (B13).kp1 k33 (by omega)
 refine WO.v (R.loadB rfl B35 rfl Try.underlying3 rfl) rfl ?_
 refine WO.inl [(.int .i64 (2 : Int)), (.int .i64 c.client), (.pointer (some ⟨w11.heap.size, 0, none⟩))] (E.call rfl rfl Try.func61 rfl rfl) rfl rfl ?_
 refine Ret.enter Try.func61 rfl Try.ntmps61 rfl rfl ?_
 refine WC.sel [0, 1, 2] rfl ?_
 refine WC.seq ?_
 refine WC.region ?_
 refine WO.v (R.move rfl) rfl ?_
 refine WO.v (R.neq rfl rfl) rfl ?_
 refine WO.nil ?_
 refine WX.sel [0, 1, 2, 6] rfl ?_
 refine WX.next ?_
 have ac36 := jf16
 have bd37 := ac36.bd
 have ty38 := ac36.ty
 refine WC.cutEndK [0, 1, 2, 6] rfl [] (fun w' => ∃ (ja39 : Option Addr) (jc40 : Nat), Kp (ob (.slice ja14 ((([] : List Field) ++ nmF (1 : Int) c.kind)).length jc15) ++ [w11.heap.size]) w33 w' ∧ Blk w' (w11.heap.size) 25 [(.slice ja39 ((((([] : List Field) ++ nmF (1 : Int) c.kind)) ++ nmF (2 : Int) c.client)).length jc40)] ∧ Ac (α := Field) (w12.heap.size) true (w.heap.size) (w'.heap.size) w'.heap.size w' (.slice ja39 ((((([] : List Field) ++ nmF (1 : Int) c.kind)) ++ nmF (2 : Int) c.client)).length jc40) ((((([] : List Field) ++ nmF (1 : Int) c.kind)) ++ nmF (2 : Int) c.client)) ∧ ∀ g ∈ ob (.slice ja39 ((((([] : List Field) ++ nmF (1 : Int) c.kind)) ++ nmF (2 : Int) c.client)).length jc40), g ∈ ob (.slice ja14 ((([] : List Field) ++ nmF (1 : Int) c.kind)).length jc15) ∨ (w33.heap.size ≤ g ∧ True)) ?_ ?_
 refine WC.cond rfl (fun q43 => ?_) (fun q43 => ?_)
 have p43 : ¬ (c.client = (0 : Int)) := of_decide_eq_false (bnot_t q43)
 refine WC.region ?_
 refine WO.v (R.loadB rfl Bj34 rfl Try.underlying25 rfl) rfl ?_
 refine WO.v (R.move rfl) rfl ?_
 refine WO.v (R.move rfl) rfl ?_
 have hN44 : (c.client).toNat < 18446744073709551616 := by have := i2; unfold I64 at this; omega
 refine WO.v (R.toU64J (a := (c.client).toNat) rfl Try.underlying3 Try.underlying35 (by omega) hN44) rfl ?_
 refine WO.v (R.buildL (parts := [_, _, _]) (cells := #[(.int .i64 (2 : Int)), (.int .i64 (0 : Int)), (.int .u64 (((c.client).toNat : Nat) : Int)), (.slice none 0 0)]) rfl (by kernel_rfl)) rfl ?_
 refine WO.buildSlice (parts := [_]) (vss := [[_, _, _, _]]) Try.underlying25 sz37 zr37 rfl rfl (by simp) rfl rfl rfl ?_
 intro w45 n45
 have z45 := n45.lt
 have b45 := old_kp0 b33 n45.kp
 have y45 := b45.size
 have ac46 : Ac (α := Field) (w33.heap.size) true (w.heap.size) (w45.heap.size) (w45.heap.size) w45 (.slice (some ⟨w33.heap.size, 0, none⟩) 1 1) ([(⟨(2 : Int), (0 : Int), (⟨(c.client).toNat⟩ : U64), []⟩ : Field)] : List Field) := Ac.lit (α := Field) (ys := ([(⟨(2 : Int), (0 : Int), (⟨(c.client).toNat⟩ : U64), []⟩ : Field)] : List Field)) (css := [[_, _, _, _]]) n45.blk (.cons ((Field.mk_ (show I64 (2) from ⟨by omega, by omega⟩) (show I64 (0) from ⟨by omega, by omega⟩) (hN44) (x3 := []) (Sl.nil _ _ _ _))) (.nil)) (by omega) (by omega) (by simp [maxLen]) (by show 1 * 48 ≤ 140737488355328; decide) rfl
 have lenac46 : ([(⟨(2 : Int), (0 : Int), (⟨(c.client).toNat⟩ : U64), []⟩ : Field)] : List Field).length = 1 := rfl
 have ac52 : Ac (α := Field) (w12.heap.size) true (w.heap.size) (w45.heap.size) (w33.heap.size) w45 (.slice ja14 ((([] : List Field) ++ nmF (1 : Int) c.kind)).length jc15) ((([] : List Field) ++ nmF (1 : Int) c.kind)) := (ac_kp0 (jf16) n45.kp (by omega) (by omega)).mono (Nat.le_refl _) (Nat.le_refl _) (by omega) (Nat.le_refl _)
 have bd47 := ac52.bd
 have ty53 := ac52.ty
 have lenac52 : (((([] : List Field) ++ nmF (1 : Int) c.kind))).length * 48 ≤ 140737488355328 := ac52.lenle
 have lxac52 : (((([] : List Field) ++ nmF (1 : Int) c.kind)) ++ ([(⟨(2 : Int), (0 : Int), (⟨(c.client).toNat⟩ : U64), []⟩ : Field)] : List Field)).length = ((([] : List Field) ++ nmF (1 : Int) c.kind)).length + ([(⟨(2 : Int), (0 : Int), (⟨(c.client).toNat⟩ : U64), []⟩ : Field)] : List Field).length := List.length_append
 refine WO.append rfl ac52 (by omega) (by omega) (by omega) rfl rfl (ys := ([(⟨(2 : Int), (0 : Int), (⟨(c.client).toNat⟩ : U64), []⟩ : Field)] : List Field)) (Src.of_ac ((ac46).mono (Nat.le_refl _) (by omega) (by omega) (Nat.le_refl _))) (.inr (.inl ⟨rfl, by decide⟩)) Try.underlying25 inf37 rfl rfl rfl (by decide) (by first | omega | (simp only [List.length_cons, List.length_nil]; omega) | (simp only [List.length_append, List.length_cons, List.length_nil]; omega)) (by omega) rfl ?_
 intro a49 c50 w48 h51 k48 or54
 have z48 := k48.size
 have b48 := old_kp b45 k48 (fun g hg => by have := bd47 g hg; omega)
 have y48 := b48.size
 have B55 := ((Bj34).kp0 n45.kp).kp k48 (fun hm => by have := bd47 _ hm; omega)
 refine WO.storeB (cs' := [_]) rfl rfl B55 rfl rfl sz25 rfl ?_
 intro w56 k56 B56 z_56
 have z56 := z_56.symm
 have b56 := old_kp b48 k56 (mem1 (by omega))
 have y56 := b56.size
 refine WO.nil ?_
 refine WX.sel [0, 1, 2, 6] rfl ?_
 have E57 : (((([] : List Field) ++ nmF (1 : Int) c.kind)) ++ ([(⟨(2 : Int), (0 : Int), (⟨(c.client).toNat⟩ : U64), []⟩ : Field)] : List Field)) = (((([] : List Field) ++ nmF (1 : Int) c.kind)) ++ nmF (2 : Int) c.client) := nm_1 (by assumption)
 have nE57 : (((([] : List Field) ++ nmF (1 : Int) c.kind)) ++ ([(⟨(2 : Int), (0 : Int), (⟨(c.client).toNat⟩ : U64), []⟩ : Field)] : List Field)).length = ((((([] : List Field) ++ nmF (1 : Int) c.kind)) ++ nmF (2 : Int) c.client)).length := by rw [← E57]
 exact WX.cutDoneK [0, 1, 2, 6] rfl trivial ⟨a49, c50, (((((Kp.refl _).sub (by simp)).step n45.kp (by simp)).step k48 (fun g hg => .inl (List.mem_append_left _ hg))).step k56 (mem1 (.inl (List.mem_append_right _ (by simp))))), (by rw [← nE57]; exact B56), ac_n ((ac_kpB (h51) k56 (by omega) (by omega) (mem1 (by omega)) (mem1 ⟨_, _, B55, by decide⟩)).mono (by omega) (by omega) (by omega) (by omega)) E57 nE57, or2_n (m := (((([] : List Field) ++ nmF (1 : Int) c.kind)) ++ ([(⟨(2 : Int), (0 : Int), (⟨(c.client).toNat⟩ : U64), []⟩ : Field)] : List Field)).length) (fun g hg => (or54 g hg).elim (fun hg => .inl (by first | exact hg | (rw [ob_n]; exact hg))) (fun ⟨hg, _⟩ => .inr ⟨by omega, trivial⟩))⟩
 have p43 : c.client = (0 : Int) := of_decide_eq_true (bnot_f q43)
 refine WC.skip ?_
 have E58 : ((([] : List Field) ++ nmF (1 : Int) c.kind)) = (((([] : List Field) ++ nmF (1 : Int) c.kind)) ++ nmF (2 : Int) c.client) := nm_0 (by first | assumption | omega)
 have nE58 : ((([] : List Field) ++ nmF (1 : Int) c.kind)).length = ((((([] : List Field) ++ nmF (1 : Int) c.kind)) ++ nmF (2 : Int) c.client)).length := by rw [← E58]
 exact WX.cutDoneK [0, 1, 2, 6] rfl trivial ⟨ja14, jc15, ((Kp.refl _).sub (by simp)), (by rw [← nE58]; exact Bj34), ac_n ((jf16).mono (by omega) (by omega) (by omega) (by omega)) E58 nE58, or2_n (m := ((([] : List Field) ++ nmF (1 : Int) c.kind)).length) (fun g hg => .inl (by first | exact hg | (rw [ob_n]; exact hg)))⟩
 rintro w59 ⟨ja39, jc40, k59, Bj60, jf41, jo42⟩
 obtain ⟨w61, k61, kk59, z_59⟩ := k59.split
 have z61 := k61.size
 have b61 := old_kp b33 k61 (fun g hg => by have := bd37 g hg; omega)
 have y61 := b61.size
 have B62 := (Bj34).kp k61 (fun hm => by have := bd37 _ hm; omega)
 have z59 := z_59
 have b59 := old_kp b61 kk59 (mem1 (by omega))
 have y59 := b59.size
 have ljf41 : (((((([] : List Field) ++ nmF (1 : Int) c.kind)) ++ nmF (2 : Int) c.client))).length * 48 ≤ 140737488355328 := jf41.lenle
 refine WX.endRet ?_
 refine WX.ret0 Try.results61 ?_
 refine WO.nil ?_
 refine WX.sel [0, 1, 2, 4, 5, 6, 7] rfl ?_
 refine WX.next ?_
 refine WC.seq ?_
 refine WC.region ?_
 refine WO.v (R.move rfl) rfl ?_
 refine WO.v (fa24_2 rfl) rfl ?_
 have B63 := ((B35).kp k61 (fun hm => by have := bd37 _ hm; omega)).kp1 kk59 (by omega)
 refine WO.v (R.loadB rfl B63 rfl Try.underlying3 rfl) rfl ?_
 refine WO.inl [(.int .i64 (3 : Int)), (.int .i64 c.seq), (.pointer (some ⟨w11.heap.size, 0, none⟩))] (E.call rfl rfl Try.func61 rfl rfl) rfl rfl ?_
 refine Ret.enter Try.func61 rfl Try.ntmps61 rfl rfl ?_
 refine WC.sel [0, 1, 2] rfl ?_
 refine WC.seq ?_
 refine WC.region ?_
 refine WO.v (R.move rfl) rfl ?_
 refine WO.v (R.neq rfl rfl) rfl ?_
 refine WO.nil ?_
 refine WX.sel [0, 1, 2, 6] rfl ?_
 refine WX.next ?_
 have ac64 := jf41
 have bd65 := ac64.bd
 have ty66 := ac64.ty
 refine WC.cutEndK [0, 1, 2, 6] rfl [] (fun w' => ∃ (ja67 : Option Addr) (jc68 : Nat), Kp (ob (.slice ja39 ((((([] : List Field) ++ nmF (1 : Int) c.kind)) ++ nmF (2 : Int) c.client)).length jc40) ++ [w11.heap.size]) w59 w' ∧ Blk w' (w11.heap.size) 25 [(.slice ja67 ((((((([] : List Field) ++ nmF (1 : Int) c.kind)) ++ nmF (2 : Int) c.client)) ++ nmF (3 : Int) c.seq)).length jc68)] ∧ Ac (α := Field) (w12.heap.size) true (w.heap.size) (w'.heap.size) w'.heap.size w' (.slice ja67 ((((((([] : List Field) ++ nmF (1 : Int) c.kind)) ++ nmF (2 : Int) c.client)) ++ nmF (3 : Int) c.seq)).length jc68) ((((((([] : List Field) ++ nmF (1 : Int) c.kind)) ++ nmF (2 : Int) c.client)) ++ nmF (3 : Int) c.seq)) ∧ ∀ g ∈ ob (.slice ja67 ((((((([] : List Field) ++ nmF (1 : Int) c.kind)) ++ nmF (2 : Int) c.client)) ++ nmF (3 : Int) c.seq)).length jc68), g ∈ ob (.slice ja39 ((((([] : List Field) ++ nmF (1 : Int) c.kind)) ++ nmF (2 : Int) c.client)).length jc40) ∨ (w59.heap.size ≤ g ∧ True)) ?_ ?_
 refine WC.cond rfl (fun q71 => ?_) (fun q71 => ?_)
 have p71 : ¬ (c.seq = (0 : Int)) := of_decide_eq_false (bnot_t q71)
 refine WC.region ?_
 refine WO.v (R.loadB rfl Bj60 rfl Try.underlying25 rfl) rfl ?_
 refine WO.v (R.move rfl) rfl ?_
 refine WO.v (R.move rfl) rfl ?_
 have hN72 : (c.seq).toNat < 18446744073709551616 := by have := i3; unfold I64 at this; omega
 refine WO.v (R.toU64J (a := (c.seq).toNat) rfl Try.underlying3 Try.underlying35 (by omega) hN72) rfl ?_
 refine WO.v (R.buildL (parts := [_, _, _]) (cells := #[(.int .i64 (3 : Int)), (.int .i64 (0 : Int)), (.int .u64 (((c.seq).toNat : Nat) : Int)), (.slice none 0 0)]) rfl (by kernel_rfl)) rfl ?_
 refine WO.buildSlice (parts := [_]) (vss := [[_, _, _, _]]) Try.underlying25 sz37 zr37 rfl rfl (by simp) rfl rfl rfl ?_
 intro w73 n73
 have z73 := n73.lt
 have b73 := old_kp0 b59 n73.kp
 have y73 := b73.size
 have ac74 : Ac (α := Field) (w59.heap.size) true (w.heap.size) (w73.heap.size) (w73.heap.size) w73 (.slice (some ⟨w59.heap.size, 0, none⟩) 1 1) ([(⟨(3 : Int), (0 : Int), (⟨(c.seq).toNat⟩ : U64), []⟩ : Field)] : List Field) := Ac.lit (α := Field) (ys := ([(⟨(3 : Int), (0 : Int), (⟨(c.seq).toNat⟩ : U64), []⟩ : Field)] : List Field)) (css := [[_, _, _, _]]) n73.blk (.cons ((Field.mk_ (show I64 (3) from ⟨by omega, by omega⟩) (show I64 (0) from ⟨by omega, by omega⟩) (hN72) (x3 := []) (Sl.nil _ _ _ _))) (.nil)) (by omega) (by omega) (by simp [maxLen]) (by show 1 * 48 ≤ 140737488355328; decide) rfl
 have lenac74 : ([(⟨(3 : Int), (0 : Int), (⟨(c.seq).toNat⟩ : U64), []⟩ : Field)] : List Field).length = 1 := rfl
 have ac80 : Ac (α := Field) (w12.heap.size) true (w.heap.size) (w73.heap.size) (w59.heap.size) w73 (.slice ja39 ((((([] : List Field) ++ nmF (1 : Int) c.kind)) ++ nmF (2 : Int) c.client)).length jc40) ((((([] : List Field) ++ nmF (1 : Int) c.kind)) ++ nmF (2 : Int) c.client)) := (ac_kp0 (jf41) n73.kp (by omega) (by omega)).mono (Nat.le_refl _) (Nat.le_refl _) (by omega) (Nat.le_refl _)
 have bd75 := ac80.bd
 have ty81 := ac80.ty
 have lenac80 : (((((([] : List Field) ++ nmF (1 : Int) c.kind)) ++ nmF (2 : Int) c.client))).length * 48 ≤ 140737488355328 := ac80.lenle
 have lxac80 : (((((([] : List Field) ++ nmF (1 : Int) c.kind)) ++ nmF (2 : Int) c.client)) ++ ([(⟨(3 : Int), (0 : Int), (⟨(c.seq).toNat⟩ : U64), []⟩ : Field)] : List Field)).length = ((((([] : List Field) ++ nmF (1 : Int) c.kind)) ++ nmF (2 : Int) c.client)).length + ([(⟨(3 : Int), (0 : Int), (⟨(c.seq).toNat⟩ : U64), []⟩ : Field)] : List Field).length := List.length_append
 refine WO.append rfl ac80 (by omega) (by omega) (by omega) rfl rfl (ys := ([(⟨(3 : Int), (0 : Int), (⟨(c.seq).toNat⟩ : U64), []⟩ : Field)] : List Field)) (Src.of_ac ((ac74).mono (Nat.le_refl _) (by omega) (by omega) (Nat.le_refl _))) (.inr (.inl ⟨rfl, by decide⟩)) Try.underlying25 inf37 rfl rfl rfl (by decide) (by first | omega | (simp only [List.length_cons, List.length_nil]; omega) | (simp only [List.length_append, List.length_cons, List.length_nil]; omega)) (by omega) rfl ?_
 intro a77 c78 w76 h79 k76 or82
 have z76 := k76.size
 have b76 := old_kp b73 k76 (fun g hg => by have := bd75 g hg; omega)
 have y76 := b76.size
 have B83 := ((Bj60).kp0 n73.kp).kp k76 (fun hm => by have := bd75 _ hm; omega)
 refine WO.storeB (cs' := [_]) rfl rfl B83 rfl rfl sz25 rfl ?_
 intro w84 k84 B84 z_84
 have z84 := z_84.symm
 have b84 := old_kp b76 k84 (mem1 (by omega))
 have y84 := b84.size
 refine WO.nil ?_
 refine WX.sel [0, 1, 2, 6] rfl ?_
 have E85 : (((((([] : List Field) ++ nmF (1 : Int) c.kind)) ++ nmF (2 : Int) c.client)) ++ ([(⟨(3 : Int), (0 : Int), (⟨(c.seq).toNat⟩ : U64), []⟩ : Field)] : List Field)) = (((((([] : List Field) ++ nmF (1 : Int) c.kind)) ++ nmF (2 : Int) c.client)) ++ nmF (3 : Int) c.seq) := nm_1 (by assumption)
 have nE85 : (((((([] : List Field) ++ nmF (1 : Int) c.kind)) ++ nmF (2 : Int) c.client)) ++ ([(⟨(3 : Int), (0 : Int), (⟨(c.seq).toNat⟩ : U64), []⟩ : Field)] : List Field)).length = ((((((([] : List Field) ++ nmF (1 : Int) c.kind)) ++ nmF (2 : Int) c.client)) ++ nmF (3 : Int) c.seq)).length := by rw [← E85]
 exact WX.cutDoneK [0, 1, 2, 6] rfl trivial ⟨a77, c78, (((((Kp.refl _).sub (by simp)).step n73.kp (by simp)).step k76 (fun g hg => .inl (List.mem_append_left _ hg))).step k84 (mem1 (.inl (List.mem_append_right _ (by simp))))), (by rw [← nE85]; exact B84), ac_n ((ac_kpB (h79) k84 (by omega) (by omega) (mem1 (by omega)) (mem1 ⟨_, _, B83, by decide⟩)).mono (by omega) (by omega) (by omega) (by omega)) E85 nE85, or2_n (m := (((((([] : List Field) ++ nmF (1 : Int) c.kind)) ++ nmF (2 : Int) c.client)) ++ ([(⟨(3 : Int), (0 : Int), (⟨(c.seq).toNat⟩ : U64), []⟩ : Field)] : List Field)).length) (fun g hg => (or82 g hg).elim (fun hg => .inl (by first | exact hg | (rw [ob_n]; exact hg))) (fun ⟨hg, _⟩ => .inr ⟨by omega, trivial⟩))⟩
 have p71 : c.seq = (0 : Int) := of_decide_eq_true (bnot_f q71)
 refine WC.skip ?_
 have E86 : ((((([] : List Field) ++ nmF (1 : Int) c.kind)) ++ nmF (2 : Int) c.client)) = (((((([] : List Field) ++ nmF (1 : Int) c.kind)) ++ nmF (2 : Int) c.client)) ++ nmF (3 : Int) c.seq) := nm_0 (by first | assumption | omega)
 have nE86 : ((((([] : List Field) ++ nmF (1 : Int) c.kind)) ++ nmF (2 : Int) c.client)).length = ((((((([] : List Field) ++ nmF (1 : Int) c.kind)) ++ nmF (2 : Int) c.client)) ++ nmF (3 : Int) c.seq)).length := by rw [← E86]
 exact WX.cutDoneK [0, 1, 2, 6] rfl trivial ⟨ja39, jc40, ((Kp.refl _).sub (by simp)), (by rw [← nE86]; exact Bj60), ac_n ((jf41).mono (by omega) (by omega) (by omega) (by omega)) E86 nE86, or2_n (m := ((((([] : List Field) ++ nmF (1 : Int) c.kind)) ++ nmF (2 : Int) c.client)).length) (fun g hg => .inl (by first | exact hg | (rw [ob_n]; exact hg)))⟩
 rintro w87 ⟨ja67, jc68, k87, Bj88, jf69, jo70⟩
 obtain ⟨w89, k89, kk87, z_87⟩ := k87.split
 have z89 := k89.size
 have b89 := old_kp b59 k89 (fun g hg => by have := bd65 g hg; omega)
 have y89 := b89.size
 have B90 := (Bj60).kp k89 (fun hm => by have := bd65 _ hm; omega)
 have z87 := z_87
 have b87 := old_kp b89 kk87 (mem1 (by omega))
 have y87 := b87.size
 have ljf69 : (((((((([] : List Field) ++ nmF (1 : Int) c.kind)) ++ nmF (2 : Int) c.client)) ++ nmF (3 : Int) c.seq))).length * 48 ≤ 140737488355328 := jf69.lenle
 refine WX.endRet ?_
 refine WX.ret0 Try.results61 ?_
 refine WO.nil ?_
 refine WX.sel [0, 1, 2, 4, 5, 6, 7] rfl ?_
 refine WX.next ?_
 refine WC.seq ?_
 refine WC.region ?_
 refine WO.v (R.move rfl) rfl ?_
 refine WO.v (fa24_3 rfl) rfl ?_
 have B91 := ((B63).kp k89 (fun hm => by have := bd65 _ hm; omega)).kp1 kk87 (by omega)
 refine WO.v (R.loadB rfl B91 rfl Try.underlying3 rfl) rfl ?_
 refine WO.inl [(.int .i64 (4 : Int)), (.int .i64 c.set), (.pointer (some ⟨w11.heap.size, 0, none⟩))] (E.call rfl rfl Try.func61 rfl rfl) rfl rfl ?_
 refine Ret.enter Try.func61 rfl Try.ntmps61 rfl rfl ?_
 refine WC.sel [0, 1, 2] rfl ?_
 refine WC.seq ?_
 refine WC.region ?_
 refine WO.v (R.move rfl) rfl ?_
 refine WO.v (R.neq rfl rfl) rfl ?_
 refine WO.nil ?_
 refine WX.sel [0, 1, 2, 6] rfl ?_
 refine WX.next ?_
 have ac92 := jf69
 have bd93 := ac92.bd
 have ty94 := ac92.ty
 refine WC.cutEndK [0, 1, 2, 6] rfl [] (fun w' => ∃ (ja95 : Option Addr) (jc96 : Nat), Kp (ob (.slice ja67 ((((((([] : List Field) ++ nmF (1 : Int) c.kind)) ++ nmF (2 : Int) c.client)) ++ nmF (3 : Int) c.seq)).length jc68) ++ [w11.heap.size]) w87 w' ∧ Blk w' (w11.heap.size) 25 [(.slice ja95 ((((((((([] : List Field) ++ nmF (1 : Int) c.kind)) ++ nmF (2 : Int) c.client)) ++ nmF (3 : Int) c.seq)) ++ nmF (4 : Int) c.set)).length jc96)] ∧ Ac (α := Field) (w12.heap.size) true (w.heap.size) (w'.heap.size) w'.heap.size w' (.slice ja95 ((((((((([] : List Field) ++ nmF (1 : Int) c.kind)) ++ nmF (2 : Int) c.client)) ++ nmF (3 : Int) c.seq)) ++ nmF (4 : Int) c.set)).length jc96) ((((((((([] : List Field) ++ nmF (1 : Int) c.kind)) ++ nmF (2 : Int) c.client)) ++ nmF (3 : Int) c.seq)) ++ nmF (4 : Int) c.set)) ∧ ∀ g ∈ ob (.slice ja95 ((((((((([] : List Field) ++ nmF (1 : Int) c.kind)) ++ nmF (2 : Int) c.client)) ++ nmF (3 : Int) c.seq)) ++ nmF (4 : Int) c.set)).length jc96), g ∈ ob (.slice ja67 ((((((([] : List Field) ++ nmF (1 : Int) c.kind)) ++ nmF (2 : Int) c.client)) ++ nmF (3 : Int) c.seq)).length jc68) ∨ (w87.heap.size ≤ g ∧ True)) ?_ ?_
 refine WC.cond rfl (fun q99 => ?_) (fun q99 => ?_)
 have p99 : ¬ (c.set = (0 : Int)) := of_decide_eq_false (bnot_t q99)
 refine WC.region ?_
 refine WO.v (R.loadB rfl Bj88 rfl Try.underlying25 rfl) rfl ?_
 refine WO.v (R.move rfl) rfl ?_
 refine WO.v (R.move rfl) rfl ?_
 have hN100 : (c.set).toNat < 18446744073709551616 := by have := i4; unfold I64 at this; omega
 refine WO.v (R.toU64J (a := (c.set).toNat) rfl Try.underlying3 Try.underlying35 (by omega) hN100) rfl ?_
 refine WO.v (R.buildL (parts := [_, _, _]) (cells := #[(.int .i64 (4 : Int)), (.int .i64 (0 : Int)), (.int .u64 (((c.set).toNat : Nat) : Int)), (.slice none 0 0)]) rfl (by kernel_rfl)) rfl ?_
 refine WO.buildSlice (parts := [_]) (vss := [[_, _, _, _]]) Try.underlying25 sz37 zr37 rfl rfl (by simp) rfl rfl rfl ?_
 intro w101 n101
 have z101 := n101.lt
 have b101 := old_kp0 b87 n101.kp
 have y101 := b101.size
 have ac102 : Ac (α := Field) (w87.heap.size) true (w.heap.size) (w101.heap.size) (w101.heap.size) w101 (.slice (some ⟨w87.heap.size, 0, none⟩) 1 1) ([(⟨(4 : Int), (0 : Int), (⟨(c.set).toNat⟩ : U64), []⟩ : Field)] : List Field) := Ac.lit (α := Field) (ys := ([(⟨(4 : Int), (0 : Int), (⟨(c.set).toNat⟩ : U64), []⟩ : Field)] : List Field)) (css := [[_, _, _, _]]) n101.blk (.cons ((Field.mk_ (show I64 (4) from ⟨by omega, by omega⟩) (show I64 (0) from ⟨by omega, by omega⟩) (hN100) (x3 := []) (Sl.nil _ _ _ _))) (.nil)) (by omega) (by omega) (by simp [maxLen]) (by show 1 * 48 ≤ 140737488355328; decide) rfl
 have lenac102 : ([(⟨(4 : Int), (0 : Int), (⟨(c.set).toNat⟩ : U64), []⟩ : Field)] : List Field).length = 1 := rfl
 have ac108 : Ac (α := Field) (w12.heap.size) true (w.heap.size) (w101.heap.size) (w87.heap.size) w101 (.slice ja67 ((((((([] : List Field) ++ nmF (1 : Int) c.kind)) ++ nmF (2 : Int) c.client)) ++ nmF (3 : Int) c.seq)).length jc68) ((((((([] : List Field) ++ nmF (1 : Int) c.kind)) ++ nmF (2 : Int) c.client)) ++ nmF (3 : Int) c.seq)) := (ac_kp0 (jf69) n101.kp (by omega) (by omega)).mono (Nat.le_refl _) (Nat.le_refl _) (by omega) (Nat.le_refl _)
 have bd103 := ac108.bd
 have ty109 := ac108.ty
 have lenac108 : (((((((([] : List Field) ++ nmF (1 : Int) c.kind)) ++ nmF (2 : Int) c.client)) ++ nmF (3 : Int) c.seq))).length * 48 ≤ 140737488355328 := ac108.lenle
 have lxac108 : (((((((([] : List Field) ++ nmF (1 : Int) c.kind)) ++ nmF (2 : Int) c.client)) ++ nmF (3 : Int) c.seq)) ++ ([(⟨(4 : Int), (0 : Int), (⟨(c.set).toNat⟩ : U64), []⟩ : Field)] : List Field)).length = ((((((([] : List Field) ++ nmF (1 : Int) c.kind)) ++ nmF (2 : Int) c.client)) ++ nmF (3 : Int) c.seq)).length + ([(⟨(4 : Int), (0 : Int), (⟨(c.set).toNat⟩ : U64), []⟩ : Field)] : List Field).length := List.length_append
 refine WO.append rfl ac108 (by omega) (by omega) (by omega) rfl rfl (ys := ([(⟨(4 : Int), (0 : Int), (⟨(c.set).toNat⟩ : U64), []⟩ : Field)] : List Field)) (Src.of_ac ((ac102).mono (Nat.le_refl _) (by omega) (by omega) (Nat.le_refl _))) (.inr (.inl ⟨rfl, by decide⟩)) Try.underlying25 inf37 rfl rfl rfl (by decide) (by first | omega | (simp only [List.length_cons, List.length_nil]; omega) | (simp only [List.length_append, List.length_cons, List.length_nil]; omega)) (by omega) rfl ?_
 intro a105 c106 w104 h107 k104 or110
 have z104 := k104.size
 have b104 := old_kp b101 k104 (fun g hg => by have := bd103 g hg; omega)
 have y104 := b104.size
 have B111 := ((Bj88).kp0 n101.kp).kp k104 (fun hm => by have := bd103 _ hm; omega)
 refine WO.storeB (cs' := [_]) rfl rfl B111 rfl rfl sz25 rfl ?_
 intro w112 k112 B112 z_112
 have z112 := z_112.symm
 have b112 := old_kp b104 k112 (mem1 (by omega))
 have y112 := b112.size
 refine WO.nil ?_
 refine WX.sel [0, 1, 2, 6] rfl ?_
 have E113 : (((((((([] : List Field) ++ nmF (1 : Int) c.kind)) ++ nmF (2 : Int) c.client)) ++ nmF (3 : Int) c.seq)) ++ ([(⟨(4 : Int), (0 : Int), (⟨(c.set).toNat⟩ : U64), []⟩ : Field)] : List Field)) = (((((((([] : List Field) ++ nmF (1 : Int) c.kind)) ++ nmF (2 : Int) c.client)) ++ nmF (3 : Int) c.seq)) ++ nmF (4 : Int) c.set) := nm_1 (by assumption)
 have nE113 : (((((((([] : List Field) ++ nmF (1 : Int) c.kind)) ++ nmF (2 : Int) c.client)) ++ nmF (3 : Int) c.seq)) ++ ([(⟨(4 : Int), (0 : Int), (⟨(c.set).toNat⟩ : U64), []⟩ : Field)] : List Field)).length = ((((((((([] : List Field) ++ nmF (1 : Int) c.kind)) ++ nmF (2 : Int) c.client)) ++ nmF (3 : Int) c.seq)) ++ nmF (4 : Int) c.set)).length := by rw [← E113]
 exact WX.cutDoneK [0, 1, 2, 6] rfl trivial ⟨a105, c106, (((((Kp.refl _).sub (by simp)).step n101.kp (by simp)).step k104 (fun g hg => .inl (List.mem_append_left _ hg))).step k112 (mem1 (.inl (List.mem_append_right _ (by simp))))), (by rw [← nE113]; exact B112), ac_n ((ac_kpB (h107) k112 (by omega) (by omega) (mem1 (by omega)) (mem1 ⟨_, _, B111, by decide⟩)).mono (by omega) (by omega) (by omega) (by omega)) E113 nE113, or2_n (m := (((((((([] : List Field) ++ nmF (1 : Int) c.kind)) ++ nmF (2 : Int) c.client)) ++ nmF (3 : Int) c.seq)) ++ ([(⟨(4 : Int), (0 : Int), (⟨(c.set).toNat⟩ : U64), []⟩ : Field)] : List Field)).length) (fun g hg => (or110 g hg).elim (fun hg => .inl (by first | exact hg | (rw [ob_n]; exact hg))) (fun ⟨hg, _⟩ => .inr ⟨by omega, trivial⟩))⟩
 have p99 : c.set = (0 : Int) := of_decide_eq_true (bnot_f q99)
 refine WC.skip ?_
 have E114 : ((((((([] : List Field) ++ nmF (1 : Int) c.kind)) ++ nmF (2 : Int) c.client)) ++ nmF (3 : Int) c.seq)) = (((((((([] : List Field) ++ nmF (1 : Int) c.kind)) ++ nmF (2 : Int) c.client)) ++ nmF (3 : Int) c.seq)) ++ nmF (4 : Int) c.set) := nm_0 (by first | assumption | omega)
 have nE114 : ((((((([] : List Field) ++ nmF (1 : Int) c.kind)) ++ nmF (2 : Int) c.client)) ++ nmF (3 : Int) c.seq)).length = ((((((((([] : List Field) ++ nmF (1 : Int) c.kind)) ++ nmF (2 : Int) c.client)) ++ nmF (3 : Int) c.seq)) ++ nmF (4 : Int) c.set)).length := by rw [← E114]
 exact WX.cutDoneK [0, 1, 2, 6] rfl trivial ⟨ja67, jc68, ((Kp.refl _).sub (by simp)), (by rw [← nE114]; exact Bj88), ac_n ((jf69).mono (by omega) (by omega) (by omega) (by omega)) E114 nE114, or2_n (m := ((((((([] : List Field) ++ nmF (1 : Int) c.kind)) ++ nmF (2 : Int) c.client)) ++ nmF (3 : Int) c.seq)).length) (fun g hg => .inl (by first | exact hg | (rw [ob_n]; exact hg)))⟩
 rintro w115 ⟨ja95, jc96, k115, Bj116, jf97, jo98⟩
 obtain ⟨w117, k117, kk115, z_115⟩ := k115.split
 have z117 := k117.size
 have b117 := old_kp b87 k117 (fun g hg => by have := bd93 g hg; omega)
 have y117 := b117.size
 have B118 := (Bj88).kp k117 (fun hm => by have := bd93 _ hm; omega)
 have z115 := z_115
 have b115 := old_kp b117 kk115 (mem1 (by omega))
 have y115 := b115.size
 have ljf97 : (((((((((([] : List Field) ++ nmF (1 : Int) c.kind)) ++ nmF (2 : Int) c.client)) ++ nmF (3 : Int) c.seq)) ++ nmF (4 : Int) c.set))).length * 48 ≤ 140737488355328 := jf97.lenle
 refine WX.endRet ?_
 refine WX.ret0 Try.results61 ?_
 refine WO.nil ?_
 refine WX.sel [0, 1, 2, 4, 5, 6, 7] rfl ?_
 refine WX.next ?_
 refine WC.seq ?_
 refine WC.region ?_
 refine WO.v (R.move rfl) rfl ?_
 refine WO.v (fa24_4 rfl) rfl ?_
 have B119 := ((B91).kp k117 (fun hm => by have := bd93 _ hm; omega)).kp1 kk115 (by omega)
 refine WO.v (R.loadB rfl B119 rfl Try.underlying3 rfl) rfl ?_
 refine WO.inl [(.int .i64 (5 : Int)), (.int .i64 c.id), (.pointer (some ⟨w11.heap.size, 0, none⟩))] (E.call rfl rfl Try.func61 rfl rfl) rfl rfl ?_
 refine Ret.enter Try.func61 rfl Try.ntmps61 rfl rfl ?_
 refine WC.sel [0, 1, 2] rfl ?_
 refine WC.seq ?_
 refine WC.region ?_
 refine WO.v (R.move rfl) rfl ?_
 refine WO.v (R.neq rfl rfl) rfl ?_
 refine WO.nil ?_
 refine WX.sel [0, 1, 2, 6] rfl ?_
 refine WX.next ?_
 have ac120 := jf97
 have bd121 := ac120.bd
 have ty122 := ac120.ty
 refine WC.cutEndK [0, 1, 2, 6] rfl [] (fun w' => ∃ (ja123 : Option Addr) (jc124 : Nat), Kp (ob (.slice ja95 ((((((((([] : List Field) ++ nmF (1 : Int) c.kind)) ++ nmF (2 : Int) c.client)) ++ nmF (3 : Int) c.seq)) ++ nmF (4 : Int) c.set)).length jc96) ++ [w11.heap.size]) w115 w' ∧ Blk w' (w11.heap.size) 25 [(.slice ja123 ((((((((((([] : List Field) ++ nmF (1 : Int) c.kind)) ++ nmF (2 : Int) c.client)) ++ nmF (3 : Int) c.seq)) ++ nmF (4 : Int) c.set)) ++ nmF (5 : Int) c.id)).length jc124)] ∧ Ac (α := Field) (w12.heap.size) true (w.heap.size) (w'.heap.size) w'.heap.size w' (.slice ja123 ((((((((((([] : List Field) ++ nmF (1 : Int) c.kind)) ++ nmF (2 : Int) c.client)) ++ nmF (3 : Int) c.seq)) ++ nmF (4 : Int) c.set)) ++ nmF (5 : Int) c.id)).length jc124) ((((((((((([] : List Field) ++ nmF (1 : Int) c.kind)) ++ nmF (2 : Int) c.client)) ++ nmF (3 : Int) c.seq)) ++ nmF (4 : Int) c.set)) ++ nmF (5 : Int) c.id)) ∧ ∀ g ∈ ob (.slice ja123 ((((((((((([] : List Field) ++ nmF (1 : Int) c.kind)) ++ nmF (2 : Int) c.client)) ++ nmF (3 : Int) c.seq)) ++ nmF (4 : Int) c.set)) ++ nmF (5 : Int) c.id)).length jc124), g ∈ ob (.slice ja95 ((((((((([] : List Field) ++ nmF (1 : Int) c.kind)) ++ nmF (2 : Int) c.client)) ++ nmF (3 : Int) c.seq)) ++ nmF (4 : Int) c.set)).length jc96) ∨ (w115.heap.size ≤ g ∧ True)) ?_ ?_
 refine WC.cond rfl (fun q127 => ?_) (fun q127 => ?_)
 have p127 : ¬ (c.id = (0 : Int)) := of_decide_eq_false (bnot_t q127)
 refine WC.region ?_
 refine WO.v (R.loadB rfl Bj116 rfl Try.underlying25 rfl) rfl ?_
 refine WO.v (R.move rfl) rfl ?_
 refine WO.v (R.move rfl) rfl ?_
 have hN128 : (c.id).toNat < 18446744073709551616 := by have := i5; unfold I64 at this; omega
 refine WO.v (R.toU64J (a := (c.id).toNat) rfl Try.underlying3 Try.underlying35 (by omega) hN128) rfl ?_
 refine WO.v (R.buildL (parts := [_, _, _]) (cells := #[(.int .i64 (5 : Int)), (.int .i64 (0 : Int)), (.int .u64 (((c.id).toNat : Nat) : Int)), (.slice none 0 0)]) rfl (by kernel_rfl)) rfl ?_
 refine WO.buildSlice (parts := [_]) (vss := [[_, _, _, _]]) Try.underlying25 sz37 zr37 rfl rfl (by simp) rfl rfl rfl ?_
 intro w129 n129
 have z129 := n129.lt
 have b129 := old_kp0 b115 n129.kp
 have y129 := b129.size
 have ac130 : Ac (α := Field) (w115.heap.size) true (w.heap.size) (w129.heap.size) (w129.heap.size) w129 (.slice (some ⟨w115.heap.size, 0, none⟩) 1 1) ([(⟨(5 : Int), (0 : Int), (⟨(c.id).toNat⟩ : U64), []⟩ : Field)] : List Field) := Ac.lit (α := Field) (ys := ([(⟨(5 : Int), (0 : Int), (⟨(c.id).toNat⟩ : U64), []⟩ : Field)] : List Field)) (css := [[_, _, _, _]]) n129.blk (.cons ((Field.mk_ (show I64 (5) from ⟨by omega, by omega⟩) (show I64 (0) from ⟨by omega, by omega⟩) (hN128) (x3 := []) (Sl.nil _ _ _ _))) (.nil)) (by omega) (by omega) (by simp [maxLen]) (by show 1 * 48 ≤ 140737488355328; decide) rfl
 have lenac130 : ([(⟨(5 : Int), (0 : Int), (⟨(c.id).toNat⟩ : U64), []⟩ : Field)] : List Field).length = 1 := rfl
 have ac136 : Ac (α := Field) (w12.heap.size) true (w.heap.size) (w129.heap.size) (w115.heap.size) w129 (.slice ja95 ((((((((([] : List Field) ++ nmF (1 : Int) c.kind)) ++ nmF (2 : Int) c.client)) ++ nmF (3 : Int) c.seq)) ++ nmF (4 : Int) c.set)).length jc96) ((((((((([] : List Field) ++ nmF (1 : Int) c.kind)) ++ nmF (2 : Int) c.client)) ++ nmF (3 : Int) c.seq)) ++ nmF (4 : Int) c.set)) := (ac_kp0 (jf97) n129.kp (by omega) (by omega)).mono (Nat.le_refl _) (Nat.le_refl _) (by omega) (Nat.le_refl _)
 have bd131 := ac136.bd
 have ty137 := ac136.ty
 have lenac136 : (((((((((([] : List Field) ++ nmF (1 : Int) c.kind)) ++ nmF (2 : Int) c.client)) ++ nmF (3 : Int) c.seq)) ++ nmF (4 : Int) c.set))).length * 48 ≤ 140737488355328 := ac136.lenle
 have lxac136 : (((((((((([] : List Field) ++ nmF (1 : Int) c.kind)) ++ nmF (2 : Int) c.client)) ++ nmF (3 : Int) c.seq)) ++ nmF (4 : Int) c.set)) ++ ([(⟨(5 : Int), (0 : Int), (⟨(c.id).toNat⟩ : U64), []⟩ : Field)] : List Field)).length = ((((((((([] : List Field) ++ nmF (1 : Int) c.kind)) ++ nmF (2 : Int) c.client)) ++ nmF (3 : Int) c.seq)) ++ nmF (4 : Int) c.set)).length + ([(⟨(5 : Int), (0 : Int), (⟨(c.id).toNat⟩ : U64), []⟩ : Field)] : List Field).length := List.length_append
 refine WO.append rfl ac136 (by omega) (by omega) (by omega) rfl rfl (ys := ([(⟨(5 : Int), (0 : Int), (⟨(c.id).toNat⟩ : U64), []⟩ : Field)] : List Field)) (Src.of_ac ((ac130).mono (Nat.le_refl _) (by omega) (by omega) (Nat.le_refl _))) (.inr (.inl ⟨rfl, by decide⟩)) Try.underlying25 inf37 rfl rfl rfl (by decide) (by first | omega | (simp only [List.length_cons, List.length_nil]; omega) | (simp only [List.length_append, List.length_cons, List.length_nil]; omega)) (by omega) rfl ?_
 intro a133 c134 w132 h135 k132 or138
 have z132 := k132.size
 have b132 := old_kp b129 k132 (fun g hg => by have := bd131 g hg; omega)
 have y132 := b132.size
 have B139 := ((Bj116).kp0 n129.kp).kp k132 (fun hm => by have := bd131 _ hm; omega)
 refine WO.storeB (cs' := [_]) rfl rfl B139 rfl rfl sz25 rfl ?_
 intro w140 k140 B140 z_140
 have z140 := z_140.symm
 have b140 := old_kp b132 k140 (mem1 (by omega))
 have y140 := b140.size
 refine WO.nil ?_
 refine WX.sel [0, 1, 2, 6] rfl ?_
 have E141 : (((((((((([] : List Field) ++ nmF (1 : Int) c.kind)) ++ nmF (2 : Int) c.client)) ++ nmF (3 : Int) c.seq)) ++ nmF (4 : Int) c.set)) ++ ([(⟨(5 : Int), (0 : Int), (⟨(c.id).toNat⟩ : U64), []⟩ : Field)] : List Field)) = (((((((((([] : List Field) ++ nmF (1 : Int) c.kind)) ++ nmF (2 : Int) c.client)) ++ nmF (3 : Int) c.seq)) ++ nmF (4 : Int) c.set)) ++ nmF (5 : Int) c.id) := nm_1 (by assumption)
 have nE141 : (((((((((([] : List Field) ++ nmF (1 : Int) c.kind)) ++ nmF (2 : Int) c.client)) ++ nmF (3 : Int) c.seq)) ++ nmF (4 : Int) c.set)) ++ ([(⟨(5 : Int), (0 : Int), (⟨(c.id).toNat⟩ : U64), []⟩ : Field)] : List Field)).length = ((((((((((([] : List Field) ++ nmF (1 : Int) c.kind)) ++ nmF (2 : Int) c.client)) ++ nmF (3 : Int) c.seq)) ++ nmF (4 : Int) c.set)) ++ nmF (5 : Int) c.id)).length := by rw [← E141]
 exact WX.cutDoneK [0, 1, 2, 6] rfl trivial ⟨a133, c134, (((((Kp.refl _).sub (by simp)).step n129.kp (by simp)).step k132 (fun g hg => .inl (List.mem_append_left _ hg))).step k140 (mem1 (.inl (List.mem_append_right _ (by simp))))), (by rw [← nE141]; exact B140), ac_n ((ac_kpB (h135) k140 (by omega) (by omega) (mem1 (by omega)) (mem1 ⟨_, _, B139, by decide⟩)).mono (by omega) (by omega) (by omega) (by omega)) E141 nE141, or2_n (m := (((((((((([] : List Field) ++ nmF (1 : Int) c.kind)) ++ nmF (2 : Int) c.client)) ++ nmF (3 : Int) c.seq)) ++ nmF (4 : Int) c.set)) ++ ([(⟨(5 : Int), (0 : Int), (⟨(c.id).toNat⟩ : U64), []⟩ : Field)] : List Field)).length) (fun g hg => (or138 g hg).elim (fun hg => .inl (by first | exact hg | (rw [ob_n]; exact hg))) (fun ⟨hg, _⟩ => .inr ⟨by omega, trivial⟩))⟩
 have p127 : c.id = (0 : Int) := of_decide_eq_true (bnot_f q127)
 refine WC.skip ?_
 have E142 : ((((((((([] : List Field) ++ nmF (1 : Int) c.kind)) ++ nmF (2 : Int) c.client)) ++ nmF (3 : Int) c.seq)) ++ nmF (4 : Int) c.set)) = (((((((((([] : List Field) ++ nmF (1 : Int) c.kind)) ++ nmF (2 : Int) c.client)) ++ nmF (3 : Int) c.seq)) ++ nmF (4 : Int) c.set)) ++ nmF (5 : Int) c.id) := nm_0 (by first | assumption | omega)
 have nE142 : ((((((((([] : List Field) ++ nmF (1 : Int) c.kind)) ++ nmF (2 : Int) c.client)) ++ nmF (3 : Int) c.seq)) ++ nmF (4 : Int) c.set)).length = ((((((((((([] : List Field) ++ nmF (1 : Int) c.kind)) ++ nmF (2 : Int) c.client)) ++ nmF (3 : Int) c.seq)) ++ nmF (4 : Int) c.set)) ++ nmF (5 : Int) c.id)).length := by rw [← E142]
 exact WX.cutDoneK [0, 1, 2, 6] rfl trivial ⟨ja95, jc96, ((Kp.refl _).sub (by simp)), (by rw [← nE142]; exact Bj116), ac_n ((jf97).mono (by omega) (by omega) (by omega) (by omega)) E142 nE142, or2_n (m := ((((((((([] : List Field) ++ nmF (1 : Int) c.kind)) ++ nmF (2 : Int) c.client)) ++ nmF (3 : Int) c.seq)) ++ nmF (4 : Int) c.set)).length) (fun g hg => .inl (by first | exact hg | (rw [ob_n]; exact hg)))⟩
 rintro w143 ⟨ja123, jc124, k143, Bj144, jf125, jo126⟩
 obtain ⟨w145, k145, kk143, z_143⟩ := k143.split
 have z145 := k145.size
 have b145 := old_kp b115 k145 (fun g hg => by have := bd121 g hg; omega)
 have y145 := b145.size
 have B146 := (Bj116).kp k145 (fun hm => by have := bd121 _ hm; omega)
 have z143 := z_143
 have b143 := old_kp b145 kk143 (mem1 (by omega))
 have y143 := b143.size
 have ljf125 : (((((((((((([] : List Field) ++ nmF (1 : Int) c.kind)) ++ nmF (2 : Int) c.client)) ++ nmF (3 : Int) c.seq)) ++ nmF (4 : Int) c.set)) ++ nmF (5 : Int) c.id))).length * 48 ≤ 140737488355328 := jf125.lenle
 refine WX.endRet ?_
 refine WX.ret0 Try.results61 ?_
 refine WO.nil ?_
 refine WX.sel [0, 1, 2, 4, 5, 6, 7] rfl ?_
 refine WX.next ?_
 refine WC.seq ?_
 refine WC.region ?_
 refine WO.v (R.move rfl) rfl ?_
 refine WO.v (fa24_5 rfl) rfl ?_
 have B147 := ((B119).kp k145 (fun hm => by have := bd121 _ hm; omega)).kp1 kk143 (by omega)
 refine WO.v (R.loadB rfl B147 rfl Try.underlying3 rfl) rfl ?_
 refine WO.inl [(.int .i64 (6 : Int)), (.int .i64 c.n), (.pointer (some ⟨w11.heap.size, 0, none⟩))] (E.call rfl rfl Try.func61 rfl rfl) rfl rfl ?_
 refine Ret.enter Try.func61 rfl Try.ntmps61 rfl rfl ?_
 refine WC.sel [0, 1, 2] rfl ?_
 refine WC.seq ?_
 refine WC.region ?_
 refine WO.v (R.move rfl) rfl ?_
 refine WO.v (R.neq rfl rfl) rfl ?_
 refine WO.nil ?_
 refine WX.sel [0, 1, 2, 6] rfl ?_
 refine WX.next ?_
 have ac148 := jf125
 have bd149 := ac148.bd
 have ty150 := ac148.ty
 refine WC.cutEndK [0, 1, 2, 6] rfl [] (fun w' => ∃ (ja151 : Option Addr) (jc152 : Nat), Kp (ob (.slice ja123 ((((((((((([] : List Field) ++ nmF (1 : Int) c.kind)) ++ nmF (2 : Int) c.client)) ++ nmF (3 : Int) c.seq)) ++ nmF (4 : Int) c.set)) ++ nmF (5 : Int) c.id)).length jc124) ++ [w11.heap.size]) w143 w' ∧ Blk w' (w11.heap.size) 25 [(.slice ja151 ((((((((((((([] : List Field) ++ nmF (1 : Int) c.kind)) ++ nmF (2 : Int) c.client)) ++ nmF (3 : Int) c.seq)) ++ nmF (4 : Int) c.set)) ++ nmF (5 : Int) c.id)) ++ nmF (6 : Int) c.n)).length jc152)] ∧ Ac (α := Field) (w12.heap.size) true (w.heap.size) (w'.heap.size) w'.heap.size w' (.slice ja151 ((((((((((((([] : List Field) ++ nmF (1 : Int) c.kind)) ++ nmF (2 : Int) c.client)) ++ nmF (3 : Int) c.seq)) ++ nmF (4 : Int) c.set)) ++ nmF (5 : Int) c.id)) ++ nmF (6 : Int) c.n)).length jc152) ((((((((((((([] : List Field) ++ nmF (1 : Int) c.kind)) ++ nmF (2 : Int) c.client)) ++ nmF (3 : Int) c.seq)) ++ nmF (4 : Int) c.set)) ++ nmF (5 : Int) c.id)) ++ nmF (6 : Int) c.n)) ∧ ∀ g ∈ ob (.slice ja151 ((((((((((((([] : List Field) ++ nmF (1 : Int) c.kind)) ++ nmF (2 : Int) c.client)) ++ nmF (3 : Int) c.seq)) ++ nmF (4 : Int) c.set)) ++ nmF (5 : Int) c.id)) ++ nmF (6 : Int) c.n)).length jc152), g ∈ ob (.slice ja123 ((((((((((([] : List Field) ++ nmF (1 : Int) c.kind)) ++ nmF (2 : Int) c.client)) ++ nmF (3 : Int) c.seq)) ++ nmF (4 : Int) c.set)) ++ nmF (5 : Int) c.id)).length jc124) ∨ (w143.heap.size ≤ g ∧ True)) ?_ ?_
 refine WC.cond rfl (fun q155 => ?_) (fun q155 => ?_)
 have p155 : ¬ (c.n = (0 : Int)) := of_decide_eq_false (bnot_t q155)
 refine WC.region ?_
 refine WO.v (R.loadB rfl Bj144 rfl Try.underlying25 rfl) rfl ?_
 refine WO.v (R.move rfl) rfl ?_
 refine WO.v (R.move rfl) rfl ?_
 have hN156 : (c.n).toNat < 18446744073709551616 := by have := i6; unfold I64 at this; omega
 refine WO.v (R.toU64J (a := (c.n).toNat) rfl Try.underlying3 Try.underlying35 (by omega) hN156) rfl ?_
 refine WO.v (R.buildL (parts := [_, _, _]) (cells := #[(.int .i64 (6 : Int)), (.int .i64 (0 : Int)), (.int .u64 (((c.n).toNat : Nat) : Int)), (.slice none 0 0)]) rfl (by kernel_rfl)) rfl ?_
 refine WO.buildSlice (parts := [_]) (vss := [[_, _, _, _]]) Try.underlying25 sz37 zr37 rfl rfl (by simp) rfl rfl rfl ?_
 intro w157 n157
 have z157 := n157.lt
 have b157 := old_kp0 b143 n157.kp
 have y157 := b157.size
 have ac158 : Ac (α := Field) (w143.heap.size) true (w.heap.size) (w157.heap.size) (w157.heap.size) w157 (.slice (some ⟨w143.heap.size, 0, none⟩) 1 1) ([(⟨(6 : Int), (0 : Int), (⟨(c.n).toNat⟩ : U64), []⟩ : Field)] : List Field) := Ac.lit (α := Field) (ys := ([(⟨(6 : Int), (0 : Int), (⟨(c.n).toNat⟩ : U64), []⟩ : Field)] : List Field)) (css := [[_, _, _, _]]) n157.blk (.cons ((Field.mk_ (show I64 (6) from ⟨by omega, by omega⟩) (show I64 (0) from ⟨by omega, by omega⟩) (hN156) (x3 := []) (Sl.nil _ _ _ _))) (.nil)) (by omega) (by omega) (by simp [maxLen]) (by show 1 * 48 ≤ 140737488355328; decide) rfl
 have lenac158 : ([(⟨(6 : Int), (0 : Int), (⟨(c.n).toNat⟩ : U64), []⟩ : Field)] : List Field).length = 1 := rfl
 have ac164 : Ac (α := Field) (w12.heap.size) true (w.heap.size) (w157.heap.size) (w143.heap.size) w157 (.slice ja123 ((((((((((([] : List Field) ++ nmF (1 : Int) c.kind)) ++ nmF (2 : Int) c.client)) ++ nmF (3 : Int) c.seq)) ++ nmF (4 : Int) c.set)) ++ nmF (5 : Int) c.id)).length jc124) ((((((((((([] : List Field) ++ nmF (1 : Int) c.kind)) ++ nmF (2 : Int) c.client)) ++ nmF (3 : Int) c.seq)) ++ nmF (4 : Int) c.set)) ++ nmF (5 : Int) c.id)) := (ac_kp0 (jf125) n157.kp (by omega) (by omega)).mono (Nat.le_refl _) (Nat.le_refl _) (by omega) (Nat.le_refl _)
 have bd159 := ac164.bd
 have ty165 := ac164.ty
 have lenac164 : (((((((((((([] : List Field) ++ nmF (1 : Int) c.kind)) ++ nmF (2 : Int) c.client)) ++ nmF (3 : Int) c.seq)) ++ nmF (4 : Int) c.set)) ++ nmF (5 : Int) c.id))).length * 48 ≤ 140737488355328 := ac164.lenle
 have lxac164 : (((((((((((([] : List Field) ++ nmF (1 : Int) c.kind)) ++ nmF (2 : Int) c.client)) ++ nmF (3 : Int) c.seq)) ++ nmF (4 : Int) c.set)) ++ nmF (5 : Int) c.id)) ++ ([(⟨(6 : Int), (0 : Int), (⟨(c.n).toNat⟩ : U64), []⟩ : Field)] : List Field)).length = ((((((((((([] : List Field) ++ nmF (1 : Int) c.kind)) ++ nmF (2 : Int) c.client)) ++ nmF (3 : Int) c.seq)) ++ nmF (4 : Int) c.set)) ++ nmF (5 : Int) c.id)).length + ([(⟨(6 : Int), (0 : Int), (⟨(c.n).toNat⟩ : U64), []⟩ : Field)] : List Field).length := List.length_append
 refine WO.append rfl ac164 (by omega) (by omega) (by omega) rfl rfl (ys := ([(⟨(6 : Int), (0 : Int), (⟨(c.n).toNat⟩ : U64), []⟩ : Field)] : List Field)) (Src.of_ac ((ac158).mono (Nat.le_refl _) (by omega) (by omega) (Nat.le_refl _))) (.inr (.inl ⟨rfl, by decide⟩)) Try.underlying25 inf37 rfl rfl rfl (by decide) (by first | omega | (simp only [List.length_cons, List.length_nil]; omega) | (simp only [List.length_append, List.length_cons, List.length_nil]; omega)) (by omega) rfl ?_
 intro a161 c162 w160 h163 k160 or166
 have z160 := k160.size
 have b160 := old_kp b157 k160 (fun g hg => by have := bd159 g hg; omega)
 have y160 := b160.size
 have B167 := ((Bj144).kp0 n157.kp).kp k160 (fun hm => by have := bd159 _ hm; omega)
 refine WO.storeB (cs' := [_]) rfl rfl B167 rfl rfl sz25 rfl ?_
 intro w168 k168 B168 z_168
 have z168 := z_168.symm
 have b168 := old_kp b160 k168 (mem1 (by omega))
 have y168 := b168.size
 refine WO.nil ?_
 refine WX.sel [0, 1, 2, 6] rfl ?_
 have E169 : (((((((((((([] : List Field) ++ nmF (1 : Int) c.kind)) ++ nmF (2 : Int) c.client)) ++ nmF (3 : Int) c.seq)) ++ nmF (4 : Int) c.set)) ++ nmF (5 : Int) c.id)) ++ ([(⟨(6 : Int), (0 : Int), (⟨(c.n).toNat⟩ : U64), []⟩ : Field)] : List Field)) = (((((((((((([] : List Field) ++ nmF (1 : Int) c.kind)) ++ nmF (2 : Int) c.client)) ++ nmF (3 : Int) c.seq)) ++ nmF (4 : Int) c.set)) ++ nmF (5 : Int) c.id)) ++ nmF (6 : Int) c.n) := nm_1 (by assumption)
 have nE169 : (((((((((((([] : List Field) ++ nmF (1 : Int) c.kind)) ++ nmF (2 : Int) c.client)) ++ nmF (3 : Int) c.seq)) ++ nmF (4 : Int) c.set)) ++ nmF (5 : Int) c.id)) ++ ([(⟨(6 : Int), (0 : Int), (⟨(c.n).toNat⟩ : U64), []⟩ : Field)] : List Field)).length = ((((((((((((([] : List Field) ++ nmF (1 : Int) c.kind)) ++ nmF (2 : Int) c.client)) ++ nmF (3 : Int) c.seq)) ++ nmF (4 : Int) c.set)) ++ nmF (5 : Int) c.id)) ++ nmF (6 : Int) c.n)).length := by rw [← E169]
 exact WX.cutDoneK [0, 1, 2, 6] rfl trivial ⟨a161, c162, (((((Kp.refl _).sub (by simp)).step n157.kp (by simp)).step k160 (fun g hg => .inl (List.mem_append_left _ hg))).step k168 (mem1 (.inl (List.mem_append_right _ (by simp))))), (by rw [← nE169]; exact B168), ac_n ((ac_kpB (h163) k168 (by omega) (by omega) (mem1 (by omega)) (mem1 ⟨_, _, B167, by decide⟩)).mono (by omega) (by omega) (by omega) (by omega)) E169 nE169, or2_n (m := (((((((((((([] : List Field) ++ nmF (1 : Int) c.kind)) ++ nmF (2 : Int) c.client)) ++ nmF (3 : Int) c.seq)) ++ nmF (4 : Int) c.set)) ++ nmF (5 : Int) c.id)) ++ ([(⟨(6 : Int), (0 : Int), (⟨(c.n).toNat⟩ : U64), []⟩ : Field)] : List Field)).length) (fun g hg => (or166 g hg).elim (fun hg => .inl (by first | exact hg | (rw [ob_n]; exact hg))) (fun ⟨hg, _⟩ => .inr ⟨by omega, trivial⟩))⟩
 have p155 : c.n = (0 : Int) := of_decide_eq_true (bnot_f q155)
 refine WC.skip ?_
 have E170 : ((((((((((([] : List Field) ++ nmF (1 : Int) c.kind)) ++ nmF (2 : Int) c.client)) ++ nmF (3 : Int) c.seq)) ++ nmF (4 : Int) c.set)) ++ nmF (5 : Int) c.id)) = (((((((((((([] : List Field) ++ nmF (1 : Int) c.kind)) ++ nmF (2 : Int) c.client)) ++ nmF (3 : Int) c.seq)) ++ nmF (4 : Int) c.set)) ++ nmF (5 : Int) c.id)) ++ nmF (6 : Int) c.n) := nm_0 (by first | assumption | omega)
 have nE170 : ((((((((((([] : List Field) ++ nmF (1 : Int) c.kind)) ++ nmF (2 : Int) c.client)) ++ nmF (3 : Int) c.seq)) ++ nmF (4 : Int) c.set)) ++ nmF (5 : Int) c.id)).length = ((((((((((((([] : List Field) ++ nmF (1 : Int) c.kind)) ++ nmF (2 : Int) c.client)) ++ nmF (3 : Int) c.seq)) ++ nmF (4 : Int) c.set)) ++ nmF (5 : Int) c.id)) ++ nmF (6 : Int) c.n)).length := by rw [← E170]
 exact WX.cutDoneK [0, 1, 2, 6] rfl trivial ⟨ja123, jc124, ((Kp.refl _).sub (by simp)), (by rw [← nE170]; exact Bj144), ac_n ((jf125).mono (by omega) (by omega) (by omega) (by omega)) E170 nE170, or2_n (m := ((((((((((([] : List Field) ++ nmF (1 : Int) c.kind)) ++ nmF (2 : Int) c.client)) ++ nmF (3 : Int) c.seq)) ++ nmF (4 : Int) c.set)) ++ nmF (5 : Int) c.id)).length) (fun g hg => .inl (by first | exact hg | (rw [ob_n]; exact hg)))⟩
 rintro w171 ⟨ja151, jc152, k171, Bj172, jf153, jo154⟩
 obtain ⟨w173, k173, kk171, z_171⟩ := k171.split
 have z173 := k173.size
 have b173 := old_kp b143 k173 (fun g hg => by have := bd149 g hg; omega)
 have y173 := b173.size
 have B174 := (Bj144).kp k173 (fun hm => by have := bd149 _ hm; omega)
 have z171 := z_171
 have b171 := old_kp b173 kk171 (mem1 (by omega))
 have y171 := b171.size
 have ljf153 : (((((((((((((([] : List Field) ++ nmF (1 : Int) c.kind)) ++ nmF (2 : Int) c.client)) ++ nmF (3 : Int) c.seq)) ++ nmF (4 : Int) c.set)) ++ nmF (5 : Int) c.id)) ++ nmF (6 : Int) c.n))).length * 48 ≤ 140737488355328 := jf153.lenle
 refine WX.endRet ?_
 refine WX.ret0 Try.results61 ?_
 refine WO.nil ?_
 refine WX.sel [0, 1, 2, 4, 5, 6, 7] rfl ?_
 refine WX.next ?_
 refine WC.seq ?_
 refine WC.region ?_
 refine WO.v (fa24_6 rfl) rfl ?_
 have B175 := ((B147).kp k173 (fun hm => by have := bd149 _ hm; omega)).kp1 kk171 (by omega)
 refine WO.v (R.loadB rfl B175 rfl Try.underlying22 rfl) rfl ?_
 refine WO.c (E.call rfl rfl Try.func20 rfl rfl) (chunks_s (l := c.chunks) (a_l := a7) (c_l := c8) ((sl_old s9 b171).mono (lo' := 0) (hi' := w171.heap.size) (Nat.zero_le _) (by omega))) rfl ?_
 rintro _ w176 ⟨a177, c178, rfl, s179, k176⟩
 have ls179 : (chunksB (c.chunks)).length * 1 ≤ 140737488355328 := s179.lenle
 have z176 := k176.size
 have b176 := old_kp0 b171 k176
 have y176 := b176.size
 refine WO.v (R.move rfl) rfl ?_
 refine WO.v (R.extract rfl rfl) rfl ?_
 refine WO.v (R.extract rfl rfl) rfl ?_
 refine WO.v (R.assign rfl) rfl ?_
 refine WO.v (R.assign rfl) rfl ?_
 refine WO.nil ?_
 refine WX.sel [0, 1, 2, 4, 5, 6, 7, 8] rfl ?_
 refine WX.next ?_
 refine WC.seq ?_
 refine WC.region ?_
 refine WO.v (R.move rfl) rfl ?_
 refine WO.v (R.move rfl) rfl ?_
 refine WO.inl [(.int .i64 (7 : Int)), (.slice a177 (chunksB (c.chunks)).length c178), (.pointer (some ⟨w11.heap.size, 0, none⟩))] (E.call rfl rfl Try.func62 rfl rfl) rfl rfl ?_
 refine Ret.enter Try.func62 rfl Try.ntmps62 rfl rfl ?_
 refine WC.sel [0, 1, 2] rfl ?_
 refine WC.seq ?_
 refine WC.region ?_
 refine WO.v (R.move rfl) rfl ?_
 refine WO.v (R.len rfl Try.underlying27) rfl ?_
 refine WO.v (R.gtr rfl rfl) rfl ?_
 refine WO.nil ?_
 refine WX.sel [0, 1, 2, 7] rfl ?_
 refine WX.next ?_
 have ac180 := ac_kp0 (jf153) k176 (by omega) (by omega)
 have bd181 := ac180.bd
 have ty182 := ac180.ty
 refine WC.cutEndK [0, 1, 2, 7] rfl [] (fun w' => ∃ (ja183 : Option Addr) (jc184 : Nat), Kp (ob (.slice ja151 ((((((((((((([] : List Field) ++ nmF (1 : Int) c.kind)) ++ nmF (2 : Int) c.client)) ++ nmF (3 : Int) c.seq)) ++ nmF (4 : Int) c.set)) ++ nmF (5 : Int) c.id)) ++ nmF (6 : Int) c.n)).length jc152) ++ [w11.heap.size]) w176 w' ∧ Blk w' (w11.heap.size) 25 [(.slice ja183 ((((((((((((((([] : List Field) ++ nmF (1 : Int) c.kind)) ++ nmF (2 : Int) c.client)) ++ nmF (3 : Int) c.seq)) ++ nmF (4 : Int) c.set)) ++ nmF (5 : Int) c.id)) ++ nmF (6 : Int) c.n)) ++ byF (7 : Int) (chunksB (c.chunks)))).length jc184)] ∧ Ac (α := Field) (w12.heap.size) true (w.heap.size) (w'.heap.size) w'.heap.size w' (.slice ja183 ((((((((((((((([] : List Field) ++ nmF (1 : Int) c.kind)) ++ nmF (2 : Int) c.client)) ++ nmF (3 : Int) c.seq)) ++ nmF (4 : Int) c.set)) ++ nmF (5 : Int) c.id)) ++ nmF (6 : Int) c.n)) ++ byF (7 : Int) (chunksB (c.chunks)))).length jc184) ((((((((((((((([] : List Field) ++ nmF (1 : Int) c.kind)) ++ nmF (2 : Int) c.client)) ++ nmF (3 : Int) c.seq)) ++ nmF (4 : Int) c.set)) ++ nmF (5 : Int) c.id)) ++ nmF (6 : Int) c.n)) ++ byF (7 : Int) (chunksB (c.chunks)))) ∧ ∀ g ∈ ob (.slice ja183 ((((((((((((((([] : List Field) ++ nmF (1 : Int) c.kind)) ++ nmF (2 : Int) c.client)) ++ nmF (3 : Int) c.seq)) ++ nmF (4 : Int) c.set)) ++ nmF (5 : Int) c.id)) ++ nmF (6 : Int) c.n)) ++ byF (7 : Int) (chunksB (c.chunks)))).length jc184), g ∈ ob (.slice ja151 ((((((((((((([] : List Field) ++ nmF (1 : Int) c.kind)) ++ nmF (2 : Int) c.client)) ++ nmF (3 : Int) c.seq)) ++ nmF (4 : Int) c.set)) ++ nmF (5 : Int) c.id)) ++ nmF (6 : Int) c.n)).length jc152) ∨ (w176.heap.size ≤ g ∧ True)) ?_ ?_
 refine WC.cond rfl (fun q187 => ?_) (fun q187 => ?_)
 have p187 : (0 : Int) < (((chunksB (c.chunks)).length : Nat) : Int) := of_decide_eq_true q187
 refine WC.region ?_
 have B188 := (Bj172).kp0 k176
 refine WO.v (R.loadB rfl B188 rfl Try.underlying25 rfl) rfl ?_
 refine WO.v (R.move rfl) rfl ?_
 refine WO.v (R.move rfl) rfl ?_
 refine WO.v (R.buildL (parts := [_, _, _]) (cells := #[(.int .i64 (7 : Int)), (.int .i64 (2 : Int)), (.int .u64 (0 : Int)), (.slice a177 (chunksB (c.chunks)).length c178)]) rfl (by kernel_rfl)) rfl ?_
 refine WO.buildSlice (parts := [_]) (vss := [[_, _, _, _]]) Try.underlying25 sz37 zr37 rfl rfl (by simp) rfl rfl rfl ?_
 intro w189 n189
 have z189 := n189.lt
 have b189 := old_kp0 b176 n189.kp
 have y189 := b189.size
 have ac190 : Ac (α := Field) (w176.heap.size) true (w.heap.size) (w189.heap.size) (w189.heap.size) w189 (.slice (some ⟨w176.heap.size, 0, none⟩) 1 1) ([(⟨(7 : Int), (2 : Int), (⟨0⟩ : U64), (chunksB (c.chunks))⟩ : Field)] : List Field) := Ac.lit (α := Field) (ys := ([(⟨(7 : Int), (2 : Int), (⟨0⟩ : U64), (chunksB (c.chunks))⟩ : Field)] : List Field)) (css := [[_, _, _, _]]) n189.blk (.cons ((Field.mk_ (show I64 (7) from ⟨by omega, by omega⟩) (show I64 (2) from ⟨by omega, by omega⟩) (by decide) ((ac_kp0 (s179) n189.kp (by omega) (by omega)).own (L := w.heap.size) (H := w189.heap.size) (by omega) (by omega) (by omega) (by omega)))) (.nil)) (by omega) (by omega) (by simp [maxLen]) (by show 1 * 48 ≤ 140737488355328; decide) rfl
 have lenac190 : ([(⟨(7 : Int), (2 : Int), (⟨0⟩ : U64), (chunksB (c.chunks))⟩ : Field)] : List Field).length = 1 := rfl
 have ac196 : Ac (α := Field) (w12.heap.size) true (w.heap.size) (w189.heap.size) (w171.heap.size) w189 (.slice ja151 ((((((((((((([] : List Field) ++ nmF (1 : Int) c.kind)) ++ nmF (2 : Int) c.client)) ++ nmF (3 : Int) c.seq)) ++ nmF (4 : Int) c.set)) ++ nmF (5 : Int) c.id)) ++ nmF (6 : Int) c.n)).length jc152) ((((((((((((([] : List Field) ++ nmF (1 : Int) c.kind)) ++ nmF (2 : Int) c.client)) ++ nmF (3 : Int) c.seq)) ++ nmF (4 : Int) c.set)) ++ nmF (5 : Int) c.id)) ++ nmF (6 : Int) c.n)) := (ac_kp0 (ac_kp0 (jf153) k176 (by omega) (by omega)) n189.kp (by omega) (by omega)).mono (Nat.le_refl _) (Nat.le_refl _) (by omega) (Nat.le_refl _)
 have bd191 := ac196.bd
 have ty197 := ac196.ty
 have lenac196 : (((((((((((((([] : List Field) ++ nmF (1 : Int) c.kind)) ++ nmF (2 : Int) c.client)) ++ nmF (3 : Int) c.seq)) ++ nmF (4 : Int) c.set)) ++ nmF (5 : Int) c.id)) ++ nmF (6 : Int) c.n))).length * 48 ≤ 140737488355328 := ac196.lenle
 have lxac196 : (((((((((((((([] : List Field) ++ nmF (1 : Int) c.kind)) ++ nmF (2 : Int) c.client)) ++ nmF (3 : Int) c.seq)) ++ nmF (4 : Int) c.set)) ++ nmF (5 : Int) c.id)) ++ nmF (6 : Int) c.n)) ++ ([(⟨(7 : Int), (2 : Int), (⟨0⟩ : U64), (chunksB (c.chunks))⟩ : Field)] : List Field)).length = ((((((((((((([] : List Field) ++ nmF (1 : Int) c.kind)) ++ nmF (2 : Int) c.client)) ++ nmF (3 : Int) c.seq)) ++ nmF (4 : Int) c.set)) ++ nmF (5 : Int) c.id)) ++ nmF (6 : Int) c.n)).length + ([(⟨(7 : Int), (2 : Int), (⟨0⟩ : U64), (chunksB (c.chunks))⟩ : Field)] : List Field).length := List.length_append
 refine WO.append rfl ac196 (by omega) (by omega) (by omega) rfl rfl (ys := ([(⟨(7 : Int), (2 : Int), (⟨0⟩ : U64), (chunksB (c.chunks))⟩ : Field)] : List Field)) (Src.of_ac ((ac190).mono (Nat.le_refl _) (by omega) (by omega) (Nat.le_refl _))) (.inr (.inl ⟨rfl, by decide⟩)) Try.underlying25 inf37 rfl rfl rfl (by decide) (by first | omega | (simp only [List.length_cons, List.length_nil]; omega) | (simp only [List.length_append, List.length_cons, List.length_nil]; omega)) (by omega) rfl ?_
 intro a193 c194 w192 h195 k192 or198
 have z192 := k192.size
 have b192 := old_kp b189 k192 (fun g hg => by have := bd191 g hg; omega)
 have y192 := b192.size
 have B199 := ((B188).kp0 n189.kp).kp k192 (fun hm => by have := bd191 _ hm; omega)
 refine WO.storeB (cs' := [_]) rfl rfl B199 rfl rfl sz25 rfl ?_
 intro w200 k200 B200 z_200
 have z200 := z_200.symm
 have b200 := old_kp b192 k200 (mem1 (by omega))
 have y200 := b200.size
 refine WO.nil ?_
 refine WX.sel [0, 1, 2, 7] rfl ?_
 have E201 : (((((((((((((([] : List Field) ++ nmF (1 : Int) c.kind)) ++ nmF (2 : Int) c.client)) ++ nmF (3 : Int) c.seq)) ++ nmF (4 : Int) c.set)) ++ nmF (5 : Int) c.id)) ++ nmF (6 : Int) c.n)) ++ ([(⟨(7 : Int), (2 : Int), (⟨0⟩ : U64), (chunksB (c.chunks))⟩ : Field)] : List Field)) = (((((((((((((([] : List Field) ++ nmF (1 : Int) c.kind)) ++ nmF (2 : Int) c.client)) ++ nmF (3 : Int) c.seq)) ++ nmF (4 : Int) c.set)) ++ nmF (5 : Int) c.id)) ++ nmF (6 : Int) c.n)) ++ byF (7 : Int) (chunksB (c.chunks))) := by_1 (by assumption)
 have nE201 : (((((((((((((([] : List Field) ++ nmF (1 : Int) c.kind)) ++ nmF (2 : Int) c.client)) ++ nmF (3 : Int) c.seq)) ++ nmF (4 : Int) c.set)) ++ nmF (5 : Int) c.id)) ++ nmF (6 : Int) c.n)) ++ ([(⟨(7 : Int), (2 : Int), (⟨0⟩ : U64), (chunksB (c.chunks))⟩ : Field)] : List Field)).length = ((((((((((((((([] : List Field) ++ nmF (1 : Int) c.kind)) ++ nmF (2 : Int) c.client)) ++ nmF (3 : Int) c.seq)) ++ nmF (4 : Int) c.set)) ++ nmF (5 : Int) c.id)) ++ nmF (6 : Int) c.n)) ++ byF (7 : Int) (chunksB (c.chunks)))).length := by rw [← E201]
 exact WX.cutDoneK [0, 1, 2, 7] rfl trivial ⟨a193, c194, (((((Kp.refl _).sub (by simp)).step n189.kp (by simp)).step k192 (fun g hg => .inl (List.mem_append_left _ hg))).step k200 (mem1 (.inl (List.mem_append_right _ (by simp))))), (by rw [← nE201]; exact B200), ac_n ((ac_kpB (h195) k200 (by omega) (by omega) (mem1 (by omega)) (mem1 ⟨_, _, B199, by decide⟩)).mono (by omega) (by omega) (by omega) (by omega)) E201 nE201, or2_n (m := (((((((((((((([] : List Field) ++ nmF (1 : Int) c.kind)) ++ nmF (2 : Int) c.client)) ++ nmF (3 : Int) c.seq)) ++ nmF (4 : Int) c.set)) ++ nmF (5 : Int) c.id)) ++ nmF (6 : Int) c.n)) ++ ([(⟨(7 : Int), (2 : Int), (⟨0⟩ : U64), (chunksB (c.chunks))⟩ : Field)] : List Field)).length) (fun g hg => (or198 g hg).elim (fun hg => .inl (by first | exact hg | (rw [ob_n]; exact hg))) (fun ⟨hg, _⟩ => .inr ⟨by omega, trivial⟩))⟩
 have p187 : ¬ ((0 : Int) < (((chunksB (c.chunks)).length : Nat) : Int)) := of_decide_eq_false q187
 refine WC.skip ?_
 have E202 : ((((((((((((([] : List Field) ++ nmF (1 : Int) c.kind)) ++ nmF (2 : Int) c.client)) ++ nmF (3 : Int) c.seq)) ++ nmF (4 : Int) c.set)) ++ nmF (5 : Int) c.id)) ++ nmF (6 : Int) c.n)) = (((((((((((((([] : List Field) ++ nmF (1 : Int) c.kind)) ++ nmF (2 : Int) c.client)) ++ nmF (3 : Int) c.seq)) ++ nmF (4 : Int) c.set)) ++ nmF (5 : Int) c.id)) ++ nmF (6 : Int) c.n)) ++ byF (7 : Int) (chunksB (c.chunks))) := by_0 (by first | assumption | omega)
 have nE202 : ((((((((((((([] : List Field) ++ nmF (1 : Int) c.kind)) ++ nmF (2 : Int) c.client)) ++ nmF (3 : Int) c.seq)) ++ nmF (4 : Int) c.set)) ++ nmF (5 : Int) c.id)) ++ nmF (6 : Int) c.n)).length = ((((((((((((((([] : List Field) ++ nmF (1 : Int) c.kind)) ++ nmF (2 : Int) c.client)) ++ nmF (3 : Int) c.seq)) ++ nmF (4 : Int) c.set)) ++ nmF (5 : Int) c.id)) ++ nmF (6 : Int) c.n)) ++ byF (7 : Int) (chunksB (c.chunks)))).length := by rw [← E202]
 have B203 := (Bj172).kp0 k176
 exact WX.cutDoneK [0, 1, 2, 7] rfl trivial ⟨ja151, jc152, ((Kp.refl _).sub (by simp)), (by rw [← nE202]; exact B203), ac_n ((ac_kp0 (jf153) k176 (by omega) (by omega)).mono (by omega) (by omega) (by omega) (by omega)) E202 nE202, or2_n (m := ((((((((((((([] : List Field) ++ nmF (1 : Int) c.kind)) ++ nmF (2 : Int) c.client)) ++ nmF (3 : Int) c.seq)) ++ nmF (4 : Int) c.set)) ++ nmF (5 : Int) c.id)) ++ nmF (6 : Int) c.n)).length) (fun g hg => .inl (by first | exact hg | (rw [ob_n]; exact hg)))⟩
 rintro w204 ⟨ja183, jc184, k204, Bj205, jf185, jo186⟩
 have B206 := (Bj172).kp0 k176
 obtain ⟨w207, k207, kk204, z_204⟩ := k204.split
 have z207 := k207.size
 have b207 := old_kp b176 k207 (fun g hg => by have := bd181 g hg; omega)
 have y207 := b207.size
 have B208 := (B206).kp k207 (fun hm => by have := bd181 _ hm; omega)
 have z204 := z_204
 have b204 := old_kp b207 kk204 (mem1 (by omega))
 have y204 := b204.size
 have ljf185 : (((((((((((((((([] : List Field) ++ nmF (1 : Int) c.kind)) ++ nmF (2 : Int) c.client)) ++ nmF (3 : Int) c.seq)) ++ nmF (4 : Int) c.set)) ++ nmF (5 : Int) c.id)) ++ nmF (6 : Int) c.n)) ++ byF (7 : Int) (chunksB (c.chunks))))).length * 48 ≤ 140737488355328 := jf185.lenle
 refine WX.endRet ?_
 refine WX.ret0 Try.results62 ?_
 refine WO.nil ?_
 refine WX.sel [0, 1, 2, 4, 5, 6, 7, 8] rfl ?_
 refine WX.next ?_
 refine WC.seq ?_
 refine WC.seq ?_
 refine WC.region ?_
 refine WO.v (R.move rfl) rfl ?_
 refine WO.v (R.geq rfl rfl) rfl ?_
 refine WO.nil ?_
 refine WX.sel [0, 1, 2, 4, 5, 6, 7, 8, 46] rfl ?_
 refine WX.next ?_
 refine WC.cond rfl (fun q209 => ?_) (fun q209 => ?_)
 have p209 : (3 : Int) ≤ v := of_decide_eq_true q209
 refine WC.region ?_
 refine WO.v (R.move rfl) rfl ?_
 refine WO.v (fa24_7 rfl) rfl ?_
 have B210 := (((B175).kp0 k176).kp k207 (fun hm => by have := bd181 _ hm; omega)).kp1 kk204 (by omega)
 refine WO.v (R.loadB rfl B210 rfl Try.underlying9 rfl) rfl ?_
 refine WO.toBytes (s := c.text) (B := w.heap.size) (by rfl) i10 Try.underlying9 Try.underlying27 Try.underlying5 rfl (by omega) ?_
 intro a212 c213 w211 s214 k211
 have z211 := k211.size
 have b211 := old_kp0 b204 k211
 have y211 := b211.size
 have ls214 : (c.text.b).length * 1 ≤ 140737488355328 := s214.lenle
 refine WO.inl [(.int .i64 (8 : Int)), (.slice a212 c.text.b.length c213), (.pointer (some ⟨w11.heap.size, 0, none⟩))] (E.call rfl rfl Try.func62 rfl rfl) rfl rfl ?_
 refine Ret.enter Try.func62 rfl Try.ntmps62 rfl rfl ?_
 refine WC.sel [0, 1, 2] rfl ?_
 refine WC.seq ?_
 refine WC.region ?_
 refine WO.v (R.move rfl) rfl ?_
 refine WO.v (R.len rfl Try.underlying27) rfl ?_
 refine WO.v (R.gtr rfl rfl) rfl ?_
 refine WO.nil ?_
 refine WX.sel [0, 1, 2, 7] rfl ?_
 refine WX.next ?_
 have ac215 := ac_kp0 (jf185) k211 (by omega) (by omega)
 have bd216 := ac215.bd
 have ty217 := ac215.ty
 refine WC.cutEndK [0, 1, 2, 7] rfl [] (fun w' => ∃ (ja218 : Option Addr) (jc219 : Nat), Kp (ob (.slice ja183 ((((((((((((((([] : List Field) ++ nmF (1 : Int) c.kind)) ++ nmF (2 : Int) c.client)) ++ nmF (3 : Int) c.seq)) ++ nmF (4 : Int) c.set)) ++ nmF (5 : Int) c.id)) ++ nmF (6 : Int) c.n)) ++ byF (7 : Int) (chunksB (c.chunks)))).length jc184) ++ [w11.heap.size]) w211 w' ∧ Blk w' (w11.heap.size) 25 [(.slice ja218 ((((((((((((((((([] : List Field) ++ nmF (1 : Int) c.kind)) ++ nmF (2 : Int) c.client)) ++ nmF (3 : Int) c.seq)) ++ nmF (4 : Int) c.set)) ++ nmF (5 : Int) c.id)) ++ nmF (6 : Int) c.n)) ++ byF (7 : Int) (chunksB (c.chunks)))) ++ byF (8 : Int) c.text.b)).length jc219)] ∧ Ac (α := Field) (w12.heap.size) true (w.heap.size) (w'.heap.size) w'.heap.size w' (.slice ja218 ((((((((((((((((([] : List Field) ++ nmF (1 : Int) c.kind)) ++ nmF (2 : Int) c.client)) ++ nmF (3 : Int) c.seq)) ++ nmF (4 : Int) c.set)) ++ nmF (5 : Int) c.id)) ++ nmF (6 : Int) c.n)) ++ byF (7 : Int) (chunksB (c.chunks)))) ++ byF (8 : Int) c.text.b)).length jc219) ((((((((((((((((([] : List Field) ++ nmF (1 : Int) c.kind)) ++ nmF (2 : Int) c.client)) ++ nmF (3 : Int) c.seq)) ++ nmF (4 : Int) c.set)) ++ nmF (5 : Int) c.id)) ++ nmF (6 : Int) c.n)) ++ byF (7 : Int) (chunksB (c.chunks)))) ++ byF (8 : Int) c.text.b)) ∧ ∀ g ∈ ob (.slice ja218 ((((((((((((((((([] : List Field) ++ nmF (1 : Int) c.kind)) ++ nmF (2 : Int) c.client)) ++ nmF (3 : Int) c.seq)) ++ nmF (4 : Int) c.set)) ++ nmF (5 : Int) c.id)) ++ nmF (6 : Int) c.n)) ++ byF (7 : Int) (chunksB (c.chunks)))) ++ byF (8 : Int) c.text.b)).length jc219), g ∈ ob (.slice ja183 ((((((((((((((([] : List Field) ++ nmF (1 : Int) c.kind)) ++ nmF (2 : Int) c.client)) ++ nmF (3 : Int) c.seq)) ++ nmF (4 : Int) c.set)) ++ nmF (5 : Int) c.id)) ++ nmF (6 : Int) c.n)) ++ byF (7 : Int) (chunksB (c.chunks)))).length jc184) ∨ (w211.heap.size ≤ g ∧ True)) ?_ ?_
 refine WC.cond rfl (fun q222 => ?_) (fun q222 => ?_)
 have p222 : (0 : Int) < ((c.text.b.length : Nat) : Int) := of_decide_eq_true q222
 refine WC.region ?_
 have B223 := (Bj205).kp0 k211
 refine WO.v (R.loadB rfl B223 rfl Try.underlying25 rfl) rfl ?_
 refine WO.v (R.move rfl) rfl ?_
 refine WO.v (R.move rfl) rfl ?_
 refine WO.v (R.buildL (parts := [_, _, _]) (cells := #[(.int .i64 (8 : Int)), (.int .i64 (2 : Int)), (.int .u64 (0 : Int)), (.slice a212 c.text.b.length c213)]) rfl (by kernel_rfl)) rfl ?_
 refine WO.buildSlice (parts := [_]) (vss := [[_, _, _, _]]) Try.underlying25 sz37 zr37 rfl rfl (by simp) rfl rfl rfl ?_
 intro w224 n224
 have z224 := n224.lt
 have b224 := old_kp0 b211 n224.kp
 have y224 := b224.size
 have ac225 : Ac (α := Field) (w211.heap.size) true (w.heap.size) (w224.heap.size) (w224.heap.size) w224 (.slice (some ⟨w211.heap.size, 0, none⟩) 1 1) ([(⟨(8 : Int), (2 : Int), (⟨0⟩ : U64), c.text.b⟩ : Field)] : List Field) := Ac.lit (α := Field) (ys := ([(⟨(8 : Int), (2 : Int), (⟨0⟩ : U64), c.text.b⟩ : Field)] : List Field)) (css := [[_, _, _, _]]) n224.blk (.cons ((Field.mk_ (show I64 (8) from ⟨by omega, by omega⟩) (show I64 (2) from ⟨by omega, by omega⟩) (by decide) ((sl_kp0 (s214) n224.kp (by omega)).mono (lo' := w.heap.size) (hi' := w224.heap.size) (by omega) (by omega)))) (.nil)) (by omega) (by omega) (by simp [maxLen]) (by show 1 * 48 ≤ 140737488355328; decide) rfl
 have lenac225 : ([(⟨(8 : Int), (2 : Int), (⟨0⟩ : U64), c.text.b⟩ : Field)] : List Field).length = 1 := rfl
 have ac231 : Ac (α := Field) (w12.heap.size) true (w.heap.size) (w224.heap.size) (w204.heap.size) w224 (.slice ja183 ((((((((((((((([] : List Field) ++ nmF (1 : Int) c.kind)) ++ nmF (2 : Int) c.client)) ++ nmF (3 : Int) c.seq)) ++ nmF (4 : Int) c.set)) ++ nmF (5 : Int) c.id)) ++ nmF (6 : Int) c.n)) ++ byF (7 : Int) (chunksB (c.chunks)))).length jc184) ((((((((((((((([] : List Field) ++ nmF (1 : Int) c.kind)) ++ nmF (2 : Int) c.client)) ++ nmF (3 : Int) c.seq)) ++ nmF (4 : Int) c.set)) ++ nmF (5 : Int) c.id)) ++ nmF (6 : Int) c.n)) ++ byF (7 : Int) (chunksB (c.chunks)))) := (ac_kp0 (ac_kp0 (jf185) k211 (by omega) (by omega)) n224.kp (by omega) (by omega)).mono (Nat.le_refl _) (Nat.le_refl _) (by omega) (Nat.le_refl _)
 have bd226 := ac231.bd
 have ty232 := ac231.ty
 have lenac231 : (((((((((((((((([] : List Field) ++ nmF (1 : Int) c.kind)) ++ nmF (2 : Int) c.client)) ++ nmF (3 : Int) c.seq)) ++ nmF (4 : Int) c.set)) ++ nmF (5 : Int) c.id)) ++ nmF (6 : Int) c.n)) ++ byF (7 : Int) (chunksB (c.chunks))))).length * 48 ≤ 140737488355328 := ac231.lenle
 have lxac231 : (((((((((((((((([] : List Field) ++ nmF (1 : Int) c.kind)) ++ nmF (2 : Int) c.client)) ++ nmF (3 : Int) c.seq)) ++ nmF (4 : Int) c.set)) ++ nmF (5 : Int) c.id)) ++ nmF (6 : Int) c.n)) ++ byF (7 : Int) (chunksB (c.chunks)))) ++ ([(⟨(8 : Int), (2 : Int), (⟨0⟩ : U64), c.text.b⟩ : Field)] : List Field)).length = ((((((((((((((([] : List Field) ++ nmF (1 : Int) c.kind)) ++ nmF (2 : Int) c.client)) ++ nmF (3 : Int) c.seq)) ++ nmF (4 : Int) c.set)) ++ nmF (5 : Int) c.id)) ++ nmF (6 : Int) c.n)) ++ byF (7 : Int) (chunksB (c.chunks)))).length + ([(⟨(8 : Int), (2 : Int), (⟨0⟩ : U64), c.text.b⟩ : Field)] : List Field).length := List.length_append
 refine WO.append rfl ac231 (by omega) (by omega) (by omega) rfl rfl (ys := ([(⟨(8 : Int), (2 : Int), (⟨0⟩ : U64), c.text.b⟩ : Field)] : List Field)) (Src.of_ac ((ac225).mono (Nat.le_refl _) (by omega) (by omega) (Nat.le_refl _))) (.inr (.inl ⟨rfl, by decide⟩)) Try.underlying25 inf37 rfl rfl rfl (by decide) (by first | omega | (simp only [List.length_cons, List.length_nil]; omega) | (simp only [List.length_append, List.length_cons, List.length_nil]; omega)) (by omega) rfl ?_
 intro a228 c229 w227 h230 k227 or233
 have z227 := k227.size
 have b227 := old_kp b224 k227 (fun g hg => by have := bd226 g hg; omega)
 have y227 := b227.size
 have B234 := ((B223).kp0 n224.kp).kp k227 (fun hm => by have := bd226 _ hm; omega)
 refine WO.storeB (cs' := [_]) rfl rfl B234 rfl rfl sz25 rfl ?_
 intro w235 k235 B235 z_235
 have z235 := z_235.symm
 have b235 := old_kp b227 k235 (mem1 (by omega))
 have y235 := b235.size
 refine WO.nil ?_
 refine WX.sel [0, 1, 2, 7] rfl ?_
 have E236 : (((((((((((((((([] : List Field) ++ nmF (1 : Int) c.kind)) ++ nmF (2 : Int) c.client)) ++ nmF (3 : Int) c.seq)) ++ nmF (4 : Int) c.set)) ++ nmF (5 : Int) c.id)) ++ nmF (6 : Int) c.n)) ++ byF (7 : Int) (chunksB (c.chunks)))) ++ ([(⟨(8 : Int), (2 : Int), (⟨0⟩ : U64), c.text.b⟩ : Field)] : List Field)) = (((((((((((((((([] : List Field) ++ nmF (1 : Int) c.kind)) ++ nmF (2 : Int) c.client)) ++ nmF (3 : Int) c.seq)) ++ nmF (4 : Int) c.set)) ++ nmF (5 : Int) c.id)) ++ nmF (6 : Int) c.n)) ++ byF (7 : Int) (chunksB (c.chunks)))) ++ byF (8 : Int) c.text.b) := by_1 (by assumption)
 have nE236 : (((((((((((((((([] : List Field) ++ nmF (1 : Int) c.kind)) ++ nmF (2 : Int) c.client)) ++ nmF (3 : Int) c.seq)) ++ nmF (4 : Int) c.set)) ++ nmF (5 : Int) c.id)) ++ nmF (6 : Int) c.n)) ++ byF (7 : Int) (chunksB (c.chunks)))) ++ ([(⟨(8 : Int), (2 : Int), (⟨0⟩ : U64), c.text.b⟩ : Field)] : List Field)).length = ((((((((((((((((([] : List Field) ++ nmF (1 : Int) c.kind)) ++ nmF (2 : Int) c.client)) ++ nmF (3 : Int) c.seq)) ++ nmF (4 : Int) c.set)) ++ nmF (5 : Int) c.id)) ++ nmF (6 : Int) c.n)) ++ byF (7 : Int) (chunksB (c.chunks)))) ++ byF (8 : Int) c.text.b)).length := by rw [← E236]
 exact WX.cutDoneK [0, 1, 2, 7] rfl trivial ⟨a228, c229, (((((Kp.refl _).sub (by simp)).step n224.kp (by simp)).step k227 (fun g hg => .inl (List.mem_append_left _ hg))).step k235 (mem1 (.inl (List.mem_append_right _ (by simp))))), (by rw [← nE236]; exact B235), ac_n ((ac_kpB (h230) k235 (by omega) (by omega) (mem1 (by omega)) (mem1 ⟨_, _, B234, by decide⟩)).mono (by omega) (by omega) (by omega) (by omega)) E236 nE236, or2_n (m := (((((((((((((((([] : List Field) ++ nmF (1 : Int) c.kind)) ++ nmF (2 : Int) c.client)) ++ nmF (3 : Int) c.seq)) ++ nmF (4 : Int) c.set)) ++ nmF (5 : Int) c.id)) ++ nmF (6 : Int) c.n)) ++ byF (7 : Int) (chunksB (c.chunks)))) ++ ([(⟨(8 : Int), (2 : Int), (⟨0⟩ : U64), c.text.b⟩ : Field)] : List Field)).length) (fun g hg => (or233 g hg).elim (fun hg => .inl (by first | exact hg | (rw [ob_n]; exact hg))) (fun ⟨hg, _⟩ => .inr ⟨by omega, trivial⟩))⟩
 have p222 : ¬ ((0 : Int) < ((c.text.b.length : Nat) : Int)) := of_decide_eq_false q222
 refine WC.skip ?_
 have E237 : ((((((((((((((([] : List Field) ++ nmF (1 : Int) c.kind)) ++ nmF (2 : Int) c.client)) ++ nmF (3 : Int) c.seq)) ++ nmF (4 : Int) c.set)) ++ nmF (5 : Int) c.id)) ++ nmF (6 : Int) c.n)) ++ byF (7 : Int) (chunksB (c.chunks)))) = (((((((((((((((([] : List Field) ++ nmF (1 : Int) c.kind)) ++ nmF (2 : Int) c.client)) ++ nmF (3 : Int) c.seq)) ++ nmF (4 : Int) c.set)) ++ nmF (5 : Int) c.id)) ++ nmF (6 : Int) c.n)) ++ byF (7 : Int) (chunksB (c.chunks)))) ++ byF (8 : Int) c.text.b) := by_0 (by first | assumption | omega)
 have nE237 : ((((((((((((((([] : List Field) ++ nmF (1 : Int) c.kind)) ++ nmF (2 : Int) c.client)) ++ nmF (3 : Int) c.seq)) ++ nmF (4 : Int) c.set)) ++ nmF (5 : Int) c.id)) ++ nmF (6 : Int) c.n)) ++ byF (7 : Int) (chunksB (c.chunks)))).length = ((((((((((((((((([] : List Field) ++ nmF (1 : Int) c.kind)) ++ nmF (2 : Int) c.client)) ++ nmF (3 : Int) c.seq)) ++ nmF (4 : Int) c.set)) ++ nmF (5 : Int) c.id)) ++ nmF (6 : Int) c.n)) ++ byF (7 : Int) (chunksB (c.chunks)))) ++ byF (8 : Int) c.text.b)).length := by rw [← E237]
 have B238 := (Bj205).kp0 k211
 exact WX.cutDoneK [0, 1, 2, 7] rfl trivial ⟨ja183, jc184, ((Kp.refl _).sub (by simp)), (by rw [← nE237]; exact B238), ac_n ((ac_kp0 (jf185) k211 (by omega) (by omega)).mono (by omega) (by omega) (by omega) (by omega)) E237 nE237, or2_n (m := ((((((((((((((([] : List Field) ++ nmF (1 : Int) c.kind)) ++ nmF (2 : Int) c.client)) ++ nmF (3 : Int) c.seq)) ++ nmF (4 : Int) c.set)) ++ nmF (5 : Int) c.id)) ++ nmF (6 : Int) c.n)) ++ byF (7 : Int) (chunksB (c.chunks)))).length) (fun g hg => .inl (by first | exact hg | (rw [ob_n]; exact hg)))⟩
 rintro w239 ⟨ja218, jc219, k239, Bj240, jf220, jo221⟩
 have B241 := (Bj205).kp0 k211
 obtain ⟨w242, k242, kk239, z_239⟩ := k239.split
 have z242 := k242.size
 have b242 := old_kp b211 k242 (fun g hg => by have := bd216 g hg; omega)
 have y242 := b242.size
 have B243 := (B241).kp k242 (fun hm => by have := bd216 _ hm; omega)
 have z239 := z_239
 have b239 := old_kp b242 kk239 (mem1 (by omega))
 have y239 := b239.size
 have ljf220 : (((((((((((((((((([] : List Field) ++ nmF (1 : Int) c.kind)) ++ nmF (2 : Int) c.client)) ++ nmF (3 : Int) c.seq)) ++ nmF (4 : Int) c.set)) ++ nmF (5 : Int) c.id)) ++ nmF (6 : Int) c.n)) ++ byF (7 : Int) (chunksB (c.chunks)))) ++ byF (8 : Int) c.text.b))).length * 48 ≤ 140737488355328 := jf220.lenle
 refine WX.endRet ?_
 refine WX.ret0 Try.results62 ?_
 refine WO.nil ?_
 refine WX.sel [0, 1, 2, 4, 5, 6, 7, 8, 46] rfl ?_
 refine WX.next ?_
 refine WC.seq ?_
 refine WC.region ?_
 refine WO.v (R.loadB rfl Bj240 rfl Try.underlying25 rfl) rfl ?_
 refine WO.v (R.assign rfl) rfl ?_
 refine WO.nil ?_
 refine WX.sel [0, 1, 2, 4, 5, 6, 7, 8, 46] rfl ?_
 refine WX.next ?_
 refine WC.ret ?_
 have e0 : ((((((((((((((((([] : List Field) ++ nmF (1 : Int) c.kind)) ++ nmF (2 : Int) c.client)) ++ nmF (3 : Int) c.seq)) ++ nmF (4 : Int) c.set)) ++ nmF (5 : Int) c.id)) ++ nmF (6 : Int) c.n)) ++ byF (7 : Int) (chunksB (c.chunks)))) ++ byF (8 : Int) c.text.b)) = (fieldsF c v) := by first | (rw [fieldsF, if_pos (by omega)]; rfl) | (rw [fieldsF, if_neg (by omega)]; rfl)
 have n0 : ((((((((((((((((([] : List Field) ++ nmF (1 : Int) c.kind)) ++ nmF (2 : Int) c.client)) ++ nmF (3 : Int) c.seq)) ++ nmF (4 : Int) c.set)) ++ nmF (5 : Int) c.id)) ++ nmF (6 : Int) c.n)) ++ byF (7 : Int) (chunksB (c.chunks)))) ++ byF (8 : Int) c.text.b)).length = (fieldsF c v).length := by rw [e0]
 have f0 : Sl true w.heap.size w239.heap.size w239 (.slice ja218 ((((((((((((((((([] : List Field) ++ nmF (1 : Int) c.kind)) ++ nmF (2 : Int) c.client)) ++ nmF (3 : Int) c.seq)) ++ nmF (4 : Int) c.set)) ++ nmF (5 : Int) c.id)) ++ nmF (6 : Int) c.n)) ++ byF (7 : Int) (chunksB (c.chunks)))) ++ byF (8 : Int) c.text.b)).length jc219) ((((((((((((((((([] : List Field) ++ nmF (1 : Int) c.kind)) ++ nmF (2 : Int) c.client)) ++ nmF (3 : Int) c.seq)) ++ nmF (4 : Int) c.set)) ++ nmF (5 : Int) c.id)) ++ nmF (6 : Int) c.n)) ++ byF (7 : Int) (chunksB (c.chunks)))) ++ byF (8 : Int) c.text.b)) := ((jf220).own (L := w.heap.size) (H := w239.heap.size) (by omega) (by omega) (by omega) (by omega))
 refine WX.ret1 Try.results36 rfl ?_
 exact ⟨ja218, jc219, by rw [n0], (sl_n f0 e0 n0), Kp.of_below b239⟩
 have p209 : ¬ ((3 : Int) ≤ v) := of_decide_eq_false q209
 refine WC.skip ?_
 refine WX.next ?_
 refine WC.seq ?_
 refine WC.region ?_
 refine WO.v (R.loadB rfl Bj205 rfl Try.underlying25 rfl) rfl ?_
 refine WO.v (R.assign rfl) rfl ?_
 refine WO.nil ?_
 refine WX.sel [0, 1, 2, 4, 5, 6, 7, 8, 46] rfl ?_
 refine WX.next ?_
 refine WC.ret ?_
 have e0 : ((((((((((((((([] : List Field) ++ nmF (1 : Int) c.kind)) ++ nmF (2 : Int) c.client)) ++ nmF (3 : Int) c.seq)) ++ nmF (4 : Int) c.set)) ++ nmF (5 : Int) c.id)) ++ nmF (6 : Int) c.n)) ++ byF (7 : Int) (chunksB (c.chunks)))) = (fieldsF c v) := by first | (rw [fieldsF, if_pos (by omega)]; rfl) | (rw [fieldsF, if_neg (by omega)]; rfl)
 have n0 : ((((((((((((((([] : List Field) ++ nmF (1 : Int) c.kind)) ++ nmF (2 : Int) c.client)) ++ nmF (3 : Int) c.seq)) ++ nmF (4 : Int) c.set)) ++ nmF (5 : Int) c.id)) ++ nmF (6 : Int) c.n)) ++ byF (7 : Int) (chunksB (c.chunks)))).length = (fieldsF c v).length := by rw [e0]
 have f0 : Sl true w.heap.size w204.heap.size w204 (.slice ja183 ((((((((((((((([] : List Field) ++ nmF (1 : Int) c.kind)) ++ nmF (2 : Int) c.client)) ++ nmF (3 : Int) c.seq)) ++ nmF (4 : Int) c.set)) ++ nmF (5 : Int) c.id)) ++ nmF (6 : Int) c.n)) ++ byF (7 : Int) (chunksB (c.chunks)))).length jc184) ((((((((((((((([] : List Field) ++ nmF (1 : Int) c.kind)) ++ nmF (2 : Int) c.client)) ++ nmF (3 : Int) c.seq)) ++ nmF (4 : Int) c.set)) ++ nmF (5 : Int) c.id)) ++ nmF (6 : Int) c.n)) ++ byF (7 : Int) (chunksB (c.chunks)))) := ((jf185).own (L := w.heap.size) (H := w204.heap.size) (by omega) (by omega) (by omega) (by omega))
 refine WX.ret1 Try.results36 rfl ?_
 exact ⟨ja183, jc184, by rw [n0], (sl_n f0 e0 n0), Kp.of_below b204⟩


end Go.Proofs.Ytfmlgeeogbhppaa
