/- Contracts of functions, walked operation by operation. -/
import Derived.Test.YtaenkjlhdlddgaaB5
namespace Go.Proofs.Ytaenkjlhdlddgaa
open Go.RowKit

theorem may_parts {t : State} {v : Int} (h : mayF t v = 0) : inB v 1 3 = true ∧ numbersF t v = true ∧ sessF t = true ∧ opensF t = true ∧ snapsF t v = true := by
  unfold mayF at h
  cases h1 : inB v 1 3 <;> cases h2 : numbersF t v <;> cases h3 : sessF t <;> cases h4 : opensF t <;> cases h5 : snapsF t v <;> simp [h1, h2, h3, h4, h5] at h ⊢
theorem may_mk {t : State} {v : Int} (h : inB v 1 3 = true ∧ numbersF t v = true ∧ sessF t = true ∧ opensF t = true ∧ snapsF t v = true) : mayF t v = 0 := by
  obtain ⟨h1, h2, h3, h4, h5⟩ := h
  unfold mayF; rw [h1, h2, h3, h4, h5]; rfl
theorem inB_iff {n a b : Int} : inB n a b = true ↔ a ≤ n ∧ n ≤ b := by unfold inB; rw [Bool.and_eq_true, decide_eq_true_eq, decide_eq_true_eq]
theorem snapOk_up {v u : Int} {x : Snap} (hvu : v ≤ u) (h : snapOk v (tagMax v) x = true) : snapOk u (tagMax u) x = true := by
  unfold snapOk at *
  simp only [Bool.and_eq_true, Bool.or_eq_true, decide_eq_true_eq] at *
  obtain ⟨⟨⟨h1, h2⟩, h3⟩, h4⟩ := h
  refine ⟨⟨⟨h1, h2⟩, h3.imp id fun h => by omega⟩, ?_⟩
  unfold tagMax at *
  split at h4 <;> split <;> omega
theorem mayUp {t : State} {u : Int} (h : mayF t t.version = 0) (hv : t.version ≤ u) (hu : 1 ≤ u ∧ u ≤ 3) : mayF { t with version := u } u = 0 := by
  obtain ⟨h1, h2, h3, h4, h5⟩ := may_parts h
  refine may_mk ⟨inB_iff.2 hu, ?_, h3, h4, ?_⟩
  · unfold numbersF at *
    simp only [Bool.and_eq_true] at *
    refine ⟨⟨⟨inB_iff.2 hu, h2.1.1.2⟩, h2.1.2⟩, ?_⟩
    have h6 := inB_iff.1 h2.2
    refine inB_iff.2 ⟨h6.1, ?_⟩
    have h7 := h6.2
    show t.quota ≤ _
    split at h7 <;> split <;> omega
  · unfold snapsF at *
    rw [Bool.and_eq_true] at *
    refine ⟨h5.1, ?_⟩
    rw [List.all_eq_true] at *
    exact fun x hx => snapOk_up hv (h5.2 x hx)
theorem bad_no {t : State} {u : Int} (h : mayF t t.version = 0) (hu : 1 ≤ u ∧ u ≤ 3) : upBad t u = false := by unfold upBad; rw [inB_iff.2 hu, h]; rfl
theorem nq {b : Bool} (h : (!b) = false) : b = true := by cases b <;> simp_all
theorem st1 {t : State} {u : Int} (h : (!decide (mayF t t.version = 0)) = true) : decide (upE t u = 1) = true := by
  rw [← upE1 (show upBad t u = true by unfold upBad; rw [h, Bool.or_true])]; rfl
theorem st2 {t : State} {u : Int} (hu : 1 ≤ u ∧ u ≤ 3) (h : (!decide (mayF t t.version = 0)) = false) (h2 : u < t.version) : decide (upE t u = 32) = true := by
  rw [← upE2 (bad_no (of_decide_eq_true (nq h)) hu) h2]; rfl
theorem st3 {t : State} {u : Int} (hu : 1 ≤ u ∧ u ≤ 3) (h : (!decide (mayF t t.version = 0)) = false) (h2 : ¬ u < t.version)
    (h3 : ((!decide (upE t u = (0 : Int))) || (!decide ((⟨t.version, (upS t u).next, (upS t u).keep, (upS t u).quota, (upS t u).sess, (upS t u).opens, (upS t u).snaps⟩ : State) = t))) = true) : false = true := by
  have hb := bad_no (of_decide_eq_true (nq h)) hu
  rw [← upE3 hb h2, ← upS3 hb h2] at h3
  simp at h3
theorem st4 {t : State} {u v : Int} (hu : 1 ≤ u ∧ u ≤ 3) (hv : 1 ≤ v ∧ v ≤ 3) (h : (!decide (mayF t t.version = 0)) = false) (h2 : ¬ u < t.version) (h4 : v < u) : decide (upE (upS t u) v = 32) = true := by
  have hm := of_decide_eq_true (nq h)
  have hb := bad_no hm hu
  rw [← upS3 hb h2]
  rw [← upE2 (bad_no (t := { t with version := u }) (mayUp hm (by omega) hu) hv) h4]; rfl
theorem st5 {t : State} {u v : Int} (hu : 1 ≤ u ∧ u ≤ 3) (hv : 1 ≤ v ∧ v ≤ 3) (h : (!decide (mayF t t.version = 0)) = false) (h2 : ¬ u < t.version) (h4 : ¬ v < u) : (((decide (upE (upS t u) v = (0 : Int))) && (decide (upE t v = (0 : Int)))) && (decide (upS (upS t u) v = upS t v))) = true := by
  have hm := of_decide_eq_true (nq h)
  have hb := bad_no hm hu
  have hb2 := bad_no (t := { t with version := u }) (mayUp hm (by omega) hu) hv
  rw [← upS3 hb h2, ← upE3 hb2 h4, ← upS3 hb2 h4, ← upE3 (bad_no hm hv) (by omega), ← upS3 (bad_no hm hv) (by omega)]
  simp



set_option maxRecDepth 100000 in
set_option maxHeartbeats 400000 in
theorem steps_s {w : World} {cs_s : List Value} {s : State} (one : UInt8) (two : UInt8) (h_s : Rp.rp false 0 w.heap.size w cs_s s) :
    Ret Try.prog 4 [.agg cs_s.toArray, .int .u8 (one.toNat : Int), .int .u8 (two.toNat : Int)].toArray w fun r w' => r = .bool true ∧ Kp [] w w' := by
 obtain ⟨a5, c6, a8, c9, a11, c12, rfl, i1, i2, i3, i4, s7, s10, s13⟩ := State.el h_s
 have ls7 : (s.sess).length * 32 ≤ 140737488355328 := s7.lenle
 have ls10 : (s.opens).length * 16 ≤ 140737488355328 := s10.lenle
 have ls13 : (s.snaps).length * 64 ≤ 140737488355328 := s13.lenle
 refine Ret.enter Try.func4 rfl Try.ntmps4 rfl rfl ?_
 refine WC.sel [0, 1, 2] rfl ?_
 refine WC.seq ?_
 refine WC.region ?_
 refine WO.box rfl rfl rfl ?_
 intro w14 n14
 have z14 : w.heap.size < w14.heap.size := n14.lt
 have b14 := old_kp0 (Below.refl w.heap.size w) n14.kp
 have y14 : w.heap.size ≤ w14.heap.size := b14.size
 refine WO.v (R.assign rfl) rfl ?_
 refine WO.nil ?_
 refine WX.sel [0, 1, 2, 3, 6] rfl ?_
 refine WX.next ?_
 refine WC.seq ?_
 refine WC.region ?_
 refine WO.c (E.call rfl rfl Try.func7 rfl rfl) (shown_s  ) rfl ?_
 rintro _ w15 ⟨rfl, k15⟩
 have z15 : w14.heap.size ≤ w15.heap.size := k15.size
 have b15 := old_kp0 b14 k15
 have y15 : w.heap.size ≤ w15.heap.size := b15.size
 refine WO.v (R.assign rfl) rfl ?_
 refine WO.nil ?_
 refine WX.sel [0, 1, 2, 3, 6, 7] rfl ?_
 refine WX.next ?_
 refine WC.seq ?_
 refine WC.region ?_
 have B16 := (n14.blk).kp0 k15
 refine WO.v (R.loadBN (vs := [_, _, _, _, _, _, _]) rfl B16 rfl Try.underlying34 rfl sz34) rfl ?_
 refine WO.c (E.call rfl rfl Try.func11 rfl rfl) (less_s (s := s) (B := w.heap.size) (by omega) (State.mk_ (i1) (i2) (i3) (i4) ((sl_old s7 b15).mono (lo' := 0) (hi' := w.heap.size) (Nat.zero_le _) (by omega)) ((sl_old s10 b15).mono (lo' := 0) (hi' := w.heap.size) (Nat.zero_le _) (by omega)) ((sl_old s13 b15).mono (lo' := 0) (hi' := w.heap.size) (Nat.zero_le _) (by omega)))) rfl ?_
 rintro _ w17 ⟨a22, c23, a25, c26, a28, c29, rfl, i18, i19, i20, i21, s24, s27, s30, k17⟩
 have z17 : w15.heap.size ≤ w17.heap.size := k17.size
 have b17 := old_kp0 b15 k17
 have y17 : w.heap.size ≤ w17.heap.size := b17.size
 have ls24 : ((lessF (s)).sess).length * 32 ≤ 140737488355328 := s24.lenle
 have ls27 : ((lessF (s)).opens).length * 16 ≤ 140737488355328 := s27.lenle
 have ls30 : ((lessF (s)).snaps).length * 64 ≤ 140737488355328 := s30.lenle
 have B31 := (B16).kp0 k17
 refine WO.storeBN rfl rfl B31 rfl (by simp [Value.oneCell']) sz34 ?_
 intro w32 k32 B32 z_32
 have z32 : w17.heap.size = w32.heap.size := z_32.symm
 have b32 := old_kp b17 k32 (mem1 (by omega))
 have y32 : w.heap.size ≤ w32.heap.size := b32.size
 refine WO.nil ?_
 refine WX.sel [0, 1, 2, 3, 6, 7] rfl ?_
 refine WX.next ?_
 refine WC.seq ?_
 refine WC.region ?_
 refine WO.v (R.move rfl) rfl ?_
 have u32 := UInt8.toNat_lt one
 refine WO.v (R.convU8 (b := one) rfl Try.underlying5 Try.underlying3) rfl ?_
 refine WO.v (R.remN (a := one.toNat) (b := 3) rfl rfl (by omega)) rfl ?_
 refine WO.v (R.addN (a := 1) (b := (one.toNat % 3)) rfl rfl (by omega)) rfl ?_
 refine WO.v (R.assign rfl) rfl ?_
 refine WO.nil ?_
 refine WX.sel [0, 1, 2, 3, 6, 7, 8] rfl ?_
 refine WX.next ?_
 refine WC.seq ?_
 refine WC.region ?_
 refine WO.v (R.move rfl) rfl ?_
 have u33 := UInt8.toNat_lt two
 refine WO.v (R.convU8 (b := two) rfl Try.underlying5 Try.underlying3) rfl ?_
 refine WO.v (R.remN (a := two.toNat) (b := 3) rfl rfl (by omega)) rfl ?_
 refine WO.v (R.addN (a := 1) (b := (two.toNat % 3)) rfl rfl (by omega)) rfl ?_
 refine WO.v (R.assign rfl) rfl ?_
 refine WO.nil ?_
 refine WX.sel [0, 1, 2, 3, 6, 7, 8, 9] rfl ?_
 refine WX.next ?_
 refine WC.seq ?_
 refine WC.region ?_
 refine WO.v (R.loadBN (vs := [_, _, _, _, _, _, _]) rfl B32 rfl Try.underlying34 rfl sz34) rfl ?_
 refine WO.v (R.move rfl) rfl ?_
 refine WO.c (E.call rfl rfl Try.func12 rfl rfl) (up_s (v := (((1 + (one.toNat % 3)) : Nat) : Int)) (s := (lessF (s))) (State.mk_ (i18) (i19) (i20) (i21) ((sl_kp (s24) k32 (by omega) (mem1 (by omega))).mono (lo' := 0) (hi' := w32.heap.size) (Nat.zero_le _) (by omega)) ((sl_kp (s27) k32 (by omega) (mem1 (by omega))).mono (lo' := 0) (hi' := w32.heap.size) (Nat.zero_le _) (by omega)) ((ac_kp (s30) k32 (by omega) (by omega) (mem1 (by omega))).pub (L := 0) (H := w32.heap.size) (by omega) (by omega) (by omega) (by omega))) (⟨by omega, by omega⟩)) rfl ?_
 rintro _ w35 ⟨cs36, rfl, r37, k35⟩
 have z35 : w32.heap.size ≤ w35.heap.size := k35.size
 have b35 := old_kp0 b32 k35
 have y35 : w.heap.size ≤ w35.heap.size := b35.size
 obtain ⟨a42, c43, a45, c46, a48, c49, rfl, i38, i39, i40, i41, s44, s47, s50⟩ := State.el r37
 have ls44 : ((upS ((lessF (s))) ((((1 + (one.toNat % 3)) : Nat) : Int))).sess).length * 32 ≤ 140737488355328 := s44.lenle
 have ls47 : ((upS ((lessF (s))) ((((1 + (one.toNat % 3)) : Nat) : Int))).opens).length * 16 ≤ 140737488355328 := s47.lenle
 have ls50 : ((upS ((lessF (s))) ((((1 + (one.toNat % 3)) : Nat) : Int))).snaps).length * 64 ≤ 140737488355328 := s50.lenle
 refine WO.v (R.move rfl) rfl ?_
 refine WO.v (R.extract rfl rfl) rfl ?_
 refine WO.v (R.extract rfl rfl) rfl ?_
 refine WO.alloc zr34 rfl ?_
 intro w51 n51
 have z51 : w35.heap.size < w51.heap.size := n51.lt
 have b51 := old_kp0 b35 n51.kp
 have y51 : w.heap.size ≤ w51.heap.size := b51.size
 refine WO.storeBN rfl rfl n51.blk rfl (by simp [Value.oneCell']) sz34 ?_
 intro w52 k52 B52 z_52
 have z52 : w51.heap.size = w52.heap.size := z_52.symm
 have b52 := old_kp b51 k52 (mem1 (by omega))
 have y52 : w.heap.size ≤ w52.heap.size := b52.size
 refine WO.v (R.assign rfl) rfl ?_
 refine WO.nil ?_
 refine WX.sel [0, 1, 2, 3, 6, 7, 8, 9, 10, 11] rfl ?_
 refine WX.next ?_
 refine WC.seq ?_
 refine WC.seq ?_
 refine WC.region ?_
 have B53 := (((B32).kp0 k35).kp0 n51.kp).kp1 k52 (by omega)
 refine WO.v (R.loadBN (vs := [_, _, _, _, _, _, _]) rfl B53 rfl Try.underlying34 rfl sz34) rfl ?_
 refine WO.v (fa34_0 rfl) rfl ?_
 refine WO.v (R.loadB rfl B53 rfl Try.underlying3 rfl) rfl ?_
 refine WO.c (E.call rfl rfl Try.func13 rfl rfl) (may7_s (v := (lessF (s)).version) (s := (lessF (s))) (State.mk_ (i18) (i19) (i20) (i21) ((sl_kp (sl_kp0 (sl_kp0 (sl_kp (s24) k32 (by omega) (mem1 (by omega))) k35 (by omega)) n51.kp (by omega)) k52 (by omega) (mem1 (by omega))).mono (lo' := 0) (hi' := w52.heap.size) (Nat.zero_le _) (by omega)) ((sl_kp (sl_kp0 (sl_kp0 (sl_kp (s27) k32 (by omega) (mem1 (by omega))) k35 (by omega)) n51.kp (by omega)) k52 (by omega) (mem1 (by omega))).mono (lo' := 0) (hi' := w52.heap.size) (Nat.zero_le _) (by omega)) ((ac_kp (ac_kp0 (ac_kp0 (ac_kp (s30) k32 (by omega) (by omega) (mem1 (by omega))) k35 (by omega) (by omega)) n51.kp (by omega) (by omega)) k52 (by omega) (by omega) (mem1 (by omega))).pub (L := 0) (H := w52.heap.size) (by omega) (by omega) (by omega) (by omega)))) rfl ?_
 rintro _ w54 ⟨rfl, k54⟩
 have z54 : w52.heap.size ≤ w54.heap.size := k54.size
 have b54 := old_kp0 b52 k54
 have y54 : w.heap.size ≤ w54.heap.size := b54.size
 refine WO.v (R.neq rfl rfl) rfl ?_
 refine WO.nil ?_
 refine WX.sel [0, 1, 2, 3, 6, 7, 8, 9, 10, 11, 39] rfl ?_
 refine WX.next ?_
 refine WC.cond rfl (fun q55 => ?_) (fun q55 => ?_)
 have p55 : ¬ (mayF ((lessF (s))) ((lessF (s)).version) = (0 : Int)) := of_decide_eq_false (bnot_t q55)
 refine WC.seq ?_
 refine WC.region ?_
 refine WO.v (R.move rfl) rfl ?_
 refine WO.v (R.move rfl) rfl ?_
 refine WO.on rfl rfl rfl ?_
 refine WO.v (R.move rfl) rfl ?_
 refine WO.on rfl rfl rfl ?_
 refine WO.v (R.eql rfl rfl) rfl ?_
 refine WO.v (R.pickT rfl rfl rfl) rfl ?_
 refine WO.v (R.assign rfl) rfl ?_
 refine WO.nil ?_
 refine WX.sel [0, 1, 2, 3, 6, 7, 8, 9, 10, 11, 39] rfl ?_
 refine WX.next ?_
 refine WC.ret ?_
 refine WX.thenRet ?_
 have e0 : (decide (upE ((lessF (s))) ((((1 + (one.toNat % 3)) : Nat) : Int)) = (1 : Int))) = true := by first | exact st1 q55 | exact st2 (by omega) q55 (by omega) | exact st3 (by omega) q55 (by omega) ‹_› | exact st4 (by omega) (by omega) q55 (by omega) (by omega) | exact st5 (by omega) (by omega) q55 (by omega) (by omega)
 refine WX.ret1 Try.results4 rfl ?_
 exact ⟨by rw [e0], Kp.of_below b54⟩
 have p55 : mayF ((lessF (s))) ((lessF (s)).version) = (0 : Int) := of_decide_eq_true (bnot_f q55)
 refine WC.skip ?_
 refine WX.next ?_
 refine WC.seq ?_
 refine WC.seq ?_
 refine WC.region ?_
 refine WO.v (R.move rfl) rfl ?_
 refine WO.v (fa34_0 rfl) rfl ?_
 have B56 := (B53).kp0 k54
 refine WO.v (R.loadB rfl B56 rfl Try.underlying3 rfl) rfl ?_
 refine WO.v (R.lss rfl rfl) rfl ?_
 refine WO.nil ?_
 refine WX.sel [0, 1, 2, 3, 6, 7, 8, 9, 10, 11, 39, 48] rfl ?_
 refine WX.next ?_
 refine WC.cond rfl (fun q57 => ?_) (fun q57 => ?_)
 have p57 : (((1 + (one.toNat % 3)) : Nat) : Int) < (lessF (s)).version := of_decide_eq_true q57
 refine WC.seq ?_
 refine WC.region ?_
 refine WO.v (R.move rfl) rfl ?_
 refine WO.v (R.move rfl) rfl ?_
 refine WO.on rfl rfl rfl ?_
 refine WO.v (R.move rfl) rfl ?_
 refine WO.on rfl rfl rfl ?_
 refine WO.v (R.eql rfl rfl) rfl ?_
 refine WO.v (R.pickT rfl rfl rfl) rfl ?_
 refine WO.v (R.assign rfl) rfl ?_
 refine WO.nil ?_
 refine WX.sel [0, 1, 2, 3, 6, 7, 8, 9, 10, 11, 39, 48] rfl ?_
 refine WX.next ?_
 refine WC.ret ?_
 refine WX.thenRet ?_
 have e0 : (decide (upE ((lessF (s))) ((((1 + (one.toNat % 3)) : Nat) : Int)) = (32 : Int))) = true := by first | exact st1 q55 | exact st2 (by omega) q55 (by omega) | exact st3 (by omega) q55 (by omega) ‹_› | exact st4 (by omega) (by omega) q55 (by omega) (by omega) | exact st5 (by omega) (by omega) q55 (by omega) (by omega)
 refine WX.ret1 Try.results4 rfl ?_
 exact ⟨by rw [e0], Kp.of_below b54⟩
 have p57 : ¬ ((((1 + (one.toNat % 3)) : Nat) : Int) < (lessF (s)).version) := of_decide_eq_false q57
 refine WC.skip ?_
 refine WX.next ?_
 refine WC.seq ?_
 refine WC.region ?_
 have B58 := (B52).kp0 k54
 refine WO.v (R.loadBN (vs := [_, _, _, _, _, _, _]) rfl B58 rfl Try.underlying34 rfl sz34) rfl ?_
 refine WO.v (R.move rfl) rfl ?_
 refine WO.c (E.call rfl rfl Try.func12 rfl rfl) (up_s (v := (((1 + (two.toNat % 3)) : Nat) : Int)) (s := (upS ((lessF (s))) ((((1 + (one.toNat % 3)) : Nat) : Int)))) (State.mk_ (i38) (i39) (i40) (i41) (((sl_kp0 (sl_kp (sl_kp0 (s44) n51.kp (by omega)) k52 (by omega) (mem1 (by omega))) k54 (by omega)).weak).mono (lo' := 0) (hi' := w54.heap.size) (Nat.zero_le _) (by omega)) (((sl_kp0 (sl_kp (sl_kp0 (s47) n51.kp (by omega)) k52 (by omega) (mem1 (by omega))) k54 (by omega)).weak).mono (lo' := 0) (hi' := w54.heap.size) (Nat.zero_le _) (by omega)) (((sl_kp0 (sl_kp (sl_kp0 (s50) n51.kp (by omega)) k52 (by omega) (mem1 (by omega))) k54 (by omega)).weak).mono (lo' := 0) (hi' := w54.heap.size) (Nat.zero_le _) (by omega))) (⟨by omega, by omega⟩)) rfl ?_
 rintro _ w59 ⟨cs60, rfl, r61, k59⟩
 have z59 : w54.heap.size ≤ w59.heap.size := k59.size
 have b59 := old_kp0 b54 k59
 have y59 : w.heap.size ≤ w59.heap.size := b59.size
 obtain ⟨a66, c67, a69, c70, a72, c73, rfl, i62, i63, i64, i65, s68, s71, s74⟩ := State.el r61
 have ls68 : ((upS ((upS ((lessF (s))) ((((1 + (one.toNat % 3)) : Nat) : Int)))) ((((1 + (two.toNat % 3)) : Nat) : Int))).sess).length * 32 ≤ 140737488355328 := s68.lenle
 have ls71 : ((upS ((upS ((lessF (s))) ((((1 + (one.toNat % 3)) : Nat) : Int)))) ((((1 + (two.toNat % 3)) : Nat) : Int))).opens).length * 16 ≤ 140737488355328 := s71.lenle
 have ls74 : ((upS ((upS ((lessF (s))) ((((1 + (one.toNat % 3)) : Nat) : Int)))) ((((1 + (two.toNat % 3)) : Nat) : Int))).snaps).length * 64 ≤ 140737488355328 := s74.lenle
 refine WO.v (R.move rfl) rfl ?_
 refine WO.v (R.extract rfl rfl) rfl ?_
 refine WO.v (R.extract rfl rfl) rfl ?_
 refine WO.alloc zr34 rfl ?_
 intro w75 n75
 have z75 : w59.heap.size < w75.heap.size := n75.lt
 have b75 := old_kp0 b59 n75.kp
 have y75 : w.heap.size ≤ w75.heap.size := b75.size
 refine WO.storeBN rfl rfl n75.blk rfl (by simp [Value.oneCell']) sz34 ?_
 intro w76 k76 B76 z_76
 have z76 : w75.heap.size = w76.heap.size := z_76.symm
 have b76 := old_kp b75 k76 (mem1 (by omega))
 have y76 : w.heap.size ≤ w76.heap.size := b76.size
 refine WO.v (R.assign rfl) rfl ?_
 refine WO.nil ?_
 refine WX.sel [0, 1, 2, 3, 6, 7, 8, 9, 10, 11, 12, 13, 39, 48] rfl ?_
 refine WX.next ?_
 refine WC.seq ?_
 refine WC.region ?_
 have B77 := (((B56).kp0 k59).kp0 n75.kp).kp1 k76 (by omega)
 refine WO.v (R.loadBN (vs := [_, _, _, _, _, _, _]) rfl B77 rfl Try.underlying34 rfl sz34) rfl ?_
 refine WO.v (R.move rfl) rfl ?_
 refine WO.c (E.call rfl rfl Try.func12 rfl rfl) (up_s (v := (((1 + (two.toNat % 3)) : Nat) : Int)) (s := (lessF (s))) (State.mk_ (i18) (i19) (i20) (i21) ((sl_kp (sl_kp0 (sl_kp0 (sl_kp0 (sl_kp (sl_kp0 (sl_kp0 (sl_kp (s24) k32 (by omega) (mem1 (by omega))) k35 (by omega)) n51.kp (by omega)) k52 (by omega) (mem1 (by omega))) k54 (by omega)) k59 (by omega)) n75.kp (by omega)) k76 (by omega) (mem1 (by omega))).mono (lo' := 0) (hi' := w76.heap.size) (Nat.zero_le _) (by omega)) ((sl_kp (sl_kp0 (sl_kp0 (sl_kp0 (sl_kp (sl_kp0 (sl_kp0 (sl_kp (s27) k32 (by omega) (mem1 (by omega))) k35 (by omega)) n51.kp (by omega)) k52 (by omega) (mem1 (by omega))) k54 (by omega)) k59 (by omega)) n75.kp (by omega)) k76 (by omega) (mem1 (by omega))).mono (lo' := 0) (hi' := w76.heap.size) (Nat.zero_le _) (by omega)) ((ac_kp (ac_kp0 (ac_kp0 (ac_kp0 (ac_kp (ac_kp0 (ac_kp0 (ac_kp (s30) k32 (by omega) (by omega) (mem1 (by omega))) k35 (by omega) (by omega)) n51.kp (by omega) (by omega)) k52 (by omega) (by omega) (mem1 (by omega))) k54 (by omega) (by omega)) k59 (by omega) (by omega)) n75.kp (by omega) (by omega)) k76 (by omega) (by omega) (mem1 (by omega))).pub (L := 0) (H := w76.heap.size) (by omega) (by omega) (by omega) (by omega))) (⟨by omega, by omega⟩)) rfl ?_
 rintro _ w78 ⟨cs79, rfl, r80, k78⟩
 have z78 : w76.heap.size ≤ w78.heap.size := k78.size
 have b78 := old_kp0 b76 k78
 have y78 : w.heap.size ≤ w78.heap.size := b78.size
 obtain ⟨a85, c86, a88, c89, a91, c92, rfl, i81, i82, i83, i84, s87, s90, s93⟩ := State.el r80
 have ls87 : ((upS ((lessF (s))) ((((1 + (two.toNat % 3)) : Nat) : Int))).sess).length * 32 ≤ 140737488355328 := s87.lenle
 have ls90 : ((upS ((lessF (s))) ((((1 + (two.toNat % 3)) : Nat) : Int))).opens).length * 16 ≤ 140737488355328 := s90.lenle
 have ls93 : ((upS ((lessF (s))) ((((1 + (two.toNat % 3)) : Nat) : Int))).snaps).length * 64 ≤ 140737488355328 := s93.lenle
 refine WO.v (R.move rfl) rfl ?_
 refine WO.v (R.extract rfl rfl) rfl ?_
 refine WO.v (R.extract rfl rfl) rfl ?_
 refine WO.alloc zr34 rfl ?_
 intro w94 n94
 have z94 : w78.heap.size < w94.heap.size := n94.lt
 have b94 := old_kp0 b78 n94.kp
 have y94 : w.heap.size ≤ w94.heap.size := b94.size
 refine WO.storeBN rfl rfl n94.blk rfl (by simp [Value.oneCell']) sz34 ?_
 intro w95 k95 B95 z_95
 have z95 : w94.heap.size = w95.heap.size := z_95.symm
 have b95 := old_kp b94 k95 (mem1 (by omega))
 have y95 : w.heap.size ≤ w95.heap.size := b95.size
 refine WO.v (R.assign rfl) rfl ?_
 refine WO.nil ?_
 refine WX.sel [0, 1, 2, 3, 6, 7, 8, 9, 10, 11, 12, 13, 14, 15, 39, 48] rfl ?_
 refine WX.next ?_
 refine WC.seq ?_
 refine WC.region ?_
 have B96 := ((((((B58).kp0 k59).kp0 n75.kp).kp1 k76 (by omega)).kp0 k78).kp0 n94.kp).kp1 k95 (by omega)
 refine WO.v (R.loadBN (vs := [_, _, _, _, _, _, _]) rfl B96 rfl Try.underlying34 rfl sz34) rfl ?_
 refine WO.alloc zr34 rfl ?_
 intro w97 n97
 have z97 : w95.heap.size < w97.heap.size := n97.lt
 have b97 := old_kp0 b95 n97.kp
 have y97 : w.heap.size ≤ w97.heap.size := b97.size
 refine WO.storeBN rfl rfl n97.blk rfl (by simp [Value.oneCell']) sz34 ?_
 intro w98 k98 B98 z_98
 have z98 : w97.heap.size = w98.heap.size := z_98.symm
 have b98 := old_kp b97 k98 (mem1 (by omega))
 have y98 : w.heap.size ≤ w98.heap.size := b98.size
 refine WO.nil ?_
 refine WX.sel [0, 1, 2, 3, 6, 7, 8, 9, 10, 11, 12, 13, 14, 15, 16, 39, 48] rfl ?_
 refine WX.next ?_
 refine WC.seq ?_
 refine WC.region ?_
 refine WO.v (fa34_0 rfl) rfl ?_
 have B99 := (((((B77).kp0 k78).kp0 n94.kp).kp1 k95 (by omega)).kp0 n97.kp).kp1 k98 (by omega)
 refine WO.v (R.loadB rfl B99 rfl Try.underlying3 rfl) rfl ?_
 refine WO.v (fa34_0 rfl) rfl ?_
 refine WO.storeB (cs' := [_, _, _, _, _, _, _]) rfl rfl B98 rfl rfl sz3 rfl ?_
 intro w100 k100 B100 z_100
 have z100 : w98.heap.size = w100.heap.size := z_100.symm
 have b100 := old_kp b98 k100 (mem1 (by omega))
 have y100 : w.heap.size ≤ w100.heap.size := b100.size
 refine WO.nil ?_
 refine WX.sel [0, 1, 2, 3, 6, 7, 8, 9, 10, 11, 12, 13, 14, 15, 16, 39, 48] rfl ?_
 refine WX.next ?_
 refine WC.seq ?_
 refine WC.region ?_
 refine WO.v (R.loadBN (vs := [_, _, _, _, _, _, _]) rfl B100 rfl Try.underlying34 rfl sz34) rfl ?_
 have B101 := (B99).kp1 k100 (by omega)
 refine WO.v (R.loadBN (vs := [_, _, _, _, _, _, _]) rfl B101 rfl Try.underlying34 rfl sz34) rfl ?_
 refine WO.c (E.call rfl rfl Try.func14 rfl rfl) (same7_s (s := (⟨(lessF (s)).version, (upS ((lessF (s))) ((((1 + (one.toNat % 3)) : Nat) : Int))).next, (upS ((lessF (s))) ((((1 + (one.toNat % 3)) : Nat) : Int))).keep, (upS ((lessF (s))) ((((1 + (one.toNat % 3)) : Nat) : Int))).quota, (upS ((lessF (s))) ((((1 + (one.toNat % 3)) : Nat) : Int))).sess, (upS ((lessF (s))) ((((1 + (one.toNat % 3)) : Nat) : Int))).opens, (upS ((lessF (s))) ((((1 + (one.toNat % 3)) : Nat) : Int))).snaps⟩ : State)) (t := (lessF (s))) (State.mk_ (i18) (i39) (i40) (i41) (((sl_kp (sl_kp (sl_kp0 (sl_kp (sl_kp0 (sl_kp0 (sl_kp (sl_kp0 (sl_kp0 (sl_kp0 (sl_kp (sl_kp0 (s44) n51.kp (by omega)) k52 (by omega) (mem1 (by omega))) k54 (by omega)) k59 (by omega)) n75.kp (by omega)) k76 (by omega) (mem1 (by omega))) k78 (by omega)) n94.kp (by omega)) k95 (by omega) (mem1 (by omega))) n97.kp (by omega)) k98 (by omega) (mem1 (by omega))) k100 (by omega) (mem1 (by omega))).weak).mono (lo' := 0) (hi' := w100.heap.size) (Nat.zero_le _) (by omega)) (((sl_kp (sl_kp (sl_kp0 (sl_kp (sl_kp0 (sl_kp0 (sl_kp (sl_kp0 (sl_kp0 (sl_kp0 (sl_kp (sl_kp0 (s47) n51.kp (by omega)) k52 (by omega) (mem1 (by omega))) k54 (by omega)) k59 (by omega)) n75.kp (by omega)) k76 (by omega) (mem1 (by omega))) k78 (by omega)) n94.kp (by omega)) k95 (by omega) (mem1 (by omega))) n97.kp (by omega)) k98 (by omega) (mem1 (by omega))) k100 (by omega) (mem1 (by omega))).weak).mono (lo' := 0) (hi' := w100.heap.size) (Nat.zero_le _) (by omega)) (((sl_kp (sl_kp (sl_kp0 (sl_kp (sl_kp0 (sl_kp0 (sl_kp (sl_kp0 (sl_kp0 (sl_kp0 (sl_kp (sl_kp0 (s50) n51.kp (by omega)) k52 (by omega) (mem1 (by omega))) k54 (by omega)) k59 (by omega)) n75.kp (by omega)) k76 (by omega) (mem1 (by omega))) k78 (by omega)) n94.kp (by omega)) k95 (by omega) (mem1 (by omega))) n97.kp (by omega)) k98 (by omega) (mem1 (by omega))) k100 (by omega) (mem1 (by omega))).weak).mono (lo' := 0) (hi' := w100.heap.size) (Nat.zero_le _) (by omega))) (State.mk_ (i18) (i19) (i20) (i21) ((sl_kp (sl_kp (sl_kp0 (sl_kp (sl_kp0 (sl_kp0 (sl_kp (sl_kp0 (sl_kp0 (sl_kp0 (sl_kp (sl_kp0 (sl_kp0 (sl_kp (s24) k32 (by omega) (mem1 (by omega))) k35 (by omega)) n51.kp (by omega)) k52 (by omega) (mem1 (by omega))) k54 (by omega)) k59 (by omega)) n75.kp (by omega)) k76 (by omega) (mem1 (by omega))) k78 (by omega)) n94.kp (by omega)) k95 (by omega) (mem1 (by omega))) n97.kp (by omega)) k98 (by omega) (mem1 (by omega))) k100 (by omega) (mem1 (by omega))).mono (lo' := 0) (hi' := w100.heap.size) (Nat.zero_le _) (by omega)) ((sl_kp (sl_kp (sl_kp0 (sl_kp (sl_kp0 (sl_kp0 (sl_kp (sl_kp0 (sl_kp0 (sl_kp0 (sl_kp (sl_kp0 (sl_kp0 (sl_kp (s27) k32 (by omega) (mem1 (by omega))) k35 (by omega)) n51.kp (by omega)) k52 (by omega) (mem1 (by omega))) k54 (by omega)) k59 (by omega)) n75.kp (by omega)) k76 (by omega) (mem1 (by omega))) k78 (by omega)) n94.kp (by omega)) k95 (by omega) (mem1 (by omega))) n97.kp (by omega)) k98 (by omega) (mem1 (by omega))) k100 (by omega) (mem1 (by omega))).mono (lo' := 0) (hi' := w100.heap.size) (Nat.zero_le _) (by omega)) ((ac_kp (ac_kp (ac_kp0 (ac_kp (ac_kp0 (ac_kp0 (ac_kp (ac_kp0 (ac_kp0 (ac_kp0 (ac_kp (ac_kp0 (ac_kp0 (ac_kp (s30) k32 (by omega) (by omega) (mem1 (by omega))) k35 (by omega) (by omega)) n51.kp (by omega) (by omega)) k52 (by omega) (by omega) (mem1 (by omega))) k54 (by omega) (by omega)) k59 (by omega) (by omega)) n75.kp (by omega) (by omega)) k76 (by omega) (by omega) (mem1 (by omega))) k78 (by omega) (by omega)) n94.kp (by omega) (by omega)) k95 (by omega) (by omega) (mem1 (by omega))) n97.kp (by omega) (by omega)) k98 (by omega) (by omega) (mem1 (by omega))) k100 (by omega) (by omega) (mem1 (by omega))).pub (L := 0) (H := w100.heap.size) (by omega) (by omega) (by omega) (by omega)))) rfl ?_
 rintro _ w102 ⟨rfl, k102⟩
 have z102 : w100.heap.size ≤ w102.heap.size := k102.size
 have b102 := old_kp0 b100 k102
 have y102 : w.heap.size ≤ w102.heap.size := b102.size
 refine WO.v (R.assign rfl) rfl ?_
 refine WO.nil ?_
 refine WX.sel [0, 1, 2, 3, 6, 7, 8, 9, 10, 11, 12, 13, 14, 15, 16, 17, 39, 48] rfl ?_
 refine WX.next ?_
 refine WC.seq ?_
 refine WC.seq ?_
 refine WC.region ?_
 refine WO.v (R.move rfl) rfl ?_
 refine WO.v (R.neq rfl rfl) rfl ?_
 refine WO.v (R.move rfl) rfl ?_
 refine WO.cutP 3 [(78, (.bool ((!(decide (upE ((lessF (s))) ((((1 + (one.toNat % 3)) : Nat) : Int)) = (0 : Int)))) || (!(decide (((⟨(lessF (s)).version, (upS ((lessF (s))) ((((1 + (one.toNat % 3)) : Nat) : Int))).next, (upS ((lessF (s))) ((((1 + (one.toNat % 3)) : Nat) : Int))).keep, (upS ((lessF (s))) ((((1 + (one.toNat % 3)) : Nat) : Int))).quota, (upS ((lessF (s))) ((((1 + (one.toNat % 3)) : Nat) : Int))).sess, (upS ((lessF (s))) ((((1 + (one.toNat % 3)) : Nat) : Int))).opens, (upS ((lessF (s))) ((((1 + (one.toNat % 3)) : Nat) : Int))).snaps⟩ : State)) = ((lessF (s)))))))))] (fun w' => w102 = w') ?_ ?_
 rcases Bool.eq_false_or_eq_true (!(decide (upE ((lessF (s))) ((((1 + (one.toNat % 3)) : Nat) : Int)) = (0 : Int)))) with hb103 | hb103
 have phb103 : ¬ (upE ((lessF (s))) ((((1 + (one.toNat % 3)) : Nat) : Int)) = (0 : Int)) := of_decide_eq_false (bnot_t hb103)
 refine WO.off rfl rfl hb103 rfl ?_
 refine WO.off rfl rfl hb103 rfl ?_
 refine WO.v (R.pickT rfl hb103 rfl) rfl ?_
 refine WO.nil ?_
 exact WX.cutDoneP 3 rfl rfl ⟨⟨_, rfl, vb (bor_on hb103)⟩, trivial⟩ (rfl)
 have phb103 : upE ((lessF (s))) ((((1 + (one.toNat % 3)) : Nat) : Int)) = (0 : Int) := of_decide_eq_true (bnot_f hb103)
 refine WO.on rfl rfl hb103 ?_
 refine WO.v (R.move rfl) rfl ?_
 refine WO.on rfl rfl hb103 ?_
 refine WO.v (R.not rfl) rfl ?_
 refine WO.v (R.pickF rfl hb103 rfl) rfl ?_
 refine WO.nil ?_
 exact WX.cutDoneP 3 rfl rfl ⟨⟨_, rfl, vb (bor_off hb103)⟩, trivial⟩ (rfl)
 rintro _ rfl
 refine WO.nil ?_
 refine WX.sel [0, 1, 2, 3, 6, 7, 8, 9, 10, 11, 12, 13, 14, 15, 16, 17, 39, 48, 78] rfl ?_
 refine WX.next ?_
 refine WC.cond rfl (fun q104 => ?_) (fun q104 => ?_)
 have p104 : (¬ (upE ((lessF (s))) ((((1 + (one.toNat % 3)) : Nat) : Int)) = (0 : Int))) ∨ ((decide (((⟨(lessF (s)).version, (upS ((lessF (s))) ((((1 + (one.toNat % 3)) : Nat) : Int))).next, (upS ((lessF (s))) ((((1 + (one.toNat % 3)) : Nat) : Int))).keep, (upS ((lessF (s))) ((((1 + (one.toNat % 3)) : Nat) : Int))).quota, (upS ((lessF (s))) ((((1 + (one.toNat % 3)) : Nat) : Int))).sess, (upS ((lessF (s))) ((((1 + (one.toNat % 3)) : Nat) : Int))).opens, (upS ((lessF (s))) ((((1 + (one.toNat % 3)) : Nat) : Int))).snaps⟩ : State)) = ((lessF (s))))) = false) := Or.imp (fun h => of_decide_eq_false (bnot_t h)) (fun h => (bnot_t h)) (bor_t q104)
 refine WC.seq ?_
 refine WC.region ?_
 refine WO.v (R.assign rfl) rfl ?_
 refine WO.nil ?_
 refine WX.sel [0, 1, 2, 3, 6, 7, 8, 9, 10, 11, 12, 13, 14, 15, 16, 17, 39, 48, 78] rfl ?_
 refine WX.next ?_
 refine WC.ret ?_
 refine WX.thenRet ?_
 have e0 : false = true := by first | exact st1 q55 | exact st2 (by omega) q55 (by omega) | exact st3 (by omega) q55 (by omega) q104 | exact st4 (by omega) (by omega) q55 (by omega) (by omega) | exact st5 (by omega) (by omega) q55 (by omega) (by omega)
 refine WX.ret1 Try.results4 rfl ?_
 exact ⟨by rw [e0], Kp.of_below b102⟩
 have p104 : (upE ((lessF (s))) ((((1 + (one.toNat % 3)) : Nat) : Int)) = (0 : Int)) ∧ ((decide (((⟨(lessF (s)).version, (upS ((lessF (s))) ((((1 + (one.toNat % 3)) : Nat) : Int))).next, (upS ((lessF (s))) ((((1 + (one.toNat % 3)) : Nat) : Int))).keep, (upS ((lessF (s))) ((((1 + (one.toNat % 3)) : Nat) : Int))).quota, (upS ((lessF (s))) ((((1 + (one.toNat % 3)) : Nat) : Int))).sess, (upS ((lessF (s))) ((((1 + (one.toNat % 3)) : Nat) : Int))).opens, (upS ((lessF (s))) ((((1 + (one.toNat % 3)) : Nat) : Int))).snaps⟩ : State)) = ((lessF (s))))) = true) := ⟨of_decide_eq_true (bnot_f (bor_f q104).1), (bnot_f (bor_f q104).2)⟩
 refine WC.skip ?_
 refine WX.next ?_
 refine WC.seq ?_
 refine WC.seq ?_
 refine WC.region ?_
 refine WO.v (R.move rfl) rfl ?_
 refine WO.v (R.move rfl) rfl ?_
 refine WO.v (R.lss rfl rfl) rfl ?_
 refine WO.nil ?_
 refine WX.sel [0, 1, 2, 3, 6, 7, 8, 9, 10, 11, 12, 13, 14, 15, 16, 17, 39, 48, 78, 81] rfl ?_
 refine WX.next ?_
 refine WC.cond rfl (fun q105 => ?_) (fun q105 => ?_)
 have p105 : (((1 + (two.toNat % 3)) : Nat) : Int) < (((1 + (one.toNat % 3)) : Nat) : Int) := of_decide_eq_true q105
 refine WC.seq ?_
 refine WC.region ?_
 refine WO.v (R.move rfl) rfl ?_
 refine WO.v (R.move rfl) rfl ?_
 refine WO.on rfl rfl rfl ?_
 refine WO.v (R.move rfl) rfl ?_
 refine WO.on rfl rfl rfl ?_
 refine WO.v (R.eql rfl rfl) rfl ?_
 refine WO.v (R.pickT rfl rfl rfl) rfl ?_
 refine WO.v (R.assign rfl) rfl ?_
 refine WO.nil ?_
 refine WX.sel [0, 1, 2, 3, 6, 7, 8, 9, 10, 11, 12, 13, 14, 15, 16, 17, 39, 48, 78, 81] rfl ?_
 refine WX.next ?_
 refine WC.ret ?_
 refine WX.thenRet ?_
 have e0 : (decide (upE ((upS ((lessF (s))) ((((1 + (one.toNat % 3)) : Nat) : Int)))) ((((1 + (two.toNat % 3)) : Nat) : Int)) = (32 : Int))) = true := by first | exact st1 q55 | exact st2 (by omega) q55 (by omega) | exact st3 (by omega) q55 (by omega) q104 | exact st4 (by omega) (by omega) q55 (by omega) (by omega) | exact st5 (by omega) (by omega) q55 (by omega) (by omega)
 refine WX.ret1 Try.results4 rfl ?_
 exact ⟨by rw [e0], Kp.of_below b102⟩
 have p105 : ¬ ((((1 + (two.toNat % 3)) : Nat) : Int) < (((1 + (one.toNat % 3)) : Nat) : Int)) := of_decide_eq_false q105
 refine WC.skip ?_
 refine WX.next ?_
 refine WC.seq ?_
 refine WC.region ?_
 refine WO.v (R.move rfl) rfl ?_
 refine WO.v (R.move rfl) rfl ?_
 refine WO.on rfl rfl rfl ?_
 refine WO.v (R.move rfl) rfl ?_
 refine WO.on rfl rfl rfl ?_
 refine WO.v (R.eql rfl rfl) rfl ?_
 refine WO.v (R.pickT rfl rfl rfl) rfl ?_
 refine WO.v (R.move rfl) rfl ?_
 refine WO.cutP 3 [(95, (.bool ((decide (upE ((upS ((lessF (s))) ((((1 + (one.toNat % 3)) : Nat) : Int)))) ((((1 + (two.toNat % 3)) : Nat) : Int)) = (0 : Int))) && (decide (upE ((lessF (s))) ((((1 + (two.toNat % 3)) : Nat) : Int)) = (0 : Int))))))] (fun w' => w102 = w') ?_ ?_
 rcases Bool.eq_false_or_eq_true (decide (upE ((upS ((lessF (s))) ((((1 + (one.toNat % 3)) : Nat) : Int)))) ((((1 + (two.toNat % 3)) : Nat) : Int)) = (0 : Int))) with hb106 | hb106
 have phb106 : upE ((upS ((lessF (s))) ((((1 + (one.toNat % 3)) : Nat) : Int)))) ((((1 + (two.toNat % 3)) : Nat) : Int)) = (0 : Int) := of_decide_eq_true hb106
 refine WO.on rfl rfl hb106 ?_
 refine WO.v (R.move rfl) rfl ?_
 refine WO.on rfl rfl hb106 ?_
 refine WO.v (R.eql rfl rfl) rfl ?_
 refine WO.v (R.pickT rfl hb106 rfl) rfl ?_
 refine WO.nil ?_
 exact WX.cutDoneP 3 rfl rfl ⟨⟨_, rfl, vb (band_on hb106)⟩, trivial⟩ (rfl)
 have phb106 : ¬ (upE ((upS ((lessF (s))) ((((1 + (one.toNat % 3)) : Nat) : Int)))) ((((1 + (two.toNat % 3)) : Nat) : Int)) = (0 : Int)) := of_decide_eq_false hb106
 refine WO.off rfl rfl hb106 rfl ?_
 refine WO.off rfl rfl hb106 rfl ?_
 refine WO.v (R.pickF rfl hb106 rfl) rfl ?_
 refine WO.nil ?_
 exact WX.cutDoneP 3 rfl rfl ⟨⟨_, rfl, vb (band_off hb106)⟩, trivial⟩ (rfl)
 rintro _ rfl
 refine WO.v (R.move rfl) rfl ?_
 refine WO.cutP 4 [(100, (.bool (((decide (upE ((upS ((lessF (s))) ((((1 + (one.toNat % 3)) : Nat) : Int)))) ((((1 + (two.toNat % 3)) : Nat) : Int)) = (0 : Int))) && (decide (upE ((lessF (s))) ((((1 + (two.toNat % 3)) : Nat) : Int)) = (0 : Int)))) && (decide (((upS ((upS ((lessF (s))) ((((1 + (one.toNat % 3)) : Nat) : Int)))) ((((1 + (two.toNat % 3)) : Nat) : Int)))) = ((upS ((lessF (s))) ((((1 + (two.toNat % 3)) : Nat) : Int)))))))))] (fun w' => Kp [] w102 w') ?_ ?_
 rcases Bool.eq_false_or_eq_true ((decide (upE ((upS ((lessF (s))) ((((1 + (one.toNat % 3)) : Nat) : Int)))) ((((1 + (two.toNat % 3)) : Nat) : Int)) = (0 : Int))) && (decide (upE ((lessF (s))) ((((1 + (two.toNat % 3)) : Nat) : Int)) = (0 : Int)))) with hb107 | hb107
 have phb107 : (upE ((upS ((lessF (s))) ((((1 + (one.toNat % 3)) : Nat) : Int)))) ((((1 + (two.toNat % 3)) : Nat) : Int)) = (0 : Int)) ∧ (upE ((lessF (s))) ((((1 + (two.toNat % 3)) : Nat) : Int)) = (0 : Int)) := ⟨of_decide_eq_true (band_t hb107).1, of_decide_eq_true (band_t hb107).2⟩
 refine WO.on rfl rfl hb107 ?_
 have B108 := (((((((B76).kp0 k78).kp0 n94.kp).kp1 k95 (by omega)).kp0 n97.kp).kp1 k98 (by omega)).kp1 k100 (by omega)).kp0 k102
 refine WO.v (R.loadBN (vs := [_, _, _, _, _, _, _]) rfl B108 rfl Try.underlying34 rfl sz34) rfl ?_
 refine WO.on rfl rfl hb107 ?_
 have B109 := ((((B95).kp0 n97.kp).kp1 k98 (by omega)).kp1 k100 (by omega)).kp0 k102
 refine WO.v (R.loadBN (vs := [_, _, _, _, _, _, _]) rfl B109 rfl Try.underlying34 rfl sz34) rfl ?_
 refine WO.on rfl rfl hb107 ?_
 refine WO.c (E.call rfl rfl Try.func14 rfl rfl) (same7_s (s := (upS ((upS ((lessF (s))) ((((1 + (one.toNat % 3)) : Nat) : Int)))) ((((1 + (two.toNat % 3)) : Nat) : Int)))) (t := (upS ((lessF (s))) ((((1 + (two.toNat % 3)) : Nat) : Int)))) (State.mk_ (i62) (i63) (i64) (i65) (((sl_kp0 (sl_kp (sl_kp (sl_kp0 (sl_kp (sl_kp0 (sl_kp0 (sl_kp (sl_kp0 (s68) n75.kp (by omega)) k76 (by omega) (mem1 (by omega))) k78 (by omega)) n94.kp (by omega)) k95 (by omega) (mem1 (by omega))) n97.kp (by omega)) k98 (by omega) (mem1 (by omega))) k100 (by omega) (mem1 (by omega))) k102 (by omega)).weak).mono (lo' := 0) (hi' := w102.heap.size) (Nat.zero_le _) (by omega)) (((sl_kp0 (sl_kp (sl_kp (sl_kp0 (sl_kp (sl_kp0 (sl_kp0 (sl_kp (sl_kp0 (s71) n75.kp (by omega)) k76 (by omega) (mem1 (by omega))) k78 (by omega)) n94.kp (by omega)) k95 (by omega) (mem1 (by omega))) n97.kp (by omega)) k98 (by omega) (mem1 (by omega))) k100 (by omega) (mem1 (by omega))) k102 (by omega)).weak).mono (lo' := 0) (hi' := w102.heap.size) (Nat.zero_le _) (by omega)) (((sl_kp0 (sl_kp (sl_kp (sl_kp0 (sl_kp (sl_kp0 (sl_kp0 (sl_kp (sl_kp0 (s74) n75.kp (by omega)) k76 (by omega) (mem1 (by omega))) k78 (by omega)) n94.kp (by omega)) k95 (by omega) (mem1 (by omega))) n97.kp (by omega)) k98 (by omega) (mem1 (by omega))) k100 (by omega) (mem1 (by omega))) k102 (by omega)).weak).mono (lo' := 0) (hi' := w102.heap.size) (Nat.zero_le _) (by omega))) (State.mk_ (i81) (i82) (i83) (i84) (((sl_kp0 (sl_kp (sl_kp (sl_kp0 (sl_kp (sl_kp0 (s87) n94.kp (by omega)) k95 (by omega) (mem1 (by omega))) n97.kp (by omega)) k98 (by omega) (mem1 (by omega))) k100 (by omega) (mem1 (by omega))) k102 (by omega)).weak).mono (lo' := 0) (hi' := w102.heap.size) (Nat.zero_le _) (by omega)) (((sl_kp0 (sl_kp (sl_kp (sl_kp0 (sl_kp (sl_kp0 (s90) n94.kp (by omega)) k95 (by omega) (mem1 (by omega))) n97.kp (by omega)) k98 (by omega) (mem1 (by omega))) k100 (by omega) (mem1 (by omega))) k102 (by omega)).weak).mono (lo' := 0) (hi' := w102.heap.size) (Nat.zero_le _) (by omega)) (((sl_kp0 (sl_kp (sl_kp (sl_kp0 (sl_kp (sl_kp0 (s93) n94.kp (by omega)) k95 (by omega) (mem1 (by omega))) n97.kp (by omega)) k98 (by omega) (mem1 (by omega))) k100 (by omega) (mem1 (by omega))) k102 (by omega)).weak).mono (lo' := 0) (hi' := w102.heap.size) (Nat.zero_le _) (by omega)))) rfl ?_
 rintro _ w110 ⟨rfl, k110⟩
 have z110 : w102.heap.size ≤ w110.heap.size := k110.size
 have b110 := old_kp0 b102 k110
 have y110 : w.heap.size ≤ w110.heap.size := b110.size
 refine WO.v (R.pickT rfl hb107 rfl) rfl ?_
 refine WO.nil ?_
 exact WX.cutDoneP 4 rfl rfl ⟨⟨_, rfl, vb (band_on hb107)⟩, trivial⟩ ((Kp.refl _).step k110 (by simp))
 have phb107 : (¬ (upE ((upS ((lessF (s))) ((((1 + (one.toNat % 3)) : Nat) : Int)))) ((((1 + (two.toNat % 3)) : Nat) : Int)) = (0 : Int))) ∨ (¬ (upE ((lessF (s))) ((((1 + (two.toNat % 3)) : Nat) : Int)) = (0 : Int))) := Or.imp (fun h => of_decide_eq_false h) (fun h => of_decide_eq_false h) (band_f hb107)
 refine WO.off rfl rfl hb107 rfl ?_
 refine WO.off rfl rfl hb107 rfl ?_
 refine WO.off rfl rfl hb107 rfl ?_
 refine WO.v (R.pickF rfl hb107 rfl) rfl ?_
 refine WO.nil ?_
 exact WX.cutDoneP 4 rfl rfl ⟨⟨_, rfl, vb (band_off hb107)⟩, trivial⟩ (Kp.refl _)
 intro w111 k111
 have z111 : w102.heap.size ≤ w111.heap.size := k111.size
 have b111 := old_kp0 b102 k111
 have y111 : w.heap.size ≤ w111.heap.size := b111.size
 refine WO.v (R.assign rfl) rfl ?_
 refine WO.nil ?_
 refine WX.sel [0, 1, 2, 3, 6, 7, 8, 9, 10, 11, 12, 13, 14, 15, 16, 17, 39, 48, 78, 81] rfl ?_
 refine WX.next ?_
 refine WC.ret ?_
 have e0 : (((decide (upE ((upS ((lessF (s))) ((((1 + (one.toNat % 3)) : Nat) : Int)))) ((((1 + (two.toNat % 3)) : Nat) : Int)) = (0 : Int))) && (decide (upE ((lessF (s))) ((((1 + (two.toNat % 3)) : Nat) : Int)) = (0 : Int)))) && (decide (((upS ((upS ((lessF (s))) ((((1 + (one.toNat % 3)) : Nat) : Int)))) ((((1 + (two.toNat % 3)) : Nat) : Int)))) = ((upS ((lessF (s))) ((((1 + (two.toNat % 3)) : Nat) : Int))))))) = true := by first | exact st1 q55 | exact st2 (by omega) q55 (by omega) | exact st3 (by omega) q55 (by omega) q104 | exact st4 (by omega) (by omega) q55 (by omega) (by omega) | exact st5 (by omega) (by omega) q55 (by omega) (by omega)
 refine WX.ret1 Try.results4 rfl ?_
 exact ⟨by rw [e0], Kp.of_below b111⟩


end Go.Proofs.Ytaenkjlhdlddgaa
