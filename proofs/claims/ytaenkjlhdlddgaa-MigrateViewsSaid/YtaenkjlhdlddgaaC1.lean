/- Contracts of functions, walked operation by operation. -/
import Derived.Test.YtaenkjlhdlddgaaB9
namespace Go.Proofs.Ytaenkjlhdlddgaa
open Go.RowKit

theorem hideV_id (v : Int) (x : Snap) : (hideV v x).id = x.id := rfl
theorem rising_map {f : Snap → Snap} (hf : ∀ x, (f x).id = x.id) {m : Int} : ∀ {l : List Snap} {a : Int}, risingF Snap.id m a (l.map f) = risingF Snap.id m a l
  | [], _ => rfl
  | x :: r, a => by simp only [List.map_cons, risingF, hf]; rw [rising_map hf]
theorem tagMax_ge (v : Int) : 0 ≤ tagMax v := by unfold tagMax; split <;> omega
theorem snapOk_view {u : Int} {x : Snap} (hu : u ≤ 3) (h : snapOk 3 (tagMax 3) x = true) : snapOk u (tagMax u) (hideV u x) = true := by
  have h16 : tagMax 3 = 16 := rfl
  unfold snapOk at *
  simp only [Bool.and_eq_true, Bool.or_eq_true, decide_eq_true_eq, Bool.not_eq_true'] at *
  obtain ⟨⟨⟨h1, h2⟩, h3⟩, h4⟩ := h
  refine ⟨⟨⟨h1, h2⟩, ?_⟩, ?_⟩
  · by_cases h : u < 2
    · left; simp [hideV, h]
    · right; omega
  · by_cases h : u < 3
    · have := tagMax_ge u; simp [hideV, h]; exact this
    · have : u = 3 := by omega
      subst this; simp only [hideV, if_neg h]; exact h4
theorem may_view {t : State} {u : Int} (h : mayF t 3 = 0) (hu : 1 ≤ u ∧ u ≤ 3) : mayF (viewT t u) u = 0 := by
  obtain ⟨h1, h2, h3, h4, h5⟩ := may_parts h
  refine may_mk ⟨inB_iff.2 hu, ?_, h3, h4, ?_⟩
  · unfold numbersF at *
    simp only [Bool.and_eq_true] at *
    refine ⟨h2.1, ?_⟩
    have h6 := inB_iff.1 h2.2
    show inB (if u < 3 then 0 else t.quota) 0 _ = true
    refine inB_iff.2 ?_
    by_cases h : u < 3
    · rw [if_pos h, if_pos h]; omega
    · rw [if_neg h, if_neg h]; rw [if_neg (by omega)] at h6; exact h6
  · unfold snapsF at *
    show (!(decide (16 < (((t.snaps.map (hideV u)).length : Nat) : Int)) || !(risingF Snap.id (t.next - 1) 0 (t.snaps.map (hideV u)))) && (t.snaps.map (hideV u)).all _) = true
    rw [rising_map (hideV_id u), List.length_map]
    rw [Bool.and_eq_true] at *
    refine ⟨h5.1, ?_⟩
    rw [List.all_eq_true] at *
    intro y hy
    obtain ⟨x, hx, rfl⟩ := List.mem_map.1 hy
    exact snapOk_view hu.2 (h5.2 x hx)
theorem may_more {t : State} {u v : Int} (h : mayF t u = 0) (huv : u ≤ v) (hv : v ≤ 3) : mayF t v = 0 := by
  obtain ⟨h1, h2, h3, h4, h5⟩ := may_parts h
  have h1' := inB_iff.1 h1
  refine may_mk ⟨inB_iff.2 ⟨by omega, hv⟩, ?_, h3, h4, ?_⟩
  · unfold numbersF at *
    simp only [Bool.and_eq_true] at *
    refine ⟨h2.1, ?_⟩
    have h6 := inB_iff.1 h2.2
    refine inB_iff.2 ⟨h6.1, ?_⟩
    have h7 := h6.2
    split at h7 <;> split <;> omega
  · unfold snapsF at *
    rw [Bool.and_eq_true] at *
    refine ⟨h5.1, ?_⟩
    rw [List.all_eq_true] at *
    exact fun x hx => snapOk_up huv (h5.2 x hx)
theorem view_all {t : State} {u : Int} (h : mayF t u = 0) : viewT t u = t := by
  obtain ⟨h1, h2, h3, h4, h5⟩ := may_parts h
  have h1' := inB_iff.1 h1
  by_cases hu : u < 3
  · have hq : t.quota = 0 := by
      unfold numbersF at h2
      simp only [Bool.and_eq_true] at h2
      have := inB_iff.1 h2.2
      rw [if_pos hu] at this; omega
    have hm : t.snaps.map (hideV u) = t.snaps := by
      unfold snapsF at h5
      rw [Bool.and_eq_true, List.all_eq_true] at h5
      refine (List.map_congr_left (g := id) fun x hx => ?_).trans (List.map_id _)
      have hx := h5.2 x hx
      unfold snapOk tagMax at hx
      rw [if_pos hu] at hx
      simp only [Bool.and_eq_true, Bool.or_eq_true, decide_eq_true_eq, Bool.not_eq_true'] at hx
      obtain ⟨⟨_, h6⟩, h7⟩ := hx
      have ht : x.tag = ⟨[]⟩ := by
        have : x.tag.b = [] := List.eq_nil_of_length_eq_zero (by omega)
        cases hx : x.tag with | mk b => rw [hx] at this; simp at this; rw [this]
      show hideV u x = x
      unfold hideV
      rw [if_pos hu, ← ht]
      by_cases h2 : u < 2
      · have hd : x.held = false := h6.resolve_right (by omega)
        rw [if_pos h2, ← hd]
      · rw [if_neg h2]
    unfold viewT
    rw [hm, if_pos hu, ← hq]
  · exact (view_3 hu rfl).symm
theorem view_view {t : State} {u v : Int} : viewT (viewT t u) v = viewT t (min u v) := by
  unfold viewT
  simp only [List.map_map]
  congr 1
  · by_cases h : v < 3 <;> by_cases h2 : u < 3 <;> simp [h, h2] <;> omega
  · refine List.map_congr_left fun x _ => ?_
    simp only [Function.comp, hideV]
    by_cases h : v < 3 <;> by_cases h2 : u < 3 <;> by_cases h3 : v < 2 <;> by_cases h4 : u < 2 <;> simp [h, h2, h3, h4] <;> omega
theorem vbad {t : State} {u : Int} (hu : 1 ≤ u ∧ u ≤ 3) : viewBad t u = !decide (mayF t 3 = 0) := by unfold viewBad; rw [inB_iff.2 hu]; rfl
theorem vE {t : State} {u : Int} (hu : 1 ≤ u ∧ u ≤ 3) (h : mayF t 3 = 0) : viewE t u = 0 ∧ viewS t u = viewT t u := by
  have hb : viewBad t u = false := by rw [vbad hu, h]; rfl
  exact ⟨(viewE2 hb).symm, (viewS2 hb).symm⟩
theorem vw1 {t : State} {u : Int} (hu : 1 ≤ u ∧ u ≤ 3) (h : (!decide (viewE t u = (0 : Int))) = true) : (!decide (mayF t 3 = (0 : Int))) = true := by
  cases hm : decide (mayF t 3 = 0) with
  | true => rw [(vE hu (of_decide_eq_true hm)).1] at h; simp at h
  | false => rfl
theorem vw2 {t : State} {u v : Int} (hu : 1 ≤ u ∧ u ≤ 3) (hv : 1 ≤ v ∧ v ≤ 3) (h : (!decide (viewE t u = (0 : Int))) = false) :
    (((((decide (mayF (viewS t u) u = (0 : Int))) && ((!(decide (mayF t u = (0 : Int)))) || (decide (viewS t u = t)))) && (decide (viewE (viewS t u) v = (0 : Int)))) && (decide (viewE t (min u v) = (0 : Int)))) && (decide (viewS (viewS t u) v = viewS t (min u v)))) = true := by
  have hm : mayF t 3 = 0 := by
    cases hm : decide (mayF t 3 = 0) with
    | true => exact of_decide_eq_true hm
    | false =>
      have hb : viewBad t u = true := by rw [vbad hu, hm]; rfl
      rw [← viewE1 hb] at h; simp at h
  have h1 := may_view hm hu
  have h2 := may_more h1 hu.2 (Int.le_refl 3)
  rw [(vE hu hm).2, h1, (vE hv h2).1, (vE hv h2).2, (vE (u := min u v) (by omega) hm).1, (vE (u := min u v) (by omega) hm).2, view_view]
  cases hd : decide (mayF t u = 0) with
  | false => simp
  | true => rw [view_all (of_decide_eq_true hd)]; simp



set_option maxRecDepth 100000 in
set_option maxHeartbeats 400000 in
theorem views_s {w : World} {cs_s : List Value} {s : State} (one : UInt8) (two : UInt8) (h_s : Rp.rp false 0 w.heap.size w cs_s s) :
    Ret Try.prog 5 [.agg cs_s.toArray, .int .u8 (one.toNat : Int), .int .u8 (two.toNat : Int)].toArray w fun r w' => r = .bool true ∧ Kp [] w w' := by
 obtain ⟨a5, c6, a8, c9, a11, c12, rfl, i1, i2, i3, i4, s7, s10, s13⟩ := State.el h_s
 have ls7 : (s.sess).length * 32 ≤ 140737488355328 := s7.lenle
 have ls10 : (s.opens).length * 16 ≤ 140737488355328 := s10.lenle
 have ls13 : (s.snaps).length * 64 ≤ 140737488355328 := s13.lenle
 refine Ret.enter Try.func5 rfl Try.ntmps5 rfl rfl ?_
 refine WC.sel [0, 1, 2] rfl ?_
 refine WC.seq ?_
 refine WC.region ?_
 refine WO.box rfl rfl rfl ?_
 intro w14 n14
 have z14 : w.heap.size < w14.heap.size := n14.lt
 have b14 := old_kp0 (Below.refl w.heap.size w) n14.kp
 have y14 : w.heap.size ≤ w14.heap.size := b14.size
 refine WO.v (R.assign rfl) rfl ?_
 refine WO.nil ?_
 refine WX.sel [0, 1, 2, 3, 6] rfl ?_
 refine WX.next ?_
 refine WC.seq ?_
 refine WC.region ?_
 refine WO.c (E.call rfl rfl Try.func7 rfl rfl) (shown_s  ) rfl ?_
 rintro _ w15 ⟨rfl, k15⟩
 have z15 : w14.heap.size ≤ w15.heap.size := k15.size
 have b15 := old_kp0 b14 k15
 have y15 : w.heap.size ≤ w15.heap.size := b15.size
 refine WO.v (R.assign rfl) rfl ?_
 refine WO.nil ?_
 refine WX.sel [0, 1, 2, 3, 6, 7] rfl ?_
 refine WX.next ?_
 refine WC.seq ?_
 refine WC.region ?_
 have B16 := (n14.blk).kp0 k15
 refine WO.v (R.loadBN (vs := [_, _, _, _, _, _, _]) rfl B16 rfl Try.underlying34 rfl sz34) rfl ?_
 refine WO.c (E.call rfl rfl Try.func11 rfl rfl) (less_s (s := s) (B := w.heap.size) (by omega) (State.mk_ (i1) (i2) (i3) (i4) ((sl_old s7 b15).mono (lo' := 0) (hi' := w.heap.size) (Nat.zero_le _) (by omega)) ((sl_old s10 b15).mono (lo' := 0) (hi' := w.heap.size) (Nat.zero_le _) (by omega)) ((sl_old s13 b15).mono (lo' := 0) (hi' := w.heap.size) (Nat.zero_le _) (by omega)))) rfl ?_
 rintro _ w17 ⟨a22, c23, a25, c26, a28, c29, rfl, i18, i19, i20, i21, s24, s27, s30, k17⟩
 have z17 : w15.heap.size ≤ w17.heap.size := k17.size
 have b17 := old_kp0 b15 k17
 have y17 : w.heap.size ≤ w17.heap.size := b17.size
 have ls24 : ((lessF (s)).sess).length * 32 ≤ 140737488355328 := s24.lenle
 have ls27 : ((lessF (s)).opens).length * 16 ≤ 140737488355328 := s27.lenle
 have ls30 : ((lessF (s)).snaps).length * 64 ≤ 140737488355328 := s30.lenle
 have B31 := (B16).kp0 k17
 refine WO.storeBN rfl rfl B31 rfl (by simp [Value.oneCell']) sz34 ?_
 intro w32 k32 B32 z_32
 have z32 : w17.heap.size = w32.heap.size := z_32.symm
 have b32 := old_kp b17 k32 (mem1 (by omega))
 have y32 : w.heap.size ≤ w32.heap.size := b32.size
 refine WO.nil ?_
 refine WX.sel [0, 1, 2, 3, 6, 7] rfl ?_
 refine WX.next ?_
 refine WC.seq ?_
 refine WC.region ?_
 refine WO.v (R.move rfl) rfl ?_
 have u32 := UInt8.toNat_lt one
 refine WO.v (R.convU8 (b := one) rfl Try.underlying5 Try.underlying3) rfl ?_
 refine WO.v (R.remN (a := one.toNat) (b := 3) rfl rfl (by omega)) rfl ?_
 refine WO.v (R.addN (a := 1) (b := (one.toNat % 3)) rfl rfl (by omega)) rfl ?_
 refine WO.v (R.assign rfl) rfl ?_
 refine WO.nil ?_
 refine WX.sel [0, 1, 2, 3, 6, 7, 8] rfl ?_
 refine WX.next ?_
 refine WC.seq ?_
 refine WC.region ?_
 refine WO.v (R.move rfl) rfl ?_
 have u33 := UInt8.toNat_lt two
 refine WO.v (R.convU8 (b := two) rfl Try.underlying5 Try.underlying3) rfl ?_
 refine WO.v (R.remN (a := two.toNat) (b := 3) rfl rfl (by omega)) rfl ?_
 refine WO.v (R.addN (a := 1) (b := (two.toNat % 3)) rfl rfl (by omega)) rfl ?_
 refine WO.v (R.assign rfl) rfl ?_
 refine WO.nil ?_
 refine WX.sel [0, 1, 2, 3, 6, 7, 8, 9] rfl ?_
 refine WX.next ?_
 refine WC.seq ?_
 refine WC.region ?_
 refine WO.v (R.loadBN (vs := [_, _, _, _, _, _, _]) rfl B32 rfl Try.underlying34 rfl sz34) rfl ?_
 refine WO.v (R.move rfl) rfl ?_
 refine WO.c (E.call rfl rfl Try.func15 rfl rfl) (view_s (v := (((1 + (one.toNat % 3)) : Nat) : Int)) (s := (lessF (s))) (State.mk_ (i18) (i19) (i20) (i21) ((sl_kp (s24) k32 (by omega) (mem1 (by omega))).mono (lo' := 0) (hi' := w32.heap.size) (Nat.zero_le _) (by omega)) ((sl_kp (s27) k32 (by omega) (mem1 (by omega))).mono (lo' := 0) (hi' := w32.heap.size) (Nat.zero_le _) (by omega)) ((ac_kp (s30) k32 (by omega) (by omega) (mem1 (by omega))).pub (L := 0) (H := w32.heap.size) (by omega) (by omega) (by omega) (by omega)))) rfl ?_
 rintro _ w35 ⟨cs36, rfl, r37, k35⟩
 have z35 : w32.heap.size ≤ w35.heap.size := k35.size
 have b35 := old_kp0 b32 k35
 have y35 : w.heap.size ≤ w35.heap.size := b35.size
 obtain ⟨a42, c43, a45, c46, a48, c49, rfl, i38, i39, i40, i41, s44, s47, s50⟩ := State.el r37
 have ls44 : ((viewS ((lessF (s))) ((((1 + (one.toNat % 3)) : Nat) : Int))).sess).length * 32 ≤ 140737488355328 := s44.lenle
 have ls47 : ((viewS ((lessF (s))) ((((1 + (one.toNat % 3)) : Nat) : Int))).opens).length * 16 ≤ 140737488355328 := s47.lenle
 have ls50 : ((viewS ((lessF (s))) ((((1 + (one.toNat % 3)) : Nat) : Int))).snaps).length * 64 ≤ 140737488355328 := s50.lenle
 refine WO.v (R.move rfl) rfl ?_
 refine WO.v (R.extract rfl rfl) rfl ?_
 refine WO.v (R.extract rfl rfl) rfl ?_
 refine WO.alloc zr34 rfl ?_
 intro w51 n51
 have z51 : w35.heap.size < w51.heap.size := n51.lt
 have b51 := old_kp0 b35 n51.kp
 have y51 : w.heap.size ≤ w51.heap.size := b51.size
 refine WO.storeBN rfl rfl n51.blk rfl (by simp [Value.oneCell']) sz34 ?_
 intro w52 k52 B52 z_52
 have z52 : w51.heap.size = w52.heap.size := z_52.symm
 have b52 := old_kp b51 k52 (mem1 (by omega))
 have y52 : w.heap.size ≤ w52.heap.size := b52.size
 refine WO.v (R.assign rfl) rfl ?_
 refine WO.nil ?_
 refine WX.sel [0, 1, 2, 3, 6, 7, 8, 9, 10, 11] rfl ?_
 refine WX.next ?_
 refine WC.seq ?_
 refine WC.seq ?_
 refine WC.region ?_
 refine WO.v (R.move rfl) rfl ?_
 refine WO.v (R.neq rfl rfl) rfl ?_
 refine WO.nil ?_
 refine WX.sel [0, 1, 2, 3, 6, 7, 8, 9, 10, 11, 37] rfl ?_
 refine WX.next ?_
 refine WC.cond rfl (fun q53 => ?_) (fun q53 => ?_)
 have p53 : ¬ (viewE ((lessF (s))) ((((1 + (one.toNat % 3)) : Nat) : Int)) = (0 : Int)) := of_decide_eq_false (bnot_t q53)
 refine WC.seq ?_
 refine WC.region ?_
 refine WO.v (R.move rfl) rfl ?_
 refine WO.v (R.move rfl) rfl ?_
 refine WO.on rfl rfl rfl ?_
 have B54 := (((B32).kp0 k35).kp0 n51.kp).kp1 k52 (by omega)
 refine WO.v (R.loadBN (vs := [_, _, _, _, _, _, _]) rfl B54 rfl Try.underlying34 rfl sz34) rfl ?_
 refine WO.on rfl rfl rfl ?_
 refine WO.c (E.call rfl rfl Try.func13 rfl rfl) (may7_s (v := (3 : Int)) (s := (lessF (s))) (State.mk_ (i18) (i19) (i20) (i21) ((sl_kp (sl_kp0 (sl_kp0 (sl_kp (s24) k32 (by omega) (mem1 (by omega))) k35 (by omega)) n51.kp (by omega)) k52 (by omega) (mem1 (by omega))).mono (lo' := 0) (hi' := w52.heap.size) (Nat.zero_le _) (by omega)) ((sl_kp (sl_kp0 (sl_kp0 (sl_kp (s27) k32 (by omega) (mem1 (by omega))) k35 (by omega)) n51.kp (by omega)) k52 (by omega) (mem1 (by omega))).mono (lo' := 0) (hi' := w52.heap.size) (Nat.zero_le _) (by omega)) ((ac_kp (ac_kp0 (ac_kp0 (ac_kp (s30) k32 (by omega) (by omega) (mem1 (by omega))) k35 (by omega) (by omega)) n51.kp (by omega) (by omega)) k52 (by omega) (by omega) (mem1 (by omega))).pub (L := 0) (H := w52.heap.size) (by omega) (by omega) (by omega) (by omega)))) rfl ?_
 rintro _ w55 ⟨rfl, k55⟩
 have z55 : w52.heap.size ≤ w55.heap.size := k55.size
 have b55 := old_kp0 b52 k55
 have y55 : w.heap.size ≤ w55.heap.size := b55.size
 refine WO.on rfl rfl rfl ?_
 refine WO.v (R.neq rfl rfl) rfl ?_
 refine WO.v (R.pickT rfl rfl rfl) rfl ?_
 refine WO.v (R.assign rfl) rfl ?_
 refine WO.nil ?_
 refine WX.sel [0, 1, 2, 3, 6, 7, 8, 9, 10, 11, 37] rfl ?_
 refine WX.next ?_
 refine WC.ret ?_
 refine WX.thenRet ?_
 have e0 : (!(decide (mayF ((lessF (s))) ((3 : Int)) = (0 : Int)))) = true := by first | exact vw1 (by omega) q53 | exact vw2 (by omega) (by omega) q53
 refine WX.ret1 Try.results5 rfl ?_
 exact ⟨by rw [e0], Kp.of_below b55⟩
 have p53 : viewE ((lessF (s))) ((((1 + (one.toNat % 3)) : Nat) : Int)) = (0 : Int) := of_decide_eq_true (bnot_f q53)
 refine WC.skip ?_
 refine WX.next ?_
 refine WC.seq ?_
 refine WC.region ?_
 refine WO.v (R.loadBN (vs := [_, _, _, _, _, _, _]) rfl B52 rfl Try.underlying34 rfl sz34) rfl ?_
 refine WO.v (R.move rfl) rfl ?_
 refine WO.c (E.call rfl rfl Try.func15 rfl rfl) (view_s (v := (((1 + (two.toNat % 3)) : Nat) : Int)) (s := (viewS ((lessF (s))) ((((1 + (one.toNat % 3)) : Nat) : Int)))) (State.mk_ (i38) (i39) (i40) (i41) (((sl_kp (sl_kp0 (s44) n51.kp (by omega)) k52 (by omega) (mem1 (by omega))).weak).mono (lo' := 0) (hi' := w52.heap.size) (Nat.zero_le _) (by omega)) (((sl_kp (sl_kp0 (s47) n51.kp (by omega)) k52 (by omega) (mem1 (by omega))).weak).mono (lo' := 0) (hi' := w52.heap.size) (Nat.zero_le _) (by omega)) (((sl_kp (sl_kp0 (s50) n51.kp (by omega)) k52 (by omega) (mem1 (by omega))).weak).mono (lo' := 0) (hi' := w52.heap.size) (Nat.zero_le _) (by omega)))) rfl ?_
 rintro _ w56 ⟨cs57, rfl, r58, k56⟩
 have z56 : w52.heap.size ≤ w56.heap.size := k56.size
 have b56 := old_kp0 b52 k56
 have y56 : w.heap.size ≤ w56.heap.size := b56.size
 obtain ⟨a63, c64, a66, c67, a69, c70, rfl, i59, i60, i61, i62, s65, s68, s71⟩ := State.el r58
 have ls65 : ((viewS ((viewS ((lessF (s))) ((((1 + (one.toNat % 3)) : Nat) : Int)))) ((((1 + (two.toNat % 3)) : Nat) : Int))).sess).length * 32 ≤ 140737488355328 := s65.lenle
 have ls68 : ((viewS ((viewS ((lessF (s))) ((((1 + (one.toNat % 3)) : Nat) : Int)))) ((((1 + (two.toNat % 3)) : Nat) : Int))).opens).length * 16 ≤ 140737488355328 := s68.lenle
 have ls71 : ((viewS ((viewS ((lessF (s))) ((((1 + (one.toNat % 3)) : Nat) : Int)))) ((((1 + (two.toNat % 3)) : Nat) : Int))).snaps).length * 64 ≤ 140737488355328 := s71.lenle
 refine WO.v (R.move rfl) rfl ?_
 refine WO.v (R.extract rfl rfl) rfl ?_
 refine WO.v (R.extract rfl rfl) rfl ?_
 refine WO.alloc zr34 rfl ?_
 intro w72 n72
 have z72 : w56.heap.size < w72.heap.size := n72.lt
 have b72 := old_kp0 b56 n72.kp
 have y72 : w.heap.size ≤ w72.heap.size := b72.size
 refine WO.storeBN rfl rfl n72.blk rfl (by simp [Value.oneCell']) sz34 ?_
 intro w73 k73 B73 z_73
 have z73 : w72.heap.size = w73.heap.size := z_73.symm
 have b73 := old_kp b72 k73 (mem1 (by omega))
 have y73 : w.heap.size ≤ w73.heap.size := b73.size
 refine WO.v (R.assign rfl) rfl ?_
 refine WO.nil ?_
 refine WX.sel [0, 1, 2, 3, 6, 7, 8, 9, 10, 11, 12, 13, 37] rfl ?_
 refine WX.next ?_
 refine WC.seq ?_
 refine WC.region ?_
 have B74 := ((((((B32).kp0 k35).kp0 n51.kp).kp1 k52 (by omega)).kp0 k56).kp0 n72.kp).kp1 k73 (by omega)
 refine WO.v (R.loadBN (vs := [_, _, _, _, _, _, _]) rfl B74 rfl Try.underlying34 rfl sz34) rfl ?_
 refine WO.v (R.move rfl) rfl ?_
 refine WO.v (R.move rfl) rfl ?_
 refine WO.v (R.min2 rfl rfl) rfl ?_
 refine WO.c (E.call rfl rfl Try.func15 rfl rfl) (view_s (v := (min (((1 + (one.toNat % 3)) : Nat) : Int) (((1 + (two.toNat % 3)) : Nat) : Int))) (s := (lessF (s))) (State.mk_ (i18) (i19) (i20) (i21) ((sl_kp (sl_kp0 (sl_kp0 (sl_kp (sl_kp0 (sl_kp0 (sl_kp (s24) k32 (by omega) (mem1 (by omega))) k35 (by omega)) n51.kp (by omega)) k52 (by omega) (mem1 (by omega))) k56 (by omega)) n72.kp (by omega)) k73 (by omega) (mem1 (by omega))).mono (lo' := 0) (hi' := w73.heap.size) (Nat.zero_le _) (by omega)) ((sl_kp (sl_kp0 (sl_kp0 (sl_kp (sl_kp0 (sl_kp0 (sl_kp (s27) k32 (by omega) (mem1 (by omega))) k35 (by omega)) n51.kp (by omega)) k52 (by omega) (mem1 (by omega))) k56 (by omega)) n72.kp (by omega)) k73 (by omega) (mem1 (by omega))).mono (lo' := 0) (hi' := w73.heap.size) (Nat.zero_le _) (by omega)) ((ac_kp (ac_kp0 (ac_kp0 (ac_kp (ac_kp0 (ac_kp0 (ac_kp (s30) k32 (by omega) (by omega) (mem1 (by omega))) k35 (by omega) (by omega)) n51.kp (by omega) (by omega)) k52 (by omega) (by omega) (mem1 (by omega))) k56 (by omega) (by omega)) n72.kp (by omega) (by omega)) k73 (by omega) (by omega) (mem1 (by omega))).pub (L := 0) (H := w73.heap.size) (by omega) (by omega) (by omega) (by omega)))) rfl ?_
 rintro _ w75 ⟨cs76, rfl, r77, k75⟩
 have z75 : w73.heap.size ≤ w75.heap.size := k75.size
 have b75 := old_kp0 b73 k75
 have y75 : w.heap.size ≤ w75.heap.size := b75.size
 obtain ⟨a82, c83, a85, c86, a88, c89, rfl, i78, i79, i80, i81, s84, s87, s90⟩ := State.el r77
 have ls84 : ((viewS ((lessF (s))) ((min (((1 + (one.toNat % 3)) : Nat) : Int) (((1 + (two.toNat % 3)) : Nat) : Int)))).sess).length * 32 ≤ 140737488355328 := s84.lenle
 have ls87 : ((viewS ((lessF (s))) ((min (((1 + (one.toNat % 3)) : Nat) : Int) (((1 + (two.toNat % 3)) : Nat) : Int)))).opens).length * 16 ≤ 140737488355328 := s87.lenle
 have ls90 : ((viewS ((lessF (s))) ((min (((1 + (one.toNat % 3)) : Nat) : Int) (((1 + (two.toNat % 3)) : Nat) : Int)))).snaps).length * 64 ≤ 140737488355328 := s90.lenle
 refine WO.v (R.move rfl) rfl ?_
 refine WO.v (R.extract rfl rfl) rfl ?_
 refine WO.v (R.extract rfl rfl) rfl ?_
 refine WO.alloc zr34 rfl ?_
 intro w91 n91
 have z91 : w75.heap.size < w91.heap.size := n91.lt
 have b91 := old_kp0 b75 n91.kp
 have y91 : w.heap.size ≤ w91.heap.size := b91.size
 refine WO.storeBN rfl rfl n91.blk rfl (by simp [Value.oneCell']) sz34 ?_
 intro w92 k92 B92 z_92
 have z92 : w91.heap.size = w92.heap.size := z_92.symm
 have b92 := old_kp b91 k92 (mem1 (by omega))
 have y92 : w.heap.size ≤ w92.heap.size := b92.size
 refine WO.v (R.assign rfl) rfl ?_
 refine WO.nil ?_
 refine WX.sel [0, 1, 2, 3, 6, 7, 8, 9, 10, 11, 12, 13, 14, 15, 37] rfl ?_
 refine WX.next ?_
 refine WC.seq ?_
 refine WC.region ?_
 have B93 := ((((((B52).kp0 k56).kp0 n72.kp).kp1 k73 (by omega)).kp0 k75).kp0 n91.kp).kp1 k92 (by omega)
 refine WO.v (R.loadBN (vs := [_, _, _, _, _, _, _]) rfl B93 rfl Try.underlying34 rfl sz34) rfl ?_
 refine WO.v (R.move rfl) rfl ?_
 refine WO.c (E.call rfl rfl Try.func13 rfl rfl) (may7_s (v := (((1 + (one.toNat % 3)) : Nat) : Int)) (s := (viewS ((lessF (s))) ((((1 + (one.toNat % 3)) : Nat) : Int)))) (State.mk_ (i38) (i39) (i40) (i41) (((sl_kp (sl_kp0 (sl_kp0 (sl_kp (sl_kp0 (sl_kp0 (sl_kp (sl_kp0 (s44) n51.kp (by omega)) k52 (by omega) (mem1 (by omega))) k56 (by omega)) n72.kp (by omega)) k73 (by omega) (mem1 (by omega))) k75 (by omega)) n91.kp (by omega)) k92 (by omega) (mem1 (by omega))).weak).mono (lo' := 0) (hi' := w92.heap.size) (Nat.zero_le _) (by omega)) (((sl_kp (sl_kp0 (sl_kp0 (sl_kp (sl_kp0 (sl_kp0 (sl_kp (sl_kp0 (s47) n51.kp (by omega)) k52 (by omega) (mem1 (by omega))) k56 (by omega)) n72.kp (by omega)) k73 (by omega) (mem1 (by omega))) k75 (by omega)) n91.kp (by omega)) k92 (by omega) (mem1 (by omega))).weak).mono (lo' := 0) (hi' := w92.heap.size) (Nat.zero_le _) (by omega)) (((sl_kp (sl_kp0 (sl_kp0 (sl_kp (sl_kp0 (sl_kp0 (sl_kp (sl_kp0 (s50) n51.kp (by omega)) k52 (by omega) (mem1 (by omega))) k56 (by omega)) n72.kp (by omega)) k73 (by omega) (mem1 (by omega))) k75 (by omega)) n91.kp (by omega)) k92 (by omega) (mem1 (by omega))).weak).mono (lo' := 0) (hi' := w92.heap.size) (Nat.zero_le _) (by omega)))) rfl ?_
 rintro _ w94 ⟨rfl, k94⟩
 have z94 : w92.heap.size ≤ w94.heap.size := k94.size
 have b94 := old_kp0 b92 k94
 have y94 : w.heap.size ≤ w94.heap.size := b94.size
 refine WO.v (R.assign rfl) rfl ?_
 refine WO.nil ?_
 refine WX.sel [0, 1, 2, 3, 6, 7, 8, 9, 10, 11, 12, 13, 14, 15, 16, 37] rfl ?_
 refine WX.next ?_
 refine WC.seq ?_
 refine WC.region ?_
 have B95 := (B93).kp0 k94
 refine WO.v (R.loadBN (vs := [_, _, _, _, _, _, _]) rfl B95 rfl Try.underlying34 rfl sz34) rfl ?_
 have B96 := ((((B74).kp0 k75).kp0 n91.kp).kp1 k92 (by omega)).kp0 k94
 refine WO.v (R.loadBN (vs := [_, _, _, _, _, _, _]) rfl B96 rfl Try.underlying34 rfl sz34) rfl ?_
 refine WO.c (E.call rfl rfl Try.func14 rfl rfl) (same7_s (s := (viewS ((lessF (s))) ((((1 + (one.toNat % 3)) : Nat) : Int)))) (t := (lessF (s))) (State.mk_ (i38) (i39) (i40) (i41) (((sl_kp0 (sl_kp (sl_kp0 (sl_kp0 (sl_kp (sl_kp0 (sl_kp0 (sl_kp (sl_kp0 (s44) n51.kp (by omega)) k52 (by omega) (mem1 (by omega))) k56 (by omega)) n72.kp (by omega)) k73 (by omega) (mem1 (by omega))) k75 (by omega)) n91.kp (by omega)) k92 (by omega) (mem1 (by omega))) k94 (by omega)).weak).mono (lo' := 0) (hi' := w94.heap.size) (Nat.zero_le _) (by omega)) (((sl_kp0 (sl_kp (sl_kp0 (sl_kp0 (sl_kp (sl_kp0 (sl_kp0 (sl_kp (sl_kp0 (s47) n51.kp (by omega)) k52 (by omega) (mem1 (by omega))) k56 (by omega)) n72.kp (by omega)) k73 (by omega) (mem1 (by omega))) k75 (by omega)) n91.kp (by omega)) k92 (by omega) (mem1 (by omega))) k94 (by omega)).weak).mono (lo' := 0) (hi' := w94.heap.size) (Nat.zero_le _) (by omega)) (((sl_kp0 (sl_kp (sl_kp0 (sl_kp0 (sl_kp (sl_kp0 (sl_kp0 (sl_kp (sl_kp0 (s50) n51.kp (by omega)) k52 (by omega) (mem1 (by omega))) k56 (by omega)) n72.kp (by omega)) k73 (by omega) (mem1 (by omega))) k75 (by omega)) n91.kp (by omega)) k92 (by omega) (mem1 (by omega))) k94 (by omega)).weak).mono (lo' := 0) (hi' := w94.heap.size) (Nat.zero_le _) (by omega))) (State.mk_ (i18) (i19) (i20) (i21) ((sl_kp0 (sl_kp (sl_kp0 (sl_kp0 (sl_kp (sl_kp0 (sl_kp0 (sl_kp (sl_kp0 (sl_kp0 (sl_kp (s24) k32 (by omega) (mem1 (by omega))) k35 (by omega)) n51.kp (by omega)) k52 (by omega) (mem1 (by omega))) k56 (by omega)) n72.kp (by omega)) k73 (by omega) (mem1 (by omega))) k75 (by omega)) n91.kp (by omega)) k92 (by omega) (mem1 (by omega))) k94 (by omega)).mono (lo' := 0) (hi' := w94.heap.size) (Nat.zero_le _) (by omega)) ((sl_kp0 (sl_kp (sl_kp0 (sl_kp0 (sl_kp (sl_kp0 (sl_kp0 (sl_kp (sl_kp0 (sl_kp0 (sl_kp (s27) k32 (by omega) (mem1 (by omega))) k35 (by omega)) n51.kp (by omega)) k52 (by omega) (mem1 (by omega))) k56 (by omega)) n72.kp (by omega)) k73 (by omega) (mem1 (by omega))) k75 (by omega)) n91.kp (by omega)) k92 (by omega) (mem1 (by omega))) k94 (by omega)).mono (lo' := 0) (hi' := w94.heap.size) (Nat.zero_le _) (by omega)) ((ac_kp0 (ac_kp (ac_kp0 (ac_kp0 (ac_kp (ac_kp0 (ac_kp0 (ac_kp (ac_kp0 (ac_kp0 (ac_kp (s30) k32 (by omega) (by omega) (mem1 (by omega))) k35 (by omega) (by omega)) n51.kp (by omega) (by omega)) k52 (by omega) (by omega) (mem1 (by omega))) k56 (by omega) (by omega)) n72.kp (by omega) (by omega)) k73 (by omega) (by omega) (mem1 (by omega))) k75 (by omega) (by omega)) n91.kp (by omega) (by omega)) k92 (by omega) (by omega) (mem1 (by omega))) k94 (by omega) (by omega)).pub (L := 0) (H := w94.heap.size) (by omega) (by omega) (by omega) (by omega)))) rfl ?_
 rintro _ w97 ⟨rfl, k97⟩
 have z97 : w94.heap.size ≤ w97.heap.size := k97.size
 have b97 := old_kp0 b94 k97
 have y97 : w.heap.size ≤ w97.heap.size := b97.size
 refine WO.v (R.assign rfl) rfl ?_
 refine WO.nil ?_
 refine WX.sel [0, 1, 2, 3, 6, 7, 8, 9, 10, 11, 12, 13, 14, 15, 16, 17, 37] rfl ?_
 refine WX.next ?_
 refine WC.seq ?_
 refine WC.region ?_
 have B98 := (B96).kp0 k97
 refine WO.v (R.loadBN (vs := [_, _, _, _, _, _, _]) rfl B98 rfl Try.underlying34 rfl sz34) rfl ?_
 refine WO.v (R.move rfl) rfl ?_
 refine WO.c (E.call rfl rfl Try.func13 rfl rfl) (may7_s (v := (((1 + (one.toNat % 3)) : Nat) : Int)) (s := (lessF (s))) (State.mk_ (i18) (i19) (i20) (i21) ((sl_kp0 (sl_kp0 (sl_kp (sl_kp0 (sl_kp0 (sl_kp (sl_kp0 (sl_kp0 (sl_kp (sl_kp0 (sl_kp0 (sl_kp (s24) k32 (by omega) (mem1 (by omega))) k35 (by omega)) n51.kp (by omega)) k52 (by omega) (mem1 (by omega))) k56 (by omega)) n72.kp (by omega)) k73 (by omega) (mem1 (by omega))) k75 (by omega)) n91.kp (by omega)) k92 (by omega) (mem1 (by omega))) k94 (by omega)) k97 (by omega)).mono (lo' := 0) (hi' := w97.heap.size) (Nat.zero_le _) (by omega)) ((sl_kp0 (sl_kp0 (sl_kp (sl_kp0 (sl_kp0 (sl_kp (sl_kp0 (sl_kp0 (sl_kp (sl_kp0 (sl_kp0 (sl_kp (s27) k32 (by omega) (mem1 (by omega))) k35 (by omega)) n51.kp (by omega)) k52 (by omega) (mem1 (by omega))) k56 (by omega)) n72.kp (by omega)) k73 (by omega) (mem1 (by omega))) k75 (by omega)) n91.kp (by omega)) k92 (by omega) (mem1 (by omega))) k94 (by omega)) k97 (by omega)).mono (lo' := 0) (hi' := w97.heap.size) (Nat.zero_le _) (by omega)) ((ac_kp0 (ac_kp0 (ac_kp (ac_kp0 (ac_kp0 (ac_kp (ac_kp0 (ac_kp0 (ac_kp (ac_kp0 (ac_kp0 (ac_kp (s30) k32 (by omega) (by omega) (mem1 (by omega))) k35 (by omega) (by omega)) n51.kp (by omega) (by omega)) k52 (by omega) (by omega) (mem1 (by omega))) k56 (by omega) (by omega)) n72.kp (by omega) (by omega)) k73 (by omega) (by omega) (mem1 (by omega))) k75 (by omega) (by omega)) n91.kp (by omega) (by omega)) k92 (by omega) (by omega) (mem1 (by omega))) k94 (by omega) (by omega)) k97 (by omega) (by omega)).pub (L := 0) (H := w97.heap.size) (by omega) (by omega) (by omega) (by omega)))) rfl ?_
 rintro _ w99 ⟨rfl, k99⟩
 have z99 : w97.heap.size ≤ w99.heap.size := k99.size
 have b99 := old_kp0 b97 k99
 have y99 : w.heap.size ≤ w99.heap.size := b99.size
 refine WO.v (R.neq rfl rfl) rfl ?_
 refine WO.v (R.move rfl) rfl ?_
 refine WO.cutP 2 [(70, (.bool ((!(decide (mayF ((lessF (s))) ((((1 + (one.toNat % 3)) : Nat) : Int)) = (0 : Int)))) || (decide (((viewS ((lessF (s))) ((((1 + (one.toNat % 3)) : Nat) : Int)))) = ((lessF (s))))))))] (fun w' => w99 = w') ?_ ?_
 rcases Bool.eq_false_or_eq_true (!(decide (mayF ((lessF (s))) ((((1 + (one.toNat % 3)) : Nat) : Int)) = (0 : Int)))) with hb100 | hb100
 have phb100 : ¬ (mayF ((lessF (s))) ((((1 + (one.toNat % 3)) : Nat) : Int)) = (0 : Int)) := of_decide_eq_false (bnot_t hb100)
 refine WO.off rfl rfl hb100 rfl ?_
 refine WO.v (R.pickT rfl hb100 rfl) rfl ?_
 refine WO.nil ?_
 exact WX.cutDoneP 2 rfl rfl ⟨⟨_, rfl, vb (bor_on hb100)⟩, trivial⟩ (rfl)
 have phb100 : mayF ((lessF (s))) ((((1 + (one.toNat % 3)) : Nat) : Int)) = (0 : Int) := of_decide_eq_true (bnot_f hb100)
 refine WO.on rfl rfl hb100 ?_
 refine WO.v (R.move rfl) rfl ?_
 refine WO.v (R.pickF rfl hb100 rfl) rfl ?_
 refine WO.nil ?_
 exact WX.cutDoneP 2 rfl rfl ⟨⟨_, rfl, vb (bor_off hb100)⟩, trivial⟩ (rfl)
 rintro _ rfl
 refine WO.v (R.assign rfl) rfl ?_
 refine WO.nil ?_
 refine WX.sel [0, 1, 2, 3, 6, 7, 8, 9, 10, 11, 12, 13, 14, 15, 16, 17, 18, 37] rfl ?_
 refine WX.next ?_
 refine WC.seq ?_
 refine WC.region ?_
 refine WO.v (R.move rfl) rfl ?_
 refine WO.v (R.move rfl) rfl ?_
 refine WO.on rfl rfl rfl ?_
 refine WO.v (R.move rfl) rfl ?_
 refine WO.on rfl rfl rfl ?_
 refine WO.v (R.eql rfl rfl) rfl ?_
 refine WO.v (R.pickT rfl rfl rfl) rfl ?_
 refine WO.v (R.move rfl) rfl ?_
 refine WO.cutP 2 [(78, (.bool ((decide (mayF ((viewS ((lessF (s))) ((((1 + (one.toNat % 3)) : Nat) : Int)))) ((((1 + (one.toNat % 3)) : Nat) : Int)) = (0 : Int))) && ((!(decide (mayF ((lessF (s))) ((((1 + (one.toNat % 3)) : Nat) : Int)) = (0 : Int)))) || (decide (((viewS ((lessF (s))) ((((1 + (one.toNat % 3)) : Nat) : Int)))) = ((lessF (s)))))))))] (fun w' => w99 = w') ?_ ?_
 rcases Bool.eq_false_or_eq_true (decide (mayF ((viewS ((lessF (s))) ((((1 + (one.toNat % 3)) : Nat) : Int)))) ((((1 + (one.toNat % 3)) : Nat) : Int)) = (0 : Int))) with hb101 | hb101
 have phb101 : mayF ((viewS ((lessF (s))) ((((1 + (one.toNat % 3)) : Nat) : Int)))) ((((1 + (one.toNat % 3)) : Nat) : Int)) = (0 : Int) := of_decide_eq_true hb101
 refine WO.on rfl rfl hb101 ?_
 refine WO.v (R.move rfl) rfl ?_
 refine WO.v (R.pickT rfl hb101 rfl) rfl ?_
 refine WO.nil ?_
 exact WX.cutDoneP 2 rfl rfl ⟨⟨_, rfl, vb (band_on hb101)⟩, trivial⟩ (rfl)
 have phb101 : ¬ (mayF ((viewS ((lessF (s))) ((((1 + (one.toNat % 3)) : Nat) : Int)))) ((((1 + (one.toNat % 3)) : Nat) : Int)) = (0 : Int)) := of_decide_eq_false hb101
 refine WO.off rfl rfl hb101 rfl ?_
 refine WO.v (R.pickF rfl hb101 rfl) rfl ?_
 refine WO.nil ?_
 exact WX.cutDoneP 2 rfl rfl ⟨⟨_, rfl, vb (band_off hb101)⟩, trivial⟩ (rfl)
 rintro _ rfl
 refine WO.v (R.move rfl) rfl ?_
 refine WO.cutP 3 [(82, (.bool (((decide (mayF ((viewS ((lessF (s))) ((((1 + (one.toNat % 3)) : Nat) : Int)))) ((((1 + (one.toNat % 3)) : Nat) : Int)) = (0 : Int))) && ((!(decide (mayF ((lessF (s))) ((((1 + (one.toNat % 3)) : Nat) : Int)) = (0 : Int)))) || (decide (((viewS ((lessF (s))) ((((1 + (one.toNat % 3)) : Nat) : Int)))) = ((lessF (s))))))) && (decide (viewE ((viewS ((lessF (s))) ((((1 + (one.toNat % 3)) : Nat) : Int)))) ((((1 + (two.toNat % 3)) : Nat) : Int)) = (0 : Int))))))] (fun w' => w99 = w') ?_ ?_
 rcases Bool.eq_false_or_eq_true ((decide (mayF ((viewS ((lessF (s))) ((((1 + (one.toNat % 3)) : Nat) : Int)))) ((((1 + (one.toNat % 3)) : Nat) : Int)) = (0 : Int))) && ((!(decide (mayF ((lessF (s))) ((((1 + (one.toNat % 3)) : Nat) : Int)) = (0 : Int)))) || (decide (((viewS ((lessF (s))) ((((1 + (one.toNat % 3)) : Nat) : Int)))) = ((lessF (s))))))) with hb102 | hb102
 have phb102 : (mayF ((viewS ((lessF (s))) ((((1 + (one.toNat % 3)) : Nat) : Int)))) ((((1 + (one.toNat % 3)) : Nat) : Int)) = (0 : Int)) ∧ ((¬ (mayF ((lessF (s))) ((((1 + (one.toNat % 3)) : Nat) : Int)) = (0 : Int))) ∨ ((decide (((viewS ((lessF (s))) ((((1 + (one.toNat % 3)) : Nat) : Int)))) = ((lessF (s))))) = true)) := ⟨of_decide_eq_true (band_t hb102).1, Or.imp (fun h => of_decide_eq_false (bnot_t h)) (fun h => h) (bor_t (band_t hb102).2)⟩
 refine WO.on rfl rfl hb102 ?_
 refine WO.v (R.move rfl) rfl ?_
 refine WO.on rfl rfl hb102 ?_
 refine WO.v (R.eql rfl rfl) rfl ?_
 refine WO.v (R.pickT rfl hb102 rfl) rfl ?_
 refine WO.nil ?_
 exact WX.cutDoneP 3 rfl rfl ⟨⟨_, rfl, vb (band_on hb102)⟩, trivial⟩ (rfl)
 have phb102 : (¬ (mayF ((viewS ((lessF (s))) ((((1 + (one.toNat % 3)) : Nat) : Int)))) ((((1 + (one.toNat % 3)) : Nat) : Int)) = (0 : Int))) ∨ ((mayF ((lessF (s))) ((((1 + (one.toNat % 3)) : Nat) : Int)) = (0 : Int)) ∧ ((decide (((viewS ((lessF (s))) ((((1 + (one.toNat % 3)) : Nat) : Int)))) = ((lessF (s))))) = false)) := Or.imp (fun h => of_decide_eq_false h) (fun h => ⟨of_decide_eq_true (bnot_f (bor_f h).1), (bor_f h).2⟩) (band_f hb102)
 refine WO.off rfl rfl hb102 rfl ?_
 refine WO.off rfl rfl hb102 rfl ?_
 refine WO.v (R.pickF rfl hb102 rfl) rfl ?_
 refine WO.nil ?_
 exact WX.cutDoneP 3 rfl rfl ⟨⟨_, rfl, vb (band_off hb102)⟩, trivial⟩ (rfl)
 rintro _ rfl
 refine WO.v (R.move rfl) rfl ?_
 refine WO.cutP 3 [(86, (.bool ((((decide (mayF ((viewS ((lessF (s))) ((((1 + (one.toNat % 3)) : Nat) : Int)))) ((((1 + (one.toNat % 3)) : Nat) : Int)) = (0 : Int))) && ((!(decide (mayF ((lessF (s))) ((((1 + (one.toNat % 3)) : Nat) : Int)) = (0 : Int)))) || (decide (((viewS ((lessF (s))) ((((1 + (one.toNat % 3)) : Nat) : Int)))) = ((lessF (s))))))) && (decide (viewE ((viewS ((lessF (s))) ((((1 + (one.toNat % 3)) : Nat) : Int)))) ((((1 + (two.toNat % 3)) : Nat) : Int)) = (0 : Int)))) && (decide (viewE ((lessF (s))) ((min (((1 + (one.toNat % 3)) : Nat) : Int) (((1 + (two.toNat % 3)) : Nat) : Int))) = (0 : Int))))))] (fun w' => w99 = w') ?_ ?_
 rcases Bool.eq_false_or_eq_true (((decide (mayF ((viewS ((lessF (s))) ((((1 + (one.toNat % 3)) : Nat) : Int)))) ((((1 + (one.toNat % 3)) : Nat) : Int)) = (0 : Int))) && ((!(decide (mayF ((lessF (s))) ((((1 + (one.toNat % 3)) : Nat) : Int)) = (0 : Int)))) || (decide (((viewS ((lessF (s))) ((((1 + (one.toNat % 3)) : Nat) : Int)))) = ((lessF (s))))))) && (decide (viewE ((viewS ((lessF (s))) ((((1 + (one.toNat % 3)) : Nat) : Int)))) ((((1 + (two.toNat % 3)) : Nat) : Int)) = (0 : Int)))) with hb103 | hb103
 have phb103 : ((mayF ((viewS ((lessF (s))) ((((1 + (one.toNat % 3)) : Nat) : Int)))) ((((1 + (one.toNat % 3)) : Nat) : Int)) = (0 : Int)) ∧ ((¬ (mayF ((lessF (s))) ((((1 + (one.toNat % 3)) : Nat) : Int)) = (0 : Int))) ∨ ((decide (((viewS ((lessF (s))) ((((1 + (one.toNat % 3)) : Nat) : Int)))) = ((lessF (s))))) = true))) ∧ (viewE ((viewS ((lessF (s))) ((((1 + (one.toNat % 3)) : Nat) : Int)))) ((((1 + (two.toNat % 3)) : Nat) : Int)) = (0 : Int)) := ⟨⟨of_decide_eq_true (band_t (band_t hb103).1).1, Or.imp (fun h => of_decide_eq_false (bnot_t h)) (fun h => h) (bor_t (band_t (band_t hb103).1).2)⟩, of_decide_eq_true (band_t hb103).2⟩
 refine WO.on rfl rfl hb103 ?_
 refine WO.v (R.move rfl) rfl ?_
 refine WO.on rfl rfl hb103 ?_
 refine WO.v (R.eql rfl rfl) rfl ?_
 refine WO.v (R.pickT rfl hb103 rfl) rfl ?_
 refine WO.nil ?_
 exact WX.cutDoneP 3 rfl rfl ⟨⟨_, rfl, vb (band_on hb103)⟩, trivial⟩ (rfl)
 have phb103 : ((¬ (mayF ((viewS ((lessF (s))) ((((1 + (one.toNat % 3)) : Nat) : Int)))) ((((1 + (one.toNat % 3)) : Nat) : Int)) = (0 : Int))) ∨ ((mayF ((lessF (s))) ((((1 + (one.toNat % 3)) : Nat) : Int)) = (0 : Int)) ∧ ((decide (((viewS ((lessF (s))) ((((1 + (one.toNat % 3)) : Nat) : Int)))) = ((lessF (s))))) = false))) ∨ (¬ (viewE ((viewS ((lessF (s))) ((((1 + (one.toNat % 3)) : Nat) : Int)))) ((((1 + (two.toNat % 3)) : Nat) : Int)) = (0 : Int))) := Or.imp (fun h => Or.imp (fun h => of_decide_eq_false h) (fun h => ⟨of_decide_eq_true (bnot_f (bor_f h).1), (bor_f h).2⟩) (band_f h)) (fun h => of_decide_eq_false h) (band_f hb103)
 refine WO.off rfl rfl hb103 rfl ?_
 refine WO.off rfl rfl hb103 rfl ?_
 refine WO.v (R.pickF rfl hb103 rfl) rfl ?_
 refine WO.nil ?_
 exact WX.cutDoneP 3 rfl rfl ⟨⟨_, rfl, vb (band_off hb103)⟩, trivial⟩ (rfl)
 rintro _ rfl
 refine WO.v (R.move rfl) rfl ?_
 refine WO.cutP 4 [(91, (.bool (((((decide (mayF ((viewS ((lessF (s))) ((((1 + (one.toNat % 3)) : Nat) : Int)))) ((((1 + (one.toNat % 3)) : Nat) : Int)) = (0 : Int))) && ((!(decide (mayF ((lessF (s))) ((((1 + (one.toNat % 3)) : Nat) : Int)) = (0 : Int)))) || (decide (((viewS ((lessF (s))) ((((1 + (one.toNat % 3)) : Nat) : Int)))) = ((lessF (s))))))) && (decide (viewE ((viewS ((lessF (s))) ((((1 + (one.toNat % 3)) : Nat) : Int)))) ((((1 + (two.toNat % 3)) : Nat) : Int)) = (0 : Int)))) && (decide (viewE ((lessF (s))) ((min (((1 + (one.toNat % 3)) : Nat) : Int) (((1 + (two.toNat % 3)) : Nat) : Int))) = (0 : Int)))) && (decide (((viewS ((viewS ((lessF (s))) ((((1 + (one.toNat % 3)) : Nat) : Int)))) ((((1 + (two.toNat % 3)) : Nat) : Int)))) = ((viewS ((lessF (s))) ((min (((1 + (one.toNat % 3)) : Nat) : Int) (((1 + (two.toNat % 3)) : Nat) : Int))))))))))] (fun w' => Kp [] w99 w') ?_ ?_
 rcases Bool.eq_false_or_eq_true ((((decide (mayF ((viewS ((lessF (s))) ((((1 + (one.toNat % 3)) : Nat) : Int)))) ((((1 + (one.toNat % 3)) : Nat) : Int)) = (0 : Int))) && ((!(decide (mayF ((lessF (s))) ((((1 + (one.toNat % 3)) : Nat) : Int)) = (0 : Int)))) || (decide (((viewS ((lessF (s))) ((((1 + (one.toNat % 3)) : Nat) : Int)))) = ((lessF (s))))))) && (decide (viewE ((viewS ((lessF (s))) ((((1 + (one.toNat % 3)) : Nat) : Int)))) ((((1 + (two.toNat % 3)) : Nat) : Int)) = (0 : Int)))) && (decide (viewE ((lessF (s))) ((min (((1 + (one.toNat % 3)) : Nat) : Int) (((1 + (two.toNat % 3)) : Nat) : Int))) = (0 : Int)))) with hb104 | hb104
 have phb104 : (((mayF ((viewS ((lessF (s))) ((((1 + (one.toNat % 3)) : Nat) : Int)))) ((((1 + (one.toNat % 3)) : Nat) : Int)) = (0 : Int)) ∧ ((¬ (mayF ((lessF (s))) ((((1 + (one.toNat % 3)) : Nat) : Int)) = (0 : Int))) ∨ ((decide (((viewS ((lessF (s))) ((((1 + (one.toNat % 3)) : Nat) : Int)))) = ((lessF (s))))) = true))) ∧ (viewE ((viewS ((lessF (s))) ((((1 + (one.toNat % 3)) : Nat) : Int)))) ((((1 + (two.toNat % 3)) : Nat) : Int)) = (0 : Int))) ∧ (viewE ((lessF (s))) ((min (((1 + (one.toNat % 3)) : Nat) : Int) (((1 + (two.toNat % 3)) : Nat) : Int))) = (0 : Int)) := ⟨⟨⟨of_decide_eq_true (band_t (band_t (band_t hb104).1).1).1, Or.imp (fun h => of_decide_eq_false (bnot_t h)) (fun h => h) (bor_t (band_t (band_t (band_t hb104).1).1).2)⟩, of_decide_eq_true (band_t (band_t hb104).1).2⟩, of_decide_eq_true (band_t hb104).2⟩
 refine WO.on rfl rfl hb104 ?_
 have B105 := ((((((B73).kp0 k75).kp0 n91.kp).kp1 k92 (by omega)).kp0 k94).kp0 k97).kp0 k99
 refine WO.v (R.loadBN (vs := [_, _, _, _, _, _, _]) rfl B105 rfl Try.underlying34 rfl sz34) rfl ?_
 refine WO.on rfl rfl hb104 ?_
 have B106 := (((B92).kp0 k94).kp0 k97).kp0 k99
 refine WO.v (R.loadBN (vs := [_, _, _, _, _, _, _]) rfl B106 rfl Try.underlying34 rfl sz34) rfl ?_
 refine WO.on rfl rfl hb104 ?_
 refine WO.c (E.call rfl rfl Try.func14 rfl rfl) (same7_s (s := (viewS ((viewS ((lessF (s))) ((((1 + (one.toNat % 3)) : Nat) : Int)))) ((((1 + (two.toNat % 3)) : Nat) : Int)))) (t := (viewS ((lessF (s))) ((min (((1 + (one.toNat % 3)) : Nat) : Int) (((1 + (two.toNat % 3)) : Nat) : Int))))) (State.mk_ (i59) (i60) (i61) (i62) (((sl_kp0 (sl_kp0 (sl_kp0 (sl_kp (sl_kp0 (sl_kp0 (sl_kp (sl_kp0 (s65) n72.kp (by omega)) k73 (by omega) (mem1 (by omega))) k75 (by omega)) n91.kp (by omega)) k92 (by omega) (mem1 (by omega))) k94 (by omega)) k97 (by omega)) k99 (by omega)).weak).mono (lo' := 0) (hi' := w99.heap.size) (Nat.zero_le _) (by omega)) (((sl_kp0 (sl_kp0 (sl_kp0 (sl_kp (sl_kp0 (sl_kp0 (sl_kp (sl_kp0 (s68) n72.kp (by omega)) k73 (by omega) (mem1 (by omega))) k75 (by omega)) n91.kp (by omega)) k92 (by omega) (mem1 (by omega))) k94 (by omega)) k97 (by omega)) k99 (by omega)).weak).mono (lo' := 0) (hi' := w99.heap.size) (Nat.zero_le _) (by omega)) (((sl_kp0 (sl_kp0 (sl_kp0 (sl_kp (sl_kp0 (sl_kp0 (sl_kp (sl_kp0 (s71) n72.kp (by omega)) k73 (by omega) (mem1 (by omega))) k75 (by omega)) n91.kp (by omega)) k92 (by omega) (mem1 (by omega))) k94 (by omega)) k97 (by omega)) k99 (by omega)).weak).mono (lo' := 0) (hi' := w99.heap.size) (Nat.zero_le _) (by omega))) (State.mk_ (i78) (i79) (i80) (i81) (((sl_kp0 (sl_kp0 (sl_kp0 (sl_kp (sl_kp0 (s84) n91.kp (by omega)) k92 (by omega) (mem1 (by omega))) k94 (by omega)) k97 (by omega)) k99 (by omega)).weak).mono (lo' := 0) (hi' := w99.heap.size) (Nat.zero_le _) (by omega)) (((sl_kp0 (sl_kp0 (sl_kp0 (sl_kp (sl_kp0 (s87) n91.kp (by omega)) k92 (by omega) (mem1 (by omega))) k94 (by omega)) k97 (by omega)) k99 (by omega)).weak).mono (lo' := 0) (hi' := w99.heap.size) (Nat.zero_le _) (by omega)) (((sl_kp0 (sl_kp0 (sl_kp0 (sl_kp (sl_kp0 (s90) n91.kp (by omega)) k92 (by omega) (mem1 (by omega))) k94 (by omega)) k97 (by omega)) k99 (by omega)).weak).mono (lo' := 0) (hi' := w99.heap.size) (Nat.zero_le _) (by omega)))) rfl ?_
 rintro _ w107 ⟨rfl, k107⟩
 have z107 : w99.heap.size ≤ w107.heap.size := k107.size
 have b107 := old_kp0 b99 k107
 have y107 : w.heap.size ≤ w107.heap.size := b107.size
 refine WO.v (R.pickT rfl hb104 rfl) rfl ?_
 refine WO.nil ?_
 exact WX.cutDoneP 4 rfl rfl ⟨⟨_, rfl, vb (band_on hb104)⟩, trivial⟩ ((Kp.refl _).step k107 (by simp))
 have phb104 : (((¬ (mayF ((viewS ((lessF (s))) ((((1 + (one.toNat % 3)) : Nat) : Int)))) ((((1 + (one.toNat % 3)) : Nat) : Int)) = (0 : Int))) ∨ ((mayF ((lessF (s))) ((((1 + (one.toNat % 3)) : Nat) : Int)) = (0 : Int)) ∧ ((decide (((viewS ((lessF (s))) ((((1 + (one.toNat % 3)) : Nat) : Int)))) = ((lessF (s))))) = false))) ∨ (¬ (viewE ((viewS ((lessF (s))) ((((1 + (one.toNat % 3)) : Nat) : Int)))) ((((1 + (two.toNat % 3)) : Nat) : Int)) = (0 : Int)))) ∨ (¬ (viewE ((lessF (s))) ((min (((1 + (one.toNat % 3)) : Nat) : Int) (((1 + (two.toNat % 3)) : Nat) : Int))) = (0 : Int))) := Or.imp (fun h => Or.imp (fun h => Or.imp (fun h => of_decide_eq_false h) (fun h => ⟨of_decide_eq_true (bnot_f (bor_f h).1), (bor_f h).2⟩) (band_f h)) (fun h => of_decide_eq_false h) (band_f h)) (fun h => of_decide_eq_false h) (band_f hb104)
 refine WO.off rfl rfl hb104 rfl ?_
 refine WO.off rfl rfl hb104 rfl ?_
 refine WO.off rfl rfl hb104 rfl ?_
 refine WO.v (R.pickF rfl hb104 rfl) rfl ?_
 refine WO.nil ?_
 exact WX.cutDoneP 4 rfl rfl ⟨⟨_, rfl, vb (band_off hb104)⟩, trivial⟩ (Kp.refl _)
 intro w108 k108
 have z108 : w99.heap.size ≤ w108.heap.size := k108.size
 have b108 := old_kp0 b99 k108
 have y108 : w.heap.size ≤ w108.heap.size := b108.size
 refine WO.v (R.assign rfl) rfl ?_
 refine WO.nil ?_
 refine WX.sel [0, 1, 2, 3, 6, 7, 8, 9, 10, 11, 12, 13, 14, 15, 16, 17, 18, 37] rfl ?_
 refine WX.next ?_
 refine WC.ret ?_
 have e0 : (((((decide (mayF ((viewS ((lessF (s))) ((((1 + (one.toNat % 3)) : Nat) : Int)))) ((((1 + (one.toNat % 3)) : Nat) : Int)) = (0 : Int))) && ((!(decide (mayF ((lessF (s))) ((((1 + (one.toNat % 3)) : Nat) : Int)) = (0 : Int)))) || (decide (((viewS ((lessF (s))) ((((1 + (one.toNat % 3)) : Nat) : Int)))) = ((lessF (s))))))) && (decide (viewE ((viewS ((lessF (s))) ((((1 + (one.toNat % 3)) : Nat) : Int)))) ((((1 + (two.toNat % 3)) : Nat) : Int)) = (0 : Int)))) && (decide (viewE ((lessF (s))) ((min (((1 + (one.toNat % 3)) : Nat) : Int) (((1 + (two.toNat % 3)) : Nat) : Int))) = (0 : Int)))) && (decide (((viewS ((viewS ((lessF (s))) ((((1 + (one.toNat % 3)) : Nat) : Int)))) ((((1 + (two.toNat % 3)) : Nat) : Int)))) = ((viewS ((lessF (s))) ((min (((1 + (one.toNat % 3)) : Nat) : Int) (((1 + (two.toNat % 3)) : Nat) : Int)))))))) = true := by first | exact vw1 (by omega) q53 | exact vw2 (by omega) (by omega) q53
 refine WX.ret1 Try.results5 rfl ?_
 exact ⟨by rw [e0], Kp.of_below b108⟩


end Go.Proofs.Ytaenkjlhdlddgaa
