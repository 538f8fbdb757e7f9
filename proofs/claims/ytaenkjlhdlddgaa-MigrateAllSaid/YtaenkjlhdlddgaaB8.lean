/- Contracts of functions, walked operation by operation. -/
import Derived.Test.YtaenkjlhdlddgaaB7
import Derived.Test.YtaenkjlhdlddgaaInl
namespace Go.Proofs.Ytaenkjlhdlddgaa
open Go.RowKit

def heldV (v : Int) (x : Snap) : Snap := if v < 2 then ⟨x.id, x.set, x.chunks, false, x.tag⟩ else x
def tagV (v : Int) (x : Snap) : Snap := if v < 3 then ⟨x.id, x.set, x.chunks, x.held, ⟨[]⟩⟩ else x
def hideV (v : Int) (x : Snap) : Snap := ⟨x.id, x.set, x.chunks, (if v < 2 then false else x.held), (if v < 3 then ⟨[]⟩ else x.tag)⟩
def viewBad (s : State) (v : Int) : Bool := !(inB v 1 3) || !(decide (mayF s 3 = 0))
def viewE (s : State) (v : Int) : Int := if viewBad s v = true then 1 else 0
def viewT (s : State) (v : Int) : State := ⟨s.version, s.next, s.keep, (if v < 3 then 0 else s.quota), s.sess, s.opens, s.snaps.map (hideV v)⟩
def viewS (s : State) (v : Int) : State := if viewBad s v = true then ⟨0, 0, 0, 0, [], [], []⟩ else viewT s v
theorem viewE1 {s : State} {v : Int} (h : viewBad s v = true) : 1 = viewE s v := by rw [viewE, if_pos h]
theorem viewE2 {s : State} {v : Int} (h : viewBad s v = false) : 0 = viewE s v := by rw [viewE, h, if_neg (by decide)]
theorem viewS1 {s : State} {v : Int} (h : viewBad s v = true) : (⟨0, 0, 0, 0, [], [], []⟩ : State) = viewS s v := by rw [viewS, if_pos h]
theorem viewS2 {s : State} {v : Int} (h : viewBad s v = false) : viewT s v = viewS s v := by rw [viewS, h, if_neg (by decide)]
theorem hideV3 {v : Int} (h : ¬ v < 3) (x : Snap) : hideV v x = x := by simp [hideV, h, show ¬ v < 2 by omega]
theorem hide_0 {v : Int} {l : List Snap} {k : Nat} (h : ¬ v < 3) (hk : k < l.length) : upto (hideV v) l k = upto (hideV v) l (k + 1) := upto_skip hk fun x _ => hideV3 h x
theorem hide_1 {v : Int} {l : List Snap} {k : Nat} {x : Snap} (h : v < 3) (h2 : ¬ v < 2) (hx : (upto (hideV v) l k)[k]? = some x) : (upto (hideV v) l k).set k ⟨x.id, x.set, x.chunks, x.held, ⟨[]⟩⟩ = upto (hideV v) l (k + 1) := by
  rw [← upto_set hx]; simp [hideV, h, h2]
theorem hide_2 {v : Int} {l : List Snap} {k : Nat} {x y : Snap} (h2 : v < 2) (hx : (upto (hideV v) l k)[k]? = some x) (hy : ((upto (hideV v) l k).set k ⟨x.id, x.set, x.chunks, false, x.tag⟩)[k]? = some y) :
    ((upto (hideV v) l k).set k ⟨x.id, x.set, x.chunks, false, x.tag⟩).set k ⟨y.id, y.set, y.chunks, y.held, ⟨[]⟩⟩ = upto (hideV v) l (k + 1) := by
  have := set_get_eq hy; subst this
  rw [List.set_set, ← upto_set hx]; simp [hideV, h2, show v < 3 by omega]
theorem view_3 {s : State} {v : Int} (h : ¬ v < 3) {l : List Snap} (hl : l = s.snaps) : (⟨s.version, s.next, s.keep, s.quota, s.sess, s.opens, l⟩ : State) = viewT s v := by
  subst hl
  have : hideV v = id := funext fun x => hideV3 h x
  simp [viewT, h, this]

theorem fe46_3 {n : Nat} {fr : Fr} {w : World} {ty : TypeId} {x : Operand} {a : Addr} (hx : ev fr x = some (.pointer (some a))) : Runs Try.prog n fr w (.fieldAddr 46 x 3) ty (.pointer (some (a.add 3))) w := R.fieldAddr hx Try.underlying46 rfl rfl sz4
theorem fe46_4 {n : Nat} {fr : Fr} {w : World} {ty : TypeId} {x : Operand} {a : Addr} (hx : ev fr x = some (.pointer (some a))) : Runs Try.prog n fr w (.fieldAddr 46 x 4) ty (.pointer (some (a.add 4))) w := R.fieldAddr hx Try.underlying46 rfl rfl sz9
theorem set_Snap_3 {o : Bool} {lo hi : Nat} {w : World} {cs : List Value} {x : Snap} {y : Bool} (h : Rp.rp o lo hi w cs x)  : Rp.rp o lo hi w (cs.set 3 (.bool y)) (⟨x.id, x.set, x.chunks, y, x.tag⟩ : Snap) := by
  obtain ⟨_, _, rfl, h0, h1, h2, h4⟩ := Snap.el h
  exact Snap.mk_ h0 h1 h2 h4
theorem set_Snap_4 {o : Bool} {lo hi : Nat} {w : World} {cs : List Value} {x : Snap} {y : Str} (h : Rp.rp o lo hi w cs x) (hn : y.b.length ≤ 140737488355328) : Rp.rp o lo hi w (cs.set 4 (y.val)) (⟨x.id, x.set, x.chunks, x.held, y⟩ : Snap) := by
  obtain ⟨_, _, rfl, h0, h1, h2, h4⟩ := Snap.el h
  exact Snap.mk_ h0 h1 h2 hn

set_option maxRecDepth 100000 in
set_option maxHeartbeats 400000 in
theorem upR_s {w : World} {cs_s : List Value} {s : State} (v : Int) (h_s : Rp.rp false 0 w.heap.size w cs_s s) (i_v : I64 v) :
    Ret Try.prog 17 [.agg cs_s.toArray, .int .i64 v].toArray w fun r w' => ∃ (rs0 : List Value), r = .tuple #[.agg rs0.toArray, .int .i64 (upE s v)] ∧ Rp.rp true w.heap.size w'.heap.size w' rs0 (upS s v) ∧ Kp [] w w' := by
 obtain ⟨a5, c6, a8, c9, a11, c12, rfl, i1, i2, i3, i4, s7, s10, s13⟩ := State.el h_s
 have ls7 : (s.sess).length * 32 ≤ 140737488355328 := s7.lenle
 have ls10 : (s.opens).length * 16 ≤ 140737488355328 := s10.lenle
 have ls13 : (s.snaps).length * 64 ≤ 140737488355328 := s13.lenle
 refine Ret.enter Try.func17 rfl Try.ntmps17 rfl rfl ?_
 refine WC.sel [0, 1] rfl ?_
 refine WC.seq ?_
 refine WC.region ?_
 refine WO.box rfl rfl rfl ?_
 intro w14 n14
 have z14 : w.heap.size < w14.heap.size := n14.lt
 have b14 := old_kp0 (Below.refl w.heap.size w) n14.kp
 have y14 : w.heap.size ≤ w14.heap.size := b14.size
 refine WO.alloc zr34 rfl ?_
 intro w15 n15
 have z15 : w14.heap.size < w15.heap.size := n15.lt
 have b15 := old_kp0 b14 n15.kp
 have y15 : w.heap.size ≤ w15.heap.size := b15.size
 refine WO.v (R.assign rfl) rfl ?_
 refine WO.nil ?_
 refine WX.sel [0, 1, 2, 4, 5] rfl ?_
 refine WX.next ?_
 refine WC.seq ?_
 refine WC.seq ?_
 refine WC.region ?_
 refine WO.v (R.move rfl) rfl ?_
 refine WO.c (E.call rfl rfl Try.func32 rfl rfl) (known_s (n := v) ) rfl ?_
 rintro _ _ ⟨rfl, rfl⟩
 refine WO.v (R.not rfl) rfl ?_
 refine WO.v (R.move rfl) rfl ?_
 refine WO.cutP 6 [(16, (.bool ((!((decide (1 ≤ (v))) && (decide ((v) ≤ 3)))) || (!(decide (mayF (s) (s.version) = (0 : Int)))))))] (fun w' => Kp [] w15 w') ?_ ?_
 rcases Bool.eq_false_or_eq_true (!((decide (1 ≤ (v))) && (decide ((v) ≤ 3)))) with hb16 | hb16
 have phb16 : (¬ (1 ≤ (v))) ∨ (¬ ((v) ≤ 3)) := Or.imp (fun h => of_decide_eq_false h) (fun h => of_decide_eq_false h) (band_f (bnot_t hb16))
 refine WO.off rfl rfl hb16 rfl ?_
 refine WO.off rfl rfl hb16 rfl ?_
 refine WO.off rfl rfl hb16 rfl ?_
 refine WO.off rfl rfl hb16 rfl ?_
 refine WO.off rfl rfl hb16 rfl ?_
 refine WO.v (R.pickT rfl hb16 rfl) rfl ?_
 refine WO.nil ?_
 exact WX.cutDoneP 6 rfl rfl ⟨⟨_, rfl, vb (bor_on hb16)⟩, trivial⟩ (Kp.refl _)
 have phb16 : (1 ≤ (v)) ∧ ((v) ≤ 3) := ⟨of_decide_eq_true (band_t (bnot_f hb16)).1, of_decide_eq_true (band_t (bnot_f hb16)).2⟩
 refine WO.on rfl rfl hb16 ?_
 have B17 := (n14.blk).kp0 n15.kp
 refine WO.v (R.loadBN (vs := [_, _, _, _, _, _, _]) rfl B17 rfl Try.underlying34 rfl sz34) rfl ?_
 refine WO.on rfl rfl hb16 ?_
 refine WO.v (fa34_0 rfl) rfl ?_
 refine WO.on rfl rfl hb16 ?_
 refine WO.v (R.loadB rfl B17 rfl Try.underlying3 rfl) rfl ?_
 refine WO.on rfl rfl hb16 ?_
 refine WO.c (E.call rfl rfl Try.func13 rfl rfl) (may7_s (v := s.version) (s := s) (State.mk_ (i1) (i2) (i3) (i4) ((sl_old s7 b15).mono (lo' := 0) (hi' := w15.heap.size) (Nat.zero_le _) (by omega)) ((sl_old s10 b15).mono (lo' := 0) (hi' := w15.heap.size) (Nat.zero_le _) (by omega)) ((sl_old s13 b15).mono (lo' := 0) (hi' := w15.heap.size) (Nat.zero_le _) (by omega)))) rfl ?_
 rintro _ w18 ⟨rfl, k18⟩
 have z18 : w15.heap.size ≤ w18.heap.size := k18.size
 have b18 := old_kp0 b15 k18
 have y18 : w.heap.size ≤ w18.heap.size := b18.size
 refine WO.on rfl rfl hb16 ?_
 refine WO.v (R.neq rfl rfl) rfl ?_
 refine WO.v (R.pickF rfl hb16 rfl) rfl ?_
 refine WO.nil ?_
 exact WX.cutDoneP 6 rfl rfl ⟨⟨_, rfl, vb (bor_off hb16)⟩, trivial⟩ ((Kp.refl _).step k18 (by simp))
 intro w19 k19
 have z19 : w15.heap.size ≤ w19.heap.size := k19.size
 have b19 := old_kp0 b15 k19
 have y19 : w.heap.size ≤ w19.heap.size := b19.size
 refine WO.nil ?_
 refine WX.sel [0, 1, 2, 4, 5, 16] rfl ?_
 refine WX.next ?_
 refine WC.cond rfl (fun q20 => ?_) (fun q20 => ?_)
 have p20 : ((¬ (1 ≤ (v))) ∨ (¬ ((v) ≤ 3))) ∨ (¬ (mayF (s) (s.version) = (0 : Int))) := Or.imp (fun h => Or.imp (fun h => of_decide_eq_false h) (fun h => of_decide_eq_false h) (band_f (bnot_t h))) (fun h => of_decide_eq_false (bnot_t h)) (bor_t q20)
 refine WC.seq ?_
 refine WC.region ?_
 refine WO.v (R.buildL (parts := []) (cells := #[(.int .i64 (0 : Int)), (.int .i64 (0 : Int)), (.int .i64 (0 : Int)), (.int .i64 (0 : Int)), (.slice none 0 0), (.slice none 0 0), (.slice none 0 0)]) rfl (by kernel_rfl)) rfl ?_
 have B21 := (n15.blk).kp0 k19
 refine WO.storeBN rfl rfl B21 rfl (by simp [Value.oneCell']) sz34 ?_
 intro w22 k22 B22 z_22
 have z22 : w19.heap.size = w22.heap.size := z_22.symm
 have b22 := old_kp b19 k22 (mem1 (by omega))
 have y22 : w.heap.size ≤ w22.heap.size := b22.size
 refine WO.v (R.assign rfl) rfl ?_
 refine WO.nil ?_
 refine WX.sel [0, 1, 2, 4, 5, 16] rfl ?_
 refine WX.next ?_
 refine WC.ret ?_
 refine WX.thenRet ?_
 have e0 : (⟨(0 : Int), (0 : Int), (0 : Int), (0 : Int), [], [], []⟩ : State) = (upS s v) := by first | exact upS1 q20 | exact upS2 q20 (by omega) | exact upS3 q20 (by omega)
 have f0 : Rp.rp true w.heap.size w22.heap.size w22 [(.int .i64 (0 : Int)), (.int .i64 (0 : Int)), (.int .i64 (0 : Int)), (.int .i64 (0 : Int)), (.slice none 0 0), (.slice none 0 0), (.slice none 0 0)] (⟨(0 : Int), (0 : Int), (0 : Int), (0 : Int), [], [], []⟩ : State) := (State.mk_ (show I64 0 from ⟨by omega, by omega⟩) (show I64 0 from ⟨by omega, by omega⟩) (show I64 0 from ⟨by omega, by omega⟩) (show I64 0 from ⟨by omega, by omega⟩) (x4 := []) (Sl.nil _ _ _ _) (x5 := []) (Sl.nil _ _ _ _) (x6 := []) (Sl.nil _ _ _ _))
 have e1 : (1 : Int) = (upE s v) := by first | exact upE1 q20 | exact upE2 q20 (by omega) | exact upE3 q20 (by omega)
 refine WX.retCT Try.results17 rfl rfl B22 Try.underlying34 rfl sz34 ?_
 exact ⟨[(.int .i64 (0 : Int)), (.int .i64 (0 : Int)), (.int .i64 (0 : Int)), (.int .i64 (0 : Int)), (.slice none 0 0), (.slice none 0 0), (.slice none 0 0)], by rw [e1], (Eq.mp (congrArg (Rp.rp _ _ _ _ _) e0) f0), Kp.of_below b22⟩
 have p20 : ((1 ≤ (v)) ∧ ((v) ≤ 3)) ∧ (mayF (s) (s.version) = (0 : Int)) := ⟨⟨of_decide_eq_true (band_t (bnot_f (bor_f q20).1)).1, of_decide_eq_true (band_t (bnot_f (bor_f q20).1)).2⟩, of_decide_eq_true (bnot_f (bor_f q20).2)⟩
 refine WC.skip ?_
 refine WX.next ?_
 refine WC.seq ?_
 refine WC.seq ?_
 refine WC.region ?_
 refine WO.v (R.move rfl) rfl ?_
 refine WO.v (fa34_0 rfl) rfl ?_
 have B23 := ((n14.blk).kp0 n15.kp).kp0 k19
 refine WO.v (R.loadB rfl B23 rfl Try.underlying3 rfl) rfl ?_
 refine WO.v (R.lss rfl rfl) rfl ?_
 refine WO.nil ?_
 refine WX.sel [0, 1, 2, 4, 5, 16, 21] rfl ?_
 refine WX.next ?_
 refine WC.cond rfl (fun q24 => ?_) (fun q24 => ?_)
 have p24 : v < s.version := of_decide_eq_true q24
 refine WC.seq ?_
 refine WC.region ?_
 refine WO.v (R.buildL (parts := []) (cells := #[(.int .i64 (0 : Int)), (.int .i64 (0 : Int)), (.int .i64 (0 : Int)), (.int .i64 (0 : Int)), (.slice none 0 0), (.slice none 0 0), (.slice none 0 0)]) rfl (by kernel_rfl)) rfl ?_
 have B25 := (n15.blk).kp0 k19
 refine WO.storeBN rfl rfl B25 rfl (by simp [Value.oneCell']) sz34 ?_
 intro w26 k26 B26 z_26
 have z26 : w19.heap.size = w26.heap.size := z_26.symm
 have b26 := old_kp b19 k26 (mem1 (by omega))
 have y26 : w.heap.size ≤ w26.heap.size := b26.size
 refine WO.v (R.assign rfl) rfl ?_
 refine WO.nil ?_
 refine WX.sel [0, 1, 2, 4, 5, 16, 21] rfl ?_
 refine WX.next ?_
 refine WC.ret ?_
 refine WX.thenRet ?_
 have e0 : (⟨(0 : Int), (0 : Int), (0 : Int), (0 : Int), [], [], []⟩ : State) = (upS s v) := by first | exact upS1 q20 | exact upS2 q20 (by omega) | exact upS3 q20 (by omega)
 have f0 : Rp.rp true w.heap.size w26.heap.size w26 [(.int .i64 (0 : Int)), (.int .i64 (0 : Int)), (.int .i64 (0 : Int)), (.int .i64 (0 : Int)), (.slice none 0 0), (.slice none 0 0), (.slice none 0 0)] (⟨(0 : Int), (0 : Int), (0 : Int), (0 : Int), [], [], []⟩ : State) := (State.mk_ (show I64 0 from ⟨by omega, by omega⟩) (show I64 0 from ⟨by omega, by omega⟩) (show I64 0 from ⟨by omega, by omega⟩) (show I64 0 from ⟨by omega, by omega⟩) (x4 := []) (Sl.nil _ _ _ _) (x5 := []) (Sl.nil _ _ _ _) (x6 := []) (Sl.nil _ _ _ _))
 have e1 : (32 : Int) = (upE s v) := by first | exact upE1 q20 | exact upE2 q20 (by omega) | exact upE3 q20 (by omega)
 refine WX.retCT Try.results17 rfl rfl B26 Try.underlying34 rfl sz34 ?_
 exact ⟨[(.int .i64 (0 : Int)), (.int .i64 (0 : Int)), (.int .i64 (0 : Int)), (.int .i64 (0 : Int)), (.slice none 0 0), (.slice none 0 0), (.slice none 0 0)], by rw [e1], (Eq.mp (congrArg (Rp.rp _ _ _ _ _) e0) f0), Kp.of_below b26⟩
 have p24 : ¬ (v < s.version) := of_decide_eq_false q24
 refine WC.skip ?_
 refine WX.next ?_
 refine WC.seq ?_
 refine WC.region ?_
 refine WO.v (R.loadBN (vs := [_, _, _, _, _, _, _]) rfl B23 rfl Try.underlying34 rfl sz34) rfl ?_
 refine WO.c (E.call rfl rfl Try.func33 rfl rfl) (copy7_s (s := s) (State.mk_ (i1) (i2) (i3) (i4) ((sl_old s7 b19).mono (lo' := 0) (hi' := w19.heap.size) (Nat.zero_le _) (by omega)) ((sl_old s10 b19).mono (lo' := 0) (hi' := w19.heap.size) (Nat.zero_le _) (by omega)) ((sl_old s13 b19).mono (lo' := 0) (hi' := w19.heap.size) (Nat.zero_le _) (by omega)))) rfl ?_
 rintro _ w27 ⟨cs28, rfl, r29, k27⟩
 have z27 : w19.heap.size ≤ w27.heap.size := k27.size
 have b27 := old_kp0 b19 k27
 have y27 : w.heap.size ≤ w27.heap.size := b27.size
 obtain ⟨a34, c35, a37, c38, a40, c41, rfl, i30, i31, i32, i33, s36, s39, s42⟩ := State.el r29
 have ls36 : (((s)).sess).length * 32 ≤ 140737488355328 := s36.lenle
 have ls39 : (((s)).opens).length * 16 ≤ 140737488355328 := s39.lenle
 have ls42 : (((s)).snaps).length * 64 ≤ 140737488355328 := s42.lenle
 refine WO.alloc zr34 rfl ?_
 intro w43 n43
 have z43 : w27.heap.size < w43.heap.size := n43.lt
 have b43 := old_kp0 b27 n43.kp
 have y43 : w.heap.size ≤ w43.heap.size := b43.size
 refine WO.storeBN rfl rfl n43.blk rfl (by simp [Value.oneCell']) sz34 ?_
 intro w44 k44 B44 z_44
 have z44 : w43.heap.size = w44.heap.size := z_44.symm
 have b44 := old_kp b43 k44 (mem1 (by omega))
 have y44 : w.heap.size ≤ w44.heap.size := b44.size
 refine WO.nil ?_
 refine WX.sel [0, 1, 2, 4, 5, 6, 16, 21] rfl ?_
 refine WX.next ?_
 refine WC.seq ?_
 refine WC.region ?_
 refine WO.v (R.move rfl) rfl ?_
 refine WO.v (fa34_0 rfl) rfl ?_
 refine WO.storeB (cs' := [_, _, _, _, _, _, _]) rfl rfl B44 rfl rfl sz3 rfl ?_
 intro w45 k45 B45 z_45
 have z45 : w44.heap.size = w45.heap.size := z_45.symm
 have b45 := old_kp b44 k45 (mem1 (by omega))
 have y45 : w.heap.size ≤ w45.heap.size := b45.size
 refine WO.nil ?_
 refine WX.sel [0, 1, 2, 4, 5, 6, 16, 21] rfl ?_
 refine WX.next ?_
 refine WC.seq ?_
 refine WC.region ?_
 refine WO.v (R.loadBN (vs := [_, _, _, _, _, _, _]) rfl B45 rfl Try.underlying34 rfl sz34) rfl ?_
 have B46 := (((((n15.blk).kp0 k19).kp0 k27).kp0 n43.kp).kp1 k44 (by omega)).kp1 k45 (by omega)
 refine WO.storeBN rfl rfl B46 rfl (by simp [Value.oneCell']) sz34 ?_
 intro w47 k47 B47 z_47
 have z47 : w45.heap.size = w47.heap.size := z_47.symm
 have b47 := old_kp b45 k47 (mem1 (by omega))
 have y47 : w.heap.size ≤ w47.heap.size := b47.size
 refine WO.v (R.assign rfl) rfl ?_
 refine WO.nil ?_
 refine WX.sel [0, 1, 2, 4, 5, 6, 16, 21] rfl ?_
 refine WX.next ?_
 refine WC.ret ?_
 have e0 : (⟨v, ((s)).next, ((s)).keep, ((s)).quota, ((s)).sess, ((s)).opens, ((s)).snaps⟩ : State) = (upS s v) := by first | exact upS1 q20 | exact upS2 q20 (by omega) | exact upS3 q20 (by omega)
 have f0 : Rp.rp true w.heap.size w47.heap.size w47 [(.int .i64 v), (.int .i64 ((s)).next), (.int .i64 ((s)).keep), (.int .i64 ((s)).quota), (.slice a34 ((s)).sess.length c35), (.slice a37 ((s)).opens.length c38), (.slice a40 ((s)).snaps.length c41)] (⟨v, ((s)).next, ((s)).keep, ((s)).quota, ((s)).sess, ((s)).opens, ((s)).snaps⟩ : State) := (State.mk_ (i_v) (i31) (i32) (i33) ((sl_kp (sl_kp (sl_kp (sl_kp0 (s36) n43.kp (by omega)) k44 (by omega) (mem1 (by omega))) k45 (by omega) (mem1 (by omega))) k47 (by omega) (mem1 (by omega))).mono (lo' := w.heap.size) (hi' := w47.heap.size) (by omega) (by omega)) ((sl_kp (sl_kp (sl_kp (sl_kp0 (s39) n43.kp (by omega)) k44 (by omega) (mem1 (by omega))) k45 (by omega) (mem1 (by omega))) k47 (by omega) (mem1 (by omega))).mono (lo' := w.heap.size) (hi' := w47.heap.size) (by omega) (by omega)) ((sl_kp (sl_kp (sl_kp (sl_kp0 (s42) n43.kp (by omega)) k44 (by omega) (mem1 (by omega))) k45 (by omega) (mem1 (by omega))) k47 (by omega) (mem1 (by omega))).mono (lo' := w.heap.size) (hi' := w47.heap.size) (by omega) (by omega)))
 have e1 : (0 : Int) = (upE s v) := by first | exact upE1 q20 | exact upE2 q20 (by omega) | exact upE3 q20 (by omega)
 refine WX.retCT Try.results17 rfl rfl B47 Try.underlying34 rfl sz34 ?_
 exact ⟨[(.int .i64 v), (.int .i64 ((s)).next), (.int .i64 ((s)).keep), (.int .i64 ((s)).quota), (.slice a34 ((s)).sess.length c35), (.slice a37 ((s)).opens.length c38), (.slice a40 ((s)).snaps.length c41)], by rw [e1], (Eq.mp (congrArg (Rp.rp _ _ _ _ _) e0) f0), Kp.of_below b47⟩

set_option maxRecDepth 100000 in
set_option maxHeartbeats 400000 in
theorem viewR_s {w : World} {cs_s : List Value} {s : State} (v : Int) (h_s : Rp.rp false 0 w.heap.size w cs_s s) :
    Ret Try.prog 18 [.agg cs_s.toArray, .int .i64 v].toArray w fun r w' => ∃ (rs0 : List Value), r = .tuple #[.agg rs0.toArray, .int .i64 (viewE s v)] ∧ Rp.rp true w.heap.size w'.heap.size w' rs0 (viewS s v) ∧ Kp [] w w' := by
 obtain ⟨a5, c6, a8, c9, a11, c12, rfl, i1, i2, i3, i4, s7, s10, s13⟩ := State.el h_s
 have ls7 : (s.sess).length * 32 ≤ 140737488355328 := s7.lenle
 have ls10 : (s.opens).length * 16 ≤ 140737488355328 := s10.lenle
 have ls13 : (s.snaps).length * 64 ≤ 140737488355328 := s13.lenle
 refine Ret.enter Try.func18 rfl Try.ntmps18 rfl rfl ?_
 refine WC.sel [0, 1] rfl ?_
 refine WC.seq ?_
 refine WC.region ?_
 refine WO.box rfl rfl rfl ?_
 intro w14 n14
 have z14 : w.heap.size < w14.heap.size := n14.lt
 have b14 := old_kp0 (Below.refl w.heap.size w) n14.kp
 have y14 : w.heap.size ≤ w14.heap.size := b14.size
 refine WO.alloc zr34 rfl ?_
 intro w15 n15
 have z15 : w14.heap.size < w15.heap.size := n15.lt
 have b15 := old_kp0 b14 n15.kp
 have y15 : w.heap.size ≤ w15.heap.size := b15.size
 refine WO.v (R.assign rfl) rfl ?_
 refine WO.nil ?_
 refine WX.sel [0, 1, 2, 4, 5] rfl ?_
 refine WX.next ?_
 refine WC.seq ?_
 refine WC.seq ?_
 refine WC.region ?_
 refine WO.v (R.move rfl) rfl ?_
 refine WO.c (E.call rfl rfl Try.func32 rfl rfl) (known_s (n := v) ) rfl ?_
 rintro _ _ ⟨rfl, rfl⟩
 refine WO.v (R.not rfl) rfl ?_
 refine WO.v (R.move rfl) rfl ?_
 refine WO.cutP 4 [(15, (.bool ((!((decide (1 ≤ (v))) && (decide ((v) ≤ 3)))) || (!(decide (mayF (s) ((3 : Int)) = (0 : Int)))))))] (fun w' => Kp [] w15 w') ?_ ?_
 rcases Bool.eq_false_or_eq_true (!((decide (1 ≤ (v))) && (decide ((v) ≤ 3)))) with hb16 | hb16
 have phb16 : (¬ (1 ≤ (v))) ∨ (¬ ((v) ≤ 3)) := Or.imp (fun h => of_decide_eq_false h) (fun h => of_decide_eq_false h) (band_f (bnot_t hb16))
 refine WO.off rfl rfl hb16 rfl ?_
 refine WO.off rfl rfl hb16 rfl ?_
 refine WO.off rfl rfl hb16 rfl ?_
 refine WO.v (R.pickT rfl hb16 rfl) rfl ?_
 refine WO.nil ?_
 exact WX.cutDoneP 4 rfl rfl ⟨⟨_, rfl, vb (bor_on hb16)⟩, trivial⟩ (Kp.refl _)
 have phb16 : (1 ≤ (v)) ∧ ((v) ≤ 3) := ⟨of_decide_eq_true (band_t (bnot_f hb16)).1, of_decide_eq_true (band_t (bnot_f hb16)).2⟩
 refine WO.on rfl rfl hb16 ?_
 have B17 := (n14.blk).kp0 n15.kp
 refine WO.v (R.loadBN (vs := [_, _, _, _, _, _, _]) rfl B17 rfl Try.underlying34 rfl sz34) rfl ?_
 refine WO.on rfl rfl hb16 ?_
 refine WO.c (E.call rfl rfl Try.func13 rfl rfl) (may7_s (v := (3 : Int)) (s := s) (State.mk_ (i1) (i2) (i3) (i4) ((sl_old s7 b15).mono (lo' := 0) (hi' := w15.heap.size) (Nat.zero_le _) (by omega)) ((sl_old s10 b15).mono (lo' := 0) (hi' := w15.heap.size) (Nat.zero_le _) (by omega)) ((sl_old s13 b15).mono (lo' := 0) (hi' := w15.heap.size) (Nat.zero_le _) (by omega)))) rfl ?_
 rintro _ w18 ⟨rfl, k18⟩
 have z18 : w15.heap.size ≤ w18.heap.size := k18.size
 have b18 := old_kp0 b15 k18
 have y18 : w.heap.size ≤ w18.heap.size := b18.size
 refine WO.on rfl rfl hb16 ?_
 refine WO.v (R.neq rfl rfl) rfl ?_
 refine WO.v (R.pickF rfl hb16 rfl) rfl ?_
 refine WO.nil ?_
 exact WX.cutDoneP 4 rfl rfl ⟨⟨_, rfl, vb (bor_off hb16)⟩, trivial⟩ ((Kp.refl _).step k18 (by simp))
 intro w19 k19
 have z19 : w15.heap.size ≤ w19.heap.size := k19.size
 have b19 := old_kp0 b15 k19
 have y19 : w.heap.size ≤ w19.heap.size := b19.size
 refine WO.nil ?_
 refine WX.sel [0, 1, 2, 4, 5, 15] rfl ?_
 refine WX.next ?_
 refine WC.cond rfl (fun q20 => ?_) (fun q20 => ?_)
 have p20 : ((¬ (1 ≤ (v))) ∨ (¬ ((v) ≤ 3))) ∨ (¬ (mayF (s) ((3 : Int)) = (0 : Int))) := Or.imp (fun h => Or.imp (fun h => of_decide_eq_false h) (fun h => of_decide_eq_false h) (band_f (bnot_t h))) (fun h => of_decide_eq_false (bnot_t h)) (bor_t q20)
 refine WC.seq ?_
 refine WC.region ?_
 refine WO.v (R.buildL (parts := []) (cells := #[(.int .i64 (0 : Int)), (.int .i64 (0 : Int)), (.int .i64 (0 : Int)), (.int .i64 (0 : Int)), (.slice none 0 0), (.slice none 0 0), (.slice none 0 0)]) rfl (by kernel_rfl)) rfl ?_
 have B21 := (n15.blk).kp0 k19
 refine WO.storeBN rfl rfl B21 rfl (by simp [Value.oneCell']) sz34 ?_
 intro w22 k22 B22 z_22
 have z22 : w19.heap.size = w22.heap.size := z_22.symm
 have b22 := old_kp b19 k22 (mem1 (by omega))
 have y22 : w.heap.size ≤ w22.heap.size := b22.size
 refine WO.v (R.assign rfl) rfl ?_
 refine WO.nil ?_
 refine WX.sel [0, 1, 2, 4, 5, 15] rfl ?_
 refine WX.next ?_
 refine WC.ret ?_
 refine WX.thenRet ?_
 have e0 : (⟨(0 : Int), (0 : Int), (0 : Int), (0 : Int), [], [], []⟩ : State) = (viewS s v) := by first | exact viewS1 q20 | (rw [← viewS2 q20, upto_all (by omega)]; simp [viewT]; done) | (rw [← viewS2 q20, upto_all (by omega)]; simp [viewT, ‹v < 3›]; done) | (rw [← viewS2 q20, upto_all (by omega)]; simp [viewT, ‹¬ v < 3›]; done)
 have f0 : Rp.rp true w.heap.size w22.heap.size w22 [(.int .i64 (0 : Int)), (.int .i64 (0 : Int)), (.int .i64 (0 : Int)), (.int .i64 (0 : Int)), (.slice none 0 0), (.slice none 0 0), (.slice none 0 0)] (⟨(0 : Int), (0 : Int), (0 : Int), (0 : Int), [], [], []⟩ : State) := (State.mk_ (show I64 0 from ⟨by omega, by omega⟩) (show I64 0 from ⟨by omega, by omega⟩) (show I64 0 from ⟨by omega, by omega⟩) (show I64 0 from ⟨by omega, by omega⟩) (x4 := []) (Sl.nil _ _ _ _) (x5 := []) (Sl.nil _ _ _ _) (x6 := []) (Sl.nil _ _ _ _))
 have e1 : (1 : Int) = (viewE s v) := by first | exact viewE1 q20 | exact viewE2 q20
 refine WX.retCT Try.results18 rfl rfl B22 Try.underlying34 rfl sz34 ?_
 exact ⟨[(.int .i64 (0 : Int)), (.int .i64 (0 : Int)), (.int .i64 (0 : Int)), (.int .i64 (0 : Int)), (.slice none 0 0), (.slice none 0 0), (.slice none 0 0)], by rw [e1], (Eq.mp (congrArg (Rp.rp _ _ _ _ _) e0) f0), Kp.of_below b22⟩
 have p20 : ((1 ≤ (v)) ∧ ((v) ≤ 3)) ∧ (mayF (s) ((3 : Int)) = (0 : Int)) := ⟨⟨of_decide_eq_true (band_t (bnot_f (bor_f q20).1)).1, of_decide_eq_true (band_t (bnot_f (bor_f q20).1)).2⟩, of_decide_eq_true (bnot_f (bor_f q20).2)⟩
 refine WC.skip ?_
 refine WX.next ?_
 refine WC.seq ?_
 refine WC.region ?_
 have B23 := ((n14.blk).kp0 n15.kp).kp0 k19
 refine WO.v (R.loadBN (vs := [_, _, _, _, _, _, _]) rfl B23 rfl Try.underlying34 rfl sz34) rfl ?_
 refine WO.c (E.call rfl rfl Try.func33 rfl rfl) (copy7_s (s := s) (State.mk_ (i1) (i2) (i3) (i4) ((sl_old s7 b19).mono (lo' := 0) (hi' := w19.heap.size) (Nat.zero_le _) (by omega)) ((sl_old s10 b19).mono (lo' := 0) (hi' := w19.heap.size) (Nat.zero_le _) (by omega)) ((sl_old s13 b19).mono (lo' := 0) (hi' := w19.heap.size) (Nat.zero_le _) (by omega)))) rfl ?_
 rintro _ w24 ⟨cs25, rfl, r26, k24⟩
 have z24 : w19.heap.size ≤ w24.heap.size := k24.size
 have b24 := old_kp0 b19 k24
 have y24 : w.heap.size ≤ w24.heap.size := b24.size
 obtain ⟨a31, c32, a34, c35, a37, c38, rfl, i27, i28, i29, i30, s33, s36, s39⟩ := State.el r26
 have ls33 : (((s)).sess).length * 32 ≤ 140737488355328 := s33.lenle
 have ls36 : (((s)).opens).length * 16 ≤ 140737488355328 := s36.lenle
 have ls39 : (((s)).snaps).length * 64 ≤ 140737488355328 := s39.lenle
 refine WO.alloc zr34 rfl ?_
 intro w40 n40
 have z40 : w24.heap.size < w40.heap.size := n40.lt
 have b40 := old_kp0 b24 n40.kp
 have y40 : w.heap.size ≤ w40.heap.size := b40.size
 refine WO.storeBN rfl rfl n40.blk rfl (by simp [Value.oneCell']) sz34 ?_
 intro w41 k41 B41 z_41
 have z41 : w40.heap.size = w41.heap.size := z_41.symm
 have b41 := old_kp b40 k41 (mem1 (by omega))
 have y41 : w.heap.size ≤ w41.heap.size := b41.size
 refine WO.nil ?_
 refine WX.sel [0, 1, 2, 4, 5, 6, 15] rfl ?_
 refine WX.next ?_
 refine WC.seq ?_
 refine WC.seq ?_
 refine WC.region ?_
 refine WO.v (R.assign rfl) rfl ?_
 refine WO.nil ?_
 refine WX.sel [0, 1, 2, 4, 5, 6, 7, 15] rfl ?_
 refine WX.next ?_
 refine WC.block ?_
 have ac42 := (sl_kp (sl_kp0 (s39) n40.kp (by omega)) k41 (by omega) (mem1 (by omega))).ac
 have bd43 := ac42.bd
 have ty44 := ac42.ty
 refine WC.loopK [0, 1, 2, 4, 5, 6, 15] rfl (fun zz : Nat => [(7, (.int .i64 (((zz) : Nat) : Int)))]) (fun (zz : Nat) (w' : World) => (Kp (ob (.slice a37 ((s)).snaps.length c38)) w41 w') ∧ (Blk w' (w24.heap.size) 34 [(.int .i64 ((s)).version), (.int .i64 ((s)).next), (.int .i64 ((s)).keep), (.int .i64 ((s)).quota), (.slice a31 ((s)).sess.length c32), (.slice a34 ((s)).opens.length c35), (.slice a37 ((s)).snaps.length c38)]) ∧ ((zz) ≤ ((s)).snaps.length) ∧ (Ac (α := Snap) (w19.heap.size) true (w19.heap.size) (w24.heap.size) (w24.heap.size) w' (.slice a37 ((s)).snaps.length c38) (upto (hideV v) ((s)).snaps (zz)))) (fun zz => ((s)).snaps.length - (zz)) (0) ?_ ?_ ?_
 exact ⟨⟨_, rfl, rfl⟩, trivial⟩
 exact ⟨(Kp.refl _).sub (by simp), B41, Nat.zero_le _, ac_n ((ac42).mono (Nat.le_refl _) (Nat.le_refl _) (by omega) (by omega)) upto_zero rfl⟩
 rintro k w47 ⟨k47, Bl47_0, hkhup45, hup45⟩
 try dsimp only at Bl47_0 hkhup45 hup45
 have z47 : w41.heap.size ≤ w47.heap.size := k47.size
 have b47 := old_kp b41 k47 (fun g hg => by have := bd43 g hg; omega)
 have y47 : w.heap.size ≤ w47.heap.size := b47.size
 refine (?_ : WC _ _ _ _ ([(7, (.int .i64 ((k : Nat) : Int)))] ++ _) w47)
 have ulhup45 : (upto (hideV v) ((s)).snaps k).length = (((s)).snaps).length := upto_len
 have lenhup45 : ((upto (hideV v) ((s)).snaps k)).length * 64 ≤ 140737488355328 := hup45.lenle
 refine WC.seq ?_
 refine WC.seq ?_
 refine WC.region ?_
 refine WO.v (R.move rfl) rfl ?_
 refine WO.v (fa34_6 rfl) rfl ?_
 refine WO.v (R.loadB rfl Bl47_0 rfl Try.underlying32 rfl) rfl ?_
 refine WO.v (R.len rfl Try.underlying32) rfl ?_
 refine WO.v (R.lss rfl rfl) rfl ?_
 refine WO.nil ?_
 refine WX.sel [0, 1, 2, 4, 5, 6, 7, 15, 23] rfl ?_
 refine WX.next ?_
 refine WC.cond rfl (fun q48 => ?_) (fun q48 => ?_)
 have p48 : ((k : Nat) : Int) < ((((s)).snaps.length : Nat) : Int) := of_decide_eq_true q48
 refine WC.skip ?_
 refine WX.next ?_
 refine WC.seq ?_
 refine WC.block ?_
 refine WC.seq ?_
 refine WC.seq ?_
 refine WC.region ?_
 refine WO.v (R.move rfl) rfl ?_
 refine WO.v (R.lss rfl rfl) rfl ?_
 refine WO.nil ?_
 refine WX.sel [0, 1, 2, 4, 5, 6, 7, 15, 23, 27] rfl ?_
 refine WX.next ?_
 refine WC.cond rfl (fun q49 => ?_) (fun q49 => ?_)
 have p49 : v < (2 : Int) := of_decide_eq_true q49
 refine WC.region ?_
 refine WO.v (fa34_6 rfl) rfl ?_
 refine WO.v (R.loadB rfl Bl47_0 rfl Try.underlying32 rfl) rfl ?_
 refine WO.v (R.move rfl) rfl ?_
 obtain ⟨x50, hx50⟩ := get_ex (xs := (upto (hideV v) ((s)).snaps k)) (i := k) (by omega)
 obtain ⟨A51, cs52, hA51, loA51, hiA51, ccA51, r53⟩ := (((hup45).pub (L := 0) (H := w47.heap.size) (by omega) (by omega) (by omega) (by omega))).at_ hx50
 obtain ⟨a56, c57, rfl, i54, i55, s58, i59⟩ := Snap.el r53
 have ls58 : (x50.chunks).length * 8 ≤ 140737488355328 := s58.lenle
 refine WO.v (R.indexAddrN rfl rfl Try.underlying32 sz46 hA51 (by omega)) rfl ?_
 refine WO.v (fe46_3 rfl) rfl ?_
 have ac60 := (hup45).mono (Nat.le_refl _) (Nat.le_refl _) (by omega : _ ≤ w24.heap.size) (Nat.le_refl _)
 have bd61 := ac60.bd
 have ty62 := ac60.ty
 refine WO.storeE (j := 3) (z := (⟨x50.id, x50.set, x50.chunks, false, x50.tag⟩ : Snap)) rfl rfl ac60 (by omega) hA51 hx50 (by decide) rfl rfl sz4 (.inr (.inl ⟨rfl, by decide⟩)) (fun cs h => set_Snap_3 h) ?_
 intro w63 h64 k63 z_63
 have z63 : w47.heap.size = w63.heap.size := z_63.symm
 have b63 := old_kp b47 k63 (fun g hg => by have := bd61 g hg; omega)
 have y63 : w.heap.size ≤ w63.heap.size := b63.size
 have lsh64 : ((upto (hideV v) ((s)).snaps k).set k (⟨x50.id, x50.set, x50.chunks, false, x50.tag⟩ : Snap)).length = (upto (hideV v) ((s)).snaps k).length := List.length_set
 refine WO.nil ?_
 refine WX.sel [0, 1, 2, 4, 5, 6, 7, 15, 23, 27] rfl ?_
 refine WX.next ?_
 refine WC.seq ?_
 refine WC.region ?_
 refine WO.v (R.move rfl) rfl ?_
 refine WO.v (R.lss rfl rfl) rfl ?_
 refine WO.nil ?_
 refine WX.sel [0, 1, 2, 4, 5, 6, 7, 15, 23, 27, 34] rfl ?_
 refine WX.next ?_
 refine WC.cond rfl (fun q65 => ?_) (fun q65 => ?_)
 have p65 : v < (3 : Int) := of_decide_eq_true q65
 refine WC.region ?_
 refine WO.v (fa34_6 rfl) rfl ?_
 have B66 := (Bl47_0).kp k63 (fun hm => by have := bd61 _ hm; omega)
 refine WO.v (R.loadB rfl B66 rfl Try.underlying32 rfl) rfl ?_
 refine WO.v (R.move rfl) rfl ?_
 obtain ⟨x67, hx67⟩ := get_ex (xs := ((upto (hideV v) ((s)).snaps k).set k (⟨x50.id, x50.set, x50.chunks, false, x50.tag⟩ : Snap))) (i := k) (by omega)
 obtain ⟨A68, cs69, hA68, loA68, hiA68, ccA68, r70⟩ := (((h64).pub (L := 0) (H := w63.heap.size) (by omega) (by omega) (by omega) (by omega))).at_ hx67
 obtain ⟨a73, c74, rfl, i71, i72, s75, i76⟩ := Snap.el r70
 have ls75 : (x67.chunks).length * 8 ≤ 140737488355328 := s75.lenle
 refine WO.v (R.indexAddrN rfl rfl Try.underlying32 sz46 hA68 (by omega)) rfl ?_
 refine WO.v (fe46_4 rfl) rfl ?_
 have ac77 := (h64).mono (Nat.le_refl _) (Nat.le_refl _) (by omega : _ ≤ w24.heap.size) (Nat.le_refl _)
 have bd78 := ac77.bd
 have ty79 := ac77.ty
 refine WO.storeE (j := 4) (z := (⟨x67.id, x67.set, x67.chunks, x67.held, (⟨[]⟩ : Str)⟩ : Snap)) rfl rfl ac77 (by omega) hA68 hx67 (by decide) rfl rfl sz9 (.inr (.inl ⟨rfl, by decide⟩)) (fun cs h => set_Snap_4 h (by simp)) ?_
 intro w80 h81 k80 z_80
 have z80 : w63.heap.size = w80.heap.size := z_80.symm
 have b80 := old_kp b63 k80 (fun g hg => by have := bd78 g hg; omega)
 have y80 : w.heap.size ≤ w80.heap.size := b80.size
 have lsh81 : (((upto (hideV v) ((s)).snaps k).set k (⟨x50.id, x50.set, x50.chunks, false, x50.tag⟩ : Snap)).set k (⟨x67.id, x67.set, x67.chunks, x67.held, (⟨[]⟩ : Str)⟩ : Snap)).length = ((upto (hideV v) ((s)).snaps k).set k (⟨x50.id, x50.set, x50.chunks, false, x50.tag⟩ : Snap)).length := List.length_set
 refine WO.nil ?_
 refine WX.sel [0, 1, 2, 4, 5, 6, 7, 15, 23, 27, 34] rfl ?_
 refine WX.blkNormal ?_
 refine WX.next ?_
 refine WC.region ?_
 refine WO.v (R.move rfl) rfl ?_
 refine WO.v (R.inc rfl (by omega)) rfl ?_
 refine WO.v (R.assign rfl) rfl ?_
 refine WO.nil ?_
 refine WX.sel [0, 1, 2, 4, 5, 6, 7, 15, 23, 27, 34] rfl ?_
 have E82 : (((upto (hideV v) ((s)).snaps k).set k (⟨x50.id, x50.set, x50.chunks, false, x50.tag⟩ : Snap)).set k (⟨x67.id, x67.set, x67.chunks, x67.held, (⟨[]⟩ : Str)⟩ : Snap)) = (upto (hideV v) ((s)).snaps (k + 1)) := by first | exact hide_0 (by omega) (by omega) | exact hide_1 (by omega) (by omega) (by assumption) | exact hide_2 (by omega) (by assumption) (by assumption)
 have B83 := (B66).kp k80 (fun hm => by have := bd78 _ hm; omega)
 exact WX.loopNextK [0, 1, 2, 4, 5, 6, 15] (k + 1) rfl ⟨⟨_, rfl, rfl⟩, trivial⟩ ⟨((((Kp.refl _).sub (by simp)).step k47 (fun g hg => .inl hg)).step k63 (fun g hg => .inl hg)).step k80 (fun g hg => .inl hg), B83, by omega, ac_n ((h81).mono (by omega) (by omega) (by omega) (by omega)) E82 rfl⟩ (by show (((s)).snaps.length - (k + 1)) < (((s)).snaps.length - k); omega)
 have p65 : ¬ (v < (3 : Int)) := of_decide_eq_false q65
 exact False.elim (by omega)
 have p49 : ¬ (v < (2 : Int)) := of_decide_eq_false q49
 refine WC.skip ?_
 refine WX.next ?_
 refine WC.seq ?_
 refine WC.region ?_
 refine WO.v (R.move rfl) rfl ?_
 refine WO.v (R.lss rfl rfl) rfl ?_
 refine WO.nil ?_
 refine WX.sel [0, 1, 2, 4, 5, 6, 7, 15, 23, 27, 34] rfl ?_
 refine WX.next ?_
 refine WC.cond rfl (fun q84 => ?_) (fun q84 => ?_)
 have p84 : v < (3 : Int) := of_decide_eq_true q84
 refine WC.region ?_
 refine WO.v (fa34_6 rfl) rfl ?_
 refine WO.v (R.loadB rfl Bl47_0 rfl Try.underlying32 rfl) rfl ?_
 refine WO.v (R.move rfl) rfl ?_
 obtain ⟨x85, hx85⟩ := get_ex (xs := (upto (hideV v) ((s)).snaps k)) (i := k) (by omega)
 obtain ⟨A86, cs87, hA86, loA86, hiA86, ccA86, r88⟩ := (((hup45).pub (L := 0) (H := w47.heap.size) (by omega) (by omega) (by omega) (by omega))).at_ hx85
 obtain ⟨a91, c92, rfl, i89, i90, s93, i94⟩ := Snap.el r88
 have ls93 : (x85.chunks).length * 8 ≤ 140737488355328 := s93.lenle
 refine WO.v (R.indexAddrN rfl rfl Try.underlying32 sz46 hA86 (by omega)) rfl ?_
 refine WO.v (fe46_4 rfl) rfl ?_
 have ac95 := (hup45).mono (Nat.le_refl _) (Nat.le_refl _) (by omega : _ ≤ w24.heap.size) (Nat.le_refl _)
 have bd96 := ac95.bd
 have ty97 := ac95.ty
 refine WO.storeE (j := 4) (z := (⟨x85.id, x85.set, x85.chunks, x85.held, (⟨[]⟩ : Str)⟩ : Snap)) rfl rfl ac95 (by omega) hA86 hx85 (by decide) rfl rfl sz9 (.inr (.inl ⟨rfl, by decide⟩)) (fun cs h => set_Snap_4 h (by simp)) ?_
 intro w98 h99 k98 z_98
 have z98 : w47.heap.size = w98.heap.size := z_98.symm
 have b98 := old_kp b47 k98 (fun g hg => by have := bd96 g hg; omega)
 have y98 : w.heap.size ≤ w98.heap.size := b98.size
 have lsh99 : ((upto (hideV v) ((s)).snaps k).set k (⟨x85.id, x85.set, x85.chunks, x85.held, (⟨[]⟩ : Str)⟩ : Snap)).length = (upto (hideV v) ((s)).snaps k).length := List.length_set
 refine WO.nil ?_
 refine WX.sel [0, 1, 2, 4, 5, 6, 7, 15, 23, 27, 34] rfl ?_
 refine WX.blkNormal ?_
 refine WX.next ?_
 refine WC.region ?_
 refine WO.v (R.move rfl) rfl ?_
 refine WO.v (R.inc rfl (by omega)) rfl ?_
 refine WO.v (R.assign rfl) rfl ?_
 refine WO.nil ?_
 refine WX.sel [0, 1, 2, 4, 5, 6, 7, 15, 23, 27, 34] rfl ?_
 have E100 : ((upto (hideV v) ((s)).snaps k).set k (⟨x85.id, x85.set, x85.chunks, x85.held, (⟨[]⟩ : Str)⟩ : Snap)) = (upto (hideV v) ((s)).snaps (k + 1)) := by first | exact hide_0 (by omega) (by omega) | exact hide_1 (by omega) (by omega) (by assumption) | exact hide_2 (by omega) (by assumption) (by assumption)
 have B101 := (Bl47_0).kp k98 (fun hm => by have := bd96 _ hm; omega)
 exact WX.loopNextK [0, 1, 2, 4, 5, 6, 15] (k + 1) rfl ⟨⟨_, rfl, rfl⟩, trivial⟩ ⟨(((Kp.refl _).sub (by simp)).step k47 (fun g hg => .inl hg)).step k98 (fun g hg => .inl hg), B101, by omega, ac_n ((h99).mono (by omega) (by omega) (by omega) (by omega)) E100 rfl⟩ (by show (((s)).snaps.length - (k + 1)) < (((s)).snaps.length - k); omega)
 have p84 : ¬ (v < (3 : Int)) := of_decide_eq_false q84
 refine WC.skip ?_
 refine WX.blkNormal ?_
 refine WX.next ?_
 refine WC.region ?_
 refine WO.v (R.move rfl) rfl ?_
 refine WO.v (R.inc rfl (by omega)) rfl ?_
 refine WO.v (R.assign rfl) rfl ?_
 refine WO.nil ?_
 refine WX.sel [0, 1, 2, 4, 5, 6, 7, 15, 23, 27, 34] rfl ?_
 have E102 : (upto (hideV v) ((s)).snaps k) = (upto (hideV v) ((s)).snaps (k + 1)) := by first | exact hide_0 (by omega) (by omega) | exact hide_1 (by omega) (by omega) (by assumption) | exact hide_2 (by omega) (by assumption) (by assumption)
 exact WX.loopNextK [0, 1, 2, 4, 5, 6, 15] (k + 1) rfl ⟨⟨_, rfl, rfl⟩, trivial⟩ ⟨((Kp.refl _).sub (by simp)).step k47 (fun g hg => .inl hg), Bl47_0, by omega, ac_n ((hup45).mono (by omega) (by omega) (by omega) (by omega)) E102 rfl⟩ (by show (((s)).snaps.length - (k + 1)) < (((s)).snaps.length - k); omega)
 have p48 : ¬ (((k : Nat) : Int) < ((((s)).snaps.length : Nat) : Int)) := of_decide_eq_false q48
 refine WC.exit ?_
 refine WX.thenExit ?_
 refine WX.loopExit ?_
 refine WX.blkHit ?_
 refine WX.next ?_
 refine WC.seq ?_
 refine WC.seq ?_
 refine WC.region ?_
 refine WO.v (R.move rfl) rfl ?_
 refine WO.v (R.lss rfl rfl) rfl ?_
 refine WO.nil ?_
 refine WX.sel [0, 1, 2, 4, 5, 6, 7, 15, 23, 41] rfl ?_
 refine WX.next ?_
 refine WC.cond rfl (fun q103 => ?_) (fun q103 => ?_)
 have p103 : v < (3 : Int) := of_decide_eq_true q103
 refine WC.region ?_
 refine WO.v (fa34_3 rfl) rfl ?_
 refine WO.storeB (cs' := [_, _, _, _, _, _, _]) rfl rfl Bl47_0 rfl rfl sz3 rfl ?_
 intro w104 k104 B104 z_104
 have z104 : w47.heap.size = w104.heap.size := z_104.symm
 have b104 := old_kp b47 k104 (mem1 (by omega))
 have y104 : w.heap.size ≤ w104.heap.size := b104.size
 refine WO.nil ?_
 refine WX.sel [0, 1, 2, 4, 5, 6, 7, 15, 23, 41] rfl ?_
 refine WX.next ?_
 refine WC.seq ?_
 refine WC.region ?_
 refine WO.v (R.loadBN (vs := [_, _, _, _, _, _, _]) rfl B104 rfl Try.underlying34 rfl sz34) rfl ?_
 have B105 := ((((((n15.blk).kp0 k19).kp0 k24).kp0 n40.kp).kp1 k41 (by omega)).kp k47 (fun hm => by have := bd43 _ hm; omega)).kp1 k104 (by omega)
 refine WO.storeBN rfl rfl B105 rfl (by simp [Value.oneCell']) sz34 ?_
 intro w106 k106 B106 z_106
 have z106 : w104.heap.size = w106.heap.size := z_106.symm
 have b106 := old_kp b104 k106 (mem1 (by omega))
 have y106 : w.heap.size ≤ w106.heap.size := b106.size
 refine WO.v (R.assign rfl) rfl ?_
 refine WO.nil ?_
 refine WX.sel [0, 1, 2, 4, 5, 6, 7, 15, 23, 41] rfl ?_
 refine WX.next ?_
 refine WC.ret ?_
 have E107 : ((s)).snaps.length = ((upto (hideV v) ((s)).snaps k)).length := by (try simp only [List.length_nil]); omega
 have e0 : (⟨((s)).version, ((s)).next, ((s)).keep, (0 : Int), ((s)).sess, ((s)).opens, (upto (hideV v) ((s)).snaps k)⟩ : State) = (viewS s v) := by first | exact viewS1 q20 | (rw [← viewS2 q20, upto_all (by omega)]; simp [viewT]; done) | (rw [← viewS2 q20, upto_all (by omega)]; simp [viewT, ‹v < 3›]; done) | (rw [← viewS2 q20, upto_all (by omega)]; simp [viewT, ‹¬ v < 3›]; done)
 have f0 : Rp.rp true w.heap.size w106.heap.size w106 [(.int .i64 ((s)).version), (.int .i64 ((s)).next), (.int .i64 ((s)).keep), (.int .i64 (0 : Int)), (.slice a31 ((s)).sess.length c32), (.slice a34 ((s)).opens.length c35), (.slice a37 ((s)).snaps.length c38)] (⟨((s)).version, ((s)).next, ((s)).keep, (0 : Int), ((s)).sess, ((s)).opens, (upto (hideV v) ((s)).snaps k)⟩ : State) := (rp_cast (by rw [← E107]; try rfl) (State.mk_ (i27) (i28) (i29) (show I64 (0) from ⟨by omega, by omega⟩) ((sl_kp (sl_kp (sl_kpT (sl_kp (sl_kp0 (s33) n40.kp (by omega)) k41 (by omega) (mem1 (by omega))) k47 (by omega) ty44 (by decide)) k104 (by omega) (mem1 (by omega))) k106 (by omega) (mem1 (by omega))).mono (lo' := w.heap.size) (hi' := w106.heap.size) (by omega) (by omega)) ((sl_kp (sl_kp (sl_kpT (sl_kp (sl_kp0 (s36) n40.kp (by omega)) k41 (by omega) (mem1 (by omega))) k47 (by omega) ty44 (by decide)) k104 (by omega) (mem1 (by omega))) k106 (by omega) (mem1 (by omega))).mono (lo' := w.heap.size) (hi' := w106.heap.size) (by omega) (by omega)) (sl_n ((ac_kp (ac_kp (hup45) k104 (by omega) (by omega) (mem1 (by omega))) k106 (by omega) (by omega) (mem1 (by omega))).own (L := w.heap.size) (H := w106.heap.size) (by omega) (by omega) (by omega) (by omega)) rfl E107)))
 have e1 : (0 : Int) = (viewE s v) := by first | exact viewE1 q20 | exact viewE2 q20
 refine WX.retCT Try.results18 rfl rfl B106 Try.underlying34 rfl sz34 ?_
 exact ⟨[(.int .i64 ((s)).version), (.int .i64 ((s)).next), (.int .i64 ((s)).keep), (.int .i64 (0 : Int)), (.slice a31 ((s)).sess.length c32), (.slice a34 ((s)).opens.length c35), (.slice a37 ((s)).snaps.length c38)], by rw [e1], (Eq.mp (congrArg (Rp.rp _ _ _ _ _) e0) f0), Kp.of_below b106⟩
 have p103 : ¬ (v < (3 : Int)) := of_decide_eq_false q103
 refine WC.skip ?_
 refine WX.next ?_
 refine WC.seq ?_
 refine WC.region ?_
 refine WO.v (R.loadBN (vs := [_, _, _, _, _, _, _]) rfl Bl47_0 rfl Try.underlying34 rfl sz34) rfl ?_
 have B108 := (((((n15.blk).kp0 k19).kp0 k24).kp0 n40.kp).kp1 k41 (by omega)).kp k47 (fun hm => by have := bd43 _ hm; omega)
 refine WO.storeBN rfl rfl B108 rfl (by simp [Value.oneCell']) sz34 ?_
 intro w109 k109 B109 z_109
 have z109 : w47.heap.size = w109.heap.size := z_109.symm
 have b109 := old_kp b47 k109 (mem1 (by omega))
 have y109 : w.heap.size ≤ w109.heap.size := b109.size
 refine WO.v (R.assign rfl) rfl ?_
 refine WO.nil ?_
 refine WX.sel [0, 1, 2, 4, 5, 6, 7, 15, 23, 41] rfl ?_
 refine WX.next ?_
 refine WC.ret ?_
 have E110 : ((s)).snaps.length = ((upto (hideV v) ((s)).snaps k)).length := by (try simp only [List.length_nil]); omega
 have e0 : (⟨((s)).version, ((s)).next, ((s)).keep, ((s)).quota, ((s)).sess, ((s)).opens, (upto (hideV v) ((s)).snaps k)⟩ : State) = (viewS s v) := by first | exact viewS1 q20 | (rw [← viewS2 q20, upto_all (by omega)]; simp [viewT]; done) | (rw [← viewS2 q20, upto_all (by omega)]; simp [viewT, ‹v < 3›]; done) | (rw [← viewS2 q20, upto_all (by omega)]; simp [viewT, ‹¬ v < 3›]; done)
 have f0 : Rp.rp true w.heap.size w109.heap.size w109 [(.int .i64 ((s)).version), (.int .i64 ((s)).next), (.int .i64 ((s)).keep), (.int .i64 ((s)).quota), (.slice a31 ((s)).sess.length c32), (.slice a34 ((s)).opens.length c35), (.slice a37 ((s)).snaps.length c38)] (⟨((s)).version, ((s)).next, ((s)).keep, ((s)).quota, ((s)).sess, ((s)).opens, (upto (hideV v) ((s)).snaps k)⟩ : State) := (rp_cast (by rw [← E110]; try rfl) (State.mk_ (i27) (i28) (i29) (i30) ((sl_kp (sl_kpT (sl_kp (sl_kp0 (s33) n40.kp (by omega)) k41 (by omega) (mem1 (by omega))) k47 (by omega) ty44 (by decide)) k109 (by omega) (mem1 (by omega))).mono (lo' := w.heap.size) (hi' := w109.heap.size) (by omega) (by omega)) ((sl_kp (sl_kpT (sl_kp (sl_kp0 (s36) n40.kp (by omega)) k41 (by omega) (mem1 (by omega))) k47 (by omega) ty44 (by decide)) k109 (by omega) (mem1 (by omega))).mono (lo' := w.heap.size) (hi' := w109.heap.size) (by omega) (by omega)) (sl_n ((ac_kp (hup45) k109 (by omega) (by omega) (mem1 (by omega))).own (L := w.heap.size) (H := w109.heap.size) (by omega) (by omega) (by omega) (by omega)) rfl E110)))
 have e1 : (0 : Int) = (viewE s v) := by first | exact viewE1 q20 | exact viewE2 q20
 refine WX.retCT Try.results18 rfl rfl B109 Try.underlying34 rfl sz34 ?_
 exact ⟨[(.int .i64 ((s)).version), (.int .i64 ((s)).next), (.int .i64 ((s)).keep), (.int .i64 ((s)).quota), (.slice a31 ((s)).sess.length c32), (.slice a34 ((s)).opens.length c35), (.slice a37 ((s)).snaps.length c38)], by rw [e1], (Eq.mp (congrArg (Rp.rp _ _ _ _ _) e0) f0), Kp.of_below b109⟩


end Go.Proofs.Ytaenkjlhdlddgaa
