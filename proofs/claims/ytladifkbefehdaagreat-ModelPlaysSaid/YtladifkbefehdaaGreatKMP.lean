/- The law: for every input it returns true, and each argument reads behind the call as it read before; and what leads there. Conditions: each lemma's own. -/
import Derived.ProofKit
import Derived.SizedLaws
import Derived.Test.YtladifkbefehdaaGreatChecked
import Derived.Test.YtladifkbefehdaaGreatRows
import Derived.Test.YtladifkbefehdaaGreatKMPM7
set_option linter.unusedVariables false
set_option linter.unusedSimpArgs false
namespace Go.Proofs.YtladifkbefehdaaGreat
open Go.RowKit
def R_ (f:Field):Int:=((min f.n.n 1048577:Nat):Int)
def aS (a:List Int) (f:Field):List Int:=if f.num<=6 then a.set f.num.toNat (R_ f) else a
def aR (l:List Field):List Int:=l.foldl aS [0,0,0,0,0,0,0]
def OD (c:Command) (f:Field):Command:=if f.num=7 then ⟨c.kind,c.client,c.seq,c.set,c.id,c.n,eb f.b,c.text⟩ else if f.num=8 then ⟨c.kind,c.client,c.seq,c.set,c.id,c.n,c.chunks,⟨f.b⟩⟩ else c
def cR (l:List Field):Command:=l.foldl OD bG
theorem Ff {l:List Field} {k:Nat} {x:Field} (hx:l[k]? = some x):aR (l.take (k+1))=aS (aR (l.take k)) x:=by
 unfold aR; rw [ax hx,List.foldl_append]; rfl
theorem Ap {l:List Field} {k:Nat} {x:Field} (hx:l[k]? = some x):cR (l.take (k+1))=OD (cR (l.take k)) x:=by
 unfold cR; rw [ax hx,List.foldl_append]; rfl
theorem YJ {l:List Field} {k:Nat} {x:Field} (hx:l[k]? = some x) (h:x.num<=6):(aR (l.take k)).set x.num.toNat (dv (min x.n.n 1048577))=aR (l.take (k+1)):=by
 rw [Ff hx,aS,if_pos h,R_,eL (by omega)]
theorem ZI {l:List Field} {k:Nat} {x:Field} (hx:l[k]? = some x) (h:6<x.num):aR (l.take k)=aR (l.take (k+1)):=by
 rw [Ff hx,aS,if_neg (by omega)]
theorem aad {l:List Field} {k:Nat} {x:Field} (hx:l[k]? = some x) (h:x.num=7):cR (l.take (k+1))=⟨(cR (l.take k)).kind,(cR (l.take k)).client,(cR (l.take k)).seq,(cR (l.take k)).set,(cR (l.take k)).id,(cR (l.take k)).n,eb x.b,(cR (l.take k)).text⟩:=by
 rw [Ap hx,OD,if_pos h]
theorem aaF {l:List Field} {k:Nat} {x:Field} (hx:l[k]? = some x) (h:x.num=8):cR (l.take (k+1))=⟨(cR (l.take k)).kind,(cR (l.take k)).client,(cR (l.take k)).seq,(cR (l.take k)).set,(cR (l.take k)).id,(cR (l.take k)).n,(cR (l.take k)).chunks,⟨x.b⟩⟩:=by
 rw [Ap hx,OD,if_neg (by omega),if_pos h]
theorem ZE {l:List Field} {k:Nat} {x:Field} (hx:l[k]? = some x) (h:¬ x.num=7) (h2:¬ x.num=8):cR (l.take (k+1))=cR (l.take k):=by
 rw [Ap hx,OD,if_neg h,if_neg h2]
def numR (x y:Int):Prop:=∃ n:Nat,n<18446744073709551616/\x=((min n 1048577:Nat):Int)/\y=dv n
structure RelQ (a:List Int) (c r:Command):Prop where
 len:a.length=7
 n1:numR (a.getD 1 (dflt .int)) r.kind
 n2:numR (a.getD 2 (dflt .int)) r.client
 n3:numR (a.getD 3 (dflt .int)) r.seq
 n4:numR (a.getD 4 (dflt .int)) r.set
 n5:numR (a.getD 5 (dflt .int)) r.id
 n6:numR (a.getD 6 (dflt .int)) r.n
 ch:c.chunks=r.chunks
 tx:c.text=r.text
theorem Y_:RelQ [0,0,0,0,0,0,0] bG bG:=⟨rfl,⟨0,by decide,rfl,rfl⟩,⟨0,by decide,rfl,rfl⟩,⟨0,by decide,rfl,rfl⟩,⟨0,by decide,rfl,rfl⟩,⟨0,by decide,rfl,rfl⟩,⟨0,by decide,rfl,rfl⟩,rfl,rfl⟩
theorem Ze {f:Field} (h:f.n.n<18446744073709551616):numR (R_ f) (BS f):=⟨f.n.n,h,rfl,dt h⟩
theorem ZC {a:List Int} {c r:Command} {f:Field} (h:RelQ a c r) (hn:f.n.n<18446744073709551616) (h1:1<=f.num):RelQ (aS a f) (OD c f) (dV r f):=by
 obtain ⟨h0,g1,g2,g3,g4,g5,g6,g7,g8⟩:=h
 have hf:=Ze hn
 match a,h0 with
 | [a0,a1,a2,a3,a4,a5,a6],_=>
  have:f.num=1\/f.num=2\/f.num=3\/f.num=4\/f.num=5\/f.num=6\/f.num=7\/f.num=8\/8<f.num:=by omega
  unfold aS OD dV
  rcases this with e | e | e | e | e | e | e | e | e
  ·simp only [e]; exact ⟨rfl,hf,g2,g3,g4,g5,g6,g7,g8⟩
  ·simp only [e]; exact ⟨rfl,g1,hf,g3,g4,g5,g6,g7,g8⟩
  ·simp only [e]; exact ⟨rfl,g1,g2,hf,g4,g5,g6,g7,g8⟩
  ·simp only [e]; exact ⟨rfl,g1,g2,g3,hf,g5,g6,g7,g8⟩
  ·simp only [e]; exact ⟨rfl,g1,g2,g3,g4,hf,g6,g7,g8⟩
  ·simp only [e]; exact ⟨rfl,g1,g2,g3,g4,g5,hf,g7,g8⟩
  ·simp only [e]; exact ⟨rfl,g1,g2,g3,g4,g5,g6,rfl,g8⟩
  ·simp only [e]; exact ⟨rfl,g1,g2,g3,g4,g5,g6,g7,rfl⟩
  ·rw [if_neg (by omega),if_neg (by omega),if_neg (by omega),if_neg (by omega),if_neg (by omega),if_neg (by omega),if_neg (by omega),if_neg (by omega),if_neg (by omega),if_neg (by omega),if_neg (by omega)]
   exact ⟨rfl,g1,g2,g3,g4,g5,g6,g7,g8⟩
theorem aau {l:List Field} {k:Nat} {x:Field} (h:Wq (RelQ (aR (l.take k)) (cR (l.take k)) (bQ (l.take k)))) (hx:l[k]? = some x) (hn:x.n.n<18446744073709551616) (h1:1<=x.num):Wq (RelQ (aR (l.take (k+1))) (cR (l.take (k+1))) (bQ (l.take (k+1)))):=by
 rw [Ff hx,Ap hx,dg hx]; exact ⟨ZC h.h hn h1⟩
theorem NL {b:List UInt8} {v u:Int} {k:Nat} {x:Field} (h1:(aU b).2=0) (h2:ew (aU b).1 v=0) (hx:(bD (aU b).1 u)[k]? = some x):1<=x.num/\x.b.length<=16384:=by
 have hm:=AG (Pe h1 h2)
 have hx2:=List.mem_of_getElem? hx
 refine ⟨?_,EB (Pe h1 h2) x hx2⟩
 have ha:=mj (td hm.2) x (by unfold bD at hx2; exact (List.mem_filter.1 hx2).1)
 unfold cW at ha
 simp only [Bool.and_eq_true,decide_eq_true_eq] at ha
 exact ha.1.1
def NU (a:List Int) (c:Command):Command:=⟨a.getD 1 (dflt .int),a.getD 2 (dflt .int),a.getD 3 (dflt .int),a.getD 4 (dflt .int),a.getD 5 (dflt .int),a.getD 6 (dflt .int),c.chunks,c.text⟩
def UI (c:Command):Prop:=(0<=c.kind/\c.kind<=1048576)/\(0<=c.client/\c.client<=1048576)/\(0<=c.seq/\c.seq<=1048576)/\(0<=c.set/\c.set<=1048576)/\(0<=c.id/\c.id<=1048576)/\(0<=c.n/\c.n<=1048576)
theorem zN {n m:Int} {b:Bool} (h:iy n m b=true) (hm:0<=m):0<=n/\n<=m:=by
 unfold iy at h; cases b <;> simp at h <;> omega
theorem Qz {k:Int} (h:1<=k/\k<=12):(gP k).2<=64:=by
 have:k=1\/k=2\/k=3\/k=4\/k=5\/k=6\/k=7\/k=8\/k=9\/k=10\/k=11\/k=12:=by omega
 rcases this with rfl | rfl | rfl | rfl | rfl | rfl | rfl | rfl | rfl | rfl | rfl | rfl <;> decide
theorem IK {c:Command} {rest:List Field} {v:Int} (h:dB c rest v=0):UI c:=by
 obtain ⟨⟨_,ho,_⟩,_⟩:=CJ h
 rcases ho with h | h
 ·unfold dG nd bb at h
  simp only [Bool.and_eq_true,Bool.or_eq_true,decide_eq_true_eq] at h
  unfold UI; omega
 ·obtain ⟨_,hn0,hl,hf⟩:=pd h
  have hr:=qg hn0
  have hs:=AY hr
  have hs2:=Qz hr
  unfold eF at hf
  simp only [Bool.and_eq_true,decide_eq_true_eq] at hf
  obtain ⟨⟨⟨⟨⟨⟨⟨a1,a2⟩,a3⟩,_⟩,a4⟩,a5⟩,a6⟩,a7⟩:=hf
  have b4:=zN a4 (by decide)
  have b5:=zN a5 (by decide)
  have b6:=zN a6 (by decide)
  have b7:=zN a7 (by decide)
  unfold UI; omega
theorem Cv {x y:Int} (h:numR x y) (hb:(0<=x/\x<=1048576)\/(0<=y/\y<=1048576)):x=y:=by
 obtain ⟨n,hn,rfl,rfl⟩:=h
 unfold dv at hb ⊢
 split at hb <;> split <;> omega
theorem Vq {a:List Int} {c r:Command} (h:RelQ a c r) (hb:UI (NU a c)\/UI r):NU a c=r:=by
 have e1:=Cv h.n1 (hb.imp (·.1) (·.1))
 have e2:=Cv h.n2 (hb.imp (·.2.1) (·.2.1))
 have e3:=Cv h.n3 (hb.imp (·.2.2.1) (·.2.2.1))
 have e4:=Cv h.n4 (hb.imp (·.2.2.2.1) (·.2.2.2.1))
 have e5:=Cv h.n5 (hb.imp (·.2.2.2.2.1) (·.2.2.2.2.1))
 have e6:=Cv h.n6 (hb.imp (·.2.2.2.2.2) (·.2.2.2.2.2))
 unfold NU; rw [e1,e2,e3,e4,e5,e6,h.ch,h.tx]
theorem aaJ {b:List UInt8} {v:Int} {k:Nat} (h:bb v 1 3=true) (h1:(aU b).2=0) (h2:ew (aU b).1 v=0) (hr:Wq (RelQ (aR ((bD (aU b).1 (bj v)).take k)) (cR ((bD (aU b).1 (bj v)).take k)) (bQ ((bD (aU b).1 (bj v)).take k)))) (hk:(bD (aU b).1 (bj v)).length<=k) (h3:¬ dB (NU (aR ((bD (aU b).1 (bj v)).take k)) (cR ((bD (aU b).1 (bj v)).take k))) (cC (aU b).1 (bj v)) v=0\/¬ Str.mk (eg (NU (aR ((bD (aU b).1 (bj v)).take k)) (cR ((bD (aU b).1 (bj v)).take k))) (cC (aU b).1 (bj v)) v)=Str.mk b):bP b v=⟨bG,[],6⟩:=by
 refine Un (qk h) (Pe h1 h2) ?_
 rw [List.take_of_length_le hk] at hr h3
 by_cases hp:dB (bQ (bD (aU b).1 (bj v))) (cC (aU b).1 (bj v)) v=0
 ·right
  rw [Vq hr.h (.inr (IK hp))] at h3
  intro e
  rw [hp,e] at h3; simp at h3
 ·exact .inl hp
theorem WV {b:List UInt8} {v:Int} {k:Nat} (h:bb v 1 3=true) (h1:(aU b).2=0) (h2:ew (aU b).1 v=0) (hr:Wq (RelQ (aR ((bD (aU b).1 (bj v)).take k)) (cR ((bD (aU b).1 (bj v)).take k)) (bQ ((bD (aU b).1 (bj v)).take k)))) (hk:(bD (aU b).1 (bj v)).length<=k) (h3:dB (NU (aR ((bD (aU b).1 (bj v)).take k)) (cR ((bD (aU b).1 (bj v)).take k))) (cC (aU b).1 (bj v)) v=0) (h4:Str.mk (eg (NU (aR ((bD (aU b).1 (bj v)).take k)) (cR ((bD (aU b).1 (bj v)).take k))) (cC (aU b).1 (bj v)) v)=Str.mk b):bP b v=⟨NU (aR ((bD (aU b).1 (bj v)).take k)) (cR ((bD (aU b).1 (bj v)).take k)),cC (aU b).1 (bj v),0⟩:=by
 have e:=Vq hr.h (.inl (IK h3))
 rw [e] at h3 h4 ⊢
 rw [List.take_of_length_le hk] at h3 h4 ⊢
 exact UE (qk h) (Pe h1 h2) ⟨h3,congrArg Str.b h4⟩
theorem TD {b:List UInt8} {v:Int} (h:bb v 1 3=false):bP b v=⟨bG,[],1⟩:=tq1 h
theorem Zm {b:List UInt8} {v:Int} (h:bb v 1 3=true) (h1:(aU b).2=0) (h2:¬ ew (aU b).1 v=0):bP b v=⟨bG,[],ew (aU b).1 v⟩:=tq2 h h1 h2
theorem Zw {b:List UInt8} {v:Int} (h:bb v 1 3=true) (h1:¬ (aU b).2=0):bP b v=⟨bG,[],(aU b).2⟩:=tq3 h h1
def Dc (b:List UInt8) (v:Int):List (Nat × LI):=[(13,{ σ:=Nat,F:=fun k=>([(0,one (.fz .u8 (b))),(1,one (.int (v))),(4,one (.ptr 0 0)),(9,one (.fz (.nm .field) (bD (aU b).1 (bj v)))),(10,one (.fz (.nm .field) (cC (aU b).1 (bj v)))),(11,one (.ptr 1 0)),(12,one (.ptr 2 0)),(13,one (.int k))],[.box 24 (cellsOf (.nm .command) ((bG))),.arr 115 .int 7 ((aR ((bD (aU b).1 (bj v)).take k))),.box 24 (cellsOf (.nm .command) (((cR ((bD (aU b).1 (bj v)).take k)))))]),J:=fun k=>k<=(bD (aU b).1 (bj v)).length/\Wq (RelQ (aR ((bD (aU b).1 (bj v)).take k)) (cR ((bD (aU b).1 (bj v)).take k)) (bQ ((bD (aU b).1 (bj v)).take k))),μ:=fun k=>(bD (aU b).1 (bj v)).length - k })]
theorem JR (b:List UInt8) (v:Int) (r0:Command) (r1:List Field) (r2:Int):ck tyT Pt (Dc b v) Tryz.f38 [.c (.fz .u8 (b)),.c (.int (v))] [] [.agg (cellsOf (.nm .command) r0),.c (.fz (.nm .field) (r1)),.c (.int (r2))]=((fun (q26:Prop)=>(fun (q25:Prop)=>(fun (q24:Nat)=>(fun (q23:Prop)=>(fun (q22:Nat)=>(fun (q21:Nat)=>(fun (q20:Nat)=>(fun (q19:Nat)=>(fun (q18:Nat)=>(fun (q17:Int)=>(fun (q16:Prop)=>(fun (q15:Int)=>(fun (q14:Nat)=>(fun (q13:Nat)=>(fun (q12:Prop)=>(fun (q11:Prop)=>(fun (q10:Prop)=>(fun (q9:Prop)=>(fun (q8:Prop)=>(fun (q7:Prop)=>(fun (q6:Int)=>(fun (q5:Prop)=>(fun (q4:Prop)=>(fun (q3:den Sh.int)=>(fun (q2:Int)=>(fun (q1:List Field)=>(fun (q0:List Field)=>b.length*q14<=q24->I64 v->(bb v q6 (3:Int)=false->q2=r0.kind/\q2=r0.client/\q2=r0.seq/\q2=r0.set/\q2=r0.id/\q2=r0.n/\q23/\q16/\r1=[]/\q6=r2)/\(bb v q6 (3:Int)=true->(aU b).fst.length*(48:Nat)<=q24->I64 (aU b).snd->(¬(aU b).snd=q2->q2=r0.kind/\q2=r0.client/\q2=r0.seq/\q2=r0.set/\q2=r0.id/\q2=r0.n/\q23/\q16/\r1=[]/\(aU b).snd=r2)/\((aU b).snd=q2->q6=q6/\(I64 q15->(¬q15=q2->q2=r0.kind/\q2=r0.client/\q2=r0.seq/\q2=r0.set/\q2=r0.id/\q2=r0.n/\q23/\q16/\r1=[]/\q15=r2)/\(q15=q2->q6=q6/\(I64 (bj v)->q0.length*(48:Nat)<=q24->q1.length*(48:Nat)<=q24->∃ (s0:Nat),(fun (q31:Int)=>(fun (q30:Prop)=>(fun (q29:Prop)=>(fun (q28:Command)=>(fun (q27:Nat)=>(q26/\q25/\q30/\q29/\q2=(↑s0:Int)/\q2=bG.kind/\q2=bG.client/\q2=bG.seq/\q2=bG.set/\q2=bG.id/\q2=bG.n/\bG.chunks=[]/\Str.mk []=bG.text/\[q2,q2,q2,q2,q2,q2,q2]=aR (List.take s0 q0)/\q2=q28.kind/\q2=q28.client/\q2=q28.seq/\q2=q28.set/\q2=q28.id/\q2=q28.n/\q28.chunks=[]/\Str.mk []=q28.text)/\(s0<=q27/\Wq (RelQ (aR (List.take s0 q0)) q28 (bQ (List.take s0 q0))))/\∀ (s:Nat),(fun (q34:Nat)=>(fun (q33:Int)=>(fun (q32:List Field)=>s<=q27/\Wq (RelQ (aR q32) (cR q32) (bQ q32))->((↑s:Int)<(↑q0.length:Int)->q2<=(↑s:Int)/\(↑s:Int)<(↑q0.length:Int)/\∀ (x:Field),(fun (q40:Prop)=>(fun (q39:Prop)=>(fun (q38:Prop)=>(fun (q37:Prop)=>(fun (q36:List (den Sh.int))=>(fun (q35:Command)=>q0[s]? = some x->I64 x.num->I64 x.wire->x.n.n<(18446744073709551616:Nat)->x.b.length*q14<=q24->(x.num<=(6:Int)->q2<=x.num/\x.num<q31/\x.num.toNat<q13/\(q38->x.b.length<=(100000:Nat)/\(q39->I64 (gB x.b)->(q37->q40/\∃ (s':Nat),(fun (q41:Command)=>(q26/\q25/\q30/\q29/\q33=(↑s':Int)/\q8/\q4/\q9/\q10/\q11/\q12/\q5/\q7/\q36=aR (List.take s' q0)/\q35.kind=q41.kind/\q35.client=q41.client/\q35.seq=q41.seq/\q35.set=q41.set/\q35.id=q41.id/\q35.n=q41.n/\eb x.b=q41.chunks/\Str.mk x.b=q41.text)/\(s' <= q27/\Wq (RelQ (aR (List.take s' q0)) q41 (bQ (List.take s' q0))))/\q27 - s' < q34) (cR (List.take s' q0)))/\(¬q37->q40/\∃ (s':Nat),(fun (q42:Command)=>(q26/\q25/\q30/\q29/\q33=(↑s':Int)/\q8/\q4/\q9/\q10/\q11/\q12/\q5/\q7/\q36=aR (List.take s' q0)/\q35.kind=q42.kind/\q35.client=q42.client/\q35.seq=q42.seq/\q35.set=q42.set/\q35.id=q42.id/\q35.n=q42.n/\eb x.b=q42.chunks/\q35.text=q42.text)/\(s' <= q27/\Wq (RelQ (aR (List.take s' q0)) q42 (bQ (List.take s' q0))))/\q27 - s' < q34) (cR (List.take s' q0)))))/\(¬q38->(q37->q40/\∃ (s':Nat),(fun (q43:Command)=>(q26/\q25/\q30/\q29/\q33=(↑s':Int)/\q8/\q4/\q9/\q10/\q11/\q12/\q5/\q7/\q36=aR (List.take s' q0)/\q35.kind=q43.kind/\q35.client=q43.client/\q35.seq=q43.seq/\q35.set=q43.set/\q35.id=q43.id/\q35.n=q43.n/\q35.chunks=q43.chunks/\Str.mk x.b=q43.text)/\(s' <= q27/\Wq (RelQ (aR (List.take s' q0)) q43 (bQ (List.take s' q0))))/\q27 - s' < q34) (cR (List.take s' q0)))/\(¬q37->q40/\∃ (s':Nat),(fun (q44:Command)=>(q26/\q25/\q30/\q29/\q33=(↑s':Int)/\q8/\q4/\q9/\q10/\q11/\q12/\q5/\q7/\q36=aR (List.take s' q0)/\q35.kind=q44.kind/\q35.client=q44.client/\q35.seq=q44.seq/\q35.set=q44.set/\q35.id=q44.id/\q35.n=q44.n/\q35.chunks=q44.chunks/\q35.text=q44.text)/\(s' <= q27/\Wq (RelQ (aR (List.take s' q0)) q44 (bQ (List.take s' q0))))/\q27 - s' < q34) (cR (List.take s' q0)))))/\((6:Int)<x.num->(q38->x.b.length<=(100000:Nat)/\(q39->I64 (gB x.b)->(q37->q40/\∃ (s':Nat),(fun (q45:Command)=>(q26/\q25/\q30/\q29/\q33=(↑s':Int)/\q8/\q4/\q9/\q10/\q11/\q12/\q5/\q7/\aR q32=aR (List.take s' q0)/\q35.kind=q45.kind/\q35.client=q45.client/\q35.seq=q45.seq/\q35.set=q45.set/\q35.id=q45.id/\q35.n=q45.n/\eb x.b=q45.chunks/\Str.mk x.b=q45.text)/\(s' <= q27/\Wq (RelQ (aR (List.take s' q0)) q45 (bQ (List.take s' q0))))/\q27 - s' < q34) (cR (List.take s' q0)))/\(¬q37->q40/\∃ (s':Nat),(fun (q46:Command)=>(q26/\q25/\q30/\q29/\q33=(↑s':Int)/\q8/\q4/\q9/\q10/\q11/\q12/\q5/\q7/\aR q32=aR (List.take s' q0)/\q35.kind=q46.kind/\q35.client=q46.client/\q35.seq=q46.seq/\q35.set=q46.set/\q35.id=q46.id/\q35.n=q46.n/\eb x.b=q46.chunks/\q35.text=q46.text)/\(s' <= q27/\Wq (RelQ (aR (List.take s' q0)) q46 (bQ (List.take s' q0))))/\q27 - s' < q34) (cR (List.take s' q0)))))/\(¬q38->(q37->q40/\∃ (s':Nat),(fun (q47:Command)=>(q26/\q25/\q30/\q29/\q33=(↑s':Int)/\q8/\q4/\q9/\q10/\q11/\q12/\q5/\q7/\aR q32=aR (List.take s' q0)/\q35.kind=q47.kind/\q35.client=q47.client/\q35.seq=q47.seq/\q35.set=q47.set/\q35.id=q47.id/\q35.n=q47.n/\q35.chunks=q47.chunks/\Str.mk x.b=q47.text)/\(s' <= q27/\Wq (RelQ (aR (List.take s' q0)) q47 (bQ (List.take s' q0))))/\q27 - s' < q34) (cR (List.take s' q0)))/\(¬q37->q40/\∃ (s':Nat),(fun (q48:Command)=>(q26/\q25/\q30/\q29/\q33=(↑s':Int)/\q8/\q4/\q9/\q10/\q11/\q12/\q5/\q7/\aR q32=aR (List.take s' q0)/\q35.kind=q48.kind/\q35.client=q48.client/\q35.seq=q48.seq/\q35.set=q48.set/\q35.id=q48.id/\q35.n=q48.n/\q35.chunks=q48.chunks/\q35.text=q48.text)/\(s' <= q27/\Wq (RelQ (aR (List.take s' q0)) q48 (bQ (List.take s' q0))))/\q27 - s' < q34) (cR (List.take s' q0)))))) (cR q32)) ((aR q32).set x.num.toNat (dv (min x.n.n (1048577:Nat))))) (x.num=q17)) (x.num=(7:Int))) ((eb x.b).length*(8:Nat)<=q24)) (I64 q33))/\((↑q0.length:Int)<=(↑s:Int)->q2<=q6/\q6<q31/\q14<q13/\(I64 ((aR q32).getD q14 q3)->q2<=(2:Int)/\(2:Int)<q31/\q18<q13/\(I64 ((aR q32).getD q18 q3)->q2<=(3:Int)/\(3:Int)<q31/\q19<q13/\(I64 ((aR q32).getD q19 q3)->q2<=(4:Int)/\(4:Int)<q31/\q20<q13/\(I64 ((aR q32).getD q20 q3)->q2<=(5:Int)/\(5:Int)<q31/\q21<q13/\(I64 ((aR q32).getD q21 q3)->q2<=(6:Int)/\(6:Int)<q31/\q22<q13/\(I64 ((aR q32).getD q22 q3)->q1.length<=(20000:Nat)/\(I64 (dB (Command.mk ((aR q32).getD q14 q3) ((aR q32).getD q18 q3) ((aR q32).getD q19 q3) ((aR q32).getD q20 q3) ((aR q32).getD q21 q3) ((aR q32).getD q22 q3) (cR q32).chunks (cR q32).text) q1 v)->(¬dB (Command.mk ((aR q32).getD q14 q3) ((aR q32).getD q18 q3) ((aR q32).getD q19 q3) ((aR q32).getD q20 q3) ((aR q32).getD q21 q3) ((aR q32).getD q22 q3) (cR q32).chunks (cR q32).text) q1 v=q2\/¬Str.mk (eg (Command.mk ((aR q32).getD q14 q3) ((aR q32).getD q18 q3) ((aR q32).getD q19 q3) ((aR q32).getD q20 q3) ((aR q32).getD q21 q3) ((aR q32).getD q22 q3) (cR q32).chunks (cR q32).text) q1 v)=Str.mk b->q2=r0.kind/\q2=r0.client/\q2=r0.seq/\q2=r0.set/\q2=r0.id/\q2=r0.n/\q23/\q16/\r1=[]/\(6:Int)=r2)/\(dB (Command.mk ((aR q32).getD q14 q3) ((aR q32).getD q18 q3) ((aR q32).getD q19 q3) ((aR q32).getD q20 q3) ((aR q32).getD q21 q3) ((aR q32).getD q22 q3) (cR q32).chunks (cR q32).text) q1 v=q2/\Str.mk (eg (Command.mk ((aR q32).getD q14 q3) ((aR q32).getD q18 q3) ((aR q32).getD q19 q3) ((aR q32).getD q20 q3) ((aR q32).getD q21 q3) ((aR q32).getD q22 q3) (cR q32).chunks (cR q32).text) q1 v)=Str.mk b->(aR q32).getD q14 q3=r0.kind/\(aR q32).getD q18 q3=r0.client/\(aR q32).getD q19 q3=r0.seq/\(aR q32).getD q20 q3=r0.set/\(aR q32).getD q21 q3=r0.id/\(aR q32).getD q22 q3=r0.n/\(cR q32).chunks=r0.chunks/\(cR q32).text=r0.text/\q1=r1/\q2=r2)))))))))) (List.take s q0)) ((↑s:Int)+q6)) (q27 - s)) q0.length) (cR (List.take s0 q0))) (q1=q1)) (q0=q0)) (↑q13:Int))))))) (bD (aU b).fst (bj v))) (cC (aU b).fst (bj v))) (0:Int)) (dflt Sh.int)) (bG.client=bG.client)) (bG.chunks=bG.chunks)) (1:Int)) (bG.text=bG.text)) (bG.kind=bG.kind)) (bG.seq=bG.seq)) (bG.set=bG.set)) (bG.id=bG.id)) (bG.n=bG.n)) (7:Nat)) (1:Nat)) (ew (aU b).fst v)) (Str.mk []=r0.text)) (8:Int)) (2:Nat)) (3:Nat)) (4:Nat)) (5:Nat)) (6:Nat)) (r0.chunks=[])) (140737488355328:Nat)) (v=v)) (b=b)):=by kernel_rfl
theorem Lq (b:List UInt8) (v:Int):Sat Tryz.prog (al tyT) 38 [.c (.fz .u8 (b)),.c (.int (v))] [] ⟨[],[.agg (cellsOf (.nm .command) ((bP b v).c)),.c (.fz (.nm .field) (((bP b v).r))),.c (.int (((bP b v).e)))],none,false⟩:=by
 refine aJ AU (Dc b v) Tryz.func38 (by decide) (by kernel_rfl) ?_
 rw [JR]
 iterate 3 ((all_goals (repeat' (first | with_reducible apply bu | with_reducible refine bw ?_ | intro))); (all_goals try (first | exact bT | exact rfl | exact ⟨Y_⟩ | (rw [TD ae] <;> rfl) | (rw [Zm ae ae ae] <;> rfl) | (rw [Zw ae ae] <;> rfl) | (rw [aaJ ae ae ae ae aG (by assumption)] <;> rfl) | (rw [WV ae ae ae ae aG (by assumption) (by assumption)] <;> rfl) | exact (aau ae ae ae (NL ae ae ae).1) | exact (YJ ae ae) | exact (ZI ae ae) | (rw [aad ae ae] <;> rfl) | (rw [aaF ae ae] <;> rfl) | (rw [ZE ae aG aG] <;> rfl) | (have h:=NL (u:=bj v) (k:=‹Nat›) (show (aU b).2=0 by with_reducible assumption) (show ew (aU b).1 v=0 by with_reducible assumption) ae; omega) | (have h1:=nN (aU b).1 (bj v); have h2:=Az b; omega))); all_goals try first | refine ⟨‹Nat› + 1,?_⟩ | refine ⟨0,?_⟩)
noncomputable def Kh:cO:=(bq 38 (bm (ah (kC (cL .u8)) (ah (kC cI) aH)) aI fun (b,v,_) (_)=>⟨[],[.agg (cellsOf (.nm .command) ((bP b v).c)),.c (.fz (.nm .field) (((bP b v).r))),.c (.int (((bP b v).e)))],none,false⟩) Pt)
theorem sT:aW Tryz.prog (al tyT) Kh:=(au (av (ab (aq aY) (ab (aq ay) ai)) aj fun (b,v,_) (_) _=>Lq b v ) AU)
structure RdM where
 c:Command
 some:Bool
 e:Int
noncomputable def aT (x:Entry) (v:Int):RdM:=
 if x.b.length=0 then (if v<1\/3<v then ⟨bG,false,1⟩ else ⟨bG,false,0⟩)
 else if ¬ (bP x.b v).e=0 then ⟨bG,false,(bP x.b v).e⟩
 else if a_ (bP x.b v).c.kind=0\/v<a_ (bP x.b v).c.kind then ⟨bG,false,10⟩
 else ⟨(bP x.b v).c,true,0⟩
section
variable {x:Entry} {v:Int}
theorem rdA (h:((x.b.length:Nat):Int)=0) (h2:v<1\/3<v):aT x v=⟨bG,false,1⟩:=by unfold aT; rw [if_pos (by omega),if_pos h2]
theorem rdB (h:((x.b.length:Nat):Int)=0) (h1:1<=v) (h2:v<=3):aT x v=⟨bG,false,0⟩:=by unfold aT; rw [if_pos (by omega),if_neg (by omega)]
theorem YM (h:¬ ((x.b.length:Nat):Int)=0) (h2:¬ (bP x.b v).e=0):aT x v=⟨bG,false,(bP x.b v).e⟩:=by unfold aT; rw [if_neg (by omega),if_pos h2]
theorem rdD (h:¬ ((x.b.length:Nat):Int)=0) (h2:(bP x.b v).e=0) (h3:a_ (bP x.b v).c.kind=0\/v<a_ (bP x.b v).c.kind):aT x v=⟨bG,false,10⟩:=by unfold aT; rw [if_neg (by omega),if_neg (by rw [h2]; simp),if_pos h3]
theorem rdE (h:¬ ((x.b.length:Nat):Int)=0) (h2:(bP x.b v).e=0) (h3:¬ a_ (bP x.b v).c.kind=0) (h4:a_ (bP x.b v).c.kind<=v):aT x v=⟨(bP x.b v).c,true,0⟩:=by unfold aT; rw [if_neg (by omega),if_neg (by rw [h2]; simp),if_neg (by omega)]
theorem rdF (h2:v<1\/3<v):aT x v=⟨bG,false,1⟩:=by
 by_cases h:((x.b.length:Nat):Int)=0
 ·exact rdA h h2
 ·have e:bP x.b v=⟨bG,[],1⟩:=TD (by unfold bb; rcases h2 with h2 | h2 <;> simp <;> omega)
  rw [YM h (by rw [e]; decide),e]
end
theorem HP (x:Entry) (v:Int) (r0:Command) (r1:Bool) (r2:Int):ck tyT Kh [] Tryz.f11 [.agg (cellsOf (.nm .entry) x),.c (.int (v))] [] [.agg (cellsOf (.nm .command) r0),.c (.bool (.atom (r1))),.c (.int (r2))]=((fun (q3:Prop)=>(fun (q2:Prop)=>(fun (q1:Int)=>(fun (q0:TkR)=>I64 x.term->x.b.length*(1:Nat)<=(140737488355328:Nat)->I64 v->((↑x.b.length:Int)=q1->(v<(1:Int)\/(3:Int)<v->q1=r0.kind/\q1=r0.client/\q1=r0.seq/\q1=r0.set/\q1=r0.id/\q1=r0.n/\q3/\q2/\false=r1/\(1:Int)=r2)/\((1:Int)<=v/\v<=(3:Int)->q1=r0.kind/\q1=r0.client/\q1=r0.seq/\q1=r0.set/\q1=r0.id/\q1=r0.n/\q3/\q2/\false=r1/\q1=r2))/\(¬(↑x.b.length:Int)=q1->I64 q0.c.kind->I64 q0.c.client->I64 q0.c.seq->I64 q0.c.set->I64 q0.c.id->I64 q0.c.n->q0.c.chunks.length*(8:Nat)<=(140737488355328:Nat)->q0.c.text.b.length<=(140737488355328:Nat)->q0.r.length*(48:Nat)<=(140737488355328:Nat)->I64 q0.e->(¬q0.e=q1->q1=r0.kind/\q1=r0.client/\q1=r0.seq/\q1=r0.set/\q1=r0.id/\q1=r0.n/\q3/\q2/\false=r1/\q0.e=r2)/\(q0.e=q1->I64 (a_ q0.c.kind)->(a_ q0.c.kind=q1\/v<a_ q0.c.kind->q1=r0.kind/\q1=r0.client/\q1=r0.seq/\q1=r0.set/\q1=r0.id/\q1=r0.n/\q3/\q2/\false=r1/\(10:Int)=r2)/\(¬a_ q0.c.kind=q1/\a_ q0.c.kind<=v->q0.c.kind=r0.kind/\q0.c.client=r0.client/\q0.c.seq=r0.seq/\q0.c.set=r0.set/\q0.c.id=r0.id/\q0.c.n=r0.n/\q0.c.chunks=r0.chunks/\q0.c.text=r0.text/\true=r1/\q1=r2)))) (bP x.b v)) (0:Int)) (Str.mk []=r0.text)) (r0.chunks=[])):=by kernel_rfl
theorem DZ (x:Entry) (v:Int):Sat Tryz.prog (al tyT) 11 [.agg (cellsOf (.nm .entry) x),.c (.int (v))] [] ⟨[],[.agg (cellsOf (.nm .command) ((aT x v).c)),.c (.bool (.atom (((aT x v).some)))),.c (.int (((aT x v).e)))],none,false⟩:=by
 refine aJ sT [] Tryz.func11 (by decide) (by kernel_rfl) ?_
 rw [HP]
 (repeat' (first | with_reducible apply bu | with_reducible refine bw ?_ | intro))
 all_goals (first | exact bT | (rw [rdF (by assumption)] <;> rfl) | (rw [rdB ae ae ae] <;> rfl) | (rw [YM ae ae] <;> rfl) | (rw [rdD ae ae (by assumption)] <;> rfl) | (rw [rdE ae ae ae ae] <;> rfl))
theorem EX (x:Entry) (v:Int) (r0:Command) (r1:Bool) (r2:Int):ck tyT Kh [] Tryz.f20 [.agg (cellsOf (.nm .entry) x),.c (.int (v))] [] [.agg (cellsOf (.nm .command) r0),.c (.bool (.atom (r1))),.c (.int (r2))]=((fun (q3:Prop)=>(fun (q2:Prop)=>(fun (q1:Int)=>(fun (q0:TkR)=>I64 x.term->x.b.length*(1:Nat)<=(140737488355328:Nat)->I64 v->(v<(1:Int)\/(3:Int)<v->q1=r0.kind/\q1=r0.client/\q1=r0.seq/\q1=r0.set/\q1=r0.id/\q1=r0.n/\q3/\q2/\false=r1/\(1:Int)=r2)/\((1:Int)<=v/\v<=(3:Int)->((↑x.b.length:Int)=q1->q1=r0.kind/\q1=r0.client/\q1=r0.seq/\q1=r0.set/\q1=r0.id/\q1=r0.n/\q3/\q2/\false=r1/\q1=r2)/\(¬(↑x.b.length:Int)=q1->I64 q0.c.kind->I64 q0.c.client->I64 q0.c.seq->I64 q0.c.set->I64 q0.c.id->I64 q0.c.n->q0.c.chunks.length*(8:Nat)<=(140737488355328:Nat)->q0.c.text.b.length<=(140737488355328:Nat)->q0.r.length*(48:Nat)<=(140737488355328:Nat)->I64 q0.e->(¬q0.e=q1->q1=r0.kind/\q1=r0.client/\q1=r0.seq/\q1=r0.set/\q1=r0.id/\q1=r0.n/\q3/\q2/\false=r1/\q0.e=r2)/\(q0.e=q1->I64 (a_ q0.c.kind)->(a_ q0.c.kind=q1\/v<a_ q0.c.kind->q1=r0.kind/\q1=r0.client/\q1=r0.seq/\q1=r0.set/\q1=r0.id/\q1=r0.n/\q3/\q2/\false=r1/\(10:Int)=r2)/\(¬a_ q0.c.kind=q1/\a_ q0.c.kind<=v->q0.c.kind=r0.kind/\q0.c.client=r0.client/\q0.c.seq=r0.seq/\q0.c.set=r0.set/\q0.c.id=r0.id/\q0.c.n=r0.n/\q0.c.chunks=r0.chunks/\q0.c.text=r0.text/\true=r1/\q1=r2))))) (bP x.b v)) (0:Int)) (Str.mk []=r0.text)) (r0.chunks=[])):=by kernel_rfl
theorem Iz (x:Entry) (v:Int):Sat Tryz.prog (al tyT) 20 [.agg (cellsOf (.nm .entry) x),.c (.int (v))] [] ⟨[],[.agg (cellsOf (.nm .command) ((aT x v).c)),.c (.bool (.atom (((aT x v).some)))),.c (.int (((aT x v).e)))],none,false⟩:=by
 refine aJ sT [] Tryz.func20 (by decide) (by kernel_rfl) ?_
 rw [EX]
 (repeat' (first | with_reducible apply bu | with_reducible refine bw ?_ | intro))
 all_goals (first | exact bT | (rw [rdF (by assumption)] <;> rfl) | (rw [rdB ae ae ae] <;> rfl) | (rw [YM ae ae] <;> rfl) | (rw [rdD ae ae (by assumption)] <;> rfl) | (rw [rdE ae ae ae ae] <;> rfl))
noncomputable def OF:cO:=(bq 20 (bm (ah (kT (.nm .entry)) (ah (kC cI) aH)) aI fun (x,v,_) (_)=>⟨[],[.agg (cellsOf (.nm .command) ((aT x v).c)),.c (.bool (.atom (((aT x v).some)))),.c (.int (((aT x v).e)))],none,false⟩) (bq 11 (bm (ah (kT (.nm .entry)) (ah (kC cI) aH)) aI fun (x,v,_) (_)=>⟨[],[.agg (cellsOf (.nm .command) ((aT x v).c)),.c (.bool (.atom (((aT x v).some)))),.c (.int (((aT x v).e)))],none,false⟩) Kh))
theorem Aw:aW Tryz.prog (al tyT) OF:=(au (av (ab aZ (ab (aq ay) ai)) aj fun (x,v,_) (_) _=>Iz x v ) (au (av (ab aZ (ab (aq ay) ai)) aj fun (x,v,_) (_) _=>DZ x v ) sT))
noncomputable def gU (v:Int) (s:State) (x:Entry):State:=if (aT x v).some=true then (dP s (aT x v).c).1 else s
noncomputable def mu (v:Int) (s:State) (x:Entry):Reply:=if (aT x v).some=true then (dP s (aT x v).c).2 else ⟨0,0⟩
noncomputable def pS (v:Int) (s:State) (l:List Entry):State:=l.foldl (gU v) s
noncomputable def pR (v:Int):State->List Entry->List Reply
 | _,[]=>[]
 | s,x :: l=>mu v s x :: pR v (gU v s x) l
noncomputable def pN (v:Int):List Entry->Nat
 | []=>0
 | x :: l=>if (aT x v).e=0 then pN v l+1 else 0
noncomputable def pE (v:Int):List Entry->Int
 | []=>0
 | x :: l=>if (aT x v).e=0 then pE v l else (aT x v).e
noncomputable def plS (v:Int) (s:State) (l:List Entry):State:=pS v s (l.take (pN v l))
noncomputable def plR (v:Int) (s:State) (l:List Entry):List Reply:=pR v s (l.take (pN v l))
section
variable {v:Int} {s:State} {l:List Entry} {x:Entry} {k:Nat}
theorem HT (hx:l[k]? = some x):gU v (pS v s (l.take k)) x=pS v s (l.take (k+1)):=by
 rw [ax hx]; unfold pS; rw [List.foldl_append]; rfl
theorem zR:∀ {l:List Entry} {s:State},pR v s (l++[x])=pR v s l++[mu v (pS v s l) x]
 | [],_=>rfl
 | y :: l,s=>by
  show mu v s y :: pR v (gU v s y) (l++[x])=mu v s y :: (pR v (gU v s y) l++[mu v (pS v (gU v s y) l) x])
  rw [zR]
theorem Dk (hx:l[k]? = some x):pR v s (l.take k)++[mu v (pS v s (l.take k)) x]=pR v s (l.take (k+1)):=by
 rw [ax hx,zR]
theorem xK:∀ {l:List Entry} {s:State},(pR v s l).length=l.length
 | [],_=>rfl
 | y :: l,s=>by
  show (pR v (gU v s y) l).length+1=l.length+1
  rw [xK]
def okPl (v:Int) (l:List Entry):Prop:=∀ x ∈ l,(aT x v).e=0
theorem yu (h:okPl v (l.take k)) (hx:l[k]? = some x) (he:(aT x v).e=0):okPl v (l.take (k+1)):=by
 rw [ax hx]
 intro y hy
 rcases List.mem_append.1 hy with hy | hy
 ·exact h y hy
 ·rw [List.mem_singleton.1 hy]; exact he
theorem Jn:∀ {l:List Entry},okPl v l->pN v l=l.length/\pE v l=0
 | [],_=>⟨rfl,rfl⟩
 | y :: l,h=>by
  obtain ⟨h1,h2⟩:=Jn (l:=l) fun z hz=>h z (List.mem_cons_of_mem _ hz)
  have h0:=h y List.mem_cons_self
  unfold pN pE
  rw [if_pos h0,if_pos h0,h1,h2]; exact ⟨rfl,rfl⟩
theorem AW:∀ {l:List Entry} {k:Nat},okPl v (l.take k)->l[k]? = some x->¬ (aT x v).e=0->pN v l=k/\pE v l=(aT x v).e
 | [],k,_,hx,_=>by simp at hx
 | y :: l,0,_,hx,he=>by
  simp at hx; subst hx
  unfold pN pE
  rw [if_neg he,if_neg he]; exact ⟨rfl,rfl⟩
 | y :: l,k+1,h,hx,he=>by
  have h0:=h y (by simp)
  obtain ⟨h1,h2⟩:=AW (l:=l) (k:=k) (fun z hz=>h z (by rw [List.take_succ_cons]; exact List.mem_cons_of_mem _ hz)) (by simpa using hx) he
  unfold pN pE
  rw [if_pos h0,if_pos h0,h1,h2]; exact ⟨rfl,rfl⟩
theorem nU (h:okPl v (l.take k)) (hx:l[k]? = some x) (he:¬ (aT x v).e=0):pS v s (l.take k)=plS v s l/\pR v s (l.take k)=plR v s l/\(aT x v).e=pE v l:=by
 obtain ⟨h1,h2⟩:=AW h hx he
 unfold plS plR; rw [h1,h2]; exact ⟨rfl,rfl,rfl⟩
theorem sg (h:okPl v (l.take k)) (hk:l.length<=k):pS v s (l.take k)=plS v s l/\pR v s (l.take k)=plR v s l/\0=pE v l:=by
 rw [List.take_of_length_le hk] at h ⊢
 obtain ⟨h1,h2⟩:=Jn h
 unfold plS plR; rw [h1,h2,List.take_length]; exact ⟨rfl,rfl,rfl⟩
end
def mT:Code->Code
 | .seq x _=>x
 | c=>c
def eY:Code->Code
 | .seq _ y=>y
 | c=>c
def Xr:Code->Code
 | .block _ c=>c
 | .loop c=>c
 | c=>c
def ZG:Code->Code
 | .rangeFunc _ _ a _=>a
 | c=>c
def Za:Code->Code
 | .rangeFunc _ _ _ b=>b
 | c=>c
def iC:Code->List Oper
 | .region _ ops _=>ops.toList
 | _=>[]
def Nx (f:Func):Code:=f.body.getD .skip
theorem RJ (l:List Entry) (v:Int) (r0:List Entry) (r1:Int):gV tyT OF [] Tryz.f33 [.c (.fz (.nm .entry) (l)),.c (.int (v))] [] [.c (.fn 60 [] [(0,0),(1,0)])] [.box 44 ([.fz (.nm .entry) (r0)]),.box 3 ([.int (r1)])]=(l.length*(32:Nat)<=(140737488355328:Nat)->I64 v->l=r0/\v=r1):=by kernel_rfl
theorem QD (l:List Entry) (v:Int):Sat Tryz.prog (al tyT) 33 [.c (.fz (.nm .entry) (l)),.c (.int (v))] [] ⟨[],[.c (.fn 60 [] [(0,0),(1,0)])],some ([.box 44 ([.fz (.nm .entry) ((l))]),.box 3 ([.int ((v))])]),true⟩:=by
 refine cA Aw [] Tryz.func33 (by decide) (by kernel_rfl) ?_
 rw [RJ]
 grind
noncomputable def eu:cO:=(bq 33 (bm (ah (kC (cL (.nm .entry))) (ah (kC cI) aH)) aI fun (l,v,_) (_)=>⟨[],[.c (.fn 60 [] [(0,0),(1,0)])],some ([.box 44 ([.fz (.nm .entry) ((l))]),.box 3 ([.int ((v))])]),true⟩) OF)
theorem oe:aW Tryz.prog (al tyT) eu:=(au (av (ab (aq aY) (ab (aq ay) ai)) aj fun (l,v,_) (_) _=>QD l v ) Aw)
noncomputable abbrev Td:Code:=Nx Tryz.f16
noncomputable abbrev c60:Code:=Nx Tryz.f60
noncomputable abbrev V_:Code:=mT Td
noncomputable abbrev TW:Code:=mT (eY Td)
noncomputable abbrev Wp:Code:=mT (eY (eY Td))
noncomputable abbrev UJ:Code:=mT (mT (eY (eY (eY Td))))
noncomputable abbrev pRf:Code:=Xr (eY (mT (eY (eY (eY Td)))))
noncomputable abbrev KF:Code:=eY (eY (eY (eY Td)))
noncomputable abbrev Ei:Code:=ZG pRf
noncomputable abbrev Ee:Code:=Za pRf
noncomputable abbrev Zj:Code:=mT c60
noncomputable abbrev iB:Code:=Xr (Xr (eY c60))
noncomputable abbrev Zc:Code:=mT iB
noncomputable abbrev iCo:Code:=mT (eY iB)
noncomputable abbrev XB:Code:=Xr (mT (eY (eY iB)))
noncomputable abbrev iR2:Code:=mT XB
noncomputable abbrev iR3:Code:=mT (eY XB)
noncomputable abbrev Aj:Code:=mT (eY (eY XB))
noncomputable abbrev Sd:Code:=eY (eY (eY XB))
noncomputable abbrev iR5:Code:=eY (eY (eY iB))
def hK (s:State) (r:List Reply) (l:List Entry) (v:Int):AH:=[.box 43 ([.int ((s.version)),.int ((s.next)),.int ((s.keep)),.int ((s.quota)),.own 7,.own 8,.own 9]),.box 43 ([.int ((0)),.int ((0)),.int ((0)),.int ((0)),.em true,.em true,.em true]),.box 47 ([.em true]),.box 31 ([.int ((0))]),.box 47 ([.own 10]),.box 44 ([.fz (.nm .entry) ((l))]),.box 3 ([.int ((v))]),.row 82 (.nm .sess) ((s.sess)),.row 63 (.nm .opn) ((s.opens)),.row 73 (.nm .snap) ((s.snaps)),.row 56 (.nm .reply) ((r))]
def hE (s:State) (r:List Reply):AH:=[.row 82 (.nm .sess) ((s.sess)),.row 63 (.nm .opn) ((s.opens)),.row 73 (.nm .snap) ((s.snaps)),.row 56 (.nm .reply) ((r))]
def rE (s:State) (e:Int):List TV1:=[.agg [.int s.version,.int s.next,.int s.keep,.int s.quota,.own 0,.own 1,.own 2],.c (.own 3),.c (.int e)]
def frP:AFr:=[(3,one (.ptr 0 0)),(6,one (.ptr 1 0)),(7,one (.ptr 2 0)),(8,one (.ptr 3 0)),(9,one (.ptr 4 0)),(16,one (.fn 60 [] [(5,0),(6,0)]))]
def A_ (L:Nat):Option TV->Prop
 | some (.one (.c (.yl a)))=>a=L
 | _=>False
def NZ (l:List Entry) (k:Nat):AFr:=[(1,one (.ptr 5 0)),(2,one (.ptr 6 0)),(9,one (.fz (.nm .entry) l)),(10,one (.int l.length)),(11,one (.int k))]
def Db (c:Command) (b:Bool) (e:Int):TV1:=.agg (cellsOf (.nm .command) ((c))++[.bool (.atom ((b))),.int ((e))])
def frY (l:List Entry) (k:Nat) (c:Command) (b:Bool) (e:Int):AFr:=(26,.one (Db c b e)) :: NZ l k
def hT (c:Command) (b:Bool) (e:Int):AO:=.box 78 (cellsOf (.nm .command) ((c))++[.bool (.atom ((b))),.int ((e))])
def Tj (k0:Nat) (q:AFr × AH):Exit->AFr->AH->Prop
 | .normal,fr,K=>gM (wT tyT k0 fr K q)
 | _,_,_=>False
def XZ (L:Nat) (q:AFr × AH):Exit->AFr->AH->Prop
 | .normal,fr,K=>A_ L (lookA fr 0)/\gM (wT tyT 11 fr K q)
 | _,_,_=>False
noncomputable def Zv (L:Nat) (s:State) (r:List Reply) (l:List Entry) (v:Int) (k:Nat) (fr:AFr) (K:AH):Prop:=
 ∃ x,l[k]? = some x/\A_ L (lookA fr 0)/\A_ L (lookA fr 22)/\gM (wT tyT 11 fr K (frY l k (aT x v).c (aT x v).some (aT x v).e,hK s r l v))
noncomputable def aam (L:Nat) (s:State) (r:List Reply) (l:List Entry) (v:Int) (k:Nat):Exit->AFr->AH->Prop
 | .normal,fr,K=>wpOps tyT eu (fq 0) (iC Aj) (Zv L s r l v k) 6 ((iC Aj).take 5) fr K
 | _,_,_=>False
noncomputable def aan (L:Nat) (s:State) (r:List Reply) (l:List Entry) (v:Int) (k:Nat):Exit->AFr->AH->Prop
 | .exit j,fr,K=>j=0/\l.length<=k/\A_ L (lookA fr 0)/\gM (wT tyT 11 fr K (NZ l k,hK s r l v))
 | .normal,fr,K=>gD tyT eu (fq 0) 11 [] (.seq iR2 iR3) (aam L s r l v k) fr K
 | _,_,_=>False
noncomputable def Uk (L:Nat) (s:State) (r:List Reply) (l:List Entry) (v:Int) (k:Nat):Exit->AFr->AH->Prop
 | .normal,fr,K=>gD tyT eu (fq 0) 11 [] iCo (aan L s r l v k) fr K
 | _,_,_=>False
noncomputable def koD (L:Nat) (s:State) (r:List Reply) (l:List Entry) (v:Int) (k:Nat) (fr:AFr) (K:AH):Prop:=gD tyT eu (fq 0) 11 [] (.seq Sd iR5) (XZ L (NZ l (k+1),hK s r l v)) fr K
noncomputable def koH (s:State) (r:List Reply) (l:List Entry) (v:Int) (x:Entry):Exit->AFr->AH->Prop
 | .normal,_,K=>(aT x v).e=0/\gM (Rv tyT (hK s r l v) 11 (hK (gU v s x) (r++[mu v s x]) l v) K)
 | .ret,_,K=>¬ (aT x v).e=0/\endE tyT [] 0 Tryz.f16 (rE s (aT x v).e) (hE s r) frP K
 | _,_,_=>False
def koI (s:State) (r:List Reply):Exit->AFr->AH->Prop
 | .ret,fr,K=>endE tyT [] 0 Tryz.f16 (rE s 0) (hE s r) fr K
 | _,_,_=>False
theorem YL (s:State) (l:List Entry) (v:Int):jl (Ab [.agg (cellsOf (.nm .state) s),.c (.fz (.nm .entry) l),.c (.int v)]) (gD tyT eu (fq 0) 0 [] (.seq V_ (.seq TW (.seq Wp UJ))) (Tj 0 (frP,hK s [] l v)) (nb 0 [.agg (cellsOf (.nm .state) s),.c (.fz (.nm .entry) l),.c (.int v)]) [])=((fun (q0:Prop)=>I64 s.version->I64 s.next->I64 s.keep->I64 s.quota->s.sess.length*(32:Nat)<=(140737488355328:Nat)->s.opens.length*(16:Nat)<=(140737488355328:Nat)->s.snaps.length*(64:Nat)<=(140737488355328:Nat)->l.length*(32:Nat)<=(140737488355328:Nat)->I64 v->I64 s.version->I64 s.next->I64 s.keep->I64 s.quota->s.version=s.version/\s.next=s.next/\s.keep=s.keep/\s.quota=s.quota/\q0/\q0/\q0/\q0/\q0/\l=l/\v=v/\s.sess=s.sess/\s.opens=s.opens/\s.snaps=s.snaps/\([]:List Reply)=[]) ((0:Int)=(0:Int))):=by kernel_rfl
theorem Yq (L:Nat) (s:State) (r:List Reply) (l:List Entry) (v:Int):gD tyT eu (fq 0) 11 [] Zj (XZ L (NZ l 0,hK s r l v)) [(0,one (.yl L)),(1,one (.ptr 5 0)),(2,one (.ptr 6 0))] (hK s r l v)=((fun (q0:Prop)=>L=L/\l=l/\(↑l.length:Int)=(↑l.length:Int)/\(0:Int)=(↑(0:Nat):Int)/\s.version=s.version/\s.next=s.next/\s.keep=s.keep/\s.quota=s.quota/\q0/\q0/\q0/\q0/\q0/\l=l/\v=v/\s.sess=s.sess/\s.opens=s.opens/\s.snaps=s.snaps/\r=r) ((0:Int)=(0:Int))):=by kernel_rfl
theorem Ya (L:Nat) (s:State) (r:List Reply) (l:List Entry) (v:Int) (k:Nat):gD tyT eu (fq 0) 11 [] Zc (Uk L s r l v k) ((0,one (.yl L)) :: NZ l k) (hK s r l v)=((fun (q2:Int)=>(fun (q1:Prop)=>(fun (q0:Prop)=>((↑k:Int)<q2->(0:Int)<=(↑k:Int)/\(↑k:Int)<(↑l.length:Int)/\∀ (x:Entry),(fun (q3:Command)=>l[k]? = some x->I64 x.term->x.b.length*(1:Nat)<=(140737488355328:Nat)->I64 q3.kind->I64 q3.client->I64 q3.seq->I64 q3.set->I64 q3.id->I64 q3.n->q3.chunks.length*(8:Nat)<=(140737488355328:Nat)->q3.text.b.length<=(140737488355328:Nat)->I64 (aT x v).e->∃ (x_1:Entry),(fun (q4:RdM)=>l[k]? = some x_1/\L=L/\L=L/\q3.kind=q4.c.kind/\q3.client=q4.c.client/\q3.seq=q4.c.seq/\q3.set=q4.c.set/\q3.id=q4.c.id/\q3.n=q4.c.n/\q3.chunks=q4.c.chunks/\q3.text=q4.c.text/\(aT x v).some=q4.some/\(aT x v).e=q4.e/\q0) (aT x_1 v)) (aT x v).c)/\(q2<=(↑k:Int)->(0:Nat)=(0:Nat)/\l.length<=k/\L=L/\q0)) (l=l/\q2=q2/\(↑k:Int)=(↑k:Int)/\s.version=s.version/\s.next=s.next/\s.keep=s.keep/\s.quota=s.quota/\q1/\q1/\q1/\q1/\q1/\l=l/\v=v/\s.sess=s.sess/\s.opens=s.opens/\s.snaps=s.snaps/\r=r)) ((0:Int)=(0:Int))) (↑l.length:Int)):=by kernel_rfl
theorem aaf (L:Nat) (s:State) (r:List Reply) (l:List Entry) (v:Int) (k:Nat) (c:Command) (b:Bool) (er:Int):wpOps tyT eu (fq 0) (iC Aj) (koD L s r l v k) 2 ((iC Aj).drop 6) ((27,one (.bool (.lit true))) :: (0,one (.yl L)) :: frY l k c b er) (hK s r l v)=((fun (q0:Prop)=>I64 ((↑k:Int)+(1:Int))/\L=L/\l=l/\(↑l.length:Int)=(↑l.length:Int)/\(↑k:Int)+(1:Int)=(↑(k+(1:Nat)):Int)/\s.version=s.version/\s.next=s.next/\s.keep=s.keep/\s.quota=s.quota/\q0/\q0/\q0/\q0/\q0/\l=l/\v=v/\s.sess=s.sess/\s.opens=s.opens/\s.snaps=s.snaps/\r=r) ((0:Int)=(0:Int))):=by kernel_rfl
theorem XL (s:State) (r:List Reply) (l:List Entry) (v:Int) (c:Command) (b:Bool) (er:Int):gD tyT eu (fq 0) 11 [] Ei (Tj 11 ((10,one (.ptr 11 0)) :: frP,hK s r l v++[hT c b er])) ((17,.one (Db c b er)) :: frP) (hK s r l v)=((fun (q0:Prop)=>s.version=s.version/\s.next=s.next/\s.keep=s.keep/\s.quota=s.quota/\q0/\q0/\q0/\q0/\q0/\l=l/\v=v/\s.sess=s.sess/\s.opens=s.opens/\s.snaps=s.snaps/\r=r/\c.kind=c.kind/\c.client=c.client/\c.seq=c.seq/\c.set=c.set/\c.id=c.id/\c.n=c.n/\c.chunks=c.chunks/\c.text=c.text/\b=b/\er=er) ((0:Int)=(0:Int))):=by kernel_rfl
theorem Zq (s:State) (r:List Reply) (l:List Entry) (v:Int) (x:Entry):gD tyT eu (fq 0) 12 [] Ee (koH s r l v x) ((10,one (.ptr 11 0)) :: frP) (hK s r l v++[hT (aT x v).c (aT x v).some (aT x v).e])=((fun (q3:RdM)=>(fun (q2:State)=>(fun (q1:Int)=>(fun (q0:State × Reply)=>(¬q3.e=q1->¬q3.e=q1/\s.version=s.version/\s.next=s.next/\s.keep=s.keep/\s.quota=s.quota/\q3.e=q3.e/\s.sess=s.sess/\s.opens=s.opens/\s.snaps=s.snaps/\r=r)/\(q3.e=q1->(q3.some=true->I64 q0.fst.version->I64 q0.fst.next->I64 q0.fst.keep->I64 q0.fst.quota->I64 q0.snd.code->I64 q0.snd.n->(r.length+[q0.snd].length)*(16:Nat)<=(140737488355328:Nat)/\q3.e=q1/\q0.fst.version=q2.version/\q0.fst.next=q2.next/\q0.fst.keep=q2.keep/\q0.fst.quota=q2.quota/\q1=q1/\q1=q1/\q1=q1/\q1=q1/\q1=q1/\l=l/\v=v/\q0.fst.sess=q2.sess/\q0.fst.opens=q2.opens/\q0.fst.snaps=q2.snaps/\r++[q0.snd]=r++[mu v s x])/\(q3.some=false->(r.length+[Reply.mk q1 q1].length)*(16:Nat)<=(140737488355328:Nat)/\q3.e=q1/\s.version=q2.version/\s.next=q2.next/\s.keep=q2.keep/\s.quota=q2.quota/\q1=q1/\q1=q1/\q1=q1/\q1=q1/\q1=q1/\l=l/\v=v/\s.sess=q2.sess/\s.opens=q2.opens/\s.snaps=q2.snaps/\r++[Reply.mk q1 q1]=r++[mu v s x]))) (dP s q3.c)) (0:Int)) (gU v s x)) (aT x v)):=by kernel_rfl
theorem ZF (s:State) (r:List Reply) (l:List Entry) (v:Int):gD tyT eu (fq 0) 11 [] KF (koI s r) frP (hK s r l v)=(s.version=s.version/\s.next=s.next/\s.keep=s.keep/\s.quota=s.quota/\(0:Int)=(0:Int)/\s.sess=s.sess/\s.opens=s.opens/\s.snaps=s.snaps/\r=r):=by kernel_rfl
noncomputable def MI:cO:=eu
theorem rK:aW Tryz.prog (al tyT) MI:=oe
theorem zu {n k0:Nat} {G:Gl} {c:Code} {K:Exit->AFr->AH->Prop} {fr:AFr} {H:AH} {ρ0:List RE} {w0 w:World} {F:Fr} {Q:Exit->Act->World->Prop} (hG:G.shp=al tyT) (hk:ρ0.length<=k0) (hc:dJ n c=true) (h:gD tyT eu (fq 0) k0 [] c K fr H)
  (hs:St G (fq 0) ρ0 w0 fr H F w) (hK:∀ e fr H F w,K e fr H->St G (fq 0) ρ0 w0 fr H F w->WX Q n e F w):WC Tryz.prog Q n c F w:=
 tD (by rw [hG]; exact dx) (by rw [hG]; exact oe) (kJ dx oe hL G n (fq 0) ρ0 w0 hG (fun i h=>by simp [fq,Nat.ble] at h)) hk c Q K fr H F w hc h hs hK
theorem VH {n m:Nat} {G:Gl} {l ops:List Oper} {K:AFr->AH->Prop} {fr:AFr} {H:AH} {ρ0:List RE} {w0 w:World} {F:Fr} {Q:Exit->Act->World->Prop} (hG:G.shp=al tyT) (hd:iK n ops=true) (h:wpOps tyT eu (fq 0) l K m ops fr H)
  (hs:St G (fq 0) ρ0 w0 fr H F w) (hK:∀ fr H F w,K fr H->St G (fq 0) ρ0 w0 fr H F w->WX Q n .normal F w):WO Tryz.prog Q n l ops F w:=
 jC (by rw [hG]; exact dx) (by rw [hG]; exact oe) hK m ops fr H F w hd h hs
abbrev yV (L:Nat):Value:=.func (.yield L) #[] #[]
theorem jA {c:Cx} {ρ:List RE} {fr:AFr} {F:Fr} {L t:Nat} (hf:FrR c ρ fr F) (h:A_ L (lookA fr t)):look F t=some (yV L):=by
 unfold A_ at h
 split at h
 ·rename_i a hl
  subst h
  obtain ⟨v,h1,h2⟩:=ei hf hl
  have h2:v=yV a:=h2
  rw [h1,h2]
 ·exact h.elim
theorem rO {F F':Fr} {t:Nat} {v:Value} (h:look F t=some v) (k:∀ i u,look F' i=some u->look F i=some u):∀ i u,look ((t,v) :: F') i=some u->look F i=some u:=fun i u hu=>by
 rw [bh] at hu
 by_cases hi:t=i
 ·subst hi; rw [if_pos rfl] at hu; cases hu; exact h
 ·rw [if_neg hi] at hu; exact k i u hu
theorem FrR.vE {c:Cx} {ρ:List RE} {fr:AFr} {F:Fr} {t:Nat} {a:TV1} {v:Value} (h:dh c ρ a v) (k:FrR c ρ fr F):FrR c ρ ((t,.one a) :: fr) ((t,v) :: F):=.cons ⟨rfl,h⟩ k
theorem Rep.ij {G:Gl} {ρ:List RE} {H:AH} {w:World} {b:Nat} (h:Rep G ρ H w) (hz:G.Z b):¬ live ρ b:=fun ⟨i,r,h1,h2⟩=>(h.bnd i r b h1 h2).2.2 hz
theorem ec {w:World} {b:Nat} {o:Obj} (h:w.heap[b]? = some o):b<w.heap.size:=(Array.getElem?_eq_some_iff.1 h).1
structure PX where
 G:Gl
 D:Nat
 L:Nat
 fn:Nat
 tm:Array Value
 FP:Fr
 s:State
 l:List Entry
 v:Int
def PX.g (X:PX):Gl:=GZ X.G X.D X.L
noncomputable def PX.rc (X:PX) (st:LoopState) (pe:Option Code):Loop:={ state:=st,pending:=pe,fn:=X.fn,tmps:=X.tm,params:=#[17],assign:=Ei,body:=Ee,defers:=X.D }
noncomputable def PX.hk (X:PX) (k:Nat):AH:=hK (pS X.v X.s (X.l.take k)) (pR X.v X.s (X.l.take k)) X.l X.v
abbrev PX.Z (X:PX):Nat->Prop:=fun b=>b=X.D\/b=X.L
structure Mid (X:PX) (k:Nat) (ρ:List RE) (W:World):Prop where
 rep:Rep X.g ρ (X.hk k) W
 fr:FrR (cx X.g ρ W) ρ frP X.FP
 ok:okPl X.v (X.l.take k)
 loop:W.heap[X.L]? = some (.loop (X.rc .ready none))
 dfr:W.heap[X.D]? = some (.deferred (some []))
structure Stopd (X:PX) (ρ:List RE) (W:World):Prop where
 rep:∃ H,Rep X.g ρ H W/\endE tyT [] 0 Tryz.f16 (rE (plS X.v X.s X.l) (pE X.v X.l)) (hE (plS X.v X.s X.l) (plR X.v X.s X.l)) frP H
 fr:FrR (cx X.g ρ W) ρ frP X.FP
 loop:W.heap[X.L]? = some (.loop (X.rc .done (some .ret)))
 dfr:W.heap[X.D]? = some (.deferred (some []))
theorem xX:zb frP=true:=by decide
section
variable {X:PX} {k:Nat} {ρ ρ':List RE} {W W':World}
theorem Mid.step {ro:Lv} (h:Mid X k ρ W) (hs:Stp ro ρ W ρ' W') (hr:Rep X.g ρ' (X.hk k) W'):Mid X k ρ' W' /\ Adv X.Z ρ W ρ' W':=by
 have ha:Adv X.Z ρ W ρ' W':=.tw hs.ext hs.bx
 have hle:=ha.le (G:=X.g) (fun b hb=>.inr hb)
 exact ⟨⟨hr,h.fr.ek xX hle hs.bx,h.ok,(hs.ext.old _ (ec h.loop) (h.rep.ij (.inr (.inr rfl)))).2.trans h.loop,(hs.ext.old _ (ec h.dfr) (h.rep.ij (.inr (.inl rfl)))).2.trans h.dfr⟩,ha⟩
section
variable {s:State} {r:List Reply} {l:List Entry} {v:Int} {x:Entry}
theorem WD (h:(aT x v).some=true):gU v s x=(dP s (aT x v).c).1:=by unfold gU; rw [if_pos h]
theorem Uv (h:(aT x v).some=false):gU v s x=s:=by unfold gU; rw [if_neg (by rw [h]; decide)]
theorem Ut (h:(aT x v).some=true):mu v s x=(dP s (aT x v).c).2:=by unfold mu; rw [if_pos h]
theorem WU (h:(aT x v).some=false):mu v s x=⟨0,0⟩:=by unfold mu; rw [if_neg (by rw [h]; decide)]
theorem SZ (hr:(r.length+1)*16<=140737488355328):gD tyT eu (fq 0) 12 [] Ee (koH s r l v x) ((10,one (.ptr 11 0)) :: frP) (hK s r l v++[hT (aT x v).c (aT x v).some (aT x v).e]):=by
 rw [Zq]
 repeat' (first | with_reducible apply bu | with_reducible refine bw ?_ | intro)
 all_goals first | with_reducible rfl | with_reducible assumption | contradiction | (simp only [List.length_cons,List.length_nil]; omega) | (rw [WD ae]; done) | (rw [Uv ae]; done) | (rw [Ut ae]; done) | (rw [WU ae]; done)
theorem Pl {c:Command} {b:Bool} {er:Int}:gD tyT eu (fq 0) 11 [] Ei (Tj 11 ((10,one (.ptr 11 0)) :: frP,hK s r l v++[hT c b er])) ((17,.one (Db c b er)) :: frP) (hK s r l v):=by
 rw [XL]
 repeat' (first | with_reducible apply bu | with_reducible refine bw ?_ | intro)
 all_goals with_reducible rfl
end
theorem Ci (hG:X.G.shp=al tyT) (hsz:X.l.length*32<=140737488355328) (hM:M 40 X.FP { tmps:=X.tm,defers:=[] }) (hDL:X.D≠X.L) (h:Mid X k ρ W) {x:Entry} (hx:X.l[k]? = some x) {u:Value}
  (hu:dh (cx X.g ρ W) ρ (Db (aT x X.v).c (aT x X.v).some (aT x X.v).e) u) (ro:Option Nat) (m:Nat) :
  RoundIn (fw ro) m Tryz.prog X.L X.fn (X.tm.setIfInBounds 17 u) Ei Ee W fun e w'=>∃ b,e = .returned b/\((b = .bool true/\∃ ρ',Mid X (k+1) ρ' w' /\ Adv X.Z ρ W ρ' w')\/(b = .bool false/\∃ ρ',Stopd X ρ' w' /\ Adv X.Z ρ W ρ' w')):=by
 refine GD ?_
 have hGg:X.g.shp=al tyT:=hG
 have hM1:M 40 ((17,u) :: X.FP) { tmps:=X.tm.setIfInBounds 17 u,defers:=[] }:=hM.put (d:=17) (v:=u) (by decide)
 have hlen:ρ.length=11:=h.rep.obj.length.symm
 have hkl:k<X.l.length:=(List.getElem?_eq_some_iff.1 hx).1
 refine zu hGg (Nat.le_of_eq hlen) (c:=Ei) (n:=40) (by kernel_rfl) (Pl (s:=pS X.v X.s (X.l.take k)) (r:=pR X.v X.s (X.l.take k)) (l:=X.l) (v:=X.v) (c:=(aT x X.v).c) (b:=(aT x X.v).some) (er:=(aT x X.v).e)) (⟨ρ,Stp.refl _ _ _,h.rep,FrR.vE hu h.fr⟩) (fun e fr H F w1 hK hs=>?_) _ hM1
 cases e with
 | normal=>
  obtain ⟨F1,⟨ρ1,hs1,hr1,hf1⟩,hlk⟩:=ff (P:=Tryz.prog) (by rw [hGg]; exact dx) (Nat.le_of_eq hlen) hs hK
  intro a ha
  have hl1:w1.heap[X.L]? = some (.loop (X.rc .ready none)):=(hs1.ext.old _ (ec h.loop) (h.rep.ij (.inr (.inr rfl)))).2.trans h.loop
  have hd1:w1.heap[X.D]? = some (.deferred (some [])):=(hs1.ext.old _ (ec h.dfr) (h.rep.ij (.inr (.inl rfl)))).2.trans h.dfr
  refine ⟨_,run_beginRound (P:=Tryz.prog) hl1 rfl,?_,ha.1⟩
  have A1:Adv X.Z ρ W ρ1 (w1.putObj X.L (.loop { X.rc .ready none with state:=.busy })):=(Adv.tw hs1.ext hs1.bx).trans (.put _ (.inr rfl))
  have hr2:Rep X.g ρ1 (X.hk k++[hT (aT x X.v).c (aT x X.v).some (aT x X.v).e]) (w1.putObj X.L (.loop { X.rc .ready none with state:=.busy })):=hr1.Cj _ (.inr (.inr rfl))
  have hl2:(w1.putObj X.L (.loop { X.rc .ready none with state:=.busy })).heap[X.L]? = some (.loop { X.rc .ready none with state:=.busy }):=World.putObj_heap_same (ec hl1)
  have hd2:(w1.putObj X.L (.loop { X.rc .ready none with state:=.busy })).heap[X.D]? = some (.deferred (some [])):=(World.putObj_heap_other hDL).trans hd1
  have hf2:FrR (cx X.g ρ1 (w1.putObj X.L (.loop { X.rc .ready none with state:=.busy }))) ρ1 ((10,one (.ptr 11 0)) :: frP) F1:=hf1.carry ((Adv.put (Z:=X.Z) _ (.inr rfl)).le (fun b hb=>.inr hb)) (iM.refl _)
  revert A1 hr2 hl2 hd2 hf2
  generalize w1.putObj X.L (.loop { X.rc .ready none with state:=.busy })=w2
  intro A1 hr2 hl2 hd2 hf2
  have hlen1:ρ1.length=12:=hr2.obj.length.symm
  refine zu hGg (Nat.le_of_eq hlen1) (c:=Ee) (n:=40) (by kernel_rfl) (SZ (s:=pS X.v X.s (X.l.take k)) (r:=pR X.v X.s (X.l.take k)) (l:=X.l) (v:=X.v) (x:=x) (by rw [xK,List.length_take]; omega)) (⟨ρ1,Stp.refl _ _ _,hr2,hf2⟩) (fun e fr H F w3 hK hs=>?_) _ (ha.sub hlk)
  obtain ⟨ρ3,hs3,hr3,_⟩:=hs
  have hl3:w3.heap[X.L]? = _:=(hs3.ext.old _ (ec hl2) (hr2.ij (.inr (.inr rfl)))).2.trans hl2
  have hd3:w3.heap[X.D]? = _:=(hs3.ext.old _ (ec hd2) (hr2.ij (.inr (.inl rfl)))).2.trans hd2
  cases e with
  | normal=>
   obtain ⟨he,hend⟩:=hK
   obtain ⟨ρ',hr',hE',hb'⟩:=Hb (P:=Tryz.prog) (ρ0:=ρ1) (w0:=w2) (by rw [hGg]; exact dx) hr3 hs3.ext hs3.bx (fun i g hi hg=>by
    have hn:=Nl (b:=false) hr2 hg
    have:i=0\/i=1\/i=2\/i=3\/i=4\/i=5\/i=6\/i=7\/i=8\/i=9\/i=10:=by omega
    rcases this with rfl | rfl | rfl | rfl | rfl | rfl | rfl | rfl | rfl | rfl | rfl <;> exact hn) hend
   refine fun _ _=>⟨_,_,run_endRound (P:=Tryz.prog) none hl3,_,rfl,.inl ⟨rfl,ρ',?_⟩⟩
   have A3:Adv X.Z ρ W ρ' (w3.putObj X.L (.loop (X.rc .ready none))):=by
    have A2:Adv X.Z ρ W ρ' w3:=⟨hE'.os.trans A1.os,hE'.tape.trans A1.tape,hE'.output.trans A1.output,Nat.le_trans A1.size hE'.size,fun b hb hl=>by
     obtain ⟨h1,h2⟩:=A1.old b hb hl
     obtain ⟨h3,h4⟩:=hE'.old b (Nat.lt_of_lt_of_le hb A1.size) h1
     exact ⟨h3,fun hz=>h4.trans (h2 hz)⟩,fun i g hg=>hb' i g (by rw [<- hlen]; exact (List.getElem?_eq_some_iff.1 hg).1) (A1.bx i g hg)⟩
    exact A2.trans (.put _ (.inr rfl))
   refine ⟨⟨?_,h.fr.ek xX (A3.le fun b hb=>.inr hb) A3.bx,yu h.ok hx he,World.putObj_heap_same (ec hl3),(World.putObj_heap_other hDL).trans hd3⟩,A3⟩
   have:=hr'.Cj (l:=X.L) (.loop (X.rc .ready none)) (.inr (.inr rfl))
   rw [HT hx,Dk hx] at this
   exact this
  | ret=>
   obtain ⟨he,hend⟩:=hK
   refine fun _ _=>⟨_,_,run_endRound (P:=Tryz.prog) (some .ret) hl3,_,rfl,.inr ⟨rfl,ρ3,?_⟩⟩
   have A3:Adv X.Z ρ W ρ3 (w3.putObj X.L (.loop (X.rc .done (some .ret)))):=(A1.trans (.tw hs3.ext hs3.bx)).trans (.put _ (.inr rfl))
   obtain ⟨p1,p2,p3⟩:=nU (s:=X.s) h.ok hx he
   rw [p1,p2,p3] at hend
   exact ⟨⟨⟨_,hr3.Cj _ (.inr (.inr rfl)),hend⟩,h.fr.ek xX (A3.le fun b hb=>.inr hb) A3.bx,World.putObj_heap_same (ec hl3),(World.putObj_heap_other hDL).trans hd3⟩,A3⟩
  | _=>exact hK.elim
 | _=>exact hK.elim
theorem Pg:Tryz.f60.body=some (.seq Zj (.block 0 (.loop (.seq Zc (.seq iCo (.seq (.block 1 (.seq iR2 (.seq iR3 (.seq Aj Sd)))) iR5)))))):=by kernel_rfl
theorem SS:Aj = .region 4 (iC Aj).toArray false:=by kernel_rfl
theorem LM:Sd = .cond (.tmp 28) .ret .skip:=by kernel_rfl
noncomputable def Oj (k:Nat):Oper:=(iC Aj).getD k ⟨none,.move (.tmp 0),0,"",#[],none⟩
noncomputable def XI:Array TypeId:=match (Oj 5).op with
 | .call c=>c.argTypes
 | _=>#[]
noncomputable def ty6:TypeId:=match (Oj 6).op with
 | .unOp _ t _=>t
 | _=>0
theorem YB:iC Aj=(iC Aj).take 5++(⟨some 27,.call ⟨.value (.tmp 22),#[.tmp 26],XI⟩,(Oj 5).type,(Oj 5).pos,(Oj 5).after,none⟩ :: (iC Aj).drop 6):=by kernel_rfl
theorem Yy:(iC Aj).drop 6=[⟨some 28,.unOp .not ty6 (.tmp 27),(Oj 6).type,(Oj 6).pos,(Oj 6).after,none⟩]:=by kernel_rfl
theorem wX {P:Program} {n:Nat} {F:Fr} {w:World} {L:Nat} {rl:Loop} {u:Value} {tys:Array TypeId} {ty:TypeId} (h22:look F 22=some (yV L)) (h26:look F 26=some u) (hl:w.heap[L]? = some (.loop rl)) (hp:rl.params = #[17]) (a:Act) (d:Option Tmp) (pos:String) (af:Array Edge) (g:Option (Nat × Bool)) (ha:M n F a) :
  (execOp a.eval ⟨d,.call ⟨.value (.tmp 22),#[.tmp 26],tys⟩,ty,pos,af,g⟩).run P w = .ok (.round L rl.fn (rl.tmps.setIfInBounds 17 u) rl.assign rl.body) w:=by
 have e1:a.eval (.tmp 22)=yV L:=ha.ev (x:=.tmp 22) h22
 have e2:a.eval (.tmp 26)=u:=ha.ev (x:=.tmp 26) h26
 have hy:=run_yield (P:=P) (args:=#[u]) hl (by rw [hp]; rfl)
 simp [execOp,resolve,e1,e2,Deferred.ofValue,invoke,hy,hp]
theorem JS {F F':Fr} {t:Nat} {v:Value} (k:∀ i u,look F' i=some u->look F i=some u):∀ i u,look ((t,v) :: F') i=some u->look ((t,v) :: F) i=some u:=fun i u hu=>by
 rw [bh] at hu ⊢
 split
 ·rename_i h; rw [if_pos h] at hu; exact hu
 ·rename_i h; rw [if_neg h] at hu; exact k i u hu
section
variable {s:State} {r:List Reply} {l:List Entry} {v:Int} {L:Nat}
theorem QA:gD tyT eu (fq 0) 11 [] Zj (XZ L (NZ l 0,hK s r l v)) [(0,one (.yl L)),(1,one (.ptr 5 0)),(2,one (.ptr 6 0))] (hK s r l v):=by
 rw [Yq]
 repeat' (first | with_reducible apply bu | with_reducible refine bw ?_ | intro)
 all_goals first | with_reducible rfl | rfl
theorem OV {k:Nat}:gD tyT eu (fq 0) 11 [] Zc (Uk L s r l v k) ((0,one (.yl L)) :: NZ l k) (hK s r l v):=by
 rw [Ya]
 repeat' (first | with_reducible apply bu | with_reducible refine bw ?_ | intro)
 all_goals try (refine ⟨_,by with_reducible assumption,?_⟩)
 repeat' (first | with_reducible apply bu | with_reducible refine bw ?_ | intro)
 all_goals first | with_reducible rfl | omega | rfl
theorem QS {k:Nat} {c:Command} {b:Bool} {er:Int} (hk:k<4611686018427387904):wpOps tyT eu (fq 0) (iC Aj) (koD L s r l v k) 2 ((iC Aj).drop 6) ((27,one (.bool (.lit true))) :: (0,one (.yl L)) :: frY l k c b er) (hK s r l v):=by
 rw [aaf]
 repeat' (first | with_reducible apply bu | with_reducible refine bw ?_ | intro)
 all_goals first | with_reducible rfl | omega | (refine dY ?_ ?_ <;> omega) | rfl
end
def QQ (y:Code) (k0:Nat) (K:Exit->AFr->AH->Prop):Exit->AFr->AH->Prop
 | .normal,fr,H=>gD tyT eu (fq 0) k0 [] y K fr H
 | e,fr,H=>K e fr H
theorem lO {x y:Code} {k0:Nat} {K:Exit->AFr->AH->Prop} {fr:AFr} {H:AH} (h:gD tyT eu (fq 0) k0 [] (.seq x y) K fr H):gD tyT eu (fq 0) k0 [] x (QQ y k0 K) fr H:=by
 have e:QQ y k0 K=fun e fr H=>(match e with | .normal=>gD tyT eu (fq 0) k0 [] y K fr H | e=>K e fr H):=by funext e fr H; cases e <;> rfl
 rw [e]; exact h
def PX.Out (X:PX) (ρ:List RE) (W:World) (_:Value) (w':World):Prop:=∃ ρ',Adv X.Z ρ W ρ' w' /\ ((∃ k,X.l.length<=k/\Mid X k ρ' w')\/Stopd X ρ' w')
theorem WO.of_eq {P:Program} {Q:Exit->Act->World->Prop} {n:Nat} {l r r':List Oper} {F:Fr} {w:World} (e:r=r') (h:WO P Q n l r' F w):WO P Q n l r F w:=e ▸ h
theorem Gu (hG:X.G.shp=al tyT) (hsz:X.l.length*32<=140737488355328) (hM:M 40 X.FP { tmps:=X.tm,defers:=[] }) (hDL:X.D≠X.L) (h:Mid X 0 ρ W) {p8 p9:Value} (h8:ey ρ (5,0) p8) (h9:ey ρ (6,0) p9) :
  iI Tryz.prog 60 #[yV X.L,p8,p9] W (X.Out ρ W):=by
 have hGg:X.g.shp=al tyT:=hG
 have hlen:ρ.length=11:=h.rep.obj.length.symm
 refine iI.enter (args:=[yV X.L,p8,p9]) (n:=30) Tryz.func60 Pg rfl rfl rfl ?_
 refine WC.seq (zu hGg (Nat.le_of_eq hlen) (by kernel_rfl) QA (⟨ρ,Stp.refl _ _ _,h.rep,FrR.vE (a:=.c (.yl X.L)) rfl (FrR.vE (a:=.c (.ptr 5 0)) h8 (FrR.vE (a:=.c (.ptr 6 0)) h9 .nil))⟩) fun e fr H F w hK hs=>?_)
 cases e with
 | normal=>
  obtain ⟨hy,he⟩:=hK
  have hy0:look F 0=some (yV X.L):=by obtain ⟨_,_,_,hf⟩:=hs; exact jA hf hy
  obtain ⟨F1,⟨ρ1,hs1,hr1,hf1⟩,hlk⟩:=ff (P:=Tryz.prog) (by rw [hGg]; exact dx) (Nat.le_of_eq hlen) hs he
  refine WX.next (WC.block fun a ha=>?_)
  refine uf (fun a w k=>∃ ρ' F',M 30 F' a/\Mid X k ρ' w/\FrR (cx X.g ρ' w) ρ' ((0,one (.yl X.L)) :: NZ X.l k) F' /\ k<=X.l.length/\Adv X.Z ρ W ρ' w) (fun k=>X.l.length - k) 0 ⟨ρ1,(0,yV X.L) :: F1,ha.sub (rO hy0 hlk),(h.step hs1 hr1).1,FrR.vE (a:=.c (.yl X.L)) rfl hf1,Nat.zero_le _,(h.step hs1 hr1).2⟩ fun k a w hD=>?_
  obtain ⟨ρ',F',hM',hmid,hfr,hk,hadv⟩:=hD
  have hlen':ρ'.length=11:=hmid.rep.obj.length.symm
  refine (WC.seq (zu hGg (Nat.le_of_eq hlen') (by kernel_rfl) (OV (L:=X.L) (k:=k)) (⟨ρ',Stp.refl _ _ _,hmid.rep,hfr⟩) fun e fr H F w2 hK hs=>?_)) a hM'
  cases e with
  | normal=>
   refine WX.next (WC.seq (zu hGg (Nat.le_of_eq hlen') (by kernel_rfl) hK hs fun e fr H F w2 hK hs=>?_))
   cases e with
   | exit j=>
    obtain ⟨rfl,hle,hy,he⟩:=hK
    obtain ⟨F2,⟨ρ2,hs2,hr2,hf2⟩,hlk2⟩:=ff (P:=Tryz.prog) (by rw [hGg]; exact dx) (Nat.le_of_eq hlen') hs he
    obtain ⟨hm2,ha2⟩:=hmid.step hs2 hr2
    have hφ:X.Out ρ W (.tuple #[]) w2:=⟨ρ2,hadv.trans ha2,.inl ⟨k,hle,hm2⟩⟩
    have hh:=WX.QM (id:=0) (WX.Qw (WX.Wa (n:=30) (fr:=F) (P:=Tryz.prog) (fn:=Tryz.f60) (φ:=X.Out ρ W) rfl hφ))
    exact fun a ha=>hh a ha
   | normal=>
    refine WX.next (WC.seq (WC.block (WC.seq (zu hGg (Nat.le_of_eq hlen') (by kernel_rfl) (lO hK) hs fun e fr H F w2 hK hs=>?_))))
    cases e with
    | normal=>
     refine WX.next (WC.seq (zu hGg (Nat.le_of_eq hlen') (by kernel_rfl) hK hs fun e fr H F w2 hK hs=>?_))
     cases e with
     | normal=>
      refine WX.next (WC.seq ?_)
      rw [SS]
      refine WC.region ?_
      refine WO.of_eq YB (WO.app (VH hGg (by kernel_rfl) hK hs fun fr H F w3 hK hs=>?_))
      intro a ha
      obtain ⟨x,hx,hy,hy22,he⟩:=hK
      have hy0:look F 0=some (yV X.L):=by obtain ⟨_,_,_,hf⟩:=hs; exact jA hf hy
      have h22:look F 22=some (yV X.L):=by obtain ⟨_,_,_,hf⟩:=hs; exact jA hf hy22
      obtain ⟨F2,⟨ρ2,hs2,hr2,hf2⟩,hlk2⟩:=ff (P:=Tryz.prog) (by rw [hGg]; exact dx) (Nat.le_of_eq hlen') hs he
      obtain ⟨hm2,ha2⟩:=hmid.step hs2 hr2
      obtain ⟨u,hu26,hu⟩:=ei (i:=26) (tv:=.one (Db (aT x X.v).c (aT x X.v).some (aT x X.v).e)) hf2 rfl
      have hkl:k<X.l.length:=(List.getElem?_eq_some_iff.1 hx).1
      refine WO.yield (L:=X.L) (f:=X.fn) (tmps:=X.tm.setIfInBounds 17 u) (assign:=Ei) (body:=Ee) (fun a d pos af g ha=>wX h22 (hlk2 _ _ hu26) hm2.loop rfl a d pos af g ha) rfl (fun ro m=>Ci hG hsz hM hDL hm2 hx hu ro m) (fun b w4 hb=>?_) a ha
      rcases hb with ⟨rfl,ρ4,hm4,ha4⟩ | ⟨rfl,ρ4,hst4,ha4⟩
      ·intro a ha
       have hf4:=FrR.vE (t:=0) (a:=.c (.yl X.L)) (v:=yV X.L) rfl (hf2.ek rfl (ha4.le fun b hb=>.inr hb) ha4.bx)
       have hlen4:ρ4.length=11:=hm4.rep.obj.length.symm
       refine (VH hGg (by kernel_rfl) (QS (L:=X.L) (k:=k) (by omega)) (⟨ρ4,Stp.refl _ _ _,hm4.rep,FrR.vE (t:=27) (a:=.c (.bool (.lit true))) (Pd.bool (e:=.lit true)) hf4⟩) fun fr H F w5 hK hs=>?_) a (ha.sub (JS (rO hy0 hlk2)))
       refine WX.next (zu hGg (Nat.le_of_eq hlen4) (by kernel_rfl) (lO hK) hs fun e fr H F w6 hK hs=>?_)
       cases e with
       | normal=>
        refine WX.Cc (WX.next (zu hGg (Nat.le_of_eq hlen4) (by kernel_rfl) hK hs fun e fr H F w7 hK hs=>?_))
        cases e with
        | normal=>
         obtain ⟨hy,he⟩:=hK
         have hy0:look F 0=some (yV X.L):=by obtain ⟨_,_,_,hf⟩:=hs; exact jA hf hy
         obtain ⟨F7,⟨ρ7,hs7,hr7,hf7⟩,hlk7⟩:=ff (P:=Tryz.prog) (by rw [hGg]; exact dx) (Nat.le_of_eq hlen4) hs he
         obtain ⟨hm7,ha7⟩:=hm4.step hs7 hr7
         exact fun a ha=>⟨k+1,⟨ρ7,(0,yV X.L) :: F7,ha.sub (rO hy0 hlk7),hm7,FrR.vE (a:=.c (.yl X.L)) rfl hf7,hkl,((hadv.trans ha2).trans ha4).trans ha7⟩,by omega⟩
        | _=>exact hK.elim
       | _=>exact hK.elim
      ·have hφ:X.Out ρ W (.tuple #[]) w4:=⟨ρ4,(hadv.trans ha2).trans ha4,.inr hst4⟩
       refine WO.of_eq Yy (WO.v (R.not (b:=false) rfl) rfl (WO.nil (WX.next ?_)))
       rw [LM]
       exact WC.zX rfl (WC.ret (WX.Wa (P:=Tryz.prog) (fn:=Tryz.f60) (φ:=X.Out ρ W) rfl hφ))
     | _=>exact hK.elim
    | _=>exact hK.elim
   | _=>exact hK.elim
  | _=>exact hK.elim
 | _=>exact hK.elim
end
theorem RP:Tryz.f16.body=some (.seq V_ (.seq TW (.seq Wp (.seq (.seq UJ (.block 0 (.rangeFunc (.tmp 16) #[17] Ei Ee))) KF)))):=by kernel_rfl
theorem PB {n:Nat} {args:List Value} (hle:args.length<=n):M n (qA 0 args) { tmps:=args.toArray++Array.replicate (n - args.toArray.size) undef,defers:=[] }:=by
 refine ⟨rfl,?_,fun i v hv=>?_⟩
 ·simp; omega
 ·rw [ou] at hv
  obtain ⟨_,h2⟩:=pj args 0 i v hv
  rw [Nat.sub_zero] at h2
  have hi:i<args.length:=(List.getElem?_eq_some_iff.1 h2).1
  refine ⟨by omega,?_⟩
  have h3:args[i]=v:=by rw [List.getElem?_eq_getElem hi] at h2; exact Option.some.inj h2
  simp [Array.getD,hi,h3]
  omega
def zI (G:Gl) (w0:World) (s:State) (l:List Entry) (v:Int) (u:Value) (w':World):Prop:=
 ∃ us,u=uE us/\∃ ρ',Rep G ρ' (hE (plS v s l) (plR v s l)) w' /\ Ext [] w0 ρ' w' /\ All2 (dh (cx G ρ' w') ρ') (rE (plS v s l) (pE v l)) us/\Kp [] w0 w'
section
variable {X:PX} {ρ1 ρ':List RE} {w0 W1 w4:World} {H:AH} {a:Act}
theorem Hr {fr:AFr} {F:Fr} (hG:X.G.shp=al tyT) (hz:∀ x,X.G.Z x->x<w0.heap.size) (hD:w0.heap.size<=X.D) (hDL:X.D<X.L) (hR:Rep X.g ρ' H w4) (hf:FrR (cx X.g ρ' w4) ρ' fr F) (hM:M 40 F a)
  (hend:endE tyT [] 0 Tryz.f16 (rE (plS X.v X.s X.l) (pE X.v X.l)) (hE (plS X.v X.s X.l) (plR X.v X.s X.l)) fr H) (hd:w4.heap[X.D]? = some (.deferred (some []))) (hE:Ext [] w0 ρ1 W1) (hA:Adv X.Z ρ1 W1 ρ' w4) :
  ∃ w',(Instr.takeDeferred X.D).run Tryz.prog w4 = .ok [] w' /\ ∃ u,(results Tryz.f16 a.tmps).run Tryz.prog w' = .ok u w' /\ zI X.G w0 X.s X.l X.v u w':=by
 refine ⟨_,run_takeDeferred (P:=Tryz.prog) hd,?_⟩
 have hR5:=hR.Cj (l:=X.D) (.deferred none) (.inr (.inl rfl))
 have hsz:(w4.putObj X.D (.deferred none)).heap.size=w4.heap.size:=by simp
 have h04:w0.heap.size<=w4.heap.size:=Nat.le_trans hE.size hA.size
 obtain ⟨hR6,hle⟩:=hR5.leave (fun x hx=>Nat.lt_of_lt_of_le (hz x hx) (by rw [hsz]; exact h04))
 have hle2:(cx X.g ρ' w4).le (cx X.G ρ' (w4.putObj X.D (.deferred none))):=((Adv.put (Z:=X.Z) (ρ:=ρ') (w:=w4) (.deferred none) (.inl rfl)).le (G:=X.g) (fun b hb=>.inr hb)).trans hle
 have hf6:=hf.carry hle2 (iM.refl _)
 have hE6:Ext [] w0 ρ' (w4.putObj X.D (.deferred none)):=⟨hA.os.trans hE.os,hA.tape.trans hE.tape,hA.output.trans hE.output,by rw [hsz]; exact h04,fun b hb hl=>by
  obtain ⟨h1,h2⟩:=hE.old b hb hl
  obtain ⟨h3,h4⟩:=hA.old b (Nat.lt_of_lt_of_le hb hE.size) h1
  have hbD:b≠X.D:=by omega
  exact ⟨h3,(World.putObj_heap_other hbD).trans ((h4 (fun hz=>by rcases hz with hz | hz <;> omega)).trans h2)⟩⟩
 unfold endE PN at hend
 split at hend
 ·rename_i l hl
  obtain ⟨us,h1,h2⟩:=i_ (by rw [hG]; exact dx) hR6 hf6 hM hl
  replace hend:=dO.1 hend
  refine ⟨_,h2,us,rfl,_,lr (P:=Tryz.prog) (by rw [hG]; exact dx) hR6 rfl (cD.1 fun p hp=>hend p (List.mem_append_left _ (List.mem_append_left _ hp))) fun p hp=>hend p (List.mem_append_right _ hp),kO hE6,ld hR6 rfl h1 fun p hp=>hend p (List.mem_append_left _ (List.mem_append_right _ hp)),?_⟩
  exact ⟨hE6.os,hE6.tape,hE6.output,hE6.size,fun b hb _=>(hE6.old b hb (fun ⟨i,r,h,_⟩=>by simp at h)).2⟩
 ·exact (show False from hend).elim
end
theorem SN {s:State} {r:List Reply} {l:List Entry} {v:Int}:gD tyT eu (fq 0) 11 [] KF (koI s r) frP (hK s r l v):=by
 rw [ZF]
 repeat' (first | with_reducible apply bu | with_reducible refine bw ?_ | intro)
 all_goals with_reducible rfl
theorem Wq.go {l:List Prop} {R:Prop} (k:∀ p ∈ l,p) (h:Wq (jl l R)):Wq R:=⟨dQ.1 h.h k⟩
theorem Wq.seq {x y:Code} {k0:Nat} {K:Exit->AFr->AH->Prop} {fr:AFr} {H:AH} (h:Wq (gD tyT eu (fq 0) k0 [] (.seq x y) K fr H)):Wq (gD tyT eu (fq 0) k0 [] x (QQ y k0 K) fr H):=⟨lO h.h⟩
theorem ZM {n k0:Nat} {G:Gl} {c:Code} {K:Exit->AFr->AH->Prop} {fr:AFr} {H:AH} {ρ0:List RE} {w0 w:World} {F:Fr} {Q:Exit->Act->World->Prop} (hG:G.shp=al tyT) (hk:ρ0.length<=k0) (hc:dJ n c=true) (h:Wq (gD tyT eu (fq 0) k0 [] c K fr H))
  (hs:St G (fq 0) ρ0 w0 fr H F w) (hK:∀ e fr H F w,K e fr H->St G (fq 0) ρ0 w0 fr H F w->WX Q n e F w):WC Tryz.prog Q n c F w:=zu hG hk hc h.h hs hK
theorem OU {s:State} {l:List Entry} {v:Int}:Wq (jl (Ab [.agg (cellsOf (.nm .state) s),.c (.fz (.nm .entry) l),.c (.int v)]) (gD tyT eu (fq 0) 0 [] (.seq V_ (.seq TW (.seq Wp UJ))) (Tj 0 (frP,hK s [] l v)) (nb 0 [.agg (cellsOf (.nm .state) s),.c (.fz (.nm .entry) l),.c (.int v)]) [])):=by
 refine ⟨?_⟩
 rw [YL]
 repeat' (first | with_reducible apply bu | with_reducible refine bw ?_ | intro)
 all_goals with_reducible rfl
theorem RB {s:State} {l:List Entry} {v:Int} (h:∀ p ∈ Ab [.agg (cellsOf (.nm .state) s),.c (.fz (.nm .entry) l),.c (.int v)],p):Wq (gD tyT eu (fq 0) 0 [] (.seq V_ (.seq TW (.seq Wp UJ))) (Tj 0 (frP,hK s [] l v)) (nb 0 [.agg (cellsOf (.nm .state) s),.c (.fz (.nm .entry) l),.c (.int v)]) []):=by
 have h1:=@OU s l v
 revert h1 h
 generalize Ab [.agg (cellsOf (.nm .state) s),.c (.fz (.nm .entry) l),.c (.int v)]=L
 generalize gD tyT eu (fq 0) 0 [] (.seq V_ (.seq TW (.seq Wp UJ))) (Tj 0 (frP,hK s [] l v)) (nb 0 [.agg (cellsOf (.nm .state) s),.c (.fz (.nm .entry) l),.c (.int v)]) []=R
 intro h h1
 exact Wq.go h h1
theorem Hq {G:Gl} {ρ:List RE} {w:World} {vs:List Value} {s:State} {l:List Entry} {v:Int} (hG:G.shp=al tyT) (hR:Rep G ρ [] w) (hvs:All2 (dh (cx G ρ w) ρ) [.agg (cellsOf (.nm .state) s),.c (.fz (.nm .entry) l),.c (.int v)] vs) :
  iI Tryz.prog 16 vs.toArray w (zI G w s l v):=by
 have hok:=KT.lf hvs
 have hsz:l.length*32<=140737488355328:=by
  have:l.length*Sh.bytes (.nm .entry)<=140737488355328:=hok _ (by simp [Ab,TV1.ok,AV.ok])
  exact this
 have hρ:ρ=[]:=List.eq_nil_of_length_eq_zero hR.obj.length.symm
 subst hρ
 have hl3:vs.length=3:=hvs.length.symm
 refine (callsIn_wide (n:=0)).1 (callsIn_of_wp_marks (F:=fw none) (n:=0) Tryz.func16 RP trivial ?_)
 have hM0:=PB (n:=40) (args:=vs) (by omega)
 have h0:([]:List RE).length<=0:=Nat.le_refl 0
 refine wpIn_seq (iL.Te rfl ((ZM (n:=40) hG h0 (by kernel_rfl) (Wq.seq (RB hok)) (⟨[],Stp.refl _ _ _,hR,kY hvs⟩) fun e fr H F w1 hK hs=>?_) _ hM0))
 cases e with
 | normal=>
  intro a ha
  refine wpIn_seq (iL.Te ha.1 ((zu (n:=40) hG h0 (by kernel_rfl) (lO hK) hs fun e fr H F w1 hK hs=>?_) _ ha))
  cases e with
  | normal=>
   intro a ha
   refine wpIn_seq (iL.Te ha.1 ((zu (n:=40) hG h0 (by kernel_rfl) (lO hK) hs fun e fr H F w1 hK hs=>?_) _ ha))
   cases e with
   | normal=>
    intro a ha
    refine wpIn_seq (wpIn_seq (iL.Te ha.1 ((zu (n:=40) hG h0 (by kernel_rfl) hK hs fun e fr H F w1 hK hs=>?_) _ ha)))
    cases e with
    | normal=>
     obtain ⟨F1,⟨ρ1,hs1,hr1,hf1⟩,hlk⟩:=ff (P:=Tryz.prog) (by rw [hG]; exact dx) h0 hs hK
     intro a ha0
     have ha:=ha0.sub hlk
     refine wpIn_block (wpIn_rangeFunc fun fn hfn=>?_)
     have hae:a={ tmps:=a.tmps,defers:=[] }:=by rw [<- ha.1]
     obtain ⟨vg,hg1,hg2⟩:=ei (i:=16) (tv:=one (.fn 60 [] [(5,0),(6,0)])) hf1 rfl
     obtain ⟨bs,us,hb,hu,rfl⟩:=hg2
     cases hb
     cases hu with | cons h8 hu=>
     cases hu with | cons h9 hu=>
     cases hu
     rename_i p8 p9
     have hg:a.eval (.tmp 16) = .func (.func 60) #[] #[p8,p9]:=ha.ev (x:=.tmp 16) hg1
     obtain ⟨X,hX⟩:∃ X:PX,X=⟨G,w1.heap.size,w1.heap.size+1,fn,a.tmps,F1,s,l,v⟩:=⟨_,rfl⟩
     have hXD:X.D=w1.heap.size:=by rw [hX]
     have hXL:X.L=w1.heap.size+1:=by rw [hX]
     obtain ⟨hre,hle,hk⟩:=hr1.enter (.deferred (some [])) (.loop (X.rc .ready none))
     have hsz2:((w1.alloc (.deferred (some []))).alloc (.loop (X.rc .ready none))).heap.size=w1.heap.size+1+1:=by simp
     have hmid:Mid X 0 ρ1 ((w1.alloc (.deferred (some []))).alloc (.loop (X.rc .ready none))):=by
      refine ⟨?_,?_,fun x hx=>by simp at hx,?_,?_⟩
      ·have:Rep (GZ G w1.heap.size (w1.heap.size+1)) ρ1 (Go.Proofs.YtladifkbefehdaaGreat.hK s [] l v) ((w1.alloc (.deferred (some []))).alloc (.loop (X.rc .ready none))):=hre
       rw [hX] at this ⊢; exact this
      ·have:=hf1.carry hle (iM.refl _)
       rw [hX] at this ⊢; exact this
      ·rw [hXL]
       have:=World.alloc_heap_new (w1.alloc (.deferred (some []))) (.loop (X.rc .ready none))
       rwa [World.size_alloc] at this
      ·rw [hXD]
       exact (Below.heap_alloc _ _ _ (by simp)).trans (World.alloc_heap_new w1 _)
     have hGX:X.G.shp=al tyT:=by rw [hX]; exact hG
     have hGgX:X.g.shp=al tyT:=hGX
     have hlX:X.l=l:=by rw [hX]
     have hMX:M 40 X.FP { tmps:=X.tm,defers:=[] }:=by rw [hX]; rw [hae] at ha; exact ha
     have hMa:M 40 X.FP a:=by rw [hX]; exact ha
     have h8':ey ρ1 (5,0) p8:=h8
     have h9':ey ρ1 (6,0) p9:=h9
     have hit:=Gu hGX (by rw [hlX]; exact hsz) hMX (by rw [hXD,hXL]; omega) hmid h8' h9'
     have hE1:Ext [] w ρ1 ((w1.alloc (.deferred (some []))).alloc (.loop (X.rc .ready none))):=hs1.ext.trans (Ext.kp hk)
     have hfin:∀ {ρ':List RE} {w4:World} {H:AH} {b:Act} {fr:AFr} {F:Fr},Rep X.g ρ' H w4->FrR (cx X.g ρ' w4) ρ' fr F->M 40 F b->endE tyT [] 0 Tryz.f16 (rE (plS X.v X.s X.l) (pE X.v X.l)) (hE (plS X.v X.s X.l) (plR X.v X.s X.l)) fr H->w4.heap[X.D]? = some (.deferred (some [])) ->
       Adv X.Z ρ1 ((w1.alloc (.deferred (some []))).alloc (.loop (X.rc .ready none))) ρ' w4->bodyPostM (fw none) 0 Tryz.prog Tryz.f16 (fun e w'=>∃ u,e = .returned u/\zI G w s l v u w') .ret (gp b [{ target:=.collected X.D,args:=#[] }]) w4:=fun hR4 hf4 hMb hend hd4 hA4=>by
      obtain ⟨w',ht,u,hu,ho⟩:=Hr (w0:=w) hGX (by rw [hX]; exact hR.z) (by rw [hXD]; exact hs1.ext.size) (by rw [hXD,hXL]; omega) hR4 hf4 hMb hend hd4 hE1 hA4
      rw [hX] at ho
      exact ⟨by simp,.inl ⟨_,w',rfl,ht,u,hu,u,rfl,ho⟩⟩
     refine ⟨w1.heap.size+1,[{ target:=.collected w1.heap.size,args:=#[] }],(w1.alloc (.deferred (some []))).alloc (.loop { state:=.ready,pending:=none,fn:=fn,tmps:=a.tmps,params:=#[17],assign:=Ei,body:=Ee,defers:=w1.heap.size }),{ target:=.fn (.func 60) #[p8,p9],args:=#[yV (w1.heap.size+1)] },(w1.alloc (.deferred (some []))).alloc (.loop { state:=.ready,pending:=none,fn:=fn,tmps:=a.tmps,params:=#[17],assign:=Ei,body:=Ee,defers:=w1.heap.size }),60,#[yV (w1.heap.size+1)] ++ #[p8,p9],(w1.alloc (.deferred (some []))).alloc (.loop { state:=.ready,pending:=none,fn:=fn,tmps:=a.tmps,params:=#[17],assign:=Ei,body:=Ee,defers:=w1.heap.size }),run_enterLoop_outer _ _ _ _ _,?_,fun _ _=>trivial,?_,fun h=>(by cases h),?_⟩
     ·simp only [resolve,hg]
      simp [go_sem]
     ·simp [invoke,go_sem]
     ·have hrc:({ state:=.ready,pending:=none,fn:=fn,tmps:=a.tmps,params:=#[17],assign:=Ei,body:=Ee,defers:=w1.heap.size }:Loop)=X.rc .ready none:=by rw [hX]; rfl
      rw [hrc,<- hXL]
      refine Fh (Calls.mono hit fun e w2 ⟨v0,he,ρ2,hA2,hc⟩=>?_)
      subst he
      rcases hc with ⟨k,hk,hm⟩ | hst
      ·refine ⟨none,_,run_endLoop (P:=Tryz.prog) hm.loop (by simp [PX.rc]),?_⟩
       obtain ⟨p1,p2,p3⟩:=sg (s:=X.s) hm.ok hk
       have hRm:=hm.rep.Cj (l:=X.L) (.loop { X.rc .ready none with state:=.exhausted }) (.inr (.inr rfl))
       have A2:Adv X.Z ρ1 _ ρ2 (w2.putObj X.L (.loop { X.rc .ready none with state:=.exhausted })):=hA2.trans (.put _ (.inr rfl))
       have hfm:FrR (cx X.g ρ2 (w2.putObj X.L (.loop { X.rc .ready none with state:=.exhausted }))) ρ2 frP X.FP:=hm.fr.carry ((Adv.put (Z:=X.Z) (ρ:=ρ2) (w:=w2) _ (.inr rfl)).le (G:=X.g) (fun b hb=>.inr hb)) (iM.refl _)
       have hdm:(w2.putObj X.L (.loop { X.rc .ready none with state:=.exhausted })).heap[X.D]? = some (.deferred (some [])):=(World.putObj_heap_other (by rw [hXD,hXL]; omega)).trans hm.dfr
       have hlen2:ρ2.length=11:=hm.rep.obj.length.symm
       revert hRm A2 hfm hdm
       generalize w2.putObj X.L (.loop { X.rc .ready none with state:=.exhausted })=w4
       intro hRm A2 hfm hdm
       have hwc:WC Tryz.prog (fun e b w5=>e = .ret/\bodyPostM (fw none) 0 Tryz.prog Tryz.f16 (fun e w'=>∃ u,e = .returned u/\zI G w s l v u w') .ret (gp b [{ target:=.collected X.D,args:=#[] }]) w5) 40 KF X.FP w4:=by
        refine zu hGgX (Nat.le_of_eq hlen2) (by kernel_rfl) (SN (s:=pS X.v X.s (X.l.take k)) (r:=pR X.v X.s (X.l.take k)) (l:=X.l) (v:=X.v)) (⟨ρ2,Stp.refl _ _ _,hRm,hfm⟩) fun e fr H F w5 hK hs=>?_
        cases e with
        | ret=>
         obtain ⟨ρ5,hs5,hr5,hf5⟩:=hs
         have hd5:w5.heap[X.D]? = some (.deferred (some [])):=(hs5.ext.old _ (ec hdm) (hRm.ij (.inr (.inl rfl)))).2.trans hdm
         have hend:endE tyT [] 0 Tryz.f16 (rE (pS X.v X.s (X.l.take k)) 0) (hE (pS X.v X.s (X.l.take k)) (pR X.v X.s (X.l.take k))) fr H:=hK
         rw [p1,p2,p3] at hend
         exact fun b hb=>⟨rfl,hfin hr5 hf5 hb hend hd5 (A2.trans (.tw hs5.ext hs5.bx))⟩
        | _=>exact hK.elim
       have hwi:=IT (m:=0) (hwc a hMa none [{ target:=.collected X.D,args:=#[] }])
       rw [hXD] at hwi
       have hadf:({ a with defers:=[{ target:=.collected w1.heap.size,args:=#[] }]++a.defers }:Act)=gp a [{ target:=.collected w1.heap.size,args:=#[] }]:=by rw [ha.1]; rfl
       show Exit.inBlock 0 _ .normal _ w4
       rw [hadf]
       refine wpIn_mono hwi fun e b w5 ⟨b0,hb0,hbe,hbr,hpost⟩=>?_
       subst hbr; subst hbe
       exact hpost
      ·refine ⟨some .ret,_,run_endLoop (P:=Tryz.prog) hst.loop (by simp [PX.rc]),?_⟩
       obtain ⟨H,hR,hend⟩:=hst.rep
       have A2:Adv X.Z ρ1 _ ρ2 (w2.putObj X.L (.loop { X.rc .done (some .ret) with state:=.exhausted })):=hA2.trans (.put _ (.inr rfl))
       have hfm:FrR (cx X.g ρ2 (w2.putObj X.L (.loop { X.rc .done (some .ret) with state:=.exhausted }))) ρ2 frP X.FP:=hst.fr.carry ((Adv.put (Z:=X.Z) (ρ:=ρ2) (w:=w2) _ (.inr rfl)).le (G:=X.g) (fun b hb=>.inr hb)) (iM.refl _)
       have hdm:(w2.putObj X.L (.loop { X.rc .done (some .ret) with state:=.exhausted })).heap[X.D]? = some (.deferred (some [])):=(World.putObj_heap_other (by rw [hXD,hXL]; omega)).trans hst.dfr
       have hp:=hfin (hR.Cj _ (.inr (.inr rfl))) hfm hMa hend hdm A2
       have hadf:({ a with defers:=[{ target:=.collected w1.heap.size,args:=#[] }]++a.defers }:Act)=gp a [{ target:=.collected w1.heap.size,args:=#[] }]:=by rw [ha.1]; rfl
       rw [hXD] at hp
       show Code.ret.wpIn _ _ _ _ _ _
       rw [hadf]
       exact wpIn_ret hp
    | _=>exact hK.elim
   | _=>exact hK.elim
  | _=>exact hK.elim
 | _=>exact hK.elim
theorem Hy (s:State) (l:List Entry) (v:Int):Sat Tryz.prog (al tyT) 16 [.agg (cellsOf (.nm .state) s),.c (.fz (.nm .entry) l),.c (.int v)] [] ⟨[],rE (plS v s l) (pE v l),some (hE (plS v s l) (plR v s l)),true⟩:=by
 refine ⟨⟨_,Tryz.func16,by decide,by kernel_rfl⟩,fun G ρ w vs hG hR hvs=>?_⟩
 have hρ:ρ=[]:=List.eq_nil_of_length_eq_zero hR.obj.length.symm
 subst hρ
 refine (Hq hG hR hvs).mono fun u w' ⟨us,e,ρ',h1,h2,h3,h4⟩=>⟨us,e,ρ',h1,h2,fun i g h=>by simp at h,h3,fun _=>⟨h4,fun i r h=>by simp at h⟩⟩
section
variable {v:Int} {s:State} {l:List Entry} {k:Nat} {x:Entry}
theorem SX:Wq (okPl v (l.take 0)):=⟨fun x h=>by simp at h⟩
theorem Qh (h:Wq (okPl v (l.take k))) (hx:l[k]? = some x) (he:(aT x v).e=0):Wq (okPl v (l.take (k+1))):=⟨yu h.h hx he⟩
theorem yd (hx:l[k]? = some x) (h:(aT x v).some=true):(dP (pS v s (l.take k)) (aT x v).c).1=pS v s (l.take (k+1)):=by rw [<- HT hx,WD h]
theorem xo (hx:l[k]? = some x) (h:(aT x v).some=false):pS v s (l.take k)=pS v s (l.take (k+1)):=by rw [<- HT hx,Uv h]
theorem Yh (hx:l[k]? = some x) (h:(aT x v).some=true):pR v s (l.take k)++[(dP (pS v s (l.take k)) (aT x v).c).2]=pR v s (l.take (k+1)):=by rw [<- Dk hx,Ut h]
theorem Zy (hx:l[k]? = some x) (h:(aT x v).some=false):pR v s (l.take k)++[Reply.mk 0 0]=pR v s (l.take (k+1)):=by rw [<- Dk hx,WU h]
theorem WM {y:Reply} (h:(k:Int)<l.length) (hl:l.length*32<=140737488355328):((pR v s (l.take k)).length+[y].length)*16<=140737488355328:=by
 rw [xK,List.length_take]; simp only [List.length_cons,List.length_nil]; omega
theorem oR (h:Wq (okPl v (l.take k))) (hx:l[k]? = some x) (he:¬ (aT x v).e=0):pS v s (l.take k)=plS v s l:=(nU h.h hx he).1
theorem Uc (h:Wq (okPl v (l.take k))) (hx:l[k]? = some x) (he:¬ (aT x v).e=0):pR v s (l.take k)=plR v s l:=(nU h.h hx he).2.1
theorem Wk (h:Wq (okPl v (l.take k))) (hx:l[k]? = some x) (he:¬ (aT x v).e=0):(aT x v).e=pE v l:=(nU (s:=State.mk 1 1 0 0 [] [] []) h.h hx he).2.2
theorem ot (h:Wq (okPl v (l.take k))) (hk:(l.length:Int)<=k):pS v s (l.take k)=plS v s l:=(sg h.h (by omega)).1
theorem WI (h:Wq (okPl v (l.take k))) (hk:(l.length:Int)<=k):pR v s (l.take k)=plR v s l:=(sg h.h (by omega)).2.1
theorem WR (h:Wq (okPl v (l.take k))) (hk:(l.length:Int)<=k):0=pE v l:=(sg (s:=State.mk 1 1 0 0 [] [] []) h.h (by omega)).2.2
end
def mi (x:Entry):Entry:=⟨x.term,x.b.take 100⟩
def qw (l:List Entry):List Entry:=(l.take 40).map mi
theorem aaa {l:List Entry} {k:Nat} {x:Entry} (hx:l[k]? = some x) (_:100<x.b.length):(l.take k).map mi++[Entry.mk x.term (x.b.take 100)]=(l.take (k+1)).map mi:=by
 rw [ax hx,List.map_append]; rfl
theorem ZK {l:List Entry} {k:Nat} {x:Entry} (hx:l[k]? = some x) (h:x.b.length<=100):(l.take k).map mi++[x]=(l.take (k+1)).map mi:=by
 have e:mi x=x:=by unfold mi; rw [List.take_of_length_le h]
 rw [ax hx,List.map_append,List.map_singleton,e]
theorem aaC {l:List Entry} {k:Nat} (h:k<=40) (h2:(l.length:Int)<=k\/40<=(k:Int)):(l.take k).map mi=qw l:=by
 unfold qw
 by_cases e:k=40
 ·rw [e]
 ·rw [List.take_of_length_le (by omega),List.take_of_length_le (by omega)]
noncomputable def yD (st:State) (l:List Entry) (v:Int):List (Nat × LI):=[(4,{ σ:=Nat,F:=fun k=>([(1,one (.fz (.nm .entry) (l))),(2,one (.int (v))),(3,one (.ptr 0 0)),(6,one (.ptr 1 0)),(9,one (.own 5)),(10,one (.int k))],[.box 43 ([.int ((((pS v st (l.take k))).version)),.int ((((pS v st (l.take k))).next)),.int ((((pS v st (l.take k))).keep)),.int ((((pS v st (l.take k))).quota)),.own 2,.own 3,.own 4]),.box 43 ([.int ((0)),.int ((0)),.int ((0)),.int ((0)),.em true,.em true,.em true]),.row 82 (.nm .sess) (((pS v st (l.take k)).sess)),.row 63 (.nm .opn) (((pS v st (l.take k)).opens)),.row 73 (.nm .snap) (((pS v st (l.take k)).snaps)),.row 56 (.nm .reply) ((pR v st (l.take k)))]),J:=fun k=>k<=l.length/\Wq (okPl v (l.take k)),μ:=fun k=>l.length - k })]
def EI (l:List Entry):List (Nat × LI):=[(3,{ σ:=Nat,F:=fun k=>([(0,one (.fz (.nm .entry) (l))),(3,one (.own 0)),(4,one (.int k))],[.row 30 (.nm .entry) (((l.take k).map mi))]),J:=fun k=>k<=l.length/\k<=40,μ:=fun k=>l.length - k })]
theorem Lj (st:State) (l:List Entry) (v:Int):Sat Tryz.prog (al tyT) 16 [.agg (cellsOf (.nm .state) st),.c (.fz (.nm .entry) (l)),.c (.int (v))] [] ⟨[],[.agg ([.int (((plS v st l).version)),.int (((plS v st l).next)),.int (((plS v st l).keep)),.int (((plS v st l).quota)),.own 0,.own 1,.own 2]),.c (.own 3),.c (.int ((pE v l)))],some ([.row 82 (.nm .sess) (((plS v st l).sess)),.row 63 (.nm .opn) (((plS v st l).opens)),.row 73 (.nm .snap) (((plS v st l).snaps)),.row 56 (.nm .reply) ((plR v st l))]),true⟩:=Hy st l v
theorem Hv (st:State) (l:List Entry) (v:Int) (r0:Int) (r1:Int) (r2:Int) (r3:Int) (r4:Int) (r5:List Sess) (r6:List Opn) (r7:List Snap) (r8:List Reply):gV tyT MI (yD st l v) Tryz.f17 [.agg (cellsOf (.nm .state) st),.c (.fz (.nm .entry) (l)),.c (.int (v))] [] [.agg ([.int (r0),.int (r1),.int (r2),.int (r3),.own 0,.own 1,.own 2]),.c (.own 3),.c (.int (r4))] [.row 82 (.nm .sess) (r5),.row 63 (.nm .opn) (r6),.row 73 (.nm .snap) (r7),.row 56 (.nm .reply) (r8)]=((fun (q3:Nat)=>(fun (q2:Nat)=>(fun (q1:Int)=>(fun (q0:Prop)=>I64 st.version->I64 st.next->I64 st.keep->I64 st.quota->st.sess.length*(32:Nat)<=q2->st.opens.length*(16:Nat)<=q2->st.snaps.length*(64:Nat)<=q2->l.length*(32:Nat)<=q2->I64 v->I64 st.version->I64 st.next->I64 st.keep->I64 st.quota->∃ (s0:Nat),(fun (q4:State)=>(l=l/\v=v/\q1=(↑s0:Int)/\st.version=q4.version/\st.next=q4.next/\st.keep=q4.keep/\st.quota=q4.quota/\q0/\q0/\q0/\q0/\st.sess=q4.sess/\st.opens=q4.opens/\st.snaps=q4.snaps/\pR v st (List.take s0 l)=[])/\(s0<=q3/\Wq (okPl v (List.take s0 l)))/\∀ (s:Nat),(fun (q7:Int)=>(fun (q6:List Reply)=>(fun (q5:State)=>s<=q3/\Wq (okPl v (List.take s l))->((↑s:Int)<(↑l.length:Int)->q1<=(↑s:Int)/\(↑s:Int)<(↑l.length:Int)/\∀ (x:Entry),(fun (q9:RdM)=>(fun (q8:State × Reply)=>l[s]? = some x->I64 x.term->x.b.length*(1:Nat)<=q2->I64 q9.c.kind->I64 q9.c.client->I64 q9.c.seq->I64 q9.c.set->I64 q9.c.id->I64 q9.c.n->q9.c.chunks.length*(8:Nat)<=q2->q9.c.text.b.length<=q2->I64 q9.e->(¬q9.e=q1->q5.version=r0/\q5.next=r1/\q5.keep=r2/\q5.quota=r3/\q9.e=r4/\q5.sess=r5/\q5.opens=r6/\q5.snaps=r7/\q6=r8)/\(q9.e=q1->(q9.some=true->I64 q8.fst.version->I64 q8.fst.next->I64 q8.fst.keep->I64 q8.fst.quota->I64 q8.snd.code->I64 q8.snd.n->(q6.length+[q8.snd].length)*(16:Nat)<=q2/\I64 q7/\∃ (s':Nat),(fun (q10:State)=>(l=l/\v=v/\q7=(↑s':Int)/\q8.fst.version=q10.version/\q8.fst.next=q10.next/\q8.fst.keep=q10.keep/\q8.fst.quota=q10.quota/\q0/\q0/\q0/\q0/\q8.fst.sess=q10.sess/\q8.fst.opens=q10.opens/\q8.fst.snaps=q10.snaps/\q6++[q8.snd]=pR v st (List.take s' l))/\(s' <= q3/\Wq (okPl v (List.take s' l)))/\q3 - s' < q3 - s) (pS v st (List.take s' l)))/\(q9.some=false->(q6.length+[Reply.mk q1 q1].length)*(16:Nat)<=q2/\I64 q7/\∃ (s':Nat),(fun (q11:State)=>(l=l/\v=v/\q7=(↑s':Int)/\q5.version=q11.version/\q5.next=q11.next/\q5.keep=q11.keep/\q5.quota=q11.quota/\q0/\q0/\q0/\q0/\q5.sess=q11.sess/\q5.opens=q11.opens/\q5.snaps=q11.snaps/\q6++[Reply.mk q1 q1]=pR v st (List.take s' l))/\(s' <= q3/\Wq (okPl v (List.take s' l)))/\q3 - s' < q3 - s) (pS v st (List.take s' l))))) (dP q5 q9.c)) (aT x v))/\((↑l.length:Int)<=(↑s:Int)->q5.version=r0/\q5.next=r1/\q5.keep=r2/\q5.quota=r3/\q1=r4/\q5.sess=r5/\q5.opens=r6/\q5.snaps=r7/\q6=r8)) (pS v st (List.take s l))) (pR v st (List.take s l))) ((↑s:Int)+(1:Int))) (pS v st (List.take s0 l))) (q1=q1)) (0:Int)) (140737488355328:Nat)) l.length):=by kernel_rfl
theorem Dm (st:State) (l:List Entry) (v:Int):Sat Tryz.prog (al tyT) 17 [.agg (cellsOf (.nm .state) st),.c (.fz (.nm .entry) (l)),.c (.int (v))] [] ⟨[],[.agg ([.int (((plS v st l).version)),.int (((plS v st l).next)),.int (((plS v st l).keep)),.int (((plS v st l).quota)),.own 0,.own 1,.own 2]),.c (.own 3),.c (.int ((pE v l)))],some ([.row 82 (.nm .sess) (((plS v st l).sess)),.row 63 (.nm .opn) (((plS v st l).opens)),.row 73 (.nm .snap) (((plS v st l).snaps)),.row 56 (.nm .reply) ((plR v st l))]),true⟩:=by
 refine cA rK (yD st l v) Tryz.func17 (by decide) (by kernel_rfl) ?_
 rw [Hv]
 iterate 3 ((all_goals (repeat' (first | with_reducible apply bu | with_reducible refine bw ?_ | intro))); (all_goals try (first | exact bT | exact rfl | exact SX | exact (Qh ae ae ae) | exact (Yh ae ae) | exact (Zy ae ae) | exact (WM ae ae) | exact (Wk ae ae ae) | exact (Uc ae ae ae) | exact (WR ae ae) | exact (WI ae ae) | exact (congrArg State.version (yd ae ae)) | exact (congrArg State.version (xo ae ae)) | exact (congrArg State.version (oR ae ae ae)) | exact (congrArg State.version (ot ae ae)) | exact (congrArg State.next (yd ae ae)) | exact (congrArg State.next (xo ae ae)) | exact (congrArg State.next (oR ae ae ae)) | exact (congrArg State.next (ot ae ae)) | exact (congrArg State.keep (yd ae ae)) | exact (congrArg State.keep (xo ae ae)) | exact (congrArg State.keep (oR ae ae ae)) | exact (congrArg State.keep (ot ae ae)) | exact (congrArg State.quota (yd ae ae)) | exact (congrArg State.quota (xo ae ae)) | exact (congrArg State.quota (oR ae ae ae)) | exact (congrArg State.quota (ot ae ae)) | exact (congrArg State.sess (yd ae ae)) | exact (congrArg State.sess (xo ae ae)) | exact (congrArg State.sess (oR ae ae ae)) | exact (congrArg State.sess (ot ae ae)) | exact (congrArg State.opens (yd ae ae)) | exact (congrArg State.opens (xo ae ae)) | exact (congrArg State.opens (oR ae ae ae)) | exact (congrArg State.opens (ot ae ae)) | exact (congrArg State.snaps (yd ae ae)) | exact (congrArg State.snaps (xo ae ae)) | exact (congrArg State.snaps (oR ae ae ae)) | exact (congrArg State.snaps (ot ae ae)))); all_goals try first | refine ⟨‹Nat› + 1,?_⟩ | refine ⟨0,?_⟩)
theorem MO (l:List Entry) (r0:List Entry):ck tyT MI (EI l) Tryz.f15 [.c (.fz (.nm .entry) (l))] [] [.c (.fz (.nm .entry) (r0))]=((fun (q0:Nat)=>l.length*(32:Nat)<=(140737488355328:Nat)->∃ (s0:Nat),(l=l/\(0:Int)=(↑s0:Int)/\List.map mi (List.take s0 l)=[])/\(s0<=q0/\s0<=(40:Nat))/\∀ (s:Nat),(fun (q2:List (den (Sh.nm NT.entry)))=>(fun (q1:Int)=>s<=q0/\s<=(40:Nat)->((↑s:Int)<(↑l.length:Int)/\(↑s:Int)<(40:Int)->(0:Int)<=(↑s:Int)/\(↑s:Int)<(↑l.length:Int)/\∀ (x:Entry),l[s]? = some x->I64 x.term->x.b.length*(1:Nat)<=(140737488355328:Nat)->((100:Int)<(↑x.b.length:Int)->(0:Int)<=(100:Int)/\(100:Int)<=(↑x.b.length:Int)/\(q2.length+[Entry.mk x.term (List.take (100:Nat) x.b)].length)*(32:Nat)<=(140737488355328:Nat)/\I64 q1/\∃ (s':Nat),(l=l/\q1=(↑s':Int)/\q2++[Entry.mk x.term (List.take (100:Nat) x.b)]=List.map mi (List.take s' l))/\(s' <= q0/\s' <= (40:Nat))/\q0 - s' < q0 - s)/\((↑x.b.length:Int)<=(100:Int)->(q2.length+[x].length)*(32:Nat)<=(140737488355328:Nat)/\I64 q1/\∃ (s':Nat),(l=l/\q1=(↑s':Int)/\q2++[x]=List.map mi (List.take s' l))/\(s' <= q0/\s' <= (40:Nat))/\q0 - s' < q0 - s))/\((↑l.length:Int)<=(↑s:Int)\/(40:Int)<=(↑s:Int)->q2=r0)) ((↑s:Int)+(1:Int))) (List.map mi (List.take s l))) l.length):=by kernel_rfl
theorem Kz (l:List Entry):Sat Tryz.prog (al tyT) 15 [.c (.fz (.nm .entry) (l))] [] ⟨[],[.c (.fz (.nm .entry) ((qw l)))],none,false⟩:=by
 refine aJ rK (EI l) Tryz.func15 (by decide) (by kernel_rfl) ?_
 rw [MO]
 iterate 3 ((all_goals (repeat' (first | with_reducible apply bu | with_reducible refine bw ?_ | intro))); (all_goals try (first | exact bT | exact rfl | exact (aaa ae aG) | exact (ZK ae aG) | exact (aaC aG aG) | (simp only [List.length_map,List.length_take,List.length_cons,List.length_nil]; omega))); all_goals try first | refine ⟨‹Nat› + 1,?_⟩ | refine ⟨0,?_⟩)
noncomputable def WS:cO:=(bq 15 (bm (ah (kC (cL (.nm .entry))) aH) aI fun (l,_) (_)=>⟨[],[.c (.fz (.nm .entry) ((qw l)))],none,false⟩) (bq 17 (bm (ah (kT (.nm .state)) (ah (kC (cL (.nm .entry))) (ah (kC cI) aH))) aI fun (st,l,v,_) (_)=>⟨[],[.agg ([.int (((plS v st l).version)),.int (((plS v st l).next)),.int (((plS v st l).keep)),.int (((plS v st l).quota)),.own 0,.own 1,.own 2]),.c (.own 3),.c (.int ((pE v l)))],some ([.row 82 (.nm .sess) (((plS v st l).sess)),.row 63 (.nm .opn) (((plS v st l).opens)),.row 73 (.nm .snap) (((plS v st l).snaps)),.row 56 (.nm .reply) ((plR v st l))]),true⟩) (bq 16 (bm (ah (kT (.nm .state)) (ah (kC (cL (.nm .entry))) (ah (kC cI) aH))) aI fun (st,l,v,_) (_)=>⟨[],[.agg ([.int (((plS v st l).version)),.int (((plS v st l).next)),.int (((plS v st l).keep)),.int (((plS v st l).quota)),.own 0,.own 1,.own 2]),.c (.own 3),.c (.int ((pE v l)))],some ([.row 82 (.nm .sess) (((plS v st l).sess)),.row 63 (.nm .opn) (((plS v st l).opens)),.row 73 (.nm .snap) (((plS v st l).snaps)),.row 56 (.nm .reply) ((plR v st l))]),true⟩) MI)))
theorem MH:aW Tryz.prog (al tyT) WS:=(au (av (ab (aq aY) ai) aj fun (l,_) (_) _=>Kz l ) (au (av (ab aZ (ab (aq aY) (ab (aq ay) ai))) aj fun (st,l,v,_) (_) _=>Dm st l v ) (au (av (ab aZ (ab (aq aY) (ab (aq ay) ai))) aj fun (st,l,v,_) (_) _=>Lj st l v ) rK)))
section
variable {v:Int} {s:State} {l:List Entry} {x:Entry}
theorem TP {k:Nat} {y:Entry} (h:(decide ((aT x v).c=(aT y v).c)=false\/((aT x v).some == (aT y v).some)=false)\/¬ (aT x v).e=(aT y v).e) (hx:l[k]? = some x) (hy:l[k]? = some y):False:=by
 rw [hx] at hy; cases hy
 simp at h
end
noncomputable def GY (st:State) (l:List Entry) (v:Int):List (Nat × LI):=[(9,{ σ:=Nat,F:=fun k=>([(1,one (.fz (.nm .entry) (qw l))),(2,one (.int (v))),(7,one (.bool (.atom true))),(10,one (.int (pE v (qw l)))),(13,one (.int (pE v (qw l)))),(14,one (.bool (.atom true))),(15,one (.bool (.atom true))),(16,one (.int k))],[]),J:=fun k=>k<=(qw l).length,μ:=fun k=>(qw l).length - k })]
theorem KE (st:State) (l:List Entry) (v:Int) (r0:Bool):ck tyT WS (GY st l v) Tryz.f4 [.agg (cellsOf (.nm .state) st),.c (.fz (.nm .entry) (l)),.c (.int (v))] [] [.c (.bool (.atom (r0)))]=((fun (q3:State)=>(fun (q2:Nat)=>(fun (q1:List Entry)=>(fun (q0:State)=>I64 st.version->I64 st.next->I64 st.keep->I64 st.quota->st.sess.length*(32:Nat)<=q2->st.opens.length*(16:Nat)<=q2->st.snaps.length*(64:Nat)<=q2->l.length*(32:Nat)<=q2->I64 v->I64 q3.version->I64 q3.next->I64 q3.keep->I64 q3.quota->q3.sess.length*(32:Nat)<=q2->q3.opens.length*(16:Nat)<=q2->q3.snaps.length*(64:Nat)<=q2->q1.length*(32:Nat)<=q2->I64 q0.version->I64 q0.next->I64 q0.keep->I64 q0.quota->I64 (pE v q1)->I64 q0.version->I64 q0.next->I64 q0.keep->I64 q0.quota->I64 (pE v q1)->∃ (s0:Nat),(fun (q5:Int)=>(fun (q4:Int)=>(q1=q1/\v=v/\true=true/\q4=q4/\q4=q4/\decide (q0=q0)=true/\decide (plR v q3 q1=plR v q3 q1)=true/\(0:Int)=(↑s0:Int))/\s0<=q1.length/\∀ (s:Nat),s<=q1.length->((↑s:Int)<q5->(0:Int)<=(↑s:Int)/\(↑s:Int)<q5/\∀ (x:Entry),(fun (q6:RdM)=>q1[s]? = some x->I64 x.term->x.b.length*(1:Nat)<=q2->I64 q6.c.kind->I64 q6.c.client->I64 q6.c.seq->I64 q6.c.set->I64 q6.c.id->I64 q6.c.n->q6.c.chunks.length*(8:Nat)<=q2->q6.c.text.b.length<=q2->I64 q6.e->(0:Int)<=(↑s:Int)/\(↑s:Int)<q5/\∀ (x:Entry),(fun (q7:RdM)=>q1[s]? = some x->I64 x.term->x.b.length*(1:Nat)<=q2->I64 q7.c.kind->I64 q7.c.client->I64 q7.c.seq->I64 q7.c.set->I64 q7.c.id->I64 q7.c.n->q7.c.chunks.length*(8:Nat)<=q2->q7.c.text.b.length<=q2->I64 q7.e->((decide (q6.c=q7.c)=false\/(q6.some == q7.some)=false)\/¬q6.e=q7.e->false=r0)/\((decide (q6.c=q7.c)=true/\(q6.some == q7.some)=true)/\q6.e=q7.e->I64 ((↑s:Int)+(1:Int))/\∃ (s':Nat),(q1=q1/\v=v/\true=true/\q4=q4/\q4=q4/\true=true/\true=true/\(↑s:Int)+(1:Int)=(↑s':Int))/\s' <= q1.length/\q1.length - s' < q1.length - s)) (aT x v)) (aT x v))/\(q5<=(↑s:Int)->(true && true && true && decide (q4=q4))=r0)) (pE v q1)) (↑q1.length:Int)) (plS v q3 q1)) (qw l)) (140737488355328:Nat)) (eK st)):=by kernel_rfl
theorem Kg (st:State) (l:List Entry) (v:Int):Sat Tryz.prog (al tyT) 4 [.agg (cellsOf (.nm .state) st),.c (.fz (.nm .entry) (l)),.c (.int (v))] [] ⟨[],[.c (.bool (.atom ((true))))],none,false⟩:=by
 refine aJ MH (GY st l v) Tryz.func4 (by decide) (by kernel_rfl) ?_
 rw [KE]
 iterate 3 ((all_goals (repeat' (first | with_reducible apply bu | with_reducible refine bw ?_ | intro))); (all_goals try (first | exact bT | exact rfl | exact (decide_eq_true rfl) | (simp only [decide_true,Bool.and_self]; done) | exact (TP (by assumption) ae ae).elim)); all_goals try first | refine ⟨‹Nat› + 1,?_⟩ | refine ⟨0,?_⟩)
end Go.Proofs.YtladifkbefehdaaGreat
namespace Go.Proofs.YtladifkbefehdaaGreat
open Go.RowKit Go.ChangeShapes Go.WideShapes
def yK (shp:TypeId->Option Sh) (w:World):Cx:=cx ⟨shp,w.heap.size,fun _=>False⟩ [] w
theorem PJ {shp:TypeId->Option Sh} {w:World} {s:Sh} {b:Nat} (h:b<w.heap.size):(yK shp w).at s b:=⟨⟨h,fun ⟨_,_,h,_⟩=>by simp at h,fun h=>h⟩,.inl h⟩
def Tr (P:Program) (shp:TypeId->Option Sh) (t:TypeId) (s:Sh):Prop:=
 ∀ (H:Type) (enc:TypeId × Value->H) (w:World) (fuel:Nat) (cs:List Value) (x:DataW H × List MemPlace),
  DataW.trod enc P w 0 (fun _=>true) true fuel t cs=some x->(∀ n ∈ x.1.weights P t,n<=140737488351232)->(∀ q ∈ x.2,q.block<w.heap.size)->∃ y:den s,Pds (yK shp w) (cellsOf s y) cs
def RT:List Sh->List AV->Prop
 | [],asx=>asx=[]
 | s :: r,asx=>∃ (y:den s) (l:List AV),asx=cellsOf s y++l/\RT r l
def Vr:List Sh->Nat
 | []=>0
 | s :: r=>s.size+Vr r
def jS (P:Program) (shp:TypeId->Option Sh) (fs:List Go.Field) (o:Nat) (ss:List Sh):Prop:=
 ∀ (H:Type) (enc:TypeId × Value->H) (w:World) (fuel:Nat) (cs:List Value) (xs:List (DataW H × List MemPlace)),
  cs.length=o+Vr ss->xs.length=fs.length->(∀ (i:Nat) (f:Go.Field),fs[i]? = some f->DataW.trod enc P w 0 (fun _=>true) true fuel f.type ((cs.drop f.offset).take (P.cellsOf f.type))=xs[i]?) ->
  (∀ n ∈ DataW.weightsEach P (fs.map (·.type)) (xs.map (·.1)),n<=140737488351232)->(∀ q ∈ xs.flatMap (·.2),q.block<w.heap.size)->∃ asx,RT ss asx/\Pds (yK shp w) asx (cs.drop o)
section
variable {P:Program} {shp:TypeId->Option Sh} {t:TypeId}
theorem Tr.int (h:P.underlying t=some (.int .i64)):Tr P shp t .int:=fun _ enc w fuel cs x hx _ _=>by
 obtain ⟨n,rfl,_,hw⟩:=DataW.trod_int h hx
 have h1:IntKind.i64.min = -9223372036854775808:=rfl
 have h2:IntKind.i64.max=9223372036854775807:=rfl
 simp only [Lit.wf,Bool.and_eq_true,decide_eq_true_eq] at hw
 exact ⟨n,.cons (.int ⟨by omega,by omega⟩) .nil⟩
theorem Tr.bool (h:P.underlying t=some .bool):Tr P shp t .bool:=fun _ enc w fuel cs x hx _ _=>by
 obtain ⟨n,rfl,_⟩:=DataW.trod_bool h hx
 exact ⟨n,.cons (Pd.bool (e:=.atom n)) .nil⟩
theorem Tr.u8 (h:P.underlying t=some (.int .u8)):Tr P shp t .u8:=fun _ enc w fuel cs x hx _ _=>by
 obtain ⟨n,rfl,_,hw⟩:=DataW.trod_int h hx
 have h1:IntKind.u8.min=0:=rfl
 have h2:IntKind.u8.max=255:=rfl
 simp only [Lit.wf,Bool.and_eq_true,decide_eq_true_eq] at hw
 refine ⟨UInt8.ofNat n.toNat,?_⟩
 have:n=((UInt8.ofNat n.toNat).toNat:Int):=by
  rw [UInt8.toNat_ofNat']; omega
 generalize hg:UInt8.ofNat n.toNat=b at this
 subst this
 exact .cons .u8 .nil
theorem Tr.u64 (h:P.underlying t=some (.int .u64)):Tr P shp t .u64:=fun _ enc w fuel cs x hx _ _=>by
 obtain ⟨n,rfl,_,hw⟩:=DataW.trod_int h hx
 have h1:IntKind.u64.min=0:=rfl
 have h2:IntKind.u64.max=18446744073709551615:=rfl
 simp only [Lit.wf,Bool.and_eq_true,decide_eq_true_eq] at hw
 refine ⟨⟨n.toNat⟩,?_⟩
 have:n=(n.toNat:Int):=by omega
 generalize hg:n.toNat=b at this
 subst this
 exact .cons (.u64 (by show b<_; omega)) .nil
theorem Tr.str (h:P.underlying t=some .string):Tr P shp t .str:=fun _ enc w fuel cs x hx hw _=>by
 obtain ⟨s,rfl,hx,_⟩:=DataW.trod_string h hx
 refine ⟨⟨s.data.toList⟩,?_⟩
 have:=hw s.data.toList.length (by rw [hx]; simp [DataW.weights])
 have e:=Pd.str (c:=yK shp w) (s:=⟨s.data.toList⟩) (by show s.data.toList.length<=_; omega)
 have e2:(⟨s.data.toList⟩:Str).val = .string s:=by simp [Str.val]
 rw [e2] at e
 exact .cons e .nil
theorem jn {H:Type} {e:TypeId}:∀ {ds:List (DataW H)} {d:DataW H},d ∈ ds->∀ n ∈ d.weights P e,n ∈ DataW.weightsAll P e ds
 | [],_,h,_,_=>by cases h
 | d0 :: ds,d,h,n,hn=>by
  rw [DataW.weightsAll,List.mem_append]
  rcases List.mem_cons.1 h with rfl | h
  ·exact .inl hn
  ·exact .inr (jn h n hn)
theorem Bx {s:Sh} {xs:List (den s)} {y:den s}:(xs++[y]).flatMap (cellsOf s)=xs.flatMap (cellsOf s)++cellsOf s y:=by simp
theorem Tr.list {e:TypeId} {s:Sh} (ht:P.underlying t=some (.slice e)) (hC:P.cellsOf e=s.size) (hB:P.bytesOf e=s.bytes) (he:Tr P shp e s):Tr P shp t (.lst s):=fun H enc w fuel cs x hx hw hlt=>by
 have hp:=size_pos s
 rcases DataW.trod_slice ht hx with ⟨rfl,_⟩ | ⟨a,len,cap,elems,rest,n,rfl,rfl,rfl,_,hl,hc,hel,hget,hrest,_⟩
 ·exact ⟨([]:List (den s)),.cons (Pd.rN (.em (a:=none) (b:=true) rfl)) .nil⟩
 ·rw [hC] at *
  have step:∀ m,m<=len->∃ (cells:List Value) (xs:List (den s)),Pds (yK shp w) (xs.flatMap (cellsOf s)) cells/\xs.length=m/\CellsAt w a cells:=by
   intro m
   induction m with
   | zero=>intro _; exact ⟨[],[],.nil,rfl,CellsAt.nil⟩
   | succ m ih=>
    intro hm
    obtain ⟨cells,xs,h1,h2,h3⟩:=ih (by omega)
    have hg:=hget m (by omega)
    have hem:elems[m]? = some (elems[m]'(by omega)):=List.getElem?_eq_getElem (by omega)
    rw [hem,Option.bind_eq_some_iff] at hg
    obtain ⟨cs,hcs,htr⟩:=hg
    have hmem:elems[m]'(by omega) ∈ elems:=List.getElem_mem _
    obtain ⟨y,hy⟩:=he H enc w n cs _ htr
     (fun k hk=>hw k (by
      simp only [DataW.weights,ht,List.mem_cons,List.mem_append]
      exact .inr (.inl (jn (List.mem_map_of_mem hmem) k hk))))
     (fun q hq=>hlt q (by
      simp only [List.mem_append,List.mem_flatMap]
      exact .inr ⟨_,.inl hmem,hq⟩))
    obtain ⟨_,hcl,hat⟩:=World.cells?_some hcs
    refine ⟨cells++cs,xs++[y],by rw [Bx]; exact h1.append hy,by simp [h2],fun j v hv=>?_⟩
    have hfl:cells.length=m*s.size:=by rw [<- h1.length,cz,h2]
    by_cases hj:j<m*s.size
    ·rw [List.getElem?_append_left (by omega)] at hv
     exact h3 j v hv
    ·rw [List.getElem?_append_right (by omega),hfl] at hv
     have hj2:=kj hv
     have:=hat (j - m*s.size) (by omega)
     rw [hv,add_add,show m*s.size+(j - m*s.size)=j by omega] at this
     exact this
  obtain ⟨cells,xs,h1,h2,h3⟩:=step len (Nat.le_refl _)
  have hwt:(elems.length+rest.length)*P.bytesOf e<=140737488351232:=hw _ (by simp [DataW.weights,ht])
  refine ⟨xs,.cons ?_ .nil⟩
  subst h2
  refine .fz (by omega) hc ?_ h1 ?_
  ·rw [hB] at hwt
   have:xs.length*s.bytes<=(elems.length+rest.length)*s.bytes:=Nat.mul_le_mul_right _ (by omega)
   omega
  ·by_cases h0:xs.length=0
   ·left; exact List.eq_nil_of_length_eq_zero h0
   ·right
    refine ⟨a,rfl,PJ ?_,h3⟩
    have:MemPlace.cell a.block (a.off+0) ∈ MemPlace.row a ((elems.length+rest.length)*s.size):=MemPlace.mem_row.2 ⟨0,Nat.mul_pos (by omega) hp,rfl⟩
    exact hlt _ (List.mem_append_left _ this)
theorem jS.nil {o:Nat}:jS P shp [] o []:=fun H enc w fuel cs xs hl _ _ _ _=>⟨[],rfl,by rw [List.drop_eq_nil_of_le (by simp only [Vr] at hl; omega)]; exact .nil⟩
theorem jS.cons {f:Go.Field} {fs:List Go.Field} {o:Nat} {s:Sh} {ss:List Sh} (h:Tr P shp f.type s) (ho:f.offset=o) (hC:P.cellsOf f.type=s.size) (hr:jS P shp fs (o+s.size) ss):jS P shp (f :: fs) o (s :: ss):=fun H enc w fuel cs xs hl hx hf hw hlt=>by
 match xs,hx with
 | x :: xs,hx=>
  have hl':cs.length=o+(s.size+Vr ss):=hl
  have h1:=hf 0 f rfl
  rw [ho,hC] at h1
  obtain ⟨y,hy⟩:=h H enc w fuel _ x h1 (fun n hn=>hw n (by simp [DataW.weightsEach,hn])) (fun q hq=>hlt q (by simp [hq]))
  obtain ⟨z,hz1,hz2⟩:=hr H enc w fuel cs xs (by omega) (by simpa using hx) (fun i f' hi=>by simpa using hf (i+1) f' (by simpa using hi)) (fun n hn=>hw n (by simp only [List.map_cons,DataW.weightsEach,List.mem_append]; exact .inr hn)) (fun q hq=>hlt q (by simp only [List.flatMap_cons,List.mem_append]; exact .inr hq))
  refine ⟨cellsOf s y++z,⟨y,z,rfl,hz1⟩,?_⟩
  have:=hy.append hz2
  rwa [<- List.drop_drop,List.take_append_drop] at this
theorem Tr.struct {s:Sh} {ss:List Sh} {fs:Array Go.Field} (ht:P.underlying t=some (.struct fs)) (hC:P.cellsOf t=Vr ss) (hs:∀ asx,RT ss asx->∃ y:den s,asx=cellsOf s y) (h:jS P shp fs.toList 0 ss):Tr P shp t s:=fun H enc w fuel cs x hx hw hlt=>by
 obtain ⟨xs,n,_,rfl,hl,hxl,hf⟩:=DataW.trod_struct ht hx
 obtain ⟨asx,h1,h2⟩:=h H enc w n cs xs (by omega) (by simpa using hxl) (fun i f hi=>hf i f (by simpa using hi)) (fun k hk=>hw k (by simpa [DataW.weights,ht] using hk)) hlt
 obtain ⟨y,rfl⟩:=hs asx h1
 exact ⟨y,by simpa using h2⟩
end
section
variable {H:Type} {enc:TypeId × Value->H} {P:Program} {shp:TypeId->Option Sh}
structure Ar (enc:TypeId × Value->H) (P:Program) (W:World) (t:TypeId) (v:Value):Prop where
 form:∃ base,Value.okWide P W .any base t v
 read:∃ d p fuel,DataW.trod enc P W 0 (fun _=>true) true fuel t v.cells.toList=some (d,p)/\(∀ n ∈ d.weights P t,n<=140737488351232)/\(∀ q ∈ p,q.block<W.heap.size)
variable {W:World} {t:TypeId} {v:Value}
theorem Ar.rp {s:Sh} (h:Ar enc P W t v) (ht:Tr P shp t s):∃ y:den s,Pds (yK shp W) (cellsOf s y) v.cells.toList:=by
 obtain ⟨d,p,fuel,h1,h2,h3⟩:=h.read
 exact ht H enc W fuel _ _ h1 h2 h3
theorem xY {a:AV} {u:Value} (h:Pds (yK shp W) [a] [u]):dh (yK shp W) [] (.c a) u:=by cases h with | cons h1 _=>exact ju h1
theorem Ar.int (h:Ar enc P W t v) (ht:P.underlying t=some (.int .i64)):∃ y:Int,dh (yK shp W) [] (.c (.int y)) v:=by
 obtain ⟨base,hf⟩:=h.form
 obtain ⟨n,rfl⟩:=okWide_int ht hf
 obtain ⟨y,h1⟩:=h.rp (shp:=shp) (Tr.int ht)
 exact ⟨y,xY (by simpa [Value.cells,cellsOf] using h1)⟩
theorem Ar.u8 (h:Ar enc P W t v) (ht:P.underlying t=some (.int .u8)):∃ y:UInt8,dh (yK shp W) [] (.c (.u8 y)) v:=by
 obtain ⟨base,hf⟩:=h.form
 obtain ⟨n,rfl⟩:=okWide_int ht hf
 obtain ⟨y,h1⟩:=h.rp (shp:=shp) (Tr.u8 ht)
 exact ⟨y,xY (by simpa [Value.cells,cellsOf] using h1)⟩
theorem Ar.bool (h:Ar enc P W t v) (ht:P.underlying t=some .bool):∃ y:Bool,dh (yK shp W) [] (.c (.bool (.atom y))) v:=by
 obtain ⟨base,hf⟩:=h.form
 obtain ⟨b,rfl⟩:=okWide_bool ht hf
 exact ⟨b,Pd.bool (e:=.atom b)⟩
theorem Ar.list {e:TypeId} {s:Sh} (h:Ar enc P W t v) (hu:P.underlying t=some (.slice e)) (ht:Tr P shp t (.lst s)):∃ xs:List (den s),dh (yK shp W) [] (.c (.fz s xs)) v:=by
 obtain ⟨base,hf⟩:=h.form
 obtain ⟨a,len,cap,rfl⟩:=okWide_slice hu hf
 obtain ⟨y,h1⟩:=h.rp ht
 exact ⟨y,xY (by simpa [Value.cells,cellsOf] using h1)⟩
theorem Ar.struct {s:Sh} {fs:Array Go.Field} (h:Ar enc P W t v) (hu:P.underlying t=some (.struct fs)) (ht:Tr P shp t s):∃ x:den s,dh (yK shp W) [] (.agg (cellsOf s x)) v:=by
 obtain ⟨base,hf⟩:=h.form
 obtain ⟨cs,rfl,_⟩:=okWide_struct hu hf
 obtain ⟨y,h1⟩:=h.rp ht
 exact ⟨y,cs.toList,by simp,fb (by simpa [Value.cells] using h1)⟩
theorem Kb {f:Nat} {args:List TV1} {pre:List Prop} {e:BE} {vs:List Value} (h:Sat P shp f args [] ⟨pre,[.c (.bool e)],none,false⟩) (he:e.val=true) (hv:All2 (dh (yK shp W) []) args vs):iI P f vs.toArray W fun r W'=>r = .bool true/\Kp [] W W':=by
 refine (h.2 ⟨shp,W.heap.size,fun _=>False⟩ [] W vs rfl ⟨.nil,fun _ _ _ _ _ h=>by simp at h,fun _ _ _ h=>by simp at h,fun _ h=>h.elim,Nat.le_refl _⟩ hv).mono fun v w' ⟨us,h1,h2,h3⟩=>⟨?_,h2⟩
 cases h3 with | cons h4 h5=>
 cases h5
 have h4:Pd _ (.bool e) _:=h4
 cases h4
 rw [h1,he]; rfl
theorem KH {base:Nat} {ts:List TypeId} {args:Array Value} {ds:List (DataW H)} {p:List MemPlace} (hf:∀ (j:Nat) t v,ts[j]? = some t->args[j]? = some v->Value.okWide P W .any base t v)
  (h:DataW.TrodAll enc P W 0 (fun _=>true) true ts args.toList ds p) (hw:∀ n ∈ DataW.weightsEach P ts ds,n<=140737488351232) (hlt:∀ q ∈ p,q.block<W.heap.size) :
  args.size=ts.length/\∀ (j:Nat) t v,ts[j]? = some t->args[j]? = some v->Ar enc P W t v:=by
 have key:∀ (ts:List TypeId) (vs:List Value) (ds:List (DataW H)) (p:List MemPlace),DataW.TrodAll enc P W 0 (fun _=>true) true ts vs ds p->(∀ n ∈ DataW.weightsEach P ts ds,n<=140737488351232)->(∀ q ∈ p,q.block<W.heap.size) ->
   vs.length=ts.length/\∀ (j:Nat) t v,ts[j]? = some t->vs[j]? = some v->∃ d p fuel,DataW.trod enc P W 0 (fun _=>true) true fuel t v.cells.toList=some (d,p)/\(∀ n ∈ d.weights P t,n<=140737488351232)/\(∀ q ∈ p,q.block<W.heap.size):=by
  intro ts
  induction ts with
  | nil=>intro vs ds p h _ _; obtain ⟨rfl,_,_⟩:=trodAll_nil h; exact ⟨rfl,fun j t v h=>by simp at h⟩
  | cons t ts ih=>
   intro vs ds p h hw hlt
   obtain ⟨v,vs,d,ds,p1,p2,rfl,rfl,rfl,h1,h2⟩:=trodAll_cons h
   obtain ⟨k1,k2⟩:=ih vs ds p2 h2 (fun n hn=>hw n (by rw [DataW.weightsEach,List.mem_append]; exact .inr hn)) (fun q hq=>hlt q (List.mem_append_right _ hq))
   refine ⟨by simp [k1],fun j t' v' ht hv=>?_⟩
   cases j with
   | zero=>
    simp at ht hv
    subst ht; subst hv
    obtain ⟨fuel,hf⟩:=h1
    exact ⟨d,p1,fuel,hf,fun n hn=>hw n (by rw [DataW.weightsEach,List.mem_append]; exact .inl hn),fun q hq=>hlt q (List.mem_append_left _ hq)⟩
   | succ j=>exact k2 j t' v' (by simpa using ht) (by simpa using hv)
 obtain ⟨k1,k2⟩:=key ts args.toList ds p h hw hlt
 exact ⟨by simpa using k1,fun j t v ht hv=>⟨⟨base,hf j t v ht hv⟩,k2 j t v ht (by simpa using hv)⟩⟩
theorem CI (hl:laidOutB P=true) {W':World} (hb:Below W.heap.size W W'):∀ (ts:List TypeId) (vs:List Value) (ds:List (DataW H)) (p:List MemPlace),ts.all (fun t=>P.readableRec t && decide (t<P.types.size))=true->DataW.TrodAll enc P W 0 (fun _=>true) true ts vs ds p->(∀ q ∈ p,q.block<W.heap.size) ->
  DataW.TrodAll enc P W' 0 (fun b=>decide (b<W.heap.size)) true ts vs ds p:=by
 intro ts
 induction ts with
 | nil=>intro vs ds p _ h _; obtain ⟨rfl,rfl,rfl⟩:=trodAll_nil h; rfl
 | cons t ts ih=>
  intro vs ds p hr h hlt
  obtain ⟨v,vs,d,ds,p1,p2,rfl,rfl,rfl,h1,h2⟩:=trodAll_cons h
  rw [List.all_cons,Bool.and_eq_true,Bool.and_eq_true,decide_eq_true_eq] at hr
  exact ⟨p1,p2,Below.trod hl hr.1.1 hr.1.2 h1 hb fun q hq=>hlt q (List.mem_append_left _ hq),ih vs ds p2 hr.2 h2 fun q hq=>hlt q (List.mem_append_right _ hq),rfl⟩
theorem ED {fn:Func} {s:ChangeSpec} {tb:TypeId} {W':World} {args:Array Value} {ds:List (DataW H)} {p:List MemPlace} (hl:laidOutB P=true)
  (hrow:fn.params.toList.all (fun t=>P.readableRec t && decide (t<P.types.size))=true) (hr:fn.resultTypes = #[tb]) (hb:P.underlying tb=some .bool) (hv:s.vars=[])
  (hs:s.fn H (ds++[])={ results:=[.lit (.bool true)],args:=ds }) (hW:DataW.Whole enc P fn.params.toList s.vars false W args.toList ds [] p) (hA:DataW.TrodAll enc P W 0 (fun _=>true) true fn.params.toList args.toList ds p) (hlt:∀ q ∈ p,q.block<W.heap.size) (hk:Kp [] W W') :
  s.post enc P fn false true false false W args (.bool true) W':=by
 refine ⟨ds,[],p,[],p,[],hW,?_,?_,?_,hk.below.frame _,fun h=>by cases h⟩
 ·rw [hs,hr]
  exact trodAll_mk1 ⟨1,by simp [DataW.trod,Value.cells,hb]⟩
 ·rw [hs]
  exact CI hl hk.below _ _ _ _ hrow hA hlt
 ·rw [hs,hv]; rfl
theorem EC {C:Checked} {os:Os} {f:FuncId} {fn:Func} {s:ChangeSpec} {conds:List PathCond} {tb:TypeId} (own:ownKnob C.prog.godebug=none) (started:os.Started) (noInit:C.prog.inits.idxOf? f=none) (hfn:C.prog.funcs[f]? = some fn)
  (witness:∃ (w:World) (tape:Tape) (i:Input),w.os=os/\(w.forCall tape i).Shaped C.prog/\i.vars=[]/\Input.okWide C.prog (w.forCall tape i) .any w.heap.size f i /\
   s.pre6 enc C.prog fn conds false (w.forCall tape i).memory i.args/\({}:Assume).holds C.prog (lone (Frame.enter C.prog f i.args .normal) [] (w.forCall tape i)))
  (hl:laidOutB C.prog=true) (hrow:fn.params.toList.all (fun t=>C.prog.readableRec t && decide (t<C.prog.types.size))=true) (hr:fn.resultTypes = #[tb]) (hb:C.prog.underlying tb=some .bool) (hv:s.vars=[])
  (hs:∀ ds:List (DataW H),ds.length=fn.params.size->s.fn H ds={ results:=[.lit (.bool true)],args:=ds })
  (law:∀ (W:World) (args:Array Value),args.size=fn.params.toList.length->(∀ (j:Nat) t v,fn.params.toList[j]? = some t->args[j]? = some v->Ar enc C.prog W t v)->iI C.prog f args W fun r W'=>r = .bool true/\Kp [] W W') :
  ReturnsInHanded {} C os f .any (s.pre6 enc C.prog fn conds false) (s.post enc C.prog fn false true false false):=by
 refine returnsInHanded_of_change_sized own started noInit hfn witness ?_
 intro W base args ds gs before hval hW _ hsz _
 have hW0:=hW
 obtain ⟨p,q,hA,hV,rfl,_,_⟩:=hW
 rw [hv] at hV
 obtain ⟨rfl,rfl⟩:=trodVars_none hV
 simp only [List.append_nil] at hW0 hsz
 have hlt:∀ x ∈ p,x.block<W.heap.size:=fun x hx=>by simpa using hW0.lt x hx
 have hwt:∀ n ∈ DataW.weightsEach C.prog fn.params.toList ds,n<=140737488351232:=fun n hn=>by
  have hmem:n ∈ DataW.weightsEach C.prog (fn.params.toList++s.plain.varTypes C.prog) ds:=by
   have:∀ (ts us:List TypeId) (ds:List (DataW H)),n ∈ DataW.weightsEach C.prog ts ds->n ∈ DataW.weightsEach C.prog (ts++us) ds:=by
    intro ts
    induction ts with
    | nil=>intro us ds h; simp [DataW.weightsEach] at h
    | cons t ts ih=>
     intro us ds h
     cases ds with
     | nil=>simp [DataW.weightsEach] at h
     | cons d ds=>
      rw [DataW.weightsEach,List.mem_append] at h
      rw [List.cons_append,DataW.weightsEach,List.mem_append]
      exact h.imp id (ih us ds)
   exact this _ _ _ hn
  exact of_decide_eq_true (List.all_eq_true.1 hsz n hmem)
 obtain ⟨hsize,har⟩:=KH (fun j t v ht hv=>hval j t v (by simpa using ht) hv) hA hwt hlt
 have hdl:ds.length=fn.params.size:=by
  have:∀ (ts:List TypeId) (vs:List Value) (ds:List (DataW H)) (p:List MemPlace),DataW.TrodAll enc C.prog W 0 (fun _=>true) true ts vs ds p->ds.length=ts.length:=by
   intro ts
   induction ts with
   | nil=>intro vs ds p h; obtain ⟨_,rfl,_⟩:=trodAll_nil h; rfl
   | cons t ts ih=>intro vs ds p h; obtain ⟨v,vs,d,ds,p1,p2,rfl,rfl,rfl,_,h2⟩:=trodAll_cons h; simp [ih vs ds p2 h2]
  simpa using this _ _ _ _ hA
 refine Calls.mono (law W args hsize har) fun e W' ⟨v,he,hv',hk⟩=>⟨v,he,?_⟩
 subst hv'
 exact ED hl hrow hr hb hv (by rw [List.append_nil]; exact hs ds hdl) hW0 hA hlt hk
end
end Go.Proofs.YtladifkbefehdaaGreat
namespace Go.Proofs.YtladifkbefehdaaGreat
open Go.RowKit Go.ChangeShapes Go.WideShapes
theorem Is:ownKnob Tryz.prog.godebug=none:=by kernel_rfl
theorem Ev:laidOutB Tryz.prog=true:=by kernel_rfl
theorem Yv:Tr Tryz.prog (al tyT) 73 (.nm .snap):=Tr.struct (ss:=[.int,.int,(.lst .int),.bool,.str]) Tryz.underlying73 (by kernel_rfl) (fun cells h=>by
 obtain ⟨y0,l0,rfl,y1,l1,rfl,y2,l2,rfl,y3,l3,rfl,y4,l4,rfl,rfl⟩:=h
 exact ⟨⟨y0,y1,y2,y3,y4⟩,rfl⟩) (jS.cons (Tr.int Tryz.underlying3) rfl (by kernel_rfl) (jS.cons (Tr.int Tryz.underlying3) rfl (by kernel_rfl) (jS.cons (Tr.list Tryz.underlying22 (by kernel_rfl) (by kernel_rfl) (Tr.int Tryz.underlying3)) rfl (by kernel_rfl) (jS.cons (Tr.bool Tryz.underlying4) rfl (by kernel_rfl) (jS.cons (Tr.str Tryz.underlying9) rfl (by kernel_rfl) (jS.nil))))))
theorem Yf:Tr Tryz.prog (al tyT) 63 (.nm .opn):=Tr.struct (ss:=[.int,.int]) Tryz.underlying63 (by kernel_rfl) (fun cells h=>by
 obtain ⟨y0,l0,rfl,y1,l1,rfl,rfl⟩:=h
 exact ⟨⟨y0,y1⟩,rfl⟩) (jS.cons (Tr.int Tryz.underlying3) rfl (by kernel_rfl) (jS.cons (Tr.int Tryz.underlying3) rfl (by kernel_rfl) (jS.nil)))
theorem Yk:Tr Tryz.prog (al tyT) 56 (.nm .reply):=Tr.struct (ss:=[.int,.int]) Tryz.underlying56 (by kernel_rfl) (fun cells h=>by
 obtain ⟨y0,l0,rfl,y1,l1,rfl,rfl⟩:=h
 exact ⟨⟨y0,y1⟩,rfl⟩) (jS.cons (Tr.int Tryz.underlying31) rfl (by kernel_rfl) (jS.cons (Tr.int Tryz.underlying3) rfl (by kernel_rfl) (jS.nil)))
theorem Zg:Tr Tryz.prog (al tyT) 82 (.nm .sess):=Tr.struct (ss:=[.int,.int,(.nm .reply)]) Tryz.underlying82 (by kernel_rfl) (fun cells h=>by
 obtain ⟨y0,l0,rfl,y1,l1,rfl,y2,l2,rfl,rfl⟩:=h
 exact ⟨⟨y0,y1,y2⟩,rfl⟩) (jS.cons (Tr.int Tryz.underlying3) rfl (by kernel_rfl) (jS.cons (Tr.int Tryz.underlying3) rfl (by kernel_rfl) (jS.cons (Yk) rfl (by kernel_rfl) (jS.nil))))
theorem aak:Tr Tryz.prog (al tyT) 43 (.nm .state):=Tr.struct (ss:=[.int,.int,.int,.int,(.lst (.nm .sess)),(.lst (.nm .opn)),(.lst (.nm .snap))]) Tryz.underlying43 (by kernel_rfl) (fun cells h=>by
 obtain ⟨y0,l0,rfl,y1,l1,rfl,y2,l2,rfl,y3,l3,rfl,y4,l4,rfl,y5,l5,rfl,y6,l6,rfl,rfl⟩:=h
 exact ⟨⟨y0,y1,y2,y3,y4,y5,y6⟩,rfl⟩) (jS.cons (Tr.int Tryz.underlying3) rfl (by kernel_rfl) (jS.cons (Tr.int Tryz.underlying3) rfl (by kernel_rfl) (jS.cons (Tr.int Tryz.underlying3) rfl (by kernel_rfl) (jS.cons (Tr.int Tryz.underlying3) rfl (by kernel_rfl) (jS.cons (Tr.list Tryz.underlying39 (by kernel_rfl) (by kernel_rfl) (Zg)) rfl (by kernel_rfl) (jS.cons (Tr.list Tryz.underlying40 (by kernel_rfl) (by kernel_rfl) (Yf)) rfl (by kernel_rfl) (jS.cons (Tr.list Tryz.underlying41 (by kernel_rfl) (by kernel_rfl) (Yv)) rfl (by kernel_rfl) (jS.nil))))))))
theorem Zu:Tr Tryz.prog (al tyT) 30 (.nm .entry):=Tr.struct (ss:=[.int,(.lst .u8)]) Tryz.underlying30 (by kernel_rfl) (fun cells h=>by
 obtain ⟨y0,l0,rfl,y1,l1,rfl,rfl⟩:=h
 exact ⟨⟨y0,y1⟩,rfl⟩) (jS.cons (Tr.int Tryz.underlying3) rfl (by kernel_rfl) (jS.cons (Tr.list Tryz.underlying28 (by kernel_rfl) (by kernel_rfl) (Tr.u8 Tryz.underlying5)) rfl (by kernel_rfl) (jS.nil)))
set_option maxRecDepth 100000 in
theorem nK (os:Os) (started:os.Started) (H:Type) (enc:TypeId × Value->H) :
  ReturnsInHanded {} Tryz.checked os 4 .any (Rows.modelPlaysSpec.pre6 enc Tryz.prog Tryz.f4 Rows.modelPlaysRow.domain false) (Rows.modelPlaysSpec.post enc Tryz.prog Tryz.f4 false true false false):=by
 refine EC (C:=Tryz.checked) Is started (by kernel_rfl) Tryz.func4 (ChangeSpec.witness6 (enc:=enc) (C:=Tryz.checked) false ⟨#[],#[.agg #[.int .i64 0,.int .i64 0,.int .i64 0,.int .i64 0,.slice none 0 0,.slice none 0 0,.slice none 0 0],.slice none 0 0,.int .i64 0],[]⟩ 8 (by kernel_rfl) (by kernel_rfl) (by kernel_rfl) (by kernel_rfl)) Ev (by kernel_rfl) (by kernel_rfl) Tryz.underlying4 rfl (fun ds h=>?_) ?_
 ·match ds,h with
  | [d0,d1,d2],_=>rfl
 ·intro W args hs ha
  obtain ⟨l⟩:=args
  match l,hs with
  | [v0,v1,v2],_=>
   obtain ⟨x0,h0⟩:=Ar.struct (shp:=al tyT) (ha 0 43 _ rfl rfl) Tryz.underlying43 aak
   obtain ⟨x1,h1⟩:=Ar.list (shp:=al tyT) (ha 1 44 _ rfl rfl) Tryz.underlying44 (Tr.list Tryz.underlying44 (by kernel_rfl) (by kernel_rfl) (Zu))
   obtain ⟨x2,h2⟩:=Ar.int (shp:=al tyT) (ha 2 3 _ rfl rfl) Tryz.underlying3
   exact Kb (Kg x0 x1 x2) rfl (.cons h0 (.cons h1 (.cons h2 .nil)))
theorem modelPlays_holds:Rows.ModelPlaysSaid:=
 OpenClaim.holds_of_wide 4 Tryz.f4 rfl rfl rfl rfl rfl rfl rfl ⟨rfl,rfl,rfl,rfl,rfl⟩ rfl rfl rfl rfl rfl (by kernel_rfl) Tryz.func4 (by kernel_rfl)
  (of_decide_eq_true (by kernel_rfl)) (by unfold Func.isWrapper; first | (rw [if_pos (by decide +kernel)]; kernel_rfl) | (rw [if_neg (by decide +kernel)]; exact ⟨rfl,rfl⟩))
  (fun os started H enc _=>nK os started H enc)
end Go.Proofs.YtladifkbefehdaaGreat
