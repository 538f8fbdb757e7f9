/- The law: for every input it returns true, and each argument reads behind the call as it read before; and what leads there. Conditions: each lemma's own. -/
import Derived.LaidMore
import Derived.Lay
import Derived.SevenTiedAt
import Derived.Stop.Joined
import Derived.Test.YtagpmhlokhoanaaDoorCards
import Derived.Test.YtagpmhlokhoanaaDoorChecked
import Derived.Test.YtagpmhlokhoanaaDoorRows
import Derived.Test.YtagpmhlokhoanaaDoorTie
import Derived.Test.YtagpmhlokhoanaaDoorKSPM4
set_option linter.unusedVariables false
set_option linter.unusedSimpArgs false
namespace Go.Proofs.YtagpmhlokhoanaaDoor
open Go.RowKit
abbrev gi (s:Str):List Str:=bG s ⟨[10]⟩
def bA (s:Str):List Str:=if (gi s).getD ((gi s).length - 1) (aY .str)=⟨[]⟩ then (gi s).take ((gi s).length - 1) else gi s
def rdOk (s:Str):Bool:=decide (bu s=0)
def fy (ls:List Str):List Event:=if ls.length<=1024/\ls.all rdOk=true then ls.map aV else []
def gh (ls:List Str):Int:=if 1024<ls.length\/ls.all rdOk=true then 0 else ((ls.findIdx fun s=>!rdOk s:Nat):Int)+1
def gg (ls:List Str):Int:=if 1024<ls.length then 4 else if ls.all rdOk=true then 0 else 240
structure TkJ (ls:List Str) (k:Nat):Prop where
 le:k<=ls.length
 big:ls.length<=1024
 ok:(ls.take k).all rdOk=true
theorem l_ {b:UInt8} {p:List UInt8}:∀ {xs:List (List UInt8)},xj b (xs++[p])=xs++[p++[b]]
 | []=>rfl
 | [x]=>rfl
 | x :: y :: r=>by
  have:=l_ (b:=b) (p:=p) (xs:=y :: r)
  rw [List.cons_append,List.cons_append,xj]
  rw [List.cons_append] at this
  rw [this]; rfl
theorem ub (l:List UInt8):∀ k,k<=l.length->av 10 (l.take k)=(tQ l k).map (·.b)++[(l.drop (lr l k)).take (k - lr l k)]
 | 0,_=>rfl
 | k+1,h=>by
  have ih:=ub l k (by omega)
  have hf:=uH l k
  have hg:=cF (l:=l) (k:=k) (d:=(0:UInt8)) (by omega)
  rw [qU hg]
  by_cases hb:l.getD k 0=10
  ·rw [hb,eS,ih,tQ,lr,if_pos hb,if_pos hb,List.map_append]; simp
  ·have h1:(l.drop (lr l k))[k - lr l k]? = some (l.getD k 0):=by
    rw [List.getElem?_drop,show lr l k+(k - lr l k)=k by omega,hg]
   rw [eN hb,ih,l_,tQ,lr,if_neg hb,if_neg hb,show k+1 - lr l k=(k - lr l k)+1 by omega,qU h1]
theorem zE (s:Str):gi s=tQ s.b s.b.length++[⟨s.b.drop (lr s.b s.b.length)⟩]:=by
 have h:=ub s.b s.b.length (Nat.le_refl _)
 rw [List.take_length,List.take_of_length_le (by rw [List.length_drop]; omega)] at h
 show (av 10 s.b).map Str.mk=_
 rw [h,List.map_append,kx]; rfl
theorem DA (s:Str):qC s=bA s:=by
 rw [qC,bA,zE]
 have e1:(tQ s.b s.b.length++[Str.mk (s.b.drop (lr s.b s.b.length))]).length - 1=(tQ s.b s.b.length).length:=by simp
 have e2:(tQ s.b s.b.length++[Str.mk (s.b.drop (lr s.b s.b.length))]).getD (tQ s.b s.b.length).length (aY .str)=⟨s.b.drop (lr s.b s.b.length)⟩:=by
  rw [List.getD_eq_getElem?_getD,List.getElem?_append_right (Nat.le_refl _),Nat.sub_self]; rfl
 rw [e1,e2,List.take_left]
 by_cases h:lr s.b s.b.length<s.b.length
 ·rw [if_pos h,if_neg]
  intro h2
  have:=congrArg (fun x=>x.b.length) h2
  simp at this; omega
 ·rw [if_neg h,if_pos (by rw [List.drop_of_length_le (by omega)])]
theorem qn (s:Str):1<=(gi s).length:=by rw [zE,List.length_append]; simp
theorem Bq (s:Str):(gi s).length<=s.b.length+1:=by
 unfold gi bG
 rw [List.length_map]; exact (cG _ s.b).1
theorem zP {s x:Str} (h:x ∈ bA s):x.b.length<=s.b.length:=by
 have h1:x ∈ gi s:=by
  unfold bA at h
  split at h
  ·exact List.mem_of_mem_take h
  ·exact h
 unfold gi bG at h1
 rw [List.mem_map] at h1
 obtain ⟨y,hy,rfl⟩:=h1
 exact fW _ s.b y hy
section
variable {s x:Str} {ls:List Str} {k:Nat}
theorem DB (h0:s.b.length<=4000000):I64 (((gi s).length:Int) - 1)/\0<=((gi s).length:Int) - 1:=by
 have h1:=qn s
 have h2:=Bq s
 exact ⟨by constructor <;> omega,by omega⟩
theorem CW (hx:(gi s)[(((gi s).length:Int) - 1).toNat]? = some x):(gi s).getD ((gi s).length - 1) (aY .str)=x:=by
 have h1:=qn s
 rw [show (((gi s).length:Int) - 1).toNat=(gi s).length - 1 by omega] at hx
 rw [List.getD_eq_getElem?_getD,hx]; rfl
theorem tc (hx:(gi s)[(((gi s).length:Int) - 1).toNat]? = some x) (h:x=⟨[]⟩):(gi s).take (((gi s).length:Int) - 1).toNat=bA s:=by
 have h1:=qn s
 rw [bA,if_pos ((CW hx).trans h),show (((gi s).length:Int) - 1).toNat=(gi s).length - 1 by omega]
theorem td (hx:(gi s)[(((gi s).length:Int) - 1).toNat]? = some x) (h:¬ x=⟨[]⟩):gi s=bA s:=by
 rw [bA,if_neg (fun h2=>h ((CW hx).symm.trans h2))]
theorem ql {t:List Str} (e:t=ls) (h:1024<(t.length:Int)):fy ls=[]/\0=gh ls/\4=gg ls:=by
 subst e
 rw [fy,gh,gg,if_neg (by omega),if_pos (.inl (by omega)),if_pos (by omega)]; exact ⟨rfl,rfl,rfl⟩
theorem Fq {t:List Str} (e:t=ls) (h:(t.length:Int)<=1024):TkJ ls 0:=by
 subst e; exact ⟨by omega,by omega,rfl⟩
theorem CK {t:List Str} (e:t=ls):(t.length:Int)=(ls.length:Int):=by rw [e]
theorem EC (h0:s.b.length<=4000000) (hx:(bA s)[k]? = some x):x.b.length<4294967281:=by
 have:=zP (List.mem_of_getElem? hx)
 omega
theorem Dv (h0:s.b.length<=1000000) (hx:(qC s)[k]? = some x):x.b.length<=1000000:=by
 rw [DA] at hx
 have:=zP (List.mem_of_getElem? hx)
 omega
theorem Es (hJ:TkJ ls k):I64 ((k:Int)+1):=by
 have:=hJ.le
 have:=hJ.big
 constructor <;> omega
theorem CN (hJ:TkJ ls k) (hx:ls[k]? = some x) (h:bu x=0):TkJ ls (k+1):=by
 have:=(List.getElem?_eq_some_iff.1 hx).1
 refine ⟨by omega,hJ.big,?_⟩
 rw [qU hx,List.all_append,hJ.ok]; simp [rdOk,h]
theorem CF (hJ:TkJ ls k) (hx:ls[k]? = some x) (h:nU x=0):TkJ ls (k+1):=CN hJ hx ((mJ x).2.trans h)
theorem DU (hx:ls[k]? = some x):(ls.take k).map aV++[aV x]=(ls.take (k+1)).map aV:=by rw [qU hx,List.map_append]; rfl
theorem C_ (hx:ls[k]? = some x):(ls.take k).map aV++[sX x]=(ls.take (k+1)).map aV:=by rw [<- (mJ x).1,DU hx]
theorem jW (hJ:TkJ ls k) (hx:ls[k]? = some x) (h:¬ bu x=0):fy ls=[]/\(k:Int)+1=gh ls/\bu x=gg ls:=by
 obtain ⟨hk,hx2⟩:=List.getElem?_eq_some_iff.1 hx
 have h1:¬ ls.all rdOk=true:=fun h2=>h (of_decide_eq_true (List.all_eq_true.1 h2 x (List.mem_of_getElem? hx)))
 have hb:=hJ.big
 have hi:ls.findIdx (fun s=>!rdOk s)=k:=by
  rw [List.findIdx_eq hk]
  refine ⟨by rw [hx2]; simp [rdOk,h],fun j hj=>?_⟩
  have:=List.all_eq_true.1 hJ.ok ls[j] (by rw [List.mem_take_iff_getElem]; exact ⟨j,by omega,rfl⟩)
  rw [this]; rfl
 have h3:bu x=240:=(nZ x).elim (fun h2=>absurd h2 h) (·.1)
 rw [fy,if_neg (fun h2=>h1 h2.2),gh,if_neg (fun h2=>h2.elim (by omega) h1),gg,if_neg (by omega),if_neg h1,hi,h3]; exact ⟨rfl,rfl,rfl⟩
theorem nH (hJ:TkJ ls k) (hx:ls[k]? = some x) (h:¬ nU x=0):fy ls=[]/\(k:Int)+1=gh ls/\nU x=gg ls:=by
 rw [<- (mJ x).2] at h ⊢; exact jW hJ hx h
theorem qQ (hJ:TkJ ls k) (h:(ls.length:Int)<=k):(ls.take k).map aV=fy ls/\0=gh ls/\0=gg ls:=by
 have hk:=hJ.ok
 have hb:=hJ.big
 rw [List.take_of_length_le (by omega)] at hk ⊢
 rw [fy,if_pos ⟨hb,hk⟩,gh,if_pos (.inr hk),gg,if_neg (by omega),if_pos hk]; exact ⟨rfl,rfl,rfl⟩
theorem Ca {e:Event} (hJ:TkJ ls k):(((ls.take k).map aV).length+[e].length)*112<=140737488355328:=by
 have h1:=hJ.le
 have h2:=hJ.big
 rw [List.length_map,List.length_take,List.length_singleton]; omega
theorem CU:(ls.take 0).map aV=[]:=rfl
end
section
variable {l:List Event} {k:Nat} {e:Event}
theorem DJ {p:Prop} (h0:l=[]) (h:0<(l.length:Int)):p:=by subst h0; simp at h
theorem CO (h0:l=[]):(⟨[]⟩:Str)=ax l/\0=bJ l:=by subst h0; exact ⟨rfl,rfl⟩
theorem Dp (hJ:PutJ l k):((cq (l.take k)).length+(aw e).b.length)*1<=140737488355328:=by
 have:=Df (e:=e) hJ
 omega
theorem CH (hJ:PutJ l k):((cq (l.take k)++(aw e).b).length+1)*1<=140737488355328:=by
 have:=CE (e:=e) hJ
 rw [List.length_singleton] at this; omega
theorem Eb (he:l[k]? = some e):cq (l.take k)++(aw e).b++[UInt8.ofNat 10]=cq (l.take (k+1)):=Fo he
end
def z_ (l:List Event):List (Nat × LI):=[(5,{ σ:=Nat,F:=fun k=>([],[]),J:=fun k=>True,μ:=fun k=>0,un:=some (1,[4,12,13,14]) })]
def zV (l:List Event):List (Nat × LI):=[(5,{ σ:=Nat,F:=fun k=>([(4,one (.ptr 0 0)),(12,one (.fz (.nm .event) (l))),(13,one (.int (l).length)),(14,one (.int k))],[.box 62 ([.xx .bp [(0,0)],.own 1]),.row 5 .u8 ((cq (l.take k)))]),J:=fun k=>PutJ l k,μ:=fun k=>l.length - k })]
def xe (s:Str):List (Nat × LI):=[(9,{ σ:=Nat,F:=fun k=>([(7,one (.own 0)),(28,one (.fz .str (bA s))),(29,one (.int (bA s).length)),(30,one (.int k))],[.row 26 (.nm .event) ((((bA s).take k).map aV))]),J:=fun k=>TkJ (bA s) k,μ:=fun k=>(bA s).length - k })]
theorem BP (l:List Event) (r0:Str) (r1:Int):lF aX pC (z_ l) Tryd.f17 [.c (.fz (.nm .event) (l))] [] [.c (.str (r0)),.c (.int (r1))]=((fun (q1:Int)=>(fun (q0:Int)=>l.length*(112:Nat)<=(140737488355328:Nat)->((1024:Int)<q1->Str.mk []=r0/\(4:Int)=r1)/\(q1<=(1024:Int)->(q0<q1->q0<=q0/\q0<q1/\∀ (x:Event),l[(0:Nat)]? = some x->I64 x.kind->I64 x.a->I64 x.b->I64 x.c.kind->I64 x.c.client->I64 x.c.seq->I64 x.c.set->I64 x.c.id->I64 x.c.n->x.c.chunks.length*(8:Nat)<=(140737488355328:Nat)->x.c.text.b.length<=(140737488355328:Nat)->(aw x).b.length<=(140737488355328:Nat)->I64 (ba x)->(¬ba x=q0->Str.mk []=r0/\ba x=r1)/\(ba x=q0->False))/\(q1<=q0->(0:Nat)<=(140737488355328:Nat)->Str.mk []=r0/\q0=r1))) (0:Int)) (↑l.length:Int)):=by kernel_rfl
theorem wY (l:List Event) (h0:l=[]):Sat Tryd.prog (ai aX) 17 [.c (.fz (.nm .event) (l))] [] ⟨[l=[]],[.c (.str ((ax l))),.c (.int ((bJ l)))],none,false⟩:=by
 refine cz gR (z_ l) Tryd.func17 (by decide) (by kernel_rfl) ?_
 rw [BP]
 iterate 3 ((all_goals (repeat' (first | with_reducible apply lu | with_reducible refine lx ?_ | intro))); (all_goals try (first | exact lD | exact rfl | exact (nv ak).1 | exact (nv ak).2 | exact (DJ h0 ak) | exact (CO h0).1 | exact (CO h0).2)); all_goals try first | refine ⟨‹Nat› + 1,?_⟩ | refine ⟨0,?_⟩)
theorem BL (l:List Event) (r0:Str) (r1:Int):lF aX pC (zV l) Tryd.f17 [.c (.fz (.nm .event) (l))] [] [.c (.str (r0)),.c (.int (r1))]=((fun (q2:Int)=>(fun (q1:Nat)=>(fun (q0:Int)=>l.length*(112:Nat)<=q1->((1024:Int)<q2->Str.mk []=r0/\(4:Int)=r1)/\(q2<=(1024:Int)->∃ (s0:Nat),(l=l/\q2=q0/\(0:Int)=(↑s0:Int)/\cq (List.take s0 l)=[])/\PutJ l s0/\∀ (s:Nat),(fun (q3:List UInt8)=>PutJ l s->((↑s:Int)<q0->(0:Int)<=(↑s:Int)/\(↑s:Int)<q2/\∀ (x:Event),l[s]? = some x->I64 x.kind->I64 x.a->I64 x.b->I64 x.c.kind->I64 x.c.client->I64 x.c.seq->I64 x.c.set->I64 x.c.id->I64 x.c.n->x.c.chunks.length*(8:Nat)<=q1->x.c.text.b.length<=q1->(aw x).b.length<=q1->I64 (ba x)->(¬ba x=(0:Int)->Str.mk []=r0/\ba x=r1)/\(ba x=(0:Int)->(q3.length+(aw x).b.length)*(1:Nat)<=q1/\(I64 (↑(aw x).b.length:Int)->((q3++(aw x).b).length+(1:Nat))*(1:Nat)<=q1/\I64 ((↑s:Int)+(1:Int))/\∃ (s':Nat),(l=l/\q0=q0/\(↑s:Int)+(1:Int)=(↑s':Int)/\q3++(aw x).b++[UInt8.ofNat (10:Nat)]=cq (List.take s' l))/\PutJ l s' /\ l.length - s' < l.length - s)))/\(q0<=(↑s:Int)->¬q3=[]/\(q3.length<=q1->Str.mk q3=r0/\(0:Int)=r1))) (cq (List.take s l)))) (↑l.length:Int)) (140737488355328:Nat)) (↑l.length:Int)):=by kernel_rfl
theorem vL (l:List Event) (h0:l≠[]):Sat Tryd.prog (ai aX) 17 [.c (.fz (.nm .event) (l))] [] ⟨[l≠[]],[.c (.str ((ax l))),.c (.int ((bJ l)))],none,false⟩:=by
 refine cz gR (zV l) Tryd.func17 (by decide) (by kernel_rfl) ?_
 rw [BL]
 iterate 3 ((all_goals (repeat' (first | with_reducible apply lu | with_reducible refine lx ?_ | intro))); (all_goals try (first | exact lD | exact rfl | exact (nv ak).1 | exact (nv ak).2 | exact (Fi ak) | exact (vp ak ak ak).1 | exact (vp ak ak ak).2 | exact (xv ak ak).1 | exact (xv ak ak).2 | with_reducible exact (Dp ak) | with_reducible exact (CH ak) | with_reducible exact (Fw ak) | exact (Eb ak) | exact (Fv ak ak ak) | (have:=(PutJ.le ak); omega) | exact DN | exact (De ak ak h0 ak))); all_goals try first | refine ⟨‹Nat› + 1,?_⟩ | refine ⟨0,?_⟩)
theorem yW (s:Str) (r0:List Event) (r1:Int) (r2:Int):lF aX pC (xe s) Tryd.f19 [.c (.str (s))] [] [.c (.fz (.nm .event) (r0)),.c (.int (r1)),.c (.int (r2))]=((fun (q5:Nat)=>(fun (q4:List Str)=>(fun (q3:Int)=>(fun (q2:Int)=>(fun (q1:Int)=>(fun (q0:List Str)=>s.b.length<=q5->s.b.length<(4294967281:Nat)/\[(10:UInt8)].length=(1:Nat)/\(q0.length*(16:Nat)<=q5->I64 ((↑q0.length:Int) - q2)/\q3<=(↑q0.length:Int) - q2/\(↑q0.length:Int) - q2<(↑q0.length:Int)/\∀ (x:Str),(fun (q8:Prop)=>(fun (q7:Int)=>(fun (q6:Int)=>q0[q6.toNat]? = some x->x.b.length<=q5->(x=Str.mk []->q3<=q6/\q6<=q7/\((1024:Int)<(↑(List.take q6.toNat q0).length:Int)->q8)/\((↑(List.take q6.toNat q0).length:Int)<=(1024:Int)->∃ (s0:Nat),(List.take q6.toNat q0=q4/\(↑(List.take q6.toNat q0).length:Int)=q1/\q3=(↑s0:Int)/\List.map aV (List.take s0 q4)=[])/\TkJ q4 s0/\∀ (s:Nat),(fun (q9:Int)=>TkJ q4 s->((↑s:Int)<q1->q3<=(↑s:Int)/\(↑s:Int)<(↑q4.length:Int)/\∀ (x:Str),(fun (q10:Event)=>q4[s]? = some x->x.b.length<=q5->x.b.length<(4294967281:Nat)/\(I64 q10.kind->I64 q10.a->I64 q10.b->I64 q10.c.kind->I64 q10.c.client->I64 q10.c.seq->I64 q10.c.set->I64 q10.c.id->I64 q10.c.n->q10.c.chunks.length*(8:Nat)<=q5->q10.c.text.b.length<=q5->I64 (bu x)->(¬bu x=q3->I64 q9/\r0=[]/\q9=r1/\bu x=r2)/\(bu x=q3->((List.map aV (List.take s q4)).length+[q10].length)*(112:Nat)<=q5/\I64 q9/\∃ (s':Nat),(q4=q4/\q1=q1/\q9=(↑s':Int)/\List.map aV (List.take s q4)++[q10]=List.map aV (List.take s' q4))/\TkJ q4 s' /\ q4.length - s' < q4.length - s))) (aV x))/\(q1<=(↑s:Int)->List.map aV (List.take s q4)=r0/\q3=r1/\q3=r2)) ((↑s:Int)+q2)))/\(¬x=Str.mk []->((1024:Int)<q7->q8)/\(q7<=(1024:Int)->∃ (s0:Nat),(q0=q4/\q7=q1/\q3=(↑s0:Int)/\List.map aV (List.take s0 q4)=[])/\TkJ q4 s0/\∀ (s:Nat),(fun (q11:Int)=>TkJ q4 s->((↑s:Int)<q1->q3<=(↑s:Int)/\(↑s:Int)<(↑q4.length:Int)/\∀ (x:Str),(fun (q12:Event)=>q4[s]? = some x->x.b.length<=q5->x.b.length<(4294967281:Nat)/\(I64 q12.kind->I64 q12.a->I64 q12.b->I64 q12.c.kind->I64 q12.c.client->I64 q12.c.seq->I64 q12.c.set->I64 q12.c.id->I64 q12.c.n->q12.c.chunks.length*(8:Nat)<=q5->q12.c.text.b.length<=q5->I64 (bu x)->(¬bu x=q3->I64 q11/\r0=[]/\q11=r1/\bu x=r2)/\(bu x=q3->((List.map aV (List.take s q4)).length+[q12].length)*(112:Nat)<=q5/\I64 q11/\∃ (s':Nat),(q4=q4/\q1=q1/\q11=(↑s':Int)/\List.map aV (List.take s q4)++[q12]=List.map aV (List.take s' q4))/\TkJ q4 s' /\ q4.length - s' < q4.length - s))) (aV x))/\(q1<=(↑s:Int)->List.map aV (List.take s q4)=r0/\q3=r1/\q3=r2)) ((↑s:Int)+q2)))) (q7 - q2)) (↑q0.length:Int)) (r0=[]/\q3=r1/\(4:Int)=r2))) (bG s (Str.mk [(10:UInt8)]))) (↑q4.length:Int)) (1:Int)) (0:Int)) (bA s)) (140737488355328:Nat)):=by kernel_rfl
theorem yu (s:Str) (h0:s.b.length<=4000000):Sat Tryd.prog (ai aX) 19 [.c (.str (s))] [] ⟨[s.b.length<=4000000],[.c (.fz (.nm .event) ((fy (bA s)))),.c (.int ((gh (bA s)))),.c (.int ((gg (bA s))))],none,false⟩:=by
 refine cz gR (xe s) Tryd.func19 (by decide) (by kernel_rfl) ?_
 rw [yW]
 iterate 3 ((all_goals (repeat' (first | with_reducible apply lu | with_reducible refine lx ?_ | intro))); (all_goals try (first | exact lD | exact rfl | exact h0 | exact (DB h0).1 | exact (DB h0).2 | exact (tc ak ak) | exact (td ak ak) | exact CU | with_reducible exact (Ca ak) | with_reducible exact (Es ak) | exact (jW ak ak ak).1 | exact (jW ak ak ak).2.1 | exact (jW ak ak ak).2.2 | exact (nH ak ak ak).1 | exact (nH ak ak ak).2.1 | exact (nH ak ak ak).2.2 | exact (qQ ak ak).1 | exact (qQ ak ak).2.1 | exact (qQ ak ak).2.2 | exact (DU ak) | exact (C_ ak) | exact (CN ak ak ak) | exact (CF ak ak ak) | exact (EC h0 ak) | exact (Dv h0 ak) | exact (ql (by first | exact tc ak ak | exact td ak ak | exact rfl) ak).1 | exact (ql (by first | exact tc ak ak | exact td ak ak | exact rfl) ak).2.1 | exact (ql (by first | exact tc ak ak | exact td ak ak | exact rfl) ak).2.2 | exact (Fq (by first | exact tc ak ak | exact td ak ak | exact rfl) ak) | exact (CK (by first | exact tc ak ak | exact td ak ak | exact rfl)) | (have:=(TkJ.le ak); omega))); all_goals try first | refine ⟨‹Nat› + 1,?_⟩ | refine ⟨0,?_⟩)
def Aa:cC:=(eG 19 (dY (aC (kC cS) bP) bO fun (s,_) (_)=>⟨[s.b.length<=4000000],[.c (.fz (.nm .event) ((fy (bA s)))),.c (.int ((gh (bA s)))),.c (.int ((gg (bA s))))],none,false⟩) (eG 17 (dY (aC (kC (cL (.nm .event))) bP) bO fun (l,_) (_)=>⟨[l≠[]],[.c (.str ((ax l))),.c (.int ((bJ l)))],none,false⟩) (eG 17 (dY (aC (kC (cL (.nm .event))) bP) bO fun (l,_) (_)=>⟨[l=[]],[.c (.str ((ax l))),.c (.int ((bJ l)))],none,false⟩) pC)))
theorem xu:aW Tryd.prog (ai aX) Aa:=(aK (aJ (ag (aL ea) ay) az fun (s,_) (_) hp=>yu s (sB hp)) (aK (aJ (ag (aL dG) ay) az fun (l,_) (_) hp=>vL l (sB hp)) (aK (aJ (ag (aL dG) ay) az fun (l,_) (_) hp=>wY l (sB hp)) gR)))
theorem CR (l:List Event):Sat Tryd.prog (ai aX) 17 [.c (.fz (.nm .event) (l))] [] ⟨[],[.c (.str ((ax l))),.c (.int ((bJ l)))],none,false⟩:=by
 by_cases h:l=[]
 ·exact wY l h
 ·exact vL l h
def Ad:cC:=(eG 17 (dY (aC (kC (cL (.nm .event))) bP) bO fun (l,_) (_)=>⟨[],[.c (.str ((ax l))),.c (.int ((bJ l)))],none,false⟩) Aa)
theorem xr:aW Tryd.prog (ai aX) Ad:=(aK (aJ (ag (aL dG) ay) az fun (l,_) (_) _=>CR l ) xu)
theorem yS {s:Str} {init:List Str} {x:List UInt8} (h:gi s=init++[⟨x⟩]):bA s=if x=[] then init else init++[⟨x⟩]:=by
 have e1:(init++[Str.mk x]).length - 1=init.length:=by simp
 have e2:(init++[Str.mk x]).getD init.length (aY .str)=⟨x⟩:=by
  rw [List.getD_eq_getElem?_getD,List.getElem?_append_right (Nat.le_refl _),Nat.sub_self]; rfl
 rw [bA,h,e1,e2,List.take_left]
 by_cases hx:x=[]
 ·subst hx; rw [if_pos rfl,if_pos rfl]
 ·rw [if_neg (fun h=>hx (by rw [Str.mk.injEq] at h; exact h)),if_neg hx]
theorem iY:∀ {ws:List (List UInt8)} {r:List UInt8},(∀ w ∈ ws,∀ c ∈ w,c≠10)->av 10 ((ws.flatMap fun w=>w++[10])++r)=ws++av 10 r
 | [],_,_=>rfl
 | w :: ws,r,h=>by
  rw [List.flatMap_cons,List.append_assoc,List.append_assoc,List.singleton_append,ew fun hc=>h w (by simp) 10 hc rfl,iY fun x hx=>h x (by simp [hx])]; rfl
theorem oK {ws:List (List UInt8)} (h:∀ w ∈ ws,∀ c ∈ w,c≠10):bA ⟨ws.flatMap fun w=>w++[10]⟩=ws.map Str.mk:=by
 have h1:=iY (r:=[]) h
 rw [List.append_nil] at h1
 have h2:gi ⟨ws.flatMap fun w=>w++[10]⟩=ws.map Str.mk++[⟨[]⟩]:=by
  show (av 10 (ws.flatMap fun w=>w++[10])).map Str.mk=_
  rw [h1,List.map_append]; rfl
 rw [yS h2,if_pos rfl]
theorem nF (l:List Event):cq l=(l.map fun e=>(aw e).b).flatMap fun w=>w++[10]:=by rw [List.flatMap_map]; rfl
theorem BU (l:List Event):bA ⟨cq l⟩=l.map aw:=by
 rw [nF,oK fun w hw=>by
  rw [List.mem_map] at hw
  obtain ⟨e,_,rfl⟩:=hw
  exact nx,List.map_map]; rfl
theorem kA:∀ {l:List Event},l.all lineOk=true->(l.map aw).all rdOk=true/\(l.map aw).map aV=l
 | [],_=>⟨rfl,rfl⟩
 | e :: l,h=>by
  rw [List.all_cons,Bool.and_eq_true] at h
  obtain ⟨h1,h2⟩:=kA h.2
  have h3:=lZ h.1
  rw [List.map_cons,List.all_cons,h1,List.map_cons,h2,h3.1,rdOk,decide_eq_true h3.2]; exact ⟨rfl,rfl⟩
theorem g_ {l:List Event} (h:bJ l=0):l.length<=1024/\l.all lineOk=true/\ax l=⟨cq l⟩:=by
 unfold bJ at h
 split at h
 ·cases h
 ·split at h
  ·rename_i h1 h2
   exact ⟨by omega,h2,by rw [ax,if_pos ⟨by omega,h2⟩]⟩
  ·cases h
theorem AT {ls:List Str} {l:List Event} (h1:ls.length<=1024) (h2:ls.all rdOk=true) (h3:ls.map aV=l):fy ls=l/\gh ls=0/\gg ls=0:=by
 rw [fy,if_pos ⟨h1,h2⟩,gh,if_pos (.inr h2),gg,if_neg (by omega),if_pos h2]; exact ⟨h3,rfl,rfl⟩
theorem wg {l:List Event} (h:bJ l=0):fy (bA (ax l))=l/\gh (bA (ax l))=0/\gg (bA (ax l))=0:=by
 obtain ⟨h1,h2,h3⟩:=g_ h
 rw [h3,BU]
 obtain ⟨h4,h5⟩:=kA h2
 exact AT (by rw [List.length_map]; exact h1) h4 h5
section
variable {l:List Event} {s:Str}
end
def qD:List UInt8:=[102,108,121,32,51]
theorem BZ:xy ⟨qD⟩=false:=by decide +kernel
theorem zT:bu ⟨qD⟩=240:=by rw [bu,if_neg (by rw [BZ]; decide)]
theorem Bn:∀ c ∈ qD,c≠10:=by decide
theorem qh {l:List Event}:(dW (l.take 20)).length<=20:=by rw [dW,gH,List.length_take]; omega
theorem qg {l:List Event} (h:(l.length:Int)<=20):(dW l).length<=20:=by rw [dW,gH]; omega
section
variable {A B:List Event}
theorem ez (hA:A.length<=20):(ax A).b.length<=50000:=by
 unfold ax
 split
 ·have:=kL A
  show (cq A).length<=_
  omega
 ·simp
theorem Cs (hA:A.length<=20):(ax A).b.length+[102,108,121,32,51,(10:UInt8)].length<=140737488355328:=by
 have:=ez hA
 simp only [List.length_cons,List.length_nil]; omega
theorem Dh (hA:A.length<=20) (hB:B.length<=20):((ax A).b++[102,108,121,32,51,10]).length+(ax B).b.length<=140737488355328:=by
 have:=ez hA
 have:=ez hB
 simp only [List.length_append,List.length_cons,List.length_nil]; omega
theorem Ec (hA:A.length<=20) (hB:B.length<=20):((ax A).b++[102,108,121,32,51,10]++(ax B).b).length<=4000000:=by
 have:=ez hA
 have:=ez hB
 simp only [List.length_append,List.length_cons,List.length_nil]; omega
theorem Dj (hA:A.length<=20) (hB:B.length<=20):(ax A).b.length+(ax B).b.length<=140737488355328:=by
 have:=ez hA
 have:=ez hB
 omega
theorem Dm (hA:A.length<=20) (hB:B.length<=20):((ax A).b++(ax B).b).length<=4000000:=by
 have:=ez hA
 have:=ez hB
 rw [List.length_append]; omega
theorem DW (hA:A.length<=20) (hB:B.length<=20):(A.length+B.length)*112<=140737488355328:=by omega
theorem Fm (hA:A.length<=20):I64 ((A.length:Int)+1):=by constructor <;> omega
theorem xE {l m:List Event} (h1:l.all lineOk=true) (h2:m.all lineOk=true):(l++m).all lineOk=true:=by rw [List.all_append,h1,h2]; rfl
theorem DI (h1:bJ A=0) (h2:bJ B=0):bA ⟨(ax A).b++[102,108,121,32,51,10]++(ax B).b⟩=A.map aw++(⟨qD⟩ :: B.map aw):=by
 obtain ⟨_,_,a3⟩:=g_ h1
 obtain ⟨_,_,b3⟩:=g_ h2
 rw [a3,b3]
 have h:=oK (ws:=A.map (fun e=>(aw e).b)++(qD :: B.map (fun e=>(aw e).b))) fun w hw=>by
  simp only [List.mem_append,List.mem_map,List.mem_cons] at hw
  rcases hw with ⟨e,_,rfl⟩ | rfl | ⟨e,_,rfl⟩
  ·exact nx
  ·exact Bn
  ·exact nx
 rw [List.flatMap_append,List.flatMap_cons,<- nF,<- nF,List.map_append,List.map_map,List.map_cons,List.map_map,<- List.append_assoc] at h
 exact h
theorem Bf (hA:A.length<=20) (hB:B.length<=20) (h1:bJ A=0/\bJ B=0):(true && decide (((fy (bA ⟨(ax A).b++[102,108,121,32,51,10]++(ax B).b⟩)).length:Int)=0) && decide (gh (bA ⟨(ax A).b++[102,108,121,32,51,10]++(ax B).b⟩)=(A.length:Int)+1) && decide (gg (bA ⟨(ax A).b++[102,108,121,32,51,10]++(ax B).b⟩)=240))=true:=by
 rw [DI h1.1 h1.2]
 obtain ⟨_,a2,_⟩:=g_ h1.1
 have hl:(A.map aw).length=A.length:=List.length_map ..
 have hJ:TkJ (A.map aw++(⟨qD⟩ :: B.map aw)) A.length:=by
  refine ⟨by rw [List.length_append,hl]; omega,by rw [List.length_append,List.length_cons,hl,List.length_map]; omega,?_⟩
  rw [List.take_append_of_le_length (by omega),List.take_of_length_le (by omega)]
  exact (kA a2).1
 obtain ⟨k1,k2,k3⟩:=jW hJ (x:=⟨qD⟩) (by rw [List.getElem?_append_right (by omega),hl,Nat.sub_self]; rfl) (by rw [zT]; decide)
 rw [k1,<- k2,<- k3,zT]; simp
theorem DQ (hA:A.length<=20) (hB:B.length<=20) (h1:bJ A=0/\bJ B=0):(true && decide (gh (bA ⟨(ax A).b++(ax B).b⟩)=0) && decide (gg (bA ⟨(ax A).b++(ax B).b⟩)=0) && decide (fy (bA ⟨(ax A).b++(ax B).b⟩)=A++B))=true:=by
 obtain ⟨_,a2,a3⟩:=g_ h1.1
 obtain ⟨_,b2,b3⟩:=g_ h1.2
 have hl:(A++B).length<=1024:=by rw [List.length_append]; omega
 have hk:=xE a2 b2
 have hE:bJ (A++B)=0:=by rw [bJ,if_neg (by omega),if_pos hk]
 have hS:ax (A++B)=⟨(ax A).b++(ax B).b⟩:=by
  rw [ax,if_pos ⟨hl,hk⟩,a3,b3,cq,List.flatMap_append]; rfl
 obtain ⟨k1,k2,k3⟩:=wg hE
 rw [hS] at k1 k2 k3
 rw [k1,k2,k3]; simp
end
set_option maxRecDepth 8000 in
theorem yQ (a:List Event) (b:List Event) (bad:Bool) (r0:Bool):lF aX Ad [] Tryd.f7 [.c (.fz (.nm .event) (a)),.c (.fz (.nm .event) (b)),.c (.bool (.atom (bad)))] [] [.c (.bool (.atom (r0)))]=((fun (jt:Nat)=>(fun (q15:Int)=>(fun (q14:Int)=>(fun (q13:Nat)=>(fun (q12:Int)=>(fun (q11:Int)=>(fun (q10:Int)=>(fun (q9:Nat)=>(fun (q8:Nat)=>(fun (q7:List Event)=>(fun (q6:Int)=>(fun (q5:Nat)=>(fun (q4:List UInt8)=>(fun (q3:List UInt8)=>(fun (q2:List UInt8)=>(fun (q1:List Event)=>(fun (q0:List UInt8)=>a.length*q8<=q5->b.length*q8<=q5->(q10<(↑a.length:Int)->q6<=q10/\q10<=(↑a.length:Int)/\(q10<q11->q6<=q10/\q10<=q11/\(q1.length*q8<=q5->q7.length*q8<=q5->(ax q1).b.length<=q5->I64 (bJ q1)->q2.length<=q5->I64 (bJ q7)->(¬bJ q1=q6\/¬bJ q7=q6->true=r0)/\(bJ q1=q6/\bJ q7=q6->(bad=true->(ax q1).b.length+q0.length<=q5/\((ax q1).b++q0).length+q2.length<=q5/\((ax q1).b++q0++q2).length<=q13/\((fy (bA (Str.mk ((ax q1).b++q0++q2)))).length*q8<=q5->I64 (gh (bA (Str.mk ((ax q1).b++q0++q2))))->I64 (gg (bA (Str.mk ((ax q1).b++q0++q2))))->(true=true/\(↑(fy (bA (Str.mk ((ax q1).b++q0++q2)))).length:Int)=q6->I64 ((↑q1.length:Int)+q12))/\(true && decide ((↑(fy (bA (Str.mk ((ax q1).b++q0++q2)))).length:Int)=q6) && decide (gh (bA (Str.mk ((ax q1).b++q0++q2)))=(↑q1.length:Int)+q12) && decide (gg (bA (Str.mk ((ax q1).b++q0++q2)))=(240:Int)))=r0))/\(bad=false->(ax q1).b.length+q2.length<=q5/\((ax q1).b++q2).length<=q13/\((fy (bA (Str.mk ((ax q1).b++q2)))).length*q8<=q5->I64 (gh (bA (Str.mk ((ax q1).b++q2))))->I64 (gg (bA (Str.mk ((ax q1).b++q2))))->q1.length*q8<=q5/\(q1.length+q7.length)*q8<=q5/\(true && decide (gh (bA (Str.mk ((ax q1).b++q2)))=q6) && decide (gg (bA (Str.mk ((ax q1).b++q2)))=q6) && decide (fy (bA (Str.mk ((ax q1).b++q2)))=q1++q7))=r0)))))/\(q11<=q10->q1.length*q8<=q5->jt*q8<=q5->(ax q1).b.length<=q5->I64 (bJ q1)->q4.length<=q5->I64 q15->(¬bJ q1=q6\/¬q15=q6->true=r0)/\(bJ q1=q6/\q15=q6->(bad=true->(ax q1).b.length+q0.length<=q5/\((ax q1).b++q0).length+q4.length<=q5/\((ax q1).b++q0++q4).length<=q13/\((fy (bA (Str.mk ((ax q1).b++q0++q4)))).length*q8<=q5->I64 (gh (bA (Str.mk ((ax q1).b++q0++q4))))->I64 (gg (bA (Str.mk ((ax q1).b++q0++q4))))->(true=true/\(↑(fy (bA (Str.mk ((ax q1).b++q0++q4)))).length:Int)=q6->I64 ((↑q1.length:Int)+q12))/\(true && decide ((↑(fy (bA (Str.mk ((ax q1).b++q0++q4)))).length:Int)=q6) && decide (gh (bA (Str.mk ((ax q1).b++q0++q4)))=(↑q1.length:Int)+q12) && decide (gg (bA (Str.mk ((ax q1).b++q0++q4)))=(240:Int)))=r0))/\(bad=false->(ax q1).b.length+q4.length<=q5/\((ax q1).b++q4).length<=q13/\((fy (bA (Str.mk ((ax q1).b++q4)))).length*q8<=q5->I64 (gh (bA (Str.mk ((ax q1).b++q4))))->I64 (gg (bA (Str.mk ((ax q1).b++q4))))->q1.length*q8<=q5/\(q1.length+jt)*q8<=q5/\(true && decide (gh (bA (Str.mk ((ax q1).b++q4)))=q6) && decide (gg (bA (Str.mk ((ax q1).b++q4)))=q6) && decide (fy (bA (Str.mk ((ax q1).b++q4)))=q1++dW b))=r0)))))/\((↑a.length:Int)<=q10->(q10<q11->q6<=q10/\q10<=q11/\(q9*q8<=q5->q7.length*q8<=q5->q3.length<=q5->I64 q14->q2.length<=q5->I64 (bJ q7)->(¬q14=q6\/¬bJ q7=q6->true=r0)/\(q14=q6/\bJ q7=q6->(bad=true->q3.length+q0.length<=q5/\(q3++q0).length+q2.length<=q5/\(q3++q0++q2).length<=q13/\((fy (bA (Str.mk (q3++q0++q2)))).length*q8<=q5->I64 (gh (bA (Str.mk (q3++q0++q2))))->I64 (gg (bA (Str.mk (q3++q0++q2))))->(true=true/\(↑(fy (bA (Str.mk (q3++q0++q2)))).length:Int)=q6->I64 ((↑q9:Int)+q12))/\(true && decide ((↑(fy (bA (Str.mk (q3++q0++q2)))).length:Int)=q6) && decide (gh (bA (Str.mk (q3++q0++q2)))=(↑q9:Int)+q12) && decide (gg (bA (Str.mk (q3++q0++q2)))=(240:Int)))=r0))/\(bad=false->q3.length+q2.length<=q5/\(q3++q2).length<=q13/\((fy (bA (Str.mk (q3++q2)))).length*q8<=q5->I64 (gh (bA (Str.mk (q3++q2))))->I64 (gg (bA (Str.mk (q3++q2))))->q9*q8<=q5/\(q9+q7.length)*q8<=q5/\(true && decide (gh (bA (Str.mk (q3++q2)))=q6) && decide (gg (bA (Str.mk (q3++q2)))=q6) && decide (fy (bA (Str.mk (q3++q2)))=dW a++q7))=r0)))))/\(q11<=q10->q9*q8<=q5->jt*q8<=q5->q3.length<=q5->I64 q14->q4.length<=q5->I64 q15->(¬q14=q6\/¬q15=q6->true=r0)/\(q14=q6/\q15=q6->(bad=true->q3.length+q0.length<=q5/\(q3++q0).length+q4.length<=q5/\(q3++q0++q4).length<=q13/\((fy (bA (Str.mk (q3++q0++q4)))).length*q8<=q5->I64 (gh (bA (Str.mk (q3++q0++q4))))->I64 (gg (bA (Str.mk (q3++q0++q4))))->(true=true/\(↑(fy (bA (Str.mk (q3++q0++q4)))).length:Int)=q6->I64 ((↑q9:Int)+q12))/\(true && decide ((↑(fy (bA (Str.mk (q3++q0++q4)))).length:Int)=q6) && decide (gh (bA (Str.mk (q3++q0++q4)))=(↑q9:Int)+q12) && decide (gg (bA (Str.mk (q3++q0++q4)))=(240:Int)))=r0))/\(bad=false->q3.length+q4.length<=q5/\(q3++q4).length<=q13/\((fy (bA (Str.mk (q3++q4)))).length*q8<=q5->I64 (gh (bA (Str.mk (q3++q4))))->I64 (gg (bA (Str.mk (q3++q4))))->q9*q8<=q5/\(q9+jt)*q8<=q5/\(true && decide (gh (bA (Str.mk (q3++q4)))=q6) && decide (gg (bA (Str.mk (q3++q4)))=q6) && decide (fy (bA (Str.mk (q3++q4)))=dW a++dW b))=r0)))))) [(102:UInt8),(108:UInt8),(121:UInt8),(32:UInt8),(51:UInt8),(10:UInt8)]) (dW (List.take (20:Nat) a))) (ax q7).b) (ax (dW a)).b) (ax (dW b)).b) (140737488355328:Nat)) (0:Int)) (dW (List.take (20:Nat) b))) (112:Nat)) (dW a).length) (20:Int)) (↑b.length:Int)) (1:Int)) (4000000:Nat)) (bJ (dW a))) (bJ (dW b))) (dW b).length):=by kernel_rfl
set_option maxHeartbeats 2000000 in
set_option maxRecDepth 8000 in
theorem xM (a:List Event) (b:List Event) (bad:Bool):Sat Tryd.prog (ai aX) 7 [.c (.fz (.nm .event) (a)),.c (.fz (.nm .event) (b)),.c (.bool (.atom (bad)))] [] ⟨[],[.c (.bool (.atom ((true))))],none,false⟩:=by
 refine cz xr [] Tryd.func7 (by decide) (by kernel_rfl) ?_
 rw [yQ]
 (repeat' (first | with_reducible apply lu | with_reducible refine lx ?_ | intro))
 all_goals (first | exact lD | with_reducible exact (Cs (by first | exact qh | exact qg ak)) | with_reducible exact (Dh (by first | exact qh | exact qg ak) (by first | exact qh | exact qg ak)) | with_reducible exact (Ec (by first | exact qh | exact qg ak) (by first | exact qh | exact qg ak)) | with_reducible exact (Dj (by first | exact qh | exact qg ak) (by first | exact qh | exact qg ak)) | with_reducible exact (Dm (by first | exact qh | exact qg ak) (by first | exact qh | exact qg ak)) | with_reducible exact (DW (by first | exact qh | exact qg ak) (by first | exact qh | exact qg ak)) | with_reducible exact (Fm (by first | exact qh | exact qg ak)) | with_reducible exact (Bf (by first | exact qh | exact qg ak) (by first | exact qh | exact qg ak) (And.intro ak ak)) | with_reducible exact (DQ (by first | exact qh | exact qg ak) (by first | exact qh | exact qg ak) (And.intro ak ak)))
end Go.Proofs.YtagpmhlokhoanaaDoor
namespace Go.Proofs.YtagpmhlokhoanaaDoor
open Go.RowKit Go.ChangeShapes Go.WideShapes
theorem uk:ownKnob Tryd.prog.godebug=none:=by kernel_rfl
theorem ur:laidOutB Tryd.prog=true:=by kernel_rfl
theorem EX:Tr Tryd.prog (ai aX) 24 (.nm .command):=Tr.struct (ss:=[.int,.int,.int,.int,.int,.int,(.lst .int),.str]) Tryd.underlying24 (by kernel_rfl) (fun cells h=>by
 obtain ⟨y0,l0,rfl,y1,l1,rfl,y2,l2,rfl,y3,l3,rfl,y4,l4,rfl,y5,l5,rfl,y6,l6,rfl,y7,l7,rfl,rfl⟩:=h
 exact ⟨⟨y0,y1,y2,y3,y4,y5,y6,y7⟩,rfl⟩) (my.cons (Tr.int Tryd.underlying3) rfl (by kernel_rfl) (my.cons (Tr.int Tryd.underlying3) rfl (by kernel_rfl) (my.cons (Tr.int Tryd.underlying3) rfl (by kernel_rfl) (my.cons (Tr.int Tryd.underlying3) rfl (by kernel_rfl) (my.cons (Tr.int Tryd.underlying3) rfl (by kernel_rfl) (my.cons (Tr.int Tryd.underlying3) rfl (by kernel_rfl) (my.cons (Tr.list Tryd.underlying22 (by kernel_rfl) (by kernel_rfl) (Tr.int Tryd.underlying3)) rfl (by kernel_rfl) (my.cons (Tr.str Tryd.underlying9) rfl (by kernel_rfl) (my.nil)))))))))
theorem Cq:Tr Tryd.prog (ai aX) 26 (.nm .event):=Tr.struct (ss:=[.int,.int,.int,(.nm .command)]) Tryd.underlying26 (by kernel_rfl) (fun cells h=>by
 obtain ⟨y0,l0,rfl,y1,l1,rfl,y2,l2,rfl,y3,l3,rfl,rfl⟩:=h
 exact ⟨⟨y0,y1,y2,y3⟩,rfl⟩) (my.cons (Tr.int Tryd.underlying3) rfl (by kernel_rfl) (my.cons (Tr.int Tryd.underlying3) rfl (by kernel_rfl) (my.cons (Tr.int Tryd.underlying3) rfl (by kernel_rfl) (my.cons (EX) rfl (by kernel_rfl) (my.nil)))))
set_option maxRecDepth 100000 in
theorem iR (os:Os) (started:os.Started) (H:Type) (enc:TypeId × Value->H) :
  ReturnsInHanded {} Tryd.checked os 7 .any (fun w args=>(Rows.scriptPartsSpec.pre enc Tryd.prog Tryd.f7 Rows.scriptPartsRow.domain false w args/\laidMetH Tryd.prog Rows.scriptPartsRow.laid w)/\sizedMet enc Tryd.prog Tryd.f7 (OpenSpec.ofChange Rows.scriptPartsSpec) false w args) (Rows.scriptPartsSpec.post enc Tryd.prog Tryd.f7 false true false false):=by
 refine jU (C:=Tryd.checked) (L:=Rows.scriptPartsRow.laid) uk started (by kernel_rfl) Tryd.func7
  (ChangeSpec.witness_shaped (enc:=enc) (C:=Tryd.checked) (os:=os) (X:=fun w _=>laidMetH Tryd.prog Rows.scriptPartsRow.laid w) false (World.laidAll Tryd.prog os Rows.scriptPartsRow.laid) #[.slice none 0 0,.slice none 0 0,.bool false] 8 (World.laidAll_os _ _ _) (World.shaped_of_ZipB (by kernel_rfl) (by kernel_rfl)) (by kernel_rfl) (by kernel_rfl) (by kernel_rfl) (by rw [MakeChecks.laidMetH_plain _ _ _ (by kernel_rfl)]; exact laidMet_laidAll _ (by kernel_rfl) (by kernel_rfl))) ur (by kernel_rfl) (by kernel_rfl) Tryd.underlying4 rfl (fun ds h=>?_) ?_
 ·match ds,h with
  | [d0,d1,d2],_=>rfl
 ·intro W args hL hsh hs ha
  obtain ⟨l⟩:=args
  match l,hs with
  | [v0,v1,v2],_=>
   obtain ⟨x0,h0⟩:=Ar.list (shp:=ai aX) (ha 0 36 _ rfl rfl) Tryd.underlying36 (Tr.list Tryd.underlying36 (by kernel_rfl) (by kernel_rfl) (Cq))
   obtain ⟨x1,h1⟩:=Ar.list (shp:=ai aX) (ha 1 36 _ rfl rfl) Tryd.underlying36 (Tr.list Tryd.underlying36 (by kernel_rfl) (by kernel_rfl) (Cq))
   obtain ⟨x2,h2⟩:=Ar.bool (shp:=ai aX) (ha 2 4 _ rfl rfl) Tryd.underlying4
   exact ze (xM x0 x1 x2) rfl (.cons h0 (.cons h1 (.cons h2 .nil))) (sI hL hsh)
theorem scriptParts_holds:Rows.ScriptPartsSaid:=
 OpenClaim.holds_of_wide 7 Tryd.f7 rfl rfl rfl rfl rfl rfl rfl ⟨rfl,rfl,rfl,rfl,rfl⟩ rfl rfl rfl rfl rfl (by kernel_rfl) Tryd.func7 (by kernel_rfl)
  (of_decide_eq_true (by kernel_rfl)) (by unfold Func.isWrapper; first | (rw [if_pos (by decide +kernel)]; kernel_rfl) | (rw [if_neg (by decide +kernel)]; exact ⟨rfl,rfl⟩))
  (fun os started H enc _=>iR os started H enc)
theorem scriptPartsCard_holds:Rows.ScriptPartsCardSaid:=
 Claim7.holds_tied_plain_at .later [] Rows.scriptPartsCard.laidKinds true Rows.scriptPartsCard.stood.harness true
  scriptParts_holds (fun _ h=>by cases h) (by kernel_rfl) (fun _ h=>by cases h) scriptParts_row_tie rfl ⟨rfl,rfl⟩ (by kernel_rfl) rfl
  (fun f fn hf hfn=>by
   obtain rfl:7=f:=Option.some.inj ((show some 7=Tryd.prog.funcNamed Rows.scriptPartsRow.func by kernel_rfl).trans hf)
   obtain rfl:fn=Tryd.f7:=(Option.some.inj (Tryd.func7.symm.trans hfn)).symm
   exact ⟨by kernel_rfl,fun j t ht=>by
    rw [Tryd.params7] at ht
    have hm:t ∈ [36,4]:=by simpa using Array.mem_of_getElem? ht
    have hall:([36,4].all fun u=>!Tryd.prog.wantsStandIn u)=true:=by kernel_rfl
    exact (show Tryd.prog.wantsStandIn t=false by simpa using List.all_eq_true.1 hall t hm)⟩)
  (by kernel_rfl)
end Go.Proofs.YtagpmhlokhoanaaDoor
