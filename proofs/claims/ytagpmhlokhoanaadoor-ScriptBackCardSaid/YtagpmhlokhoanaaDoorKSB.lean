/- The law: for every input it returns true, and each argument reads behind the call as it read before; and what leads there. Conditions: each lemma's own. -/
import Derived.LaidMore
import Derived.Lay
import Derived.SevenTiedAt
import Derived.Stop.Joined
import Derived.Test.YtagpmhlokhoanaaDoorCards
import Derived.Test.YtagpmhlokhoanaaDoorChecked
import Derived.Test.YtagpmhlokhoanaaDoorRows
import Derived.Test.YtagpmhlokhoanaaDoorTie
import Derived.Test.YtagpmhlokhoanaaDoorKSBM4
set_option linter.unusedVariables false
set_option linter.unusedSimpArgs false
namespace Go.Proofs.YtagpmhlokhoanaaDoor
open Go.RowKit
abbrev ga (s:Str):List Str:=bG s ⟨[10]⟩
def cV (s:Str):List Str:=if (ga s).getD ((ga s).length - 1) (aX .str)=⟨[]⟩ then (ga s).take ((ga s).length - 1) else ga s
def rdOk (s:Str):Bool:=decide (bC s=0)
def eZ (ls:List Str):List Event:=if ls.length<=1024/\ls.all rdOk=true then ls.map aL else []
def iU (ls:List Str):Int:=if 1024<ls.length\/ls.all rdOk=true then 0 else ((ls.findIdx fun s=>!rdOk s:Nat):Int)+1
def gr (ls:List Str):Int:=if 1024<ls.length then 4 else if ls.all rdOk=true then 0 else 240
structure TkJ (ls:List Str) (k:Nat):Prop where
 le:k<=ls.length
 big:ls.length<=1024
 ok:(ls.take k).all rdOk=true
theorem lJ {b:UInt8} {p:List UInt8}:∀ {xs:List (List UInt8)},xq b (xs++[p])=xs++[p++[b]]
 | []=>rfl
 | [x]=>rfl
 | x :: y :: r=>by
  have:=lJ (b:=b) (p:=p) (xs:=y :: r)
  rw [List.cons_append,List.cons_append,xq]
  rw [List.cons_append] at this
  rw [this]; rfl
theorem xw (l:List UInt8):∀ k,k<=l.length->aq 10 (l.take k)=(rP l k).map (·.b)++[(l.drop (jg l k)).take (k - jg l k)]
 | 0,_=>rfl
 | k+1,h=>by
  have ih:=xw l k (by omega)
  have hf:=uu l k
  have hg:=cJ (l:=l) (k:=k) (d:=(0:UInt8)) (by omega)
  rw [se hg]
  by_cases hb:l.getD k 0=10
  ·rw [hb,eW,ih,rP,jg,if_pos hb,if_pos hb,List.map_append]; simp
  ·have h1:(l.drop (jg l k))[k - jg l k]? = some (l.getD k 0):=by
    rw [List.getElem?_drop,show jg l k+(k - jg l k)=k by omega,hg]
   rw [eR hb,ih,lJ,rP,jg,if_neg hb,if_neg hb,show k+1 - jg l k=(k - jg l k)+1 by omega,se h1]
theorem vq (s:Str):ga s=rP s.b s.b.length++[⟨s.b.drop (jg s.b s.b.length)⟩]:=by
 have h:=xw s.b s.b.length (Nat.le_refl _)
 rw [List.take_length,List.take_of_length_le (by rw [List.length_drop]; omega)] at h
 show (aq 10 s.b).map Str.mk=_
 rw [h,List.map_append,jL]; rfl
theorem DC (s:Str):qC s=cV s:=by
 rw [qC,cV,vq]
 have e1:(rP s.b s.b.length++[Str.mk (s.b.drop (jg s.b s.b.length))]).length - 1=(rP s.b s.b.length).length:=by simp
 have e2:(rP s.b s.b.length++[Str.mk (s.b.drop (jg s.b s.b.length))]).getD (rP s.b s.b.length).length (aX .str)=⟨s.b.drop (jg s.b s.b.length)⟩:=by
  rw [List.getD_eq_getElem?_getD,List.getElem?_append_right (Nat.le_refl _),Nat.sub_self]; rfl
 rw [e1,e2,List.take_left]
 by_cases h:jg s.b s.b.length<s.b.length
 ·rw [if_pos h,if_neg]
  intro h2
  have:=congrArg (fun x=>x.b.length) h2
  simp at this; omega
 ·rw [if_neg h,if_pos (by rw [List.drop_of_length_le (by omega)])]
theorem qE (s:Str):1<=(ga s).length:=by rw [vq,List.length_append]; simp
theorem Ce (s:Str):(ga s).length<=s.b.length+1:=by
 unfold ga bG
 rw [List.length_map]; exact (cf _ s.b).1
theorem Ai {s x:Str} (h:x ∈ cV s):x.b.length<=s.b.length:=by
 have h1:x ∈ ga s:=by
  unfold cV at h
  split at h
  ·exact List.mem_of_mem_take h
  ·exact h
 unfold ga bG at h1
 rw [List.mem_map] at h1
 obtain ⟨y,hy,rfl⟩:=h1
 exact fW _ s.b y hy
section
variable {s x:Str} {ls:List Str} {k:Nat}
theorem Ds (h0:s.b.length<=4000000):I64 (((ga s).length:Int) - 1)/\0<=((ga s).length:Int) - 1:=by
 have h1:=qE s
 have h2:=Ce s
 exact ⟨by constructor <;> omega,by omega⟩
theorem DW (hx:(ga s)[(((ga s).length:Int) - 1).toNat]? = some x):(ga s).getD ((ga s).length - 1) (aX .str)=x:=by
 have h1:=qE s
 rw [show (((ga s).length:Int) - 1).toNat=(ga s).length - 1 by omega] at hx
 rw [List.getD_eq_getElem?_getD,hx]; rfl
theorem sy (hx:(ga s)[(((ga s).length:Int) - 1).toNat]? = some x) (h:x=⟨[]⟩):(ga s).take (((ga s).length:Int) - 1).toNat=cV s:=by
 have h1:=qE s
 rw [cV,if_pos ((DW hx).trans h),show (((ga s).length:Int) - 1).toNat=(ga s).length - 1 by omega]
theorem sY (hx:(ga s)[(((ga s).length:Int) - 1).toNat]? = some x) (h:¬ x=⟨[]⟩):ga s=cV s:=by
 rw [cV,if_neg (fun h2=>h ((DW hx).symm.trans h2))]
theorem qL {t:List Str} (e:t=ls) (h:1024<(t.length:Int)):eZ ls=[]/\0=iU ls/\4=gr ls:=by
 subst e
 rw [eZ,iU,gr,if_neg (by omega),if_pos (.inl (by omega)),if_pos (by omega)]; exact ⟨rfl,rfl,rfl⟩
theorem EL {t:List Str} (e:t=ls) (h:(t.length:Int)<=1024):TkJ ls 0:=by
 subst e; exact ⟨by omega,by omega,rfl⟩
theorem De {t:List Str} (e:t=ls):(t.length:Int)=(ls.length:Int):=by rw [e]
theorem EF (h0:s.b.length<=4000000) (hx:(cV s)[k]? = some x):x.b.length<4294967281:=by
 have:=Ai (List.mem_of_getElem? hx)
 omega
theorem Df (h0:s.b.length<=1000000) (hx:(qC s)[k]? = some x):x.b.length<=1000000:=by
 rw [DC] at hx
 have:=Ai (List.mem_of_getElem? hx)
 omega
theorem Fz (hJ:TkJ ls k):I64 ((k:Int)+1):=by
 have:=hJ.le
 have:=hJ.big
 constructor <;> omega
theorem CR (hJ:TkJ ls k) (hx:ls[k]? = some x) (h:bC x=0):TkJ ls (k+1):=by
 have:=(List.getElem?_eq_some_iff.1 hx).1
 refine ⟨by omega,hJ.big,?_⟩
 rw [se hx,List.all_append,hJ.ok]; simp [rdOk,h]
theorem CM (hJ:TkJ ls k) (hx:ls[k]? = some x) (h:qe x=0):TkJ ls (k+1):=CR hJ hx ((nH x).2.trans h)
theorem CX (hx:ls[k]? = some x):(ls.take k).map aL++[aL x]=(ls.take (k+1)).map aL:=by rw [se hx,List.map_append]; rfl
theorem Cu (hx:ls[k]? = some x):(ls.take k).map aL++[tM x]=(ls.take (k+1)).map aL:=by rw [<- (nH x).1,CX hx]
theorem nJ (hJ:TkJ ls k) (hx:ls[k]? = some x) (h:¬ bC x=0):eZ ls=[]/\(k:Int)+1=iU ls/\bC x=gr ls:=by
 obtain ⟨hk,hx2⟩:=List.getElem?_eq_some_iff.1 hx
 have h1:¬ ls.all rdOk=true:=fun h2=>h (of_decide_eq_true (List.all_eq_true.1 h2 x (List.mem_of_getElem? hx)))
 have hb:=hJ.big
 have hi:ls.findIdx (fun s=>!rdOk s)=k:=by
  rw [List.findIdx_eq hk]
  refine ⟨by rw [hx2]; simp [rdOk,h],fun j hj=>?_⟩
  have:=List.all_eq_true.1 hJ.ok ls[j] (by rw [List.mem_take_iff_getElem]; exact ⟨j,by omega,rfl⟩)
  rw [this]; rfl
 have h3:bC x=240:=(pn x).elim (fun h2=>absurd h2 h) (·.1)
 rw [eZ,if_neg (fun h2=>h1 h2.2),iU,if_neg (fun h2=>h2.elim (by omega) h1),gr,if_neg (by omega),if_neg h1,hi,h3]; exact ⟨rfl,rfl,rfl⟩
theorem nE (hJ:TkJ ls k) (hx:ls[k]? = some x) (h:¬ qe x=0):eZ ls=[]/\(k:Int)+1=iU ls/\qe x=gr ls:=by
 rw [<- (nH x).2] at h ⊢; exact nJ hJ hx h
theorem qF (hJ:TkJ ls k) (h:(ls.length:Int)<=k):(ls.take k).map aL=eZ ls/\0=iU ls/\0=gr ls:=by
 have hk:=hJ.ok
 have hb:=hJ.big
 rw [List.take_of_length_le (by omega)] at hk ⊢
 rw [eZ,if_pos ⟨hb,hk⟩,iU,if_pos (.inr hk),gr,if_neg (by omega),if_pos hk]; exact ⟨rfl,rfl,rfl⟩
theorem An {e:Event} (hJ:TkJ ls k):(((ls.take k).map aL).length+[e].length)*112<=140737488355328:=by
 have h1:=hJ.le
 have h2:=hJ.big
 rw [List.length_map,List.length_take,List.length_singleton]; omega
theorem Dh:(ls.take 0).map aL=[]:=rfl
end
section
variable {l:List Event} {k:Nat} {e:Event}
theorem Cv {p:Prop} (h0:l=[]) (h:0<(l.length:Int)):p:=by subst h0; simp at h
theorem DZ (h0:l=[]):(⟨[]⟩:Str)=bN l/\0=cP l:=by subst h0; exact ⟨rfl,rfl⟩
theorem CG (hJ:PutJ l k):((bT (l.take k)).length+(aB e).b.length)*1<=140737488355328:=by
 have:=CI (e:=e) hJ
 omega
theorem CP (hJ:PutJ l k):((bT (l.take k)++(aB e).b).length+1)*1<=140737488355328:=by
 have:=Dk (e:=e) hJ
 rw [List.length_singleton] at this; omega
theorem Cs (he:l[k]? = some e):bT (l.take k)++(aB e).b++[UInt8.ofNat 10]=bT (l.take (k+1)):=EN he
end
def zU (l:List Event):List (Nat × LI):=[(5,{ σ:=Nat,F:=fun k=>([],[]),J:=fun k=>True,μ:=fun k=>0,un:=some (1,[4,12,13,14]) })]
def zG (l:List Event):List (Nat × LI):=[(5,{ σ:=Nat,F:=fun k=>([(4,one (.ptr 0 0)),(12,one (.fz (.nm .event) (l))),(13,one (.int (l).length)),(14,one (.int k))],[.box 62 ([.xx .bp [(0,0)],.own 1]),.row 5 .u8 ((bT (l.take k)))]),J:=fun k=>PutJ l k,μ:=fun k=>l.length - k })]
def vn (s:Str):List (Nat × LI):=[(9,{ σ:=Nat,F:=fun k=>([(7,one (.own 0)),(28,one (.fz .str (cV s))),(29,one (.int (cV s).length)),(30,one (.int k))],[.row 26 (.nm .event) ((((cV s).take k).map aL))]),J:=fun k=>TkJ (cV s) k,μ:=fun k=>(cV s).length - k })]
theorem AL (l:List Event) (r0:Str) (r1:Int):ln aW oQ (zU l) Tryd.f17 [.c (.fz (.nm .event) (l))] [] [.c (.str (r0)),.c (.int (r1))]=((fun (q1:Int)=>(fun (q0:Int)=>l.length*(112:Nat)<=(140737488355328:Nat)->((1024:Int)<q1->Str.mk []=r0/\(4:Int)=r1)/\(q1<=(1024:Int)->(q0<q1->q0<=q0/\q0<q1/\∀ (x:Event),l[(0:Nat)]? = some x->I64 x.kind->I64 x.a->I64 x.b->I64 x.c.kind->I64 x.c.client->I64 x.c.seq->I64 x.c.set->I64 x.c.id->I64 x.c.n->x.c.chunks.length*(8:Nat)<=(140737488355328:Nat)->x.c.text.b.length<=(140737488355328:Nat)->(aB x).b.length<=(140737488355328:Nat)->I64 (a_ x)->(¬a_ x=q0->Str.mk []=r0/\a_ x=r1)/\(a_ x=q0->False))/\(q1<=q0->(0:Nat)<=(140737488355328:Nat)->Str.mk []=r0/\q0=r1))) (0:Int)) (↑l.length:Int)):=by kernel_rfl
theorem uw (l:List Event) (h0:l=[]):Sat Tryd.prog (ai aW) 17 [.c (.fz (.nm .event) (l))] [] ⟨[l=[]],[.c (.str ((bN l))),.c (.int ((cP l)))],none,false⟩:=by
 refine cq gF (zU l) Tryd.func17 (by decide) (by kernel_rfl) ?_
 rw [AL]
 iterate 3 ((all_goals (repeat' (first | with_reducible apply jV | with_reducible refine jR ?_ | intro))); (all_goals try (first | exact lq | exact rfl | exact (mB ao).1 | exact (mB ao).2 | exact (Cv h0 ao) | exact (DZ h0).1 | exact (DZ h0).2)); all_goals try first | refine ⟨‹Nat› + 1,?_⟩ | refine ⟨0,?_⟩)
theorem Bn (l:List Event) (r0:Str) (r1:Int):ln aW oQ (zG l) Tryd.f17 [.c (.fz (.nm .event) (l))] [] [.c (.str (r0)),.c (.int (r1))]=((fun (q2:Int)=>(fun (q1:Nat)=>(fun (q0:Int)=>l.length*(112:Nat)<=q1->((1024:Int)<q2->Str.mk []=r0/\(4:Int)=r1)/\(q2<=(1024:Int)->∃ (s0:Nat),(l=l/\q2=q0/\(0:Int)=(↑s0:Int)/\bT (List.take s0 l)=[])/\PutJ l s0/\∀ (s:Nat),(fun (q3:List UInt8)=>PutJ l s->((↑s:Int)<q0->(0:Int)<=(↑s:Int)/\(↑s:Int)<q2/\∀ (x:Event),l[s]? = some x->I64 x.kind->I64 x.a->I64 x.b->I64 x.c.kind->I64 x.c.client->I64 x.c.seq->I64 x.c.set->I64 x.c.id->I64 x.c.n->x.c.chunks.length*(8:Nat)<=q1->x.c.text.b.length<=q1->(aB x).b.length<=q1->I64 (a_ x)->(¬a_ x=(0:Int)->Str.mk []=r0/\a_ x=r1)/\(a_ x=(0:Int)->(q3.length+(aB x).b.length)*(1:Nat)<=q1/\(I64 (↑(aB x).b.length:Int)->((q3++(aB x).b).length+(1:Nat))*(1:Nat)<=q1/\I64 ((↑s:Int)+(1:Int))/\∃ (s':Nat),(l=l/\q0=q0/\(↑s:Int)+(1:Int)=(↑s':Int)/\q3++(aB x).b++[UInt8.ofNat (10:Nat)]=bT (List.take s' l))/\PutJ l s' /\ l.length - s' < l.length - s)))/\(q0<=(↑s:Int)->¬q3=[]/\(q3.length<=q1->Str.mk q3=r0/\(0:Int)=r1))) (bT (List.take s l)))) (↑l.length:Int)) (140737488355328:Nat)) (↑l.length:Int)):=by kernel_rfl
theorem wb (l:List Event) (h0:l≠[]):Sat Tryd.prog (ai aW) 17 [.c (.fz (.nm .event) (l))] [] ⟨[l≠[]],[.c (.str ((bN l))),.c (.int ((cP l)))],none,false⟩:=by
 refine cq gF (zG l) Tryd.func17 (by decide) (by kernel_rfl) ?_
 rw [Bn]
 iterate 3 ((all_goals (repeat' (first | with_reducible apply jV | with_reducible refine jR ?_ | intro))); (all_goals try (first | exact lq | exact rfl | exact (mB ao).1 | exact (mB ao).2 | exact (Fv ao) | exact (ux ao ao ao).1 | exact (ux ao ao ao).2 | exact (vg ao ao).1 | exact (vg ao ao).2 | with_reducible exact (CG ao) | with_reducible exact (CP ao) | with_reducible exact (FC ao) | exact (Cs ao) | exact (Fq ao ao ao) | (have:=(PutJ.le ao); omega) | exact DN | exact (CW ao ao h0 ao))); all_goals try first | refine ⟨‹Nat› + 1,?_⟩ | refine ⟨0,?_⟩)
theorem yQ (s:Str) (r0:List Event) (r1:Int) (r2:Int):ln aW oQ (vn s) Tryd.f19 [.c (.str (s))] [] [.c (.fz (.nm .event) (r0)),.c (.int (r1)),.c (.int (r2))]=((fun (q5:Nat)=>(fun (q4:List Str)=>(fun (q3:Int)=>(fun (q2:Int)=>(fun (q1:Int)=>(fun (q0:List Str)=>s.b.length<=q5->s.b.length<(4294967281:Nat)/\[(10:UInt8)].length=(1:Nat)/\(q0.length*(16:Nat)<=q5->I64 ((↑q0.length:Int) - q2)/\q3<=(↑q0.length:Int) - q2/\(↑q0.length:Int) - q2<(↑q0.length:Int)/\∀ (x:Str),(fun (q8:Prop)=>(fun (q7:Int)=>(fun (q6:Int)=>q0[q6.toNat]? = some x->x.b.length<=q5->(x=Str.mk []->q3<=q6/\q6<=q7/\((1024:Int)<(↑(List.take q6.toNat q0).length:Int)->q8)/\((↑(List.take q6.toNat q0).length:Int)<=(1024:Int)->∃ (s0:Nat),(List.take q6.toNat q0=q4/\(↑(List.take q6.toNat q0).length:Int)=q1/\q3=(↑s0:Int)/\List.map aL (List.take s0 q4)=[])/\TkJ q4 s0/\∀ (s:Nat),(fun (q9:Int)=>TkJ q4 s->((↑s:Int)<q1->q3<=(↑s:Int)/\(↑s:Int)<(↑q4.length:Int)/\∀ (x:Str),(fun (q10:Event)=>q4[s]? = some x->x.b.length<=q5->x.b.length<(4294967281:Nat)/\(I64 q10.kind->I64 q10.a->I64 q10.b->I64 q10.c.kind->I64 q10.c.client->I64 q10.c.seq->I64 q10.c.set->I64 q10.c.id->I64 q10.c.n->q10.c.chunks.length*(8:Nat)<=q5->q10.c.text.b.length<=q5->I64 (bC x)->(¬bC x=q3->I64 q9/\r0=[]/\q9=r1/\bC x=r2)/\(bC x=q3->((List.map aL (List.take s q4)).length+[q10].length)*(112:Nat)<=q5/\I64 q9/\∃ (s':Nat),(q4=q4/\q1=q1/\q9=(↑s':Int)/\List.map aL (List.take s q4)++[q10]=List.map aL (List.take s' q4))/\TkJ q4 s' /\ q4.length - s' < q4.length - s))) (aL x))/\(q1<=(↑s:Int)->List.map aL (List.take s q4)=r0/\q3=r1/\q3=r2)) ((↑s:Int)+q2)))/\(¬x=Str.mk []->((1024:Int)<q7->q8)/\(q7<=(1024:Int)->∃ (s0:Nat),(q0=q4/\q7=q1/\q3=(↑s0:Int)/\List.map aL (List.take s0 q4)=[])/\TkJ q4 s0/\∀ (s:Nat),(fun (q11:Int)=>TkJ q4 s->((↑s:Int)<q1->q3<=(↑s:Int)/\(↑s:Int)<(↑q4.length:Int)/\∀ (x:Str),(fun (q12:Event)=>q4[s]? = some x->x.b.length<=q5->x.b.length<(4294967281:Nat)/\(I64 q12.kind->I64 q12.a->I64 q12.b->I64 q12.c.kind->I64 q12.c.client->I64 q12.c.seq->I64 q12.c.set->I64 q12.c.id->I64 q12.c.n->q12.c.chunks.length*(8:Nat)<=q5->q12.c.text.b.length<=q5->I64 (bC x)->(¬bC x=q3->I64 q11/\r0=[]/\q11=r1/\bC x=r2)/\(bC x=q3->((List.map aL (List.take s q4)).length+[q12].length)*(112:Nat)<=q5/\I64 q11/\∃ (s':Nat),(q4=q4/\q1=q1/\q11=(↑s':Int)/\List.map aL (List.take s q4)++[q12]=List.map aL (List.take s' q4))/\TkJ q4 s' /\ q4.length - s' < q4.length - s))) (aL x))/\(q1<=(↑s:Int)->List.map aL (List.take s q4)=r0/\q3=r1/\q3=r2)) ((↑s:Int)+q2)))) (q7 - q2)) (↑q0.length:Int)) (r0=[]/\q3=r1/\(4:Int)=r2))) (bG s (Str.mk [(10:UInt8)]))) (↑q4.length:Int)) (1:Int)) (0:Int)) (cV s)) (140737488355328:Nat)):=by kernel_rfl
theorem zh (s:Str) (h0:s.b.length<=4000000):Sat Tryd.prog (ai aW) 19 [.c (.str (s))] [] ⟨[s.b.length<=4000000],[.c (.fz (.nm .event) ((eZ (cV s)))),.c (.int ((iU (cV s)))),.c (.int ((gr (cV s))))],none,false⟩:=by
 refine cq gF (vn s) Tryd.func19 (by decide) (by kernel_rfl) ?_
 rw [yQ]
 iterate 3 ((all_goals (repeat' (first | with_reducible apply jV | with_reducible refine jR ?_ | intro))); (all_goals try (first | exact lq | exact rfl | exact h0 | exact (Ds h0).1 | exact (Ds h0).2 | exact (sy ao ao) | exact (sY ao ao) | exact Dh | with_reducible exact (An ao) | with_reducible exact (Fz ao) | exact (nJ ao ao ao).1 | exact (nJ ao ao ao).2.1 | exact (nJ ao ao ao).2.2 | exact (nE ao ao ao).1 | exact (nE ao ao ao).2.1 | exact (nE ao ao ao).2.2 | exact (qF ao ao).1 | exact (qF ao ao).2.1 | exact (qF ao ao).2.2 | exact (CX ao) | exact (Cu ao) | exact (CR ao ao ao) | exact (CM ao ao ao) | exact (EF h0 ao) | exact (Df h0 ao) | exact (qL (by first | exact sy ao ao | exact sY ao ao | exact rfl) ao).1 | exact (qL (by first | exact sy ao ao | exact sY ao ao | exact rfl) ao).2.1 | exact (qL (by first | exact sy ao ao | exact sY ao ao | exact rfl) ao).2.2 | exact (EL (by first | exact sy ao ao | exact sY ao ao | exact rfl) ao) | exact (De (by first | exact sy ao ao | exact sY ao ao | exact rfl)) | (have:=(TkJ.le ao); omega))); all_goals try first | refine ⟨‹Nat› + 1,?_⟩ | refine ⟨0,?_⟩)
def Ag:cD:=(eE 19 (dS (aA (kC cS) bJ) bK fun (s,_) (_)=>⟨[s.b.length<=4000000],[.c (.fz (.nm .event) ((eZ (cV s)))),.c (.int ((iU (cV s)))),.c (.int ((gr (cV s))))],none,false⟩) (eE 17 (dS (aA (kC (cL (.nm .event))) bJ) bK fun (l,_) (_)=>⟨[l≠[]],[.c (.str ((bN l))),.c (.int ((cP l)))],none,false⟩) (eE 17 (dS (aA (kC (cL (.nm .event))) bJ) bK fun (l,_) (_)=>⟨[l=[]],[.c (.str ((bN l))),.c (.int ((cP l)))],none,false⟩) oQ)))
theorem vj:aV Tryd.prog (ai aW) Ag:=(aJ (aI (ae (aK dH) aw) ax fun (s,_) (_) hp=>zh s (sV hp)) (aJ (aI (ae (aK dA) aw) ax fun (l,_) (_) hp=>wb l (sV hp)) (aJ (aI (ae (aK dA) aw) ax fun (l,_) (_) hp=>uw l (sV hp)) gF)))
theorem qQ {s:Str}:(s.b.take 6000).length<=1000000/\(s.b.take 6000).length<=4000000:=by rw [List.length_take]; omega
theorem Dt (l:List Event):Sat Tryd.prog (ai aW) 17 [.c (.fz (.nm .event) (l))] [] ⟨[],[.c (.str ((bN l))),.c (.int ((cP l)))],none,false⟩:=by
 by_cases h:l=[]
 ·exact uw l h
 ·exact wb l h
def z_:cD:=(eE 17 (dS (aA (kC (cL (.nm .event))) bJ) bK fun (l,_) (_)=>⟨[],[.c (.str ((bN l))),.c (.int ((cP l)))],none,false⟩) Ag)
theorem wK:aV Tryd.prog (ai aW) z_:=(aJ (aI (ae (aK dA) aw) ax fun (l,_) (_) _=>Dt l ) vj)
theorem sf {s:Str} {init:List Str} {x:List UInt8} (h:ga s=init++[⟨x⟩]):cV s=if x=[] then init else init++[⟨x⟩]:=by
 have e1:(init++[Str.mk x]).length - 1=init.length:=by simp
 have e2:(init++[Str.mk x]).getD init.length (aX .str)=⟨x⟩:=by
  rw [List.getD_eq_getElem?_getD,List.getElem?_append_right (Nat.le_refl _),Nat.sub_self]; rfl
 rw [cV,h,e1,e2,List.take_left]
 by_cases hx:x=[]
 ·subst hx; rw [if_pos rfl,if_pos rfl]
 ·rw [if_neg (fun h=>hx (by rw [Str.mk.injEq] at h; exact h)),if_neg hx]
theorem iS:∀ {ws:List (List UInt8)} {r:List UInt8},(∀ w ∈ ws,∀ c ∈ w,c≠10)->aq 10 ((ws.flatMap fun w=>w++[10])++r)=ws++aq 10 r
 | [],_,_=>rfl
 | w :: ws,r,h=>by
  rw [List.flatMap_cons,List.append_assoc,List.append_assoc,List.singleton_append,ei fun hc=>h w (by simp) 10 hc rfl,iS fun x hx=>h x (by simp [hx])]; rfl
theorem uX {ws:List (List UInt8)} (h:∀ w ∈ ws,∀ c ∈ w,c≠10):cV ⟨ws.flatMap fun w=>w++[10]⟩=ws.map Str.mk:=by
 have h1:=iS (r:=[]) h
 rw [List.append_nil] at h1
 have h2:ga ⟨ws.flatMap fun w=>w++[10]⟩=ws.map Str.mk++[⟨[]⟩]:=by
  show (aq 10 (ws.flatMap fun w=>w++[10])).map Str.mk=_
  rw [h1,List.map_append]; rfl
 rw [sf h2,if_pos rfl]
theorem zk (l:List Event):bT l=(l.map fun e=>(aB e).b).flatMap fun w=>w++[10]:=by rw [List.flatMap_map]; rfl
theorem BH (l:List Event):cV ⟨bT l⟩=l.map aB:=by
 rw [zk,uX fun w hw=>by
  rw [List.mem_map] at hw
  obtain ⟨e,_,rfl⟩:=hw
  exact xG,List.map_map]; rfl
theorem oR:∀ {l:List Event},l.all lineOk=true->(l.map aB).all rdOk=true/\(l.map aB).map aL=l
 | [],_=>⟨rfl,rfl⟩
 | e :: l,h=>by
  rw [List.all_cons,Bool.and_eq_true] at h
  obtain ⟨h1,h2⟩:=oR h.2
  have h3:=lS h.1
  rw [List.map_cons,List.all_cons,h1,List.map_cons,h2,h3.1,rdOk,decide_eq_true h3.2]; exact ⟨rfl,rfl⟩
theorem As {l:List Event} (h:cP l=0):l.length<=1024/\l.all lineOk=true/\bN l=⟨bT l⟩:=by
 unfold cP at h
 split at h
 ·cases h
 ·split at h
  ·rename_i h1 h2
   exact ⟨by omega,h2,by rw [bN,if_pos ⟨by omega,h2⟩]⟩
  ·cases h
theorem vS {ls:List Str} {l:List Event} (h1:ls.length<=1024) (h2:ls.all rdOk=true) (h3:ls.map aL=l):eZ ls=l/\iU ls=0/\gr ls=0:=by
 rw [eZ,if_pos ⟨h1,h2⟩,iU,if_pos (.inr h2),gr,if_neg (by omega),if_pos h2]; exact ⟨h3,rfl,rfl⟩
theorem wW {l:List Event} (h:cP l=0):eZ (cV (bN l))=l/\iU (cV (bN l))=0/\gr (cV (bN l))=0:=by
 obtain ⟨h1,h2,h3⟩:=As h
 rw [h3,BH]
 obtain ⟨h4,h5⟩:=oR h2
 exact vS (by rw [List.length_map]; exact h1) h4 h5
theorem yu (l:List Event):(bN l).b.length<=3000000:=by
 unfold bN
 split
 ·rename_i h
  have:=ll l
  show (bT l).length<=_
  omega
 ·simp
theorem od:∀ l:List UInt8,((aq 10 l).flatMap fun w=>w++[10])=l++[10]
 | []=>rfl
 | b :: l=>by
  have ih:=od l
  unfold aq
  split
  ·rename_i h
   subst h
   rw [List.flatMap_cons,ih]; rfl
  ·cases h:aq 10 l with
   | nil=>exact absurd h (cf 10 l).2
   | cons x r=>
    rw [h] at ih
    rw [lF,List.flatMap_cons,List.cons_append,List.cons_append]
    rw [List.flatMap_cons] at ih
    exact congrArg (b :: ·) ih
theorem u_ (s:Str):(((cV s).map (·.b)).flatMap fun w=>w++[10])=s.b\/(((cV s).map (·.b)).flatMap fun w=>w++[10])=s.b++[10]:=by
 have h1:=vq s
 have h2:=sf h1
 have h3:=od s.b
 have h4:aq 10 s.b=(rP s.b s.b.length).map (·.b)++[s.b.drop (jg s.b s.b.length)]:=by
  have h5:(aq 10 s.b).map Str.mk=rP s.b s.b.length++[⟨s.b.drop (jg s.b s.b.length)⟩]:=h1
  have:=congrArg (List.map (·.b)) h5
  rw [List.map_map,show ((fun x:Str=>x.b) ∘ Str.mk)=id from rfl,List.map_id,List.map_append] at this
  exact this
 rw [h4,List.flatMap_append,List.flatMap_singleton] at h3
 rw [h2]
 by_cases hx:s.b.drop (jg s.b s.b.length)=[]
 ·left
  rw [if_pos hx]
  rw [hx,List.nil_append] at h3
  exact List.append_cancel_right h3
 ·right
  rw [if_neg hx,List.map_append,List.flatMap_append,List.map_singleton,List.flatMap_singleton]; exact h3
theorem pV:∀ {ls:List Str},ls.all rdOk=true->(ls.map aL).all lineOk=true/\bT (ls.map aL)=(ls.map (·.b)).flatMap fun w=>w++[10]
 | [],_=>⟨rfl,rfl⟩
 | x :: ls,h=>by
  rw [List.all_cons,Bool.and_eq_true] at h
  obtain ⟨h1,h2⟩:=pV h.2
  obtain ⟨h3,h4⟩:=oD (of_decide_eq_true h.1)
  have h5:bT (aL x :: ls.map aL)=(aB (aL x)).b++[10]++bT (ls.map aL):=by rw [bT,List.flatMap_cons]; rfl
  rw [List.map_cons,List.all_cons,h1,h3,h5,h2,h4,List.map_cons,List.flatMap_cons]; exact ⟨rfl,rfl⟩
theorem CF {ls:List Str} (h:gr ls=0):ls.length<=1024/\ls.all rdOk=true:=by
 unfold gr at h
 split at h
 ·cases h
 ·split at h
  ·rename_i h1 h2; exact ⟨by omega,h2⟩
  ·cases h
theorem wA {s:Str} (h:gr (cV s)=0):iU (cV s)=0/\cP (eZ (cV s))=0/\(bN (eZ (cV s))=s\/bN (eZ (cV s))=⟨s.b++[10]⟩):=by
 obtain ⟨h1,h2⟩:=CF h
 obtain ⟨h3,h4,_⟩:=vS h1 h2 rfl
 obtain ⟨h5,h6⟩:=pV h2
 have hl:((cV s).map aL).length<=1024:=by rw [List.length_map]; exact h1
 refine ⟨h4,?_,?_⟩
 ·rw [h3,cP,if_neg (by omega),if_pos h5]
 ·rw [h3,bN,if_pos ⟨hl,h5⟩,h6]
  rcases u_ s with h7 | h7
  ·left; rw [h7]
  ·right; rw [h7]
theorem Dw {ls:List Str} (h:¬ gr ls=0):eZ ls=[]/\(decide (gr ls=240) == decide (0<iU ls))=true:=by
 unfold gr at h ⊢
 by_cases h1:1024<ls.length
 ·rw [if_pos h1,eZ,if_neg (by omega),iU,if_pos (.inl h1)]; exact ⟨rfl,rfl⟩
 ·rw [if_neg h1] at h ⊢
  by_cases h2:ls.all rdOk=true
  ·exact absurd (if_pos h2) h
  ·rw [if_neg h2,eZ,if_neg (fun h=>h2 h.2),iU,if_neg (fun h=>h.elim h1 h2)]
   refine ⟨rfl,?_⟩
   have h3:0<((ls.findIdx fun s=>!rdOk s:Nat):Int)+1:=by omega
   rw [decide_eq_true h3]; rfl
theorem FR (l:List Event):(bN l).b.length<=4000000:=Nat.le_trans (yu l) (by omega)
theorem Da {s:Str}:(s.b.take 6000).length+[(10:UInt8)].length<=140737488355328:=by rw [List.length_take,List.length_singleton]; omega
section
variable {l:List Event} {s:Str}
theorem DY {p:Prop} (h:cP l=0) (hn:(¬ gr (cV (bN l))=0\/¬ iU (cV (bN l))=0)\/decide (eZ (cV (bN l))=l)=false):p:=by
 obtain ⟨h1,h2,h3⟩:=wW h
 rcases hn with (hn | hn) | hn
 ·exact absurd h3 hn
 ·exact absurd h2 hn
 ·exact absurd h1 (of_decide_eq_false hn)
theorem BW (h:¬ gr (cV s)=0):(true && decide (((eZ (cV s)).length:Int)=0) && (decide (gr (cV s)=240) == decide (0<iU (cV s))))=true:=by
 obtain ⟨h1,h2⟩:=Dw h
 rw [h1,h2]; rfl
theorem DA (h:gr (cV s)=0):(true && decide (iU (cV s)=0) && decide (cP (eZ (cV s))=0) && (decide (bN (eZ (cV s))=s) || decide (bN (eZ (cV s))=⟨s.b++[10]⟩)))=true:=by
 obtain ⟨h1,h2,h3⟩:=wA h
 rw [decide_eq_true h1,decide_eq_true h2]
 rcases h3 with h3 | h3
 ·rw [decide_eq_true h3]; rfl
 ·rw [decide_eq_true (p:=_=Str.mk _) h3,Bool.or_true]; rfl
end
theorem xN (l:List Event) (s:Str) (r0:Bool):ln aW z_ [] Tryd.f6 [.c (.fz (.nm .event) (l)),.c (.str (s))] [] [.c (.bool (.atom (r0)))]=((fun (q5:Nat)=>(fun (q4:Int)=>(fun (q3:List UInt8)=>(fun (q2:List Str)=>(fun (q1:List Str)=>(fun (q0:Prop)=>l.length*(112:Nat)<=q5->s.b.length<=q5->(ij l).length*(112:Nat)<=q5->q3.length<=q5->(bN (ij l)).b.length<=q5->I64 (cP (ij l))->(cP (ij l)=q4->(bN (ij l)).b.length<=(4000000:Nat)/\((eZ q2).length*(112:Nat)<=q5->I64 (iU q2)->I64 (gr q2)->((¬gr q2=q4\/¬iU q2=q4)\/decide (eZ q2=ij l)=false->false=r0)/\((gr q2=q4/\iU q2=q4)/\decide (eZ q2=ij l)=true->q0)))/\(¬cP (ij l)=q4->q0)) (q3.length<=(4000000:Nat)/\((eZ q1).length*(112:Nat)<=q5->I64 (iU q1)->I64 (gr q1)->(¬gr q1=q4->(true && decide ((↑(eZ q1).length:Int)=q4) && decide (gr q1=(240:Int)) == decide (q4<iU q1))=r0)/\(gr q1=q4->(bN (eZ q1)).b.length<=q5->I64 (cP (eZ q1))->((true=true/\iU q1=q4)/\cP (eZ q1)=q4->¬bN (eZ q1)=Str.mk q3->q3.length+[(10:UInt8)].length<=q5)/\(true && decide (iU q1=q4) && decide (cP (eZ q1)=q4) && (decide (bN (eZ q1)=Str.mk q3) || decide (bN (eZ q1)=Str.mk (q3++[(10:UInt8)]))))=r0)))) (cV (Str.mk q3))) (cV (bN (ij l)))) (List.take (6000:Nat) s.b)) (0:Int)) (140737488355328:Nat)):=by kernel_rfl
theorem xM (l:List Event) (s:Str):Sat Tryd.prog (ai aW) 6 [.c (.fz (.nm .event) (l)),.c (.str (s))] [] ⟨[],[.c (.bool (.atom ((true))))],none,false⟩:=by
 refine cq wK [] Tryd.func6 (by decide) (by kernel_rfl) ?_
 rw [xN]
 (repeat' (first | with_reducible apply jV | with_reducible refine jR ?_ | intro))
 all_goals (first | exact lq | exact qQ.1 | exact qQ.2 | exact (FR _) | exact Da | exact (DY ao ao) | exact (BW ao) | exact (DA ao))
end Go.Proofs.YtagpmhlokhoanaaDoor
namespace Go.Proofs.YtagpmhlokhoanaaDoor
open Go.RowKit Go.ChangeShapes Go.WideShapes
theorem wS:ownKnob Tryd.prog.godebug=none:=by kernel_rfl
theorem uM:laidOutB Tryd.prog=true:=by kernel_rfl
theorem ER:Tr Tryd.prog (ai aW) 24 (.nm .command):=Tr.struct (ss:=[.int,.int,.int,.int,.int,.int,(.lst .int),.str]) Tryd.underlying24 (by kernel_rfl) (fun cells h=>by
 obtain ⟨y0,l0,rfl,y1,l1,rfl,y2,l2,rfl,y3,l3,rfl,y4,l4,rfl,y5,l5,rfl,y6,l6,rfl,y7,l7,rfl,rfl⟩:=h
 exact ⟨⟨y0,y1,y2,y3,y4,y5,y6,y7⟩,rfl⟩) (lR.cons (Tr.int Tryd.underlying3) rfl (by kernel_rfl) (lR.cons (Tr.int Tryd.underlying3) rfl (by kernel_rfl) (lR.cons (Tr.int Tryd.underlying3) rfl (by kernel_rfl) (lR.cons (Tr.int Tryd.underlying3) rfl (by kernel_rfl) (lR.cons (Tr.int Tryd.underlying3) rfl (by kernel_rfl) (lR.cons (Tr.int Tryd.underlying3) rfl (by kernel_rfl) (lR.cons (Tr.list Tryd.underlying22 (by kernel_rfl) (by kernel_rfl) (Tr.int Tryd.underlying3)) rfl (by kernel_rfl) (lR.cons (Tr.str Tryd.underlying9) rfl (by kernel_rfl) (lR.nil)))))))))
theorem Fy:Tr Tryd.prog (ai aW) 26 (.nm .event):=Tr.struct (ss:=[.int,.int,.int,(.nm .command)]) Tryd.underlying26 (by kernel_rfl) (fun cells h=>by
 obtain ⟨y0,l0,rfl,y1,l1,rfl,y2,l2,rfl,y3,l3,rfl,rfl⟩:=h
 exact ⟨⟨y0,y1,y2,y3⟩,rfl⟩) (lR.cons (Tr.int Tryd.underlying3) rfl (by kernel_rfl) (lR.cons (Tr.int Tryd.underlying3) rfl (by kernel_rfl) (lR.cons (Tr.int Tryd.underlying3) rfl (by kernel_rfl) (lR.cons (ER) rfl (by kernel_rfl) (lR.nil)))))
set_option maxRecDepth 100000 in
theorem jk (os:Os) (started:os.Started) (H:Type) (enc:TypeId × Value->H) :
  ReturnsInHanded {} Tryd.checked os 6 .any (fun w args=>(Rows.scriptBackSpec.pre enc Tryd.prog Tryd.f6 Rows.scriptBackRow.domain false w args/\laidMetH Tryd.prog Rows.scriptBackRow.laid w)/\sizedMet enc Tryd.prog Tryd.f6 (OpenSpec.ofChange Rows.scriptBackSpec) false w args) (Rows.scriptBackSpec.post enc Tryd.prog Tryd.f6 false true false false):=by
 refine kS (C:=Tryd.checked) (L:=Rows.scriptBackRow.laid) wS started (by kernel_rfl) Tryd.func6
  (ChangeSpec.witness_shaped (enc:=enc) (C:=Tryd.checked) (os:=os) (X:=fun w _=>laidMetH Tryd.prog Rows.scriptBackRow.laid w) false (World.laidAll Tryd.prog os Rows.scriptBackRow.laid) #[.slice none 0 0,.string ⟨#[]⟩] 8 (World.laidAll_os _ _ _) (World.shaped_of_ZipB (by kernel_rfl) (by kernel_rfl)) (by kernel_rfl) (by kernel_rfl) (by kernel_rfl) (by rw [MakeChecks.laidMetH_plain _ _ _ (by kernel_rfl)]; exact laidMet_laidAll _ (by kernel_rfl) (by kernel_rfl))) uM (by kernel_rfl) (by kernel_rfl) Tryd.underlying4 rfl (fun ds h=>?_) ?_
 ·match ds,h with
  | [d0,d1],_=>rfl
 ·intro W args hL hsh hs ha
  obtain ⟨l⟩:=args
  match l,hs with
  | [v0,v1],_=>
   obtain ⟨x0,h0⟩:=Ar.list (shp:=ai aW) (ha 0 36 _ rfl rfl) Tryd.underlying36 (Tr.list Tryd.underlying36 (by kernel_rfl) (by kernel_rfl) (Fy))
   obtain ⟨x1,h1⟩:=Ar.str (shp:=ai aW) (ha 1 9 _ rfl rfl) Tryd.underlying9
   exact xD (xM x0 x1) rfl (.cons h0 (.cons h1 .nil)) (tD hL hsh)
theorem scriptBack_holds:Rows.ScriptBackSaid:=
 OpenClaim.holds_of_wide 6 Tryd.f6 rfl rfl rfl rfl rfl rfl rfl ⟨rfl,rfl,rfl,rfl,rfl⟩ rfl rfl rfl rfl rfl (by kernel_rfl) Tryd.func6 (by kernel_rfl)
  (of_decide_eq_true (by kernel_rfl)) (by unfold Func.isWrapper; first | (rw [if_pos (by decide +kernel)]; kernel_rfl) | (rw [if_neg (by decide +kernel)]; exact ⟨rfl,rfl⟩))
  (fun os started H enc _=>jk os started H enc)
theorem scriptBackCard_holds:Rows.ScriptBackCardSaid:=
 Claim7.holds_tied_plain_at .later [] Rows.scriptBackCard.laidKinds true Rows.scriptBackCard.stood.harness true
  scriptBack_holds (fun _ h=>by cases h) (by kernel_rfl) (fun _ h=>by cases h) scriptBack_row_tie rfl ⟨rfl,rfl⟩ (by kernel_rfl) rfl
  (fun f fn hf hfn=>by
   obtain rfl:6=f:=Option.some.inj ((show some 6=Tryd.prog.funcNamed Rows.scriptBackRow.func by kernel_rfl).trans hf)
   obtain rfl:fn=Tryd.f6:=(Option.some.inj (Tryd.func6.symm.trans hfn)).symm
   exact ⟨by kernel_rfl,fun j t ht=>by
    rw [Tryd.params6] at ht
    have hm:t ∈ [36,9]:=by simpa using Array.mem_of_getElem? ht
    have hall:([36,9].all fun u=>!Tryd.prog.wantsStandIn u)=true:=by kernel_rfl
    exact (show Tryd.prog.wantsStandIn t=false by simpa using List.all_eq_true.1 hall t hm)⟩)
  (by kernel_rfl)
end Go.Proofs.YtagpmhlokhoanaaDoor
