/- The law: for every input it returns true, and each argument reads behind the call as it read before; and what leads there. Conditions: each lemma's own. -/
import Derived.OpenShut
import Derived.ProofKit
import Derived.SizedLaws
import Derived.Test.YtladifkbefehdaaGreatChecked
import Derived.Test.YtladifkbefehdaaGreatRows
import Derived.Test.YtladifkbefehdaaGreatKMQM5
set_option linter.unusedVariables false
set_option linter.unusedSimpArgs false
namespace Go.Proofs.YtladifkbefehdaaGreat
open Go.RowKit
theorem jB {m:Nat} (h:m<9223372036854775808):fI m=(m:Int):=by rw [fI,if_pos h]
theorem vU {b:List UInt8} {k:Nat}:(b.drop k).take (b.length - k)=b.drop k:=List.take_of_length_le (by rw [List.length_drop]; exact Nat.le_refl _)
theorem SC {b:List UInt8} {k:Nat} (hk:(k:Int)<(b.length:Int)) (he:(aA (b.drop k)).2.2=0) (hn:(((aA (b.drop k)).1:Nat):Int)<=((64:Nat):Int)):∃ x,b[k]? = some x/\aA (b.drop k)=(x.toNat,1,0)/\x.toNat<=64:=by
 have h:=Tk (b:=b) (k:=k) (by omega) (by rw [vU]; exact he) (by rw [vU]; omega)
 rw [vU] at h; exact h
theorem Qh {b:List UInt8} {k:Nat} (hk:(k:Int)<(b.length:Int)) (he:(aA (b.drop k)).2.2=0) (hn:(((aA (b.drop k)).1:Nat):Int)<=((64:Nat):Int)):(k:Int)+((aA (b.drop k)).2.1:Nat)=((k+1:Nat):Int)/\bX (b.take k)++[fI (aA (b.drop k)).1]=bX (b.take (k+1)):=by
 obtain ⟨x,hx,hp,h64⟩:=SC hk he hn
 have h:=Hh hx hp
 rw [hp] at h ⊢
 exact ⟨rfl,by rw [<- h,jB (by show x.toNat<_; omega)]⟩
theorem Qf {b:List UInt8} {k:Nat} (hk:(k:Int)<(b.length:Int)) (h:(¬ (aA (b.drop k)).2.2=0)\/((64:Nat):Int)<(((aA (b.drop k)).1:Nat):Int)):rowF (bX b)=false:=LY (k:=k) (by omega) (by rw [vU]; exact h)
theorem Li {b:List UInt8} {k:Nat} (h:k<=b.length) (hb:b.length<=100000):((bX (b.take k)).length+1)*8<=140737488355328:=by
 unfold bX; rw [List.length_map,List.length_take]; omega
def Iq (b:List UInt8):List (Nat × LI):=[(3,{ σ:=Nat,F:=fun k=>([(0,one (.fz .u8 (b))),(4,one (.own 0)),(5,one (.int k))],[.row 3 .int ((bX (b.take k)))]),J:=fun k=>k<=b.length,μ:=fun k=>b.length - k })]
theorem LC (b:List UInt8) (r0:Int) (r1:Int) (r2:Int) (r3:Int):cw tyT yR [] Tryz.f124 [.c (.fz .u8 (b))] [] [.c (.int (r0)),.c (.int (r1)),.c (.int (r2)),.c (.int (r3))]=((fun (q5:Int)=>(fun (q4:Int)=>(fun (q3:Int)=>(fun (q2:Prop)=>(fun (q1:Nat)=>(fun (q0:Int)=>b.length*(1:Nat)<=(140737488355328:Nat)->(aA b).fst<(18446744073709551616:Nat)->I64 (↑(aA b).snd.fst:Int)->I64 q4->(¬q4=q3->q3=r0/\q3=r1/\q3=r2/\q4=r3)/\(q4=q3->q2/\(q5<=q0->q2)/\(q5<=q0/\q0<=(↑(1000:Nat):Int)->q2/\(¬(↑q1:Int)=(↑(0:Nat):Int)->q2))/\((q0<q5\/(↑(1000:Nat):Int)<q0)\/¬(↑q1:Int)=(↑(0:Nat):Int)/\¬(↑q1:Int)=(↑(2:Nat):Int)->q3=r0/\q3=r1/\q3=r2/\(6:Int)=r3)/\((q5<=q0/\q0<=(↑(1000:Nat):Int))/\((↑q1:Int)=(↑(0:Nat):Int)\/(↑q1:Int)=(↑(2:Nat):Int))->q2/\q2/\fI ((aA b).fst / (8:Nat))=r0/\fI q1=r1/\(↑(aA b).snd.fst:Int)=r2/\q3=r3))) (↑((aA b).fst / (8:Nat)):Int)) ((aA b).fst % (8:Nat))) ((0:Nat)<(8:Nat))) (0:Int)) (aA b).snd.snd) (↑(1:Nat):Int)):=by kernel_rfl
theorem Kk (b:List UInt8):Sat Tryz.prog (ai tyT) 124 [.c (.fz .u8 (b))] [] ⟨[],[.c (.int (((aS b).num))),.c (.int (((aS b).wire))),.c (.int ((((aS b).k:Nat)))),.c (.int (((aS b).e)))],none,false⟩:=by
 refine aM jM [] Tryz.func124 (by decide) (by kernel_rfl) ?_
 rw [LC]
 (repeat' (first | with_reducible apply bP | with_reducible refine bQ ?_ | intro))
 all_goals (first | exact cn | (rw [zZ aq] <;> rfl) | (rw [AR aq aQ] <;> rfl) | (rw [zH aq aQ] <;> first | rfl | exact jB aQ) | (have:=(mh (l:=b) (k:=0) (n:=0) aQ).1; change (aA b).2.1<=11 at this; omega))
theorem KM (f:Field) (r0:List UInt8):n_ tyT yR [] Tryz.f83 [.agg (cellsOf (.nm .field) f)] [] [.c (.own 0)] [.row 5 .u8 (r0)]=((fun (q1:Nat)=>(fun (q0:List UInt8)=>I64 f.num->I64 f.wire->f.n.n<(18446744073709551616:Nat)->q1*(1:Nat)<=(140737488355328:Nat)->I64 (tX f.num f.wire)->(f.wire=(0:Int)->(q0.length+(fj f.n.n).length)*(1:Nat)<=(140737488355328:Nat)/\q0++fj f.n.n=r0)/\(¬f.wire=(0:Int)->(0:Int)<=(↑q1:Int)/\(q0.length+(fj q1).length)*(1:Nat)<=(140737488355328:Nat)/\((q0++fj q1).length+q1)*(1:Nat)<=(140737488355328:Nat)/\q0++fj q1++f.b=r0)) (kR f.num f.wire)) f.b.length):=by kernel_rfl
theorem IT (f:Field) (h0:f.b.length<=16384):Sat Tryz.prog (ai tyT) 83 [.agg (cellsOf (.nm .field) f)] [] ⟨[f.b.length<=16384],[.c (.own 0)],some ([.row 5 .u8 ((bY f))]),true⟩:=by
 refine dO jM [] Tryz.func83 (by decide) (by kernel_rfl) ?_
 rw [KM]
 (repeat' (first | with_reducible apply bP | with_reducible refine bQ ?_ | intro))
 all_goals (first | exact cn | exact (HC aq) | exact (FE aq) | (have:=mB f.num f.wire; have:=dG (n:=f.n.n) aq; omega) | (have:=mB f.num f.wire; have:=dG (n:=f.b.length) aQ; (try simp only [List.length_append]); omega))
theorem JS (q:Int) (r0:List Spec):cw tyT yR [] Tryz.f117 [.c (.int (q))] [] [.c (.fz (.nm .spec) (r0))]=((fun (q7:Int)=>(fun (q6:Int)=>(fun (q5:Int)=>(fun (q4:Int)=>(fun (q3:Int)=>(fun (q2:Int)=>(fun (q1:Int)=>(fun (q0:Int)=>I64 q->I64 q0->I64 q1->I64 q0->I64 q0->I64 q1->I64 q0->I64 q2->I64 q1->I64 q0->I64 q3->I64 q1->I64 q0->I64 q4->I64 q1->I64 q0->I64 q5->I64 q1->I64 q0->I64 q6->I64 q1->I64 q0->I64 q7->I64 q2->I64 q0->I64 (8:Int)->I64 q2->I64 q3->I64 q0->I64 q1->I64 q0->I64 q0->I64 q1->I64 q0->I64 q2->I64 q1->I64 q0->I64 q2->I64 q1->I64 q0->I64 q3->I64 q2->I64 q0->I64 q3->I64 q2->I64 q0->I64 q4->I64 q1->I64 q2->I64 q5->I64 q2->I64 q3->I64 q0->I64 q1->I64 q0->I64 q0->I64 q1->I64 q0->I64 q2->I64 q1->I64 q0->I64 q2->I64 q1->I64 q0->I64 q0->I64 q1->I64 q0->I64 q0->I64 q1->I64 q0->I64 q2->I64 q1->I64 q0->I64 q3->I64 q1->I64 q0->I64 q4->I64 q1->I64 q0->I64 q0->I64 q1->I64 q0->I64 q0->I64 q1->I64 q0->I64 q2->I64 q1->I64 q0->I64 q2->I64 q1->I64 q0->I64 q3->I64 q1->I64 q0->I64 q4->I64 q2->I64 q0->I64 q4->I64 q2->I64 q0->I64 q5->I64 q2->I64 q0->I64 q5->I64 q2->I64 q0->I64 q6->I64 q2->I64 q0->I64 q6->I64 q2->I64 q0->I64 q7->I64 q1->I64 q3->I64 q0->I64 q1->I64 q0->I64 q0->I64 q1->I64 q0->I64 q2->I64 q1->I64 q0->I64 q2->I64 q1->I64 q0->I64 q3->I64 q1->I64 q0->I64 q3->I64 q1->I64 q0->I64 q4->I64 q1->I64 q0->I64 q4->I64 q1->I64 q0->I64 q5->I64 q1->I64 q0->I64 q6->I64 q1->I64 q0->I64 q7->I64 q1->I64 q0->I64 (8:Int)->I64 q1->I64 q0->I64 (9:Int)->I64 q1->I64 q0->I64 (10:Int)->I64 q2->I64 q0->I64 (10:Int)->I64 q2->I64 q0->I64 q0->I64 q1->I64 q0->I64 q0->I64 q1->I64 q0->I64 q2->I64 q2->I64 q0->((fun (j:Int)=>if j=q7 then some [Spec.mk q0 q1 q0 true false,Spec.mk q2 q2 q0 false false] else (fun (j:Int)=>if j=q6 then some [Spec.mk q0 q1 q0 true false,Spec.mk q2 q1 q0 true false,Spec.mk q3 q1 q0 true false,Spec.mk q4 q1 q0 true false,Spec.mk q5 q1 q0 false false,Spec.mk q6 q1 q0 false false,Spec.mk q7 q1 q0 false false,Spec.mk (8:Int) q1 q0 false false,Spec.mk (9:Int) q1 q0 false false,Spec.mk (10:Int) q2 q0 false true] else (fun (j:Int)=>if j=q5 then some [Spec.mk q0 q1 q0 true false,Spec.mk q2 q1 q0 true false,Spec.mk q3 q1 q0 false false,Spec.mk q4 q2 q0 false true,Spec.mk q5 q2 q0 false true,Spec.mk q6 q2 q0 false true,Spec.mk q7 q1 q3 false false] else (fun (j:Int)=>if j=q4 then some [Spec.mk q0 q1 q0 true false,Spec.mk q2 q1 q0 false false,Spec.mk q3 q1 q0 false false,Spec.mk q4 q1 q0 false false] else (fun (j:Int)=>if j=q3 then some [Spec.mk q0 q1 q0 true false,Spec.mk q2 q1 q0 true false] else (fun (j:Int)=>if j=q2 then some [Spec.mk q0 q1 q0 true false,Spec.mk q2 q1 q0 true false,Spec.mk q3 q2 q0 true false,Spec.mk q4 q1 q2 false false,Spec.mk q5 q2 q3 false false] else (fun (j:Int)=>if j=q0 then some [Spec.mk q0 q1 q0 true false,Spec.mk q2 q1 q0 false false,Spec.mk q3 q1 q0 false false,Spec.mk q4 q1 q0 false false,Spec.mk q5 q1 q0 false false,Spec.mk q6 q1 q0 false false,Spec.mk q7 q2 q0 false false,Spec.mk (8:Int) q2 q3 false false] else (fun (_:Int)=>none) j) j) j) j) j) j) j) q).getD (dflt (Sh.nm NT.spec).lst)=r0) (1:Int)) (0:Int)) (2:Int)) (3:Int)) (4:Int)) (5:Int)) (6:Int)) (7:Int)):=by kernel_rfl
theorem Kq (q:Int) (h0:q=1):Sat Tryz.prog (ai tyT) 117 [.c (.int (q))] [] ⟨[q=1],[.c (.fz (.nm .spec) ((bn)))],none,false⟩:=by
 refine aM jM [] Tryz.func117 (by decide) (by kernel_rfl) ?_
 rw [JS]
 subst h0; (repeat' (first | with_reducible apply bP | with_reducible refine bQ ?_ | intro))
 all_goals (first | exact cn | exact rfl)
theorem LA (b:List UInt8) (r0:List Int) (r1:Int):cw tyT yR (Iq b) Tryz.f97 [.c (.fz .u8 (b))] [] [.c (.fz .int (r0)),.c (.int (r1))]=(b.length*(1:Nat)<=(140737488355328:Nat)->∃ (s0:Nat),(b=b/\(0:Int)=(↑s0:Int)/\bX (List.take s0 b)=[])/\s0<=b.length/\∀ (s:Nat),(fun (q1:List Int)=>(fun (q0:Nat × Nat × Int)=>s<=b.length->((↑s:Int)<(↑b.length:Int)->(0:Int)<=(↑s:Int)/\(↑s:Int)<=(↑b.length:Int)/\(q0.fst<(18446744073709551616:Nat)->I64 (↑q0.snd.fst:Int)->I64 q0.snd.snd->(¬q0.snd.snd=(0:Int)\/(↑(64:Nat):Int)<(↑q0.fst:Int)->r0=[]/\(6:Int)=r1)/\(q0.snd.snd=(0:Int)/\(↑q0.fst:Int)<=(↑(64:Nat):Int)->(q1.length+[fI q0.fst].length)*(8:Nat)<=(140737488355328:Nat)/\I64 ((↑s:Int)+(↑q0.snd.fst:Int))/\∃ (s':Nat),(b=b/\(↑s:Int)+(↑q0.snd.fst:Int)=(↑s':Int)/\q1++[fI q0.fst]=bX (List.take s' b))/\s' <= b.length/\b.length - s' < b.length - s)))/\((↑b.length:Int)<=(↑s:Int)->(rowF q1=false->r0=[]/\(6:Int)=r1)/\(rowF q1=true->q1=r0/\(0:Int)=r1))) (aA (List.drop s b))) (bX (List.take s b))):=by kernel_rfl
theorem JW (b:List UInt8) (h0:b.length<=100000):Sat Tryz.prog (ai tyT) 97 [.c (.fz .u8 (b))] [] ⟨[b.length<=100000],[.c (.fz .int ((iM b))),.c (.int ((nH b)))],none,false⟩:=by
 refine aM jM (Iq b) Tryz.func97 (by decide) (by kernel_rfl) ?_
 rw [LA]
 iterate 3 ((all_goals (repeat' (first | with_reducible apply bP | with_reducible refine bQ ?_ | intro))); (all_goals try (first | exact cn | exact rfl | exact (qq (Qf aq (by assumption))) | exact (Ef (Qf aq (by assumption))) | exact (qq (Qf aq (by assumption))).symm | exact (qq (uR (k:=‹Nat›) aQ aq)).symm | exact (qq (uR (k:=‹Nat›) aQ aq)) | exact (Ef (uR (k:=‹Nat›) aQ aq)) | exact (EN aQ aq) | exact (GK (k:=‹Nat›) aQ aq) | exact (Qh aq aq aq).1 | exact (Qh aq aq aq).2 | exact (Li aQ aQ) | (have:=(Qh aq aq aq).1; refine eX ?_ ?_ <;> omega))); all_goals try first | refine ⟨‹Nat› + 1,?_⟩ | refine ⟨0,?_⟩)
def qX:cd:=(bq 97 (bm (ah (kC (cL .u8)) aK) aJ fun (b,_) (_)=>⟨[b.length<=100000],[.c (.fz .int ((iM b))),.c (.int ((nH b)))],none,false⟩) (bq 117 (bm (ah (kC cI) aK) aJ fun (q,_) (_)=>⟨[q=1],[.c (.fz (.nm .spec) ((bn)))],none,false⟩) (bq 83 (bm (ah (kT (.nm .field)) aK) aJ fun (f,_) (_)=>⟨[f.b.length<=16384],[.c (.own 0)],some ([.row 5 .u8 ((bY f))]),true⟩) (bq 124 (bm (ah (kC (cL .u8)) aK) aJ fun (b,_) (_)=>⟨[],[.c (.int (((aS b).num))),.c (.int (((aS b).wire))),.c (.int ((((aS b).k:Nat)))),.c (.int (((aS b).e)))],none,false⟩) yR))))
theorem gy:aN Tryz.prog (ai tyT) qX:=(av (au (ab (al bb) ak) aj fun (b,_) (_) hp=>JW b (dB hp)) (av (au (ab (al aw) ak) aj fun (q,_) (_) hp=>Kq q (dB hp)) (av (au (ab bl ak) aj fun (f,_) (_) hp=>IT f (dB hp)) (av (au (ab (al bb) ak) aj fun (b,_) (_) _=>Kk b ) jM))))
theorem Mr {l:List Field} {k:Nat} (hk:k<=l.length) (h0:0<(k:Int)):l[k - 1]? = some (l.getD ((k:Int) - 1).toNat (dflt (.nm .field))):=by
 rw [show ((k:Int) - 1).toNat=k - 1 by omega,List.getD_eq_getElem?_getD,List.getElem?_eq_getElem (by omega)]; rfl
theorem Ic {l:List Field} {k:Nat} {x:Field} (h:(k:Int)<=0\/ey (l.getD ((k:Int) - 1).toNat (dflt (.nm .field))) x=true) (hk:k<=l.length):pW l k x:=by
 by_cases h0:0<(k:Int)
 ·exact .inr ⟨_,Mr hk h0,h.resolve_left aQ⟩
 ·exact .inl aQ
theorem ON {v:Int} {k:Nat}:(((bn.take k).filter (fun s=>decide (s.since<=v))).length+1)*32<=140737488355328:=by
 have:=zO (v:=v) (k:=k); omega
theorem MN {v:Int} {k:Nat} (h1:1<=v) (h3:v<=3) (hk:8<=(k:Int)):(bn.take k).filter (fun s=>decide (s.since<=v))=aU v:=A_ (by omega) (by show 8<=k; omega)
theorem Qe {l:List Field} {v:Int}:cS (l.take 0) v=[]:=rfl
theorem QL {l:List Field} {v:Int}:dg (l.take 0) v=[]:=rfl
theorem Ro {l:List Field} {v:Int} {k:Nat} {x:Field} (hx:l[k]? = some x) (h:x.num<=v):cS (l.take k) v++[x]=cS (l.take (k+1)) v:=Hq hx h
theorem RO {l:List Field} {v:Int} {k:Nat} {x:Field} (hx:l[k]? = some x) (h:¬ x.num<=v):cS (l.take k) v=cS (l.take (k+1)) v:=Kl hx h
theorem RS {l:List Field} {v:Int} {k:Nat} {x:Field} (hx:l[k]? = some x) (h:¬ x.num<=v):dg (l.take k) v++[x]=dg (l.take (k+1)) v:=HA hx h
theorem Pt {l:List Field} {v:Int} {k:Nat} {x:Field} (hx:l[k]? = some x) (h:x.num<=v):dg (l.take k) v=dg (l.take (k+1)) v:=IZ hx h
theorem PS {l:List Field} {v:Int} {k:Nat} (hk:l.length<=k):cS (l.take k) v=cS l v:=xq hk
theorem QY {l:List Field} {v:Int} {k:Nat} (hk:l.length<=k):dg (l.take k) v=dg l v:=CF hk
attribute [local irreducible] cS dg
def Cn (l:List Field):List (Nat × LI):=[(3,{ σ:=Nat,F:=fun k=>([(0,one (.fz (.nm .field) (l))),(3,one (.int (eO (l.take k):Nat))),(6,one (.fz (.nm .field) (l))),(7,one (.int (l).length)),(8,one (.int k))],[]),J:=fun k=>k<=l.length/\db none l=db (du l k) (l.drop k)/\eO (l.take k)<=k*16404,μ:=fun k=>(l).length - k })]
def zJ (q:Int) (v:Int):List (Nat × LI):=[(5,{ σ:=Nat,F:=fun k=>([(1,one (.int (v))),(5,one (.own 0)),(15,one (.fz (.nm .spec) bn)),(16,one (.int 8)),(17,one (.int k))],[.row 128 (.nm .spec) (((bn.take k).filter (fun (s:Spec)=>decide (s.since<=v))))]),J:=fun k=>k<=8,μ:=fun k=>8 - k })]
def vI (l:List Field) (v:Int):List (Nat × LI):=[(2,{ σ:=Nat,F:=fun k=>([(1,one (.int (v))),(4,one (.own 0)),(5,one (.own 1)),(8,one (.fz (.nm .field) (l))),(9,one (.int (l).length)),(10,one (.int k))],[.row 90 (.nm .field) ((cS (l.take k) v)),.row 90 (.nm .field) ((dg (l.take k) v))]),J:=fun k=>k<=l.length,μ:=fun k=>(l).length - k })]
def Cj (l:List Field):List (Nat × LI):=[(3,{ σ:=Nat,F:=fun k=>([(2,one (.ptr 0 0)),(3,one (.ptr 1 0)),(6,one (.fz (.nm .field) (l))),(7,one (.int (l).length)),(8,one (.int k))],[.box 24 (cellsOf (.nm .command) ((cj))),.box 24 (cellsOf (.nm .command) (((cg (l.take k)))))]),J:=fun k=>k<=l.length,μ:=fun k=>(l).length - k })]
theorem Er (b:List UInt8) (s:Int) (r0:U64) (r1:Int) (r2:List UInt8) (r3:Int):lS tyT qX [] Tryz.f125 [.c (.ptr 0 0),.c (.ptr 1 0)] [.box 28 ([.fz .u8 (b)]),.box 3 ([.int (s)])] [.c (.u64 (r0).n),.c (.int (r1))] [.box 28 ([.fz .u8 (r2)]),.box 3 ([.int (r3)])]=((fun (q0:Nat × Nat × Int)=>(0:Int)<=s/\s<=(↑b.length:Int)/\(q0.fst<(18446744073709551616:Nat)->I64 (↑q0.snd.fst:Int)->I64 q0.snd.snd->I64 (s+(↑q0.snd.fst:Int))/\q0.fst=r0.n/\q0.snd.snd=r1/\b=r2/\s+(↑q0.snd.fst:Int)=r3)) (aA (List.drop s.toNat b))):=by kernel_rfl
theorem Fb (b:List UInt8) (s:Int) (h0:0<=s) (h1:s<=(b.length:Int)) (h2:b.length*1<=140737488355328):Sat Tryz.prog (ai tyT) 125 [.c (.ptr 0 0),.c (.ptr 1 0)] [.box 28 ([.fz .u8 (b)]),.box 3 ([.int (s)])] ⟨[0<=s,s<=(b.length:Int),b.length*1<=140737488355328],[.c (.u64 ((U64.mk (aA (b.drop s.toNat)).1)).n),.c (.int (((aA (b.drop s.toNat)).2.2)))],some ([.box 28 ([.fz .u8 ((b))]),.box 3 ([.int ((s+((aA (b.drop s.toNat)).2.1:Nat)))])]),false⟩:=by
 refine cZ gy [] Tryz.func125 (by decide) (by kernel_rfl) ?_
 rw [Er]
 (repeat' (first | with_reducible apply bP | with_reducible refine bQ ?_ | intro))
 all_goals (first | exact cn | (have:=(kf b s.toNat).1; refine eX ?_ ?_ <;> omega))
theorem BJ (b:List UInt8) (r0:Field):cw tyT qX [] Tryz.f94 [.c (.fz .u8 (b))] [] [.agg (cellsOf (.nm .field) r0)]=((fun (q1:TagR)=>(fun (q0:Int)=>b.length*(1:Nat)<=(140737488355328:Nat)->I64 q1.num->I64 q1.wire->I64 (↑q1.k:Int)->I64 q1.e->(0:Int)<=(↑q1.k:Int)/\(↑q1.k:Int)<=(↑b.length:Int)/\((aA (List.drop q1.k b)).fst<(18446744073709551616:Nat)->I64 (↑(aA (List.drop q1.k b)).snd.fst:Int)->I64 (aA (List.drop q1.k b)).snd.snd->(q1.wire=(0:Int)->q1.num=r0.num/\q1.wire=r0.wire/\(aA (List.drop q1.k b)).fst=r0.n.n/\r0.b=[])/\(¬q1.wire=(0:Int)->I64 q0/\(0:Int)<=q0/\q0<=(↑b.length:Int)/\(List.drop q0.toNat b).length*(1:Nat)<=(140737488355328:Nat)/\q1.num=r0.num/\q1.wire=r0.wire/\(0:Nat)=r0.n.n/\List.drop q0.toNat b=r0.b))) ((↑q1.k:Int)+(↑(aA (List.drop q1.k b)).snd.fst:Int))) (aS b)):=by kernel_rfl
theorem Ek (b:List UInt8):Sat Tryz.prog (ai tyT) 94 [.c (.fz .u8 (b))] [] ⟨[],[.agg (cellsOf (.nm .field) (iK b))],none,false⟩:=by
 refine aM gy [] Tryz.func94 (by decide) (by kernel_rfl) ?_
 rw [BJ]
 (repeat' (first | with_reducible apply bP | with_reducible refine bQ ?_ | intro))
 all_goals (first | exact cn | exact (congrArg Field.num (vl aq)) | exact (congrArg Field.wire (vl aq)) | exact (congrArg (fun f=>f.n.n) (vl aq)) | exact (congrArg Field.b (vl aq)).symm | exact (congrArg Field.num (vX aq)) | exact (congrArg Field.wire (vX aq)) | exact (congrArg (fun f=>f.n.n) (vX aq)) | exact (congrArg Field.b (vX aq)) | (have h1:=l_ b; have h2:=kf b (aS b).k; first | omega | (refine eX ?_ ?_ <;> omega) | (rw [List.length_drop]; omega)))
theorem HF (l:List Field) (r0:Int):cw tyT qX (Cn l) Tryz.f82 [.c (.fz (.nm .field) (l))] [] [.c (.int (r0))]=((fun (q3:den (Sh.nm NT.field))=>(fun (q2:Nat)=>(fun (q1:Int)=>(fun (q0:Int)=>l.length*(48:Nat)<=(140737488355328:Nat)->∃ (s0:Nat),(l=l/\q1=(↑(eO (List.take s0 l)):Int)/\l=l/\(↑l.length:Int)=(↑q2:Int)/\q1=(↑s0:Int))/\(s0<=q2/\db none l=db (du l s0) (List.drop s0 l)/\eO (List.take s0 l)<=s0*(16404:Nat))/\∀ (s:Nat),(fun (q6:Int)=>(fun (q5:Int)=>(fun (q4:den (Sh.nm NT.field))=>s<=q2/\db none l=db (du l s) (List.drop s l)/\eO (List.take s l)<=s*(16404:Nat)->(q5<(↑q2:Int)->q1<=q5/\q5<(↑l.length:Int)/\∀ (x:Field),l[s]? = some x->I64 x.num->I64 x.wire->x.n.n<(18446744073709551616:Nat)->x.b.length*(1:Nat)<=(140737488355328:Nat)->(dU x=false->q0=r0)/\(dU x=true->(q1<q5->I64 (q5 - q0))/\(q1<q5->q1<=q5 - q0/\q5 - q0<(↑l.length:Int))/\((q1<q5->I64 q4.num/\I64 q4.wire/\q4.n.n<(18446744073709551616:Nat)/\q4.b.length*(1:Nat)<=(140737488355328:Nat))->(q1<q5/\ey q4 x=false->(5:Int)=r0)/\(q5<=q1\/ey q4 x=true->((16384:Int)<(↑x.b.length:Int)->(4:Int)=r0)/\((↑x.b.length:Int)<=(16384:Int)->x.b.length<=(16384:Nat)/\I64 (q6+(↑(bY x).length:Int))/\I64 (q5+q0)/\∃ (s':Nat),(l=l/\q6+(↑(bY x).length:Int)=(↑(eO (List.take s' l)):Int)/\l=l/\(↑q2:Int)=(↑q2:Int)/\q5+q0=(↑s':Int))/\(s' <= q2/\db none l=db (du l s') (List.drop s' l)/\eO (List.take s' l)<=s' * (16404:Nat))/\q2 - s' < q2 - s)))))/\((↑q2:Int)<=q5->((16384:Int)<q6->(4:Int)=r0)/\(q6<=(16384:Int)->q1=r0))) (l.getD (q5 - q0).toNat q3)) (↑s:Int)) (↑(eO (List.take s l)):Int)) (1:Int)) (0:Int)) l.length) (dflt (Sh.nm NT.field))):=by kernel_rfl
theorem Gp (l:List Field):Sat Tryz.prog (ai tyT) 82 [.c (.fz (.nm .field) (l))] [] ⟨[],[.c (.int ((cA l)))],none,false⟩:=by
 refine aM gy (Cn l) Tryz.func82 (by decide) (by kernel_rfl) ?_
 rw [HF]
 iterate 3 ((all_goals (repeat' (first | with_reducible apply bP | with_reducible refine bQ ?_ | intro))); (all_goals try (first | exact cn | exact rfl | exact (Nat.le_refl 0) | exact (KY aq aq aq) | exact (Jt aq aq aq aQ (Mr aQ aq) aq) | exact (KB aq aq aq (Ic (by assumption) aQ) aq) | exact (Ec aq aq aq (Ic (by assumption) aQ) aQ) | exact (AA aq aQ aq) | exact (DR aq aQ aQ) | (have h1:=mz (f:=‹Field›) aQ aq; have h2:=zY (show l[_]? = some ‹Field› by with_reducible assumption); first | omega | (refine eX ?_ ?_ <;> omega)))); all_goals try first | refine ⟨‹Nat› + 1,?_⟩ | refine ⟨0,?_⟩)
theorem GU (q:Int) (v:Int) (r0:List Spec):cw tyT qX (zJ q v) Tryz.f81 [.c (.int (q)),.c (.int (v))] [] [.c (.fz (.nm .spec) (r0))]=((fun (q2:Int)=>(fun (q1:Int)=>(fun (q0:Nat)=>I64 q->I64 v->(v<q1\/(3:Int)<v->r0=[])/\(q1<=v/\v<=(3:Int)->q=q1/\(bn.length*(32:Nat)<=(140737488355328:Nat)->∃ (s0:Nat),(v=v/\bn=bn/\(↑bn.length:Int)=q2/\(0:Int)=(↑s0:Int)/\List.filter (fun (s:Spec)=>decide (s.since<=v)) (List.take s0 bn)=[])/\s0<=q0/\∀ (s:Nat),(fun (q4:Int)=>(fun (q3:List (den (Sh.nm NT.spec)))=>s<=q0->((↑s:Int)<q2->(0:Int)<=(↑s:Int)/\(↑s:Int)<(↑bn.length:Int)/\∀ (x:Spec),bn[s]? = some x->I64 x.num->I64 x.wire->I64 x.since->(x.since<=v->(q3.length+[x].length)*(32:Nat)<=(140737488355328:Nat)/\I64 q4/\∃ (s':Nat),(v=v/\bn=bn/\q2=q2/\q4=(↑s':Int)/\q3++[x]=List.filter (fun (s:Spec)=>decide (s.since<=v)) (List.take s' bn))/\s' <= q0/\q0 - s' < q0 - s)/\(v<x.since->I64 q4/\∃ (s':Nat),(v=v/\bn=bn/\q2=q2/\q4=(↑s':Int)/\q3=List.filter (fun (s:Spec)=>decide (s.since<=v)) (List.take s' bn))/\s' <= q0/\q0 - s' < q0 - s))/\(q2<=(↑s:Int)->q3=r0)) (List.filter (fun (s:Spec)=>decide (s.since<=v)) (List.take s bn))) ((↑s:Int)+q1)))) (8:Nat)) (1:Int)) (8:Int)):=by kernel_rfl
theorem Ex (q:Int) (v:Int) (h0:q=1):Sat Tryz.prog (ai tyT) 81 [.c (.int (q)),.c (.int (v))] [] ⟨[q=1],[.c (.fz (.nm .spec) ((aU v)))],none,false⟩:=by
 refine aM gy (zJ q v) Tryz.func81 (by decide) (by kernel_rfl) ?_
 rw [GU]
 iterate 3 ((all_goals (repeat' (first | with_reducible apply bP | with_reducible refine bQ ?_ | intro))); (all_goals try (first | exact cn | exact rfl | exact (xP aq).symm | exact (CX aq aq) | exact (GW aq aQ) | exact ON | exact (MN aQ aQ aQ) | (have hl:bn.length=8:=rfl; omega))); all_goals try first | refine ⟨‹Nat› + 1,?_⟩ | refine ⟨0,?_⟩)
theorem Eb (l:List Field) (v:Int) (r0:List Field) (r1:List Field):cw tyT qX (vI l v) Tryz.f53 [.c (.fz (.nm .field) (l)),.c (.int (v))] [] [.c (.fz (.nm .field) (r0)),.c (.fz (.nm .field) (r1))]=((fun (q0:Nat)=>l.length*(48:Nat)<=(140737488355328:Nat)->I64 v->∃ (s0:Nat),(fun (q1:Int)=>(v=v/\l=l/\(↑l.length:Int)=q1/\(0:Int)=(↑s0:Int)/\cS (List.take s0 l) v=[]/\dg (List.take s0 l) v=[])/\s0<=q0/\∀ (s:Nat),(fun (q3:List Field)=>(fun (q2:Int)=>s<=q0->((↑s:Int)<q1->(0:Int)<=(↑s:Int)/\(↑s:Int)<(↑l.length:Int)/\∀ (x:Field),(fun (q4:Prop)=>l[s]? = some x->I64 x.num->I64 x.wire->x.n.n<(18446744073709551616:Nat)->q4->q4->(x.num<=v->((cS q3 v).length+[x].length)*(48:Nat)<=(140737488355328:Nat)/\I64 q2/\∃ (s':Nat),(v=v/\l=l/\q1=q1/\q2=(↑s':Int)/\cS q3 v++[x]=cS (List.take s' l) v/\dg q3 v=dg (List.take s' l) v)/\s' <= q0/\q0 - s' < q0 - s)/\(v<x.num->((dg q3 v).length+[x].length)*(48:Nat)<=(140737488355328:Nat)/\I64 q2/\∃ (s':Nat),(v=v/\l=l/\q1=q1/\q2=(↑s':Int)/\cS q3 v=cS (List.take s' l) v/\dg q3 v++[x]=dg (List.take s' l) v)/\s' <= q0/\q0 - s' < q0 - s)) (x.b.length*(1:Nat)<=(140737488355328:Nat)))/\(q1<=(↑s:Int)->cS q3 v=r0/\dg q3 v=r1)) ((↑s:Int)+(1:Int))) (List.take s l)) (↑q0:Int)) l.length):=by kernel_rfl
theorem zt (l:List Field) (v:Int):Sat Tryz.prog (ai tyT) 53 [.c (.fz (.nm .field) (l)),.c (.int (v))] [] ⟨[],[.c (.fz (.nm .field) ((cS l v))),.c (.fz (.nm .field) ((dg l v)))],none,false⟩:=by
 refine aM gy (vI l v) Tryz.func53 (by decide) (by kernel_rfl) ?_
 rw [Eb]
 iterate 3 ((all_goals (repeat' (first | with_reducible apply bP | with_reducible refine bQ ?_ | intro))); (all_goals try (first | exact cn | exact Qe | exact QL | exact (Ro aq aq) | exact (RO aq aQ) | exact (RS aq aQ) | exact (Pt aq aq) | exact (PS aQ) | exact (QY aQ) | (have h1:=EP (l.take ‹Nat›) v; have h2:=w_ (l.take ‹Nat›) v; rw [List.length_take] at h1 h2; simp only [List.length_cons,List.length_nil]; omega))); all_goals try first | refine ⟨‹Nat› + 1,?_⟩ | refine ⟨0,?_⟩)
theorem GQ (l:List Field) (r0:Command):cw tyT qX (Cj l) Tryz.f54 [.c (.fz (.nm .field) (l))] [] [.agg (cellsOf (.nm .command) r0)]=((fun (q11:Prop)=>(fun (q10:Int)=>(fun (q9:Prop)=>(fun (q8:Int)=>(fun (q7:Prop)=>(fun (q6:Prop)=>(fun (q5:Prop)=>(fun (q4:Prop)=>(fun (q3:Prop)=>(fun (q2:Prop)=>(fun (q1:Prop)=>(fun (q0:Nat)=>l.length*(48:Nat)<=(140737488355328:Nat)->∃ (s0:Nat),(fun (q13:Command)=>(fun (q12:Prop)=>(q11/\(↑l.length:Int)=(↑q0:Int)/\q10=(↑s0:Int)/\q10=cj.kind/\q10=cj.client/\q10=cj.seq/\q10=cj.set/\q10=cj.id/\q10=cj.n/\cj.chunks=[]/\Str.mk []=cj.text/\q10=q13.kind/\q10=q13.client/\q10=q13.seq/\q10=q13.set/\q10=q13.id/\q10=q13.n/\q13.chunks=[]/\Str.mk []=q13.text)/\s0<=q0/\∀ (s:Nat),(fun (q16:Nat)=>(fun (q15:Int)=>(fun (q14:Command)=>s<=q0->((↑s:Int)<(↑q0:Int)->q10<=(↑s:Int)/\(↑s:Int)<(↑l.length:Int)/\∀ (x:Field),(fun (q25:Int)=>(fun (q24:Int)=>(fun (q23:Prop)=>(fun (q22:Str)=>(fun (q21:Int)=>(fun (q20:Int)=>(fun (q19:List Int)=>(fun (q18:Int)=>(fun (q17:Int)=>l[s]? = some x->I64 q17->I64 x.wire->x.n.n<(18446744073709551616:Nat)->x.b.length*(1:Nat)<=(140737488355328:Nat)->(q17=q8->q23/\∃ (s':Nat),(fun (q26:Command)=>(q11/\q12/\q15=(↑s':Int)/\q4/\q1/\q5/\q6/\q7/\q9/\q2/\q3/\q20=q26.kind/\q18=q26.client/\q24=q26.seq/\q25=q26.set/\q14.id=q26.id/\q14.n=q26.n/\q19=q26.chunks/\q22=q26.text)/\s' <= q0/\q0 - s' < q16) (cg (List.take s' l)))/\(¬q17=q8->(q17=(2:Int)->q23/\∃ (s':Nat),(fun (q27:Command)=>(q11/\q12/\q15=(↑s':Int)/\q4/\q1/\q5/\q6/\q7/\q9/\q2/\q3/\q21=q27.kind/\q20=q27.client/\q24=q27.seq/\q25=q27.set/\q14.id=q27.id/\q14.n=q27.n/\q19=q27.chunks/\q22=q27.text)/\s' <= q0/\q0 - s' < q16) (cg (List.take s' l)))/\(¬q17=(2:Int)->(q17=(3:Int)->q23/\∃ (s':Nat),(fun (q28:Command)=>(q11/\q12/\q15=(↑s':Int)/\q4/\q1/\q5/\q6/\q7/\q9/\q2/\q3/\q21=q28.kind/\q18=q28.client/\q20=q28.seq/\q25=q28.set/\q14.id=q28.id/\q14.n=q28.n/\q19=q28.chunks/\q22=q28.text)/\s' <= q0/\q0 - s' < q16) (cg (List.take s' l)))/\(¬q17=(3:Int)->(q17=(4:Int)->q23/\∃ (s':Nat),(fun (q29:Command)=>(q11/\q12/\q15=(↑s':Int)/\q4/\q1/\q5/\q6/\q7/\q9/\q2/\q3/\q21=q29.kind/\q18=q29.client/\q24=q29.seq/\q20=q29.set/\q14.id=q29.id/\q14.n=q29.n/\q19=q29.chunks/\q22=q29.text)/\s' <= q0/\q0 - s' < q16) (cg (List.take s' l)))/\(¬q17=(4:Int)->(q17=(5:Int)->q23/\∃ (s':Nat),(fun (q30:Command)=>(q11/\q12/\q15=(↑s':Int)/\q4/\q1/\q5/\q6/\q7/\q9/\q2/\q3/\q21=q30.kind/\q18=q30.client/\q24=q30.seq/\q25=q30.set/\q20=q30.id/\q14.n=q30.n/\q19=q30.chunks/\q22=q30.text)/\s' <= q0/\q0 - s' < q16) (cg (List.take s' l)))/\(¬q17=(5:Int)->(q17=(6:Int)->q23/\∃ (s':Nat),(fun (q31:Command)=>(q11/\q12/\q15=(↑s':Int)/\q4/\q1/\q5/\q6/\q7/\q9/\q2/\q3/\q21=q31.kind/\q18=q31.client/\q24=q31.seq/\q25=q31.set/\q14.id=q31.id/\q20=q31.n/\q19=q31.chunks/\q22=q31.text)/\s' <= q0/\q0 - s' < q16) (cg (List.take s' l)))/\(¬q17=(6:Int)->(q17=(7:Int)->x.b.length<=(100000:Nat)/\((iM x.b).length*(8:Nat)<=(140737488355328:Nat)->I64 (nH x.b)->q23/\∃ (s':Nat),(fun (q32:Command)=>(q11/\q12/\q15=(↑s':Int)/\q4/\q1/\q5/\q6/\q7/\q9/\q2/\q3/\q21=q32.kind/\q18=q32.client/\q24=q32.seq/\q25=q32.set/\q14.id=q32.id/\q14.n=q32.n/\iM x.b=q32.chunks/\q22=q32.text)/\s' <= q0/\q0 - s' < q16) (cg (List.take s' l))))/\(¬q17=(7:Int)->(q17=(8:Int)->q23/\∃ (s':Nat),(fun (q33:Command)=>(q11/\q12/\q15=(↑s':Int)/\q4/\q1/\q5/\q6/\q7/\q9/\q2/\q3/\q21=q33.kind/\q18=q33.client/\q24=q33.seq/\q25=q33.set/\q14.id=q33.id/\q14.n=q33.n/\q19=q33.chunks/\Str.mk x.b=q33.text)/\s' <= q0/\q0 - s' < q16) (cg (List.take s' l)))/\(¬q17=(8:Int)->q23/\∃ (s':Nat),(fun (q34:Command)=>(q11/\q12/\q15=(↑s':Int)/\q4/\q1/\q5/\q6/\q7/\q9/\q2/\q3/\q21=q34.kind/\q18=q34.client/\q24=q34.seq/\q25=q34.set/\q14.id=q34.id/\q14.n=q34.n/\q19=q34.chunks/\q22=q34.text)/\s' <= q0/\q0 - s' < q16) (cg (List.take s' l))))))))))) x.num) q14.client) q14.chunks) (fI x.n.n)) q14.kind) q14.text) (I64 q15)) q14.seq) q14.set)/\((↑q0:Int)<=(↑s:Int)->q14.kind=r0.kind/\q14.client=r0.client/\q14.seq=r0.seq/\q14.set=r0.set/\q14.id=r0.id/\q14.n=r0.n/\q14.chunks=r0.chunks/\q14.text=r0.text)) (cg (List.take s l))) ((↑s:Int)+q8)) (q0 - s)) ((↑q0:Int)=(↑q0:Int))) (cg (List.take s0 l))) l.length) (cj.client=cj.client)) (cj.chunks=cj.chunks)) (cj.text=cj.text)) (cj.kind=cj.kind)) (cj.seq=cj.seq)) (cj.set=cj.set)) (cj.id=cj.id)) (1:Int)) (cj.n=cj.n)) (0:Int)) (l=l)):=by kernel_rfl
theorem GG (l:List Field) (h0:∀ f ∈ l,f.b.length<=16384):Sat Tryz.prog (ai tyT) 54 [.c (.fz (.nm .field) (l))] [] ⟨[∀ f ∈ l,f.b.length<=16384],[.agg (cellsOf (.nm .command) (cg l))],none,false⟩:=by
 refine aM gy (Cj l) Tryz.func54 (by decide) (by kernel_rfl) ?_
 rw [GQ]
 iterate 3 ((all_goals (repeat' (first | with_reducible apply bP | with_reducible refine bQ ?_ | intro))); (all_goals try (first | exact cn | exact rfl | (have:=h0 _ (List.mem_of_getElem? aq); omega) | (rw [cN aq,<- PV aq] <;> first | rfl | exact (cV aq).symm) | (rw [cN aq,<- Rb aq] <;> first | rfl | exact (cV aq).symm) | (rw [cN aq,<- QE aq] <;> first | rfl | exact (cV aq).symm) | (rw [cN aq,<- PA aq] <;> first | rfl | exact (cV aq).symm) | (rw [cN aq,<- Rz aq] <;> first | rfl | exact (cV aq).symm) | (rw [cN aq,<- Qz aq] <;> first | rfl | exact (cV aq).symm) | (rw [cN aq,<- QG aq] <;> first | rfl | exact (cV aq).symm) | (rw [cN aq,<- QB aq] <;> first | rfl | exact (cV aq).symm) | (rw [cN aq,<- Rk aQ] <;> first | rfl | exact (cV aq).symm) | (rw [List.take_of_length_le aQ]))); all_goals try first | refine ⟨‹Nat› + 1,?_⟩ | refine ⟨0,?_⟩)
def yI:cd:=(bq 54 (bm (ah (kC (cL (.nm .field))) aK) aJ fun (l,_) (_)=>⟨[∀ f ∈ l,f.b.length<=16384],[.agg (cellsOf (.nm .command) (cg l))],none,false⟩) (bq 53 (bm (ah (kC (cL (.nm .field))) (ah (kC cI) aK)) aJ fun (l,v,_) (_)=>⟨[],[.c (.fz (.nm .field) ((cS l v))),.c (.fz (.nm .field) ((dg l v)))],none,false⟩) (bq 81 (bm (ah (kC cI) (ah (kC cI) aK)) aJ fun (q,v,_) (_)=>⟨[q=1],[.c (.fz (.nm .spec) ((aU v)))],none,false⟩) (bq 82 (bm (ah (kC (cL (.nm .field))) aK) aJ fun (l,_) (_)=>⟨[],[.c (.int ((cA l)))],none,false⟩) (bq 94 (bm (ah (kC (cL .u8)) aK) aJ fun (b,_) (_)=>⟨[],[.agg (cellsOf (.nm .field) (iK b))],none,false⟩) (bq 125 (bm (ah (kC (bJ 0 0)) (ah (kC (bJ 1 0)) aK)) (az (bH 28 (ao (cL .u8) bF)) (az (bH 3 (ao cI bF)) aJ)) fun (_,_,_) ((b,_),(s,_),_)=>⟨[0<=s,s<=(b.length:Int),b.length*1<=140737488355328],[.c (.u64 ((U64.mk (aA (b.drop s.toNat)).1)).n),.c (.int (((aA (b.drop s.toNat)).2.2)))],some ([.box 28 ([.fz .u8 ((b))]),.box 3 ([.int ((s+((aA (b.drop s.toNat)).2.1:Nat)))])]),false⟩) qX))))))
theorem jR:aN Tryz.prog (ai tyT) yI:=(av (au (ab (al bb) ak) aj fun (l,_) (_) hp=>GG l (dB hp)) (av (au (ab (al bb) (ab (al aw) ak)) aj fun (l,v,_) (_) _=>zt l v ) (av (au (ab (al aw) (ab (al aw) ak)) aj fun (q,v,_) (_) hp=>Ex q v (dB hp)) (av (au (ab (al bb) ak) aj fun (l,_) (_) _=>Gp l ) (av (au (ab (al bb) ak) aj fun (b,_) (_) _=>Ek b ) (av (au (ab (al aI) (ab (al aI) ak)) (ag (aG (ae bb aF)) (ag (aG (ae aw aF)) aj)) fun (_,_,_) ((b,_),(s,_),_) hp=>Fb b s (dB hp) (dB (gk hp)) (dB (gk (gk hp)))) gy))))))
theorem Gb (k:Int) (n:Int) (r0:List Field):lS tyT yI [] Tryz.f84 [.c (.int (k)),.c (.int (n)),.c (.ptr 0 0)] [.box 67 ([.em true])] [] [.box 67 ([.own 1]),.row 90 (.nm .field) (r0)]=(I64 k->I64 n->(¬n=(0:Int)->(0:Int)<=n/\[Field.mk k (0:Int) (U64.mk n.toNat) []].length*(48:Nat)<=(140737488355328:Nat)/\[Field.mk k (0:Int) (U64.mk n.toNat) []]=r0)/\(n=(0:Int)->r0=[])):=by kernel_rfl
theorem HL (k:Int) (n:Int) (h0:0<=n):Sat Tryz.prog (ai tyT) 84 [.c (.int (k)),.c (.int (n)),.c (.ptr 0 0)] [.box 67 ([.em true])] ⟨[0<=n],[],some ([.box 67 ([.own 1]),.row 90 (.nm .field) ((lX k n))]),false⟩:=by
 refine cZ jR [] Tryz.func84 (by decide) (by kernel_rfl) ?_
 rw [Gb]
 (repeat' (first | with_reducible apply bP | with_reducible refine bQ ?_ | intro))
 all_goals (first | exact cn | exact (tr aq) | exact (tH aq) | exact (rB aq) | exact (sU aQ) | exact (tr (xs:=[]) aq) | exact (tH (xs:=[]) aq).symm | exact (rB (xs:=[]) aq) | exact (sU (xs:=[]) aQ).symm | (simp only [List.length_cons,List.length_nil]; omega) | decide)
theorem Gd (k:Int) (n:Int) (xs:List Field) (r0:List Field):lS tyT yI [] Tryz.f84 [.c (.int (k)),.c (.int (n)),.c (.ptr 0 0)] [.box 67 ([.own 1]),.row 90 (.nm .field) (xs)] [] [.box 67 ([.own 1]),.row 90 (.nm .field) (r0)]=(I64 k->I64 n->(¬n=(0:Int)->(0:Int)<=n/\(xs.length+[Field.mk k (0:Int) (U64.mk n.toNat) []].length)*(48:Nat)<=(140737488355328:Nat)/\xs++[Field.mk k (0:Int) (U64.mk n.toNat) []]=r0)/\(n=(0:Int)->xs=r0)):=by kernel_rfl
theorem EJ (k:Int) (n:Int) (xs:List Field) (h0:0<=n) (h1:xs.length<=1000):Sat Tryz.prog (ai tyT) 84 [.c (.int (k)),.c (.int (n)),.c (.ptr 0 0)] [.box 67 ([.own 1]),.row 90 (.nm .field) (xs)] ⟨[0<=n,xs.length<=1000],[],some ([.box 67 ([.own 1]),.row 90 (.nm .field) ((xs++lX k n))]),false⟩:=by
 refine cZ jR [] Tryz.func84 (by decide) (by kernel_rfl) ?_
 rw [Gd]
 (repeat' (first | with_reducible apply bP | with_reducible refine bQ ?_ | intro))
 all_goals (first | exact cn | exact (tr aq) | exact (tH aq) | exact (rB aq) | exact (sU aQ) | exact (tr (xs:=[]) aq) | exact (tH (xs:=[]) aq).symm | exact (rB (xs:=[]) aq) | exact (sU (xs:=[]) aQ).symm | (simp only [List.length_cons,List.length_nil]; omega) | decide)
theorem FZ (k:Int) (b:List UInt8) (r0:List Field):lS tyT yI [] Tryz.f85 [.c (.int (k)),.c (.fz .u8 (b)),.c (.ptr 0 0)] [.box 67 ([.em true])] [] [.box 67 ([.own 1]),.row 90 (.nm .field) (r0)]=(I64 k->b.length*(1:Nat)<=(140737488355328:Nat)->((0:Int)<(↑b.length:Int)->[Field.mk k (2:Int) (U64.mk (0:Nat)) b].length*(48:Nat)<=(140737488355328:Nat)/\[Field.mk k (2:Int) (U64.mk (0:Nat)) b]=r0)/\((↑b.length:Int)<=(0:Int)->r0=[])):=by kernel_rfl
theorem Hv (k:Int) (b:List UInt8):Sat Tryz.prog (ai tyT) 85 [.c (.int (k)),.c (.fz .u8 (b)),.c (.ptr 0 0)] [.box 67 ([.em true])] ⟨[],[],some ([.box 67 ([.own 1]),.row 90 (.nm .field) ((wX k b))]),false⟩:=by
 refine cZ jR [] Tryz.func85 (by decide) (by kernel_rfl) ?_
 rw [FZ]
 (repeat' (first | with_reducible apply bP | with_reducible refine bQ ?_ | intro))
 all_goals (first | exact cn | exact (tr aq) | exact (tH aq) | exact (rB aq) | exact (sU aQ) | exact (tr (xs:=[]) aq) | exact (tH (xs:=[]) aq).symm | exact (rB (xs:=[]) aq) | exact (sU (xs:=[]) aQ).symm | (simp only [List.length_cons,List.length_nil]; omega) | decide)
theorem ET (k:Int) (b:List UInt8) (xs:List Field) (r0:List Field):lS tyT yI [] Tryz.f85 [.c (.int (k)),.c (.fz .u8 (b)),.c (.ptr 0 0)] [.box 67 ([.own 1]),.row 90 (.nm .field) (xs)] [] [.box 67 ([.own 1]),.row 90 (.nm .field) (r0)]=(I64 k->b.length*(1:Nat)<=(140737488355328:Nat)->((0:Int)<(↑b.length:Int)->(xs.length+[Field.mk k (2:Int) (U64.mk (0:Nat)) b].length)*(48:Nat)<=(140737488355328:Nat)/\xs++[Field.mk k (2:Int) (U64.mk (0:Nat)) b]=r0)/\((↑b.length:Int)<=(0:Int)->xs=r0)):=by kernel_rfl
theorem Hc (k:Int) (b:List UInt8) (xs:List Field) (h0:xs.length<=1000):Sat Tryz.prog (ai tyT) 85 [.c (.int (k)),.c (.fz .u8 (b)),.c (.ptr 0 0)] [.box 67 ([.own 1]),.row 90 (.nm .field) (xs)] ⟨[xs.length<=1000],[],some ([.box 67 ([.own 1]),.row 90 (.nm .field) ((xs++wX k b))]),false⟩:=by
 refine cZ jR [] Tryz.func85 (by decide) (by kernel_rfl) ?_
 rw [ET]
 (repeat' (first | with_reducible apply bP | with_reducible refine bQ ?_ | intro))
 all_goals (first | exact cn | exact (tr aq) | exact (tH aq) | exact (rB aq) | exact (sU aQ) | exact (tr (xs:=[]) aq) | exact (tH (xs:=[]) aq).symm | exact (rB (xs:=[]) aq) | exact (sU (xs:=[]) aQ).symm | (simp only [List.length_cons,List.length_nil]; omega) | decide)
def Ej:cd:=(bq 85 (bm (ah (kC cI) (ah (kC (cL .u8)) (ah (kC (bJ 0 0)) aK))) (az (bH 67 (ao (bd 1) bF)) (az (bc 90 (.nm .field)) aJ)) fun (k,b,_,_) ((_,_),xs,_)=>⟨[xs.length<=1000],[],some ([.box 67 ([.own 1]),.row 90 (.nm .field) ((xs++wX k b))]),false⟩) (bq 85 (bm (ah (kC cI) (ah (kC (cL .u8)) (ah (kC (bJ 0 0)) aK))) (az (bH 67 (ao (Pb true) bF)) aJ) fun (k,b,_,_) ((_,_),_)=>⟨[],[],some ([.box 67 ([.own 1]),.row 90 (.nm .field) ((wX k b))]),false⟩) (bq 84 (bm (ah (kC cI) (ah (kC cI) (ah (kC (bJ 0 0)) aK))) (az (bH 67 (ao (bd 1) bF)) (az (bc 90 (.nm .field)) aJ)) fun (k,n,_,_) ((_,_),xs,_)=>⟨[0<=n,xs.length<=1000],[],some ([.box 67 ([.own 1]),.row 90 (.nm .field) ((xs++lX k n))]),false⟩) (bq 84 (bm (ah (kC cI) (ah (kC cI) (ah (kC (bJ 0 0)) aK))) (az (bH 67 (ao (Pb true) bF)) aJ) fun (k,n,_,_) ((_,_),_)=>⟨[0<=n],[],some ([.box 67 ([.own 1]),.row 90 (.nm .field) ((lX k n))]),false⟩) yI))))
theorem tf:aN Tryz.prog (ai tyT) Ej:=(av (au (ab (al aw) (ab (al bb) (ab (al aI) ak))) (ag (aG (ae aC aF)) (ag aD aj)) fun (k,b,_,_) ((_,_),xs,_) hp=>Hc k b xs (dB hp)) (av (au (ab (al aw) (ab (al bb) (ab (al aI) ak))) (ag (aG (ae zX aF)) aj) fun (k,b,_,_) ((_,_),_) _=>Hv k b ) (av (au (ab (al aw) (ab (al aw) (ab (al aI) ak))) (ag (aG (ae aC aF)) (ag aD aj)) fun (k,n,_,_) ((_,_),xs,_) hp=>EJ k n xs (dB hp) (dB (gk hp))) (av (au (ab (al aw) (ab (al aw) (ab (al aI) ak))) (ag (aG (ae zX aF)) aj) fun (k,n,_,_) ((_,_),_) hp=>HL k n (dB hp)) jR))))
theorem xZ (c:Command) (v:Int) (r0:List Field):n_ tyT Ej [] Tryz.f44 [.agg (cellsOf (.nm .command) c),.c (.int (v))] [] [.c (.own 0)] [.row 90 (.nm .field) (r0)]=((fun (q6:Int)=>(fun (q5:List (den (Sh.nm NT.field)))=>(fun (q4:Nat)=>(fun (q3:List Field)=>(fun (q2:List Field)=>(fun (q1:List (den (Sh.nm NT.field)))=>(fun (q0:List (den (Sh.nm NT.field)))=>I64 c.kind->I64 c.client->I64 c.seq->I64 c.set->I64 c.id->I64 c.n->c.chunks.length*(8:Nat)<=(140737488355328:Nat)->c.text.b.length<=(140737488355328:Nat)->I64 v->q6<=c.kind/\q6<=c.client/\(lX (1:Int) c.kind).length<=q4/\q6<=c.seq/\q5.length<=q4/\q6<=c.set/\q1.length<=q4/\q6<=c.id/\(q1++lX (4:Int) c.set).length<=q4/\q6<=c.n/\q0.length<=q4/\((dy c.chunks).length*(1:Nat)<=(140737488355328:Nat)->I64 (eg c.chunks)->(q0++q3).length<=q4/\((3:Int)<=v->(q0++q3++q2).length<=q4/\q0++q3++q2++wX (8:Int) c.text.b=r0)/\(v<(3:Int)->q0++q3++q2=r0))) (q1++lX (4:Int) c.set++lX (5:Int) c.id)) (q5++lX (3:Int) c.seq)) (wX (7:Int) (dy c.chunks))) (lX (6:Int) c.n)) (1000:Nat)) (lX (1:Int) c.kind++lX (2:Int) c.client)) (0:Int)):=by kernel_rfl
theorem yn (c:Command) (v:Int) (h0:0<=c.kind) (h1:0<=c.client) (h2:0<=c.seq) (h3:0<=c.set) (h4:0<=c.id) (h5:0<=c.n):Sat Tryz.prog (ai tyT) 44 [.agg (cellsOf (.nm .command) c),.c (.int (v))] [] ⟨[0<=c.kind,0<=c.client,0<=c.seq,0<=c.set,0<=c.id,0<=c.n],[.c (.own 0)],some ([.row 90 (.nm .field) ((c_ c v))]),true⟩:=by
 refine dO tf [] Tryz.func44 (by decide) (by kernel_rfl) ?_
 rw [xZ]
 (repeat' (first | with_reducible apply bP | with_reducible refine bQ ?_ | intro))
 all_goals (first | exact cn | (rw [c_,if_pos aQ]; rfl) | (rw [c_,if_neg aQ]; rfl) | (have h1:=ew 1 c.kind; have h2:=ew 2 c.client; have h3:=ew 3 c.seq; have h4:=ew 4 c.set; have h5:=ew 5 c.id; have h6:=ew 6 c.n; have h7:=uE 7 (dy c.chunks); (try simp only [List.length_append]); omega))
def sr:cd:=(bq 44 (bm (ah (kT (.nm .command)) (ah (kC cI) aK)) aJ fun (c,v,_) (_)=>⟨[0<=c.kind,0<=c.client,0<=c.seq,0<=c.set,0<=c.id,0<=c.n],[.c (.own 0)],some ([.row 90 (.nm .field) ((c_ c v))]),true⟩) Ej)
theorem kb:aN Tryz.prog (ai tyT) sr:=(av (au (ab bl (ab (al aw) ak)) aj fun (c,v,_) (_) hp=>yn c v (dB hp) (dB (gk hp)) (dB (gk (gk hp))) (dB (gk (gk (gk hp)))) (dB (gk (gk (gk (gk hp))))) (dB (gk (gk (gk (gk (gk hp))))))) tf)
theorem Mw {b:List UInt8} (h:(aS b).e=0) (h2:(aA (b.drop (aS b).k)).2.2=0) (h3:¬ (aS b).wire=0) (h4:(aA (b.drop (aS b).k)).1<=16384) (h5:((b.length:Nat):Int) - (((aS b).k:Int)+((aA (b.drop (aS b).k)).2.1:Nat))<fI (aA (b.drop (aS b).k)).1):(0:Int)=((aY b).1:Nat)/\2=(aY b).2:=by
 rw [jB (by omega)] at h5
 rw [RR h h2 h3 (by omega) (by omega)]; exact ⟨rfl,rfl⟩
theorem NA {b:List UInt8} (h:(aS b).e=0) (h2:(aA (b.drop (aS b).k)).2.2=0) (h3:¬ (aS b).wire=0) (h4:(aA (b.drop (aS b).k)).1<=16384) (h5:fI (aA (b.drop (aS b).k)).1<=((b.length:Nat):Int) - (((aS b).k:Int)+((aA (b.drop (aS b).k)).2.1:Nat))):((aS b).k:Int)+((aA (b.drop (aS b).k)).2.1:Nat)+fI (aA (b.drop (aS b).k)).1=((aY b).1:Nat)/\0=(aY b).2:=by
 rw [jB (by omega)] at h5 ⊢
 rw [Qq h h2 h3 (by omega) (by omega)]; exact ⟨rfl,rfl⟩
def Ie (l:List Field):List (Nat × LI):=[(6,{ σ:=Nat,F:=fun k=>([(5,one (.own 0)),(13,one (.fz (.nm .field) (l))),(14,one (.int (l).length)),(15,one (.int k))],[.row 5 .u8 ((((l.take k).map bY).flatten))]),J:=fun k=>k<=l.length,μ:=fun k=>l.length - k })]
def IF (q:Int) (v:Int):List (Nat × LI):=[(3,{ σ:=Nat,F:=fun k=>([(5,one (.int (((aU v).take k).foldl (fun t s=>max t s.num) 0))),(10,one (.fz (.nm .spec) (aU v))),(11,one (.int (aU v).length)),(12,one (.int k))],[]),J:=fun k=>k<=(aU v).length,μ:=fun k=>(aU v).length - k })]
theorem Fa (b:List UInt8) (r0:Int) (r1:Int):cw tyT sr [] Tryz.f93 [.c (.fz .u8 (b))] [] [.c (.int (r0)),.c (.int (r1))]=((fun (q5:Int)=>(fun (q4:Prop)=>(fun (q3:TagR)=>(fun (q2:Int)=>(fun (q1:Int)=>(fun (q0:Nat × Nat × Int)=>q4->I64 q3.num->I64 q3.wire->I64 q1->I64 q3.e->(¬q3.e=q2->q2=r0/\q3.e=r1)/\(q3.e=q2->q2<=q1/\q1<=q5/\q4/\(q0.fst<(18446744073709551616:Nat)->I64 q0.snd.snd->(¬q0.snd.snd=q2->q2=r0/\q0.snd.snd=r1)/\(q0.snd.snd=q2->(q3.wire=q2->q1+(↑q0.snd.fst:Int)=r0/\q2=r1)/\(¬q3.wire=q2->((↑(16384:Nat):Int)<(↑q0.fst:Int)->q2=r0/\(4:Int)=r1)/\((↑q0.fst:Int)<=(↑(16384:Nat):Int)->I64 (q5 - (q1+(↑q0.snd.fst:Int)))/\(q5 - (q1+(↑q0.snd.fst:Int))<fI q0.fst->q2=r0/\(2:Int)=r1)/\(fI q0.fst<=q5 - (q1+(↑q0.snd.fst:Int))->I64 (q1+(↑q0.snd.fst:Int)+fI q0.fst)/\q1+(↑q0.snd.fst:Int)+fI q0.fst=r0/\q2=r1))))))) (aA (List.drop q3.k b))) (↑q3.k:Int)) (0:Int)) (aS b)) (b.length*(1:Nat)<=(140737488355328:Nat))) (↑b.length:Int)):=by kernel_rfl
theorem EZ (b:List UInt8):Sat Tryz.prog (ai tyT) 93 [.c (.fz .u8 (b))] [] ⟨[],[.c (.int ((((aY b).1:Nat)))),.c (.int (((aY b).2)))],none,false⟩:=by
 refine aM kb [] Tryz.func93 (by decide) (by kernel_rfl) ?_
 rw [Fa]
 (repeat' (first | with_reducible apply bP | with_reducible refine bQ ?_ | intro))
 all_goals (first | exact cn | (rw [Rj aq] <;> rfl) | (rw [RF aq aq] <;> rfl) | (rw [Pz aq aq aq] <;> rfl) | (rw [QI aq aq aq aQ] <;> rfl) | exact (Mw aq aq aq aQ aq).1 | exact (Mw aq aq aq aQ aq).2 | exact (NA aq aq aq aQ aq).1 | exact (NA aq aq aq aQ aq).2 | (have h1:=l_ b; have h2:=kf b (aS b).k; first | omega | (refine eX ?_ ?_ <;> omega)) | (have h1:=l_ b; have h2:=kf b (aS b).k; have h3:=jB (m:=(aA (b.drop (aS b).k)).1) aQ; first | omega | (refine eX ?_ ?_ <;> omega)))
theorem LU (l:List Field) (r0:Int) (r1:List UInt8):n_ tyT sr (Ie l) Tryz.f43 [.c (.fz (.nm .field) (l))] [] [.c (.own 0),.c (.int (r0))] [.row 5 .u8 (r1)]=((fun (q0:Nat)=>l.length*(48:Nat)<=(140737488355328:Nat)->I64 (cA l)->(¬cA l=(0:Int)->cA l=r0/\r1=[])/\(cA l=(0:Int)->∃ (s0:Nat),(l=l/\(↑l.length:Int)=(↑q0:Int)/\(0:Int)=(↑s0:Int)/\(List.map bY (List.take s0 l)).flatten=[])/\s0<=q0/\∀ (s:Nat),(fun (q1:List UInt8)=>s<=q0->((↑s:Int)<(↑q0:Int)->(0:Int)<=(↑s:Int)/\(↑s:Int)<(↑l.length:Int)/\∀ (x:Field),l[s]? = some x->I64 x.num->I64 x.wire->x.n.n<(18446744073709551616:Nat)->x.b.length*(1:Nat)<=(140737488355328:Nat)->x.b.length<=(16384:Nat)/\(q1.length+(bY x).length)*(1:Nat)<=(140737488355328:Nat)/\I64 ((↑s:Int)+(1:Int))/\∃ (s':Nat),(l=l/\(↑q0:Int)=(↑q0:Int)/\(↑s:Int)+(1:Int)=(↑s':Int)/\q1++bY x=(List.map bY (List.take s' l)).flatten)/\s' <= q0/\q0 - s' < q0 - s)/\((↑q0:Int)<=(↑s:Int)->(0:Int)=r0/\q1=r1)) (List.map bY (List.take s l)).flatten)) l.length):=by kernel_rfl
theorem Jj (l:List Field):Sat Tryz.prog (ai tyT) 43 [.c (.fz (.nm .field) (l))] [] ⟨[],[.c (.own 0),.c (.int ((cA l)))],some ([.row 5 .u8 ((jF l))]),true⟩:=by
 refine dO kb (Ie l) Tryz.func43 (by decide) (by kernel_rfl) ?_
 rw [LU]
 iterate 3 ((all_goals (repeat' (first | with_reducible apply bP | with_reducible refine bQ ?_ | intro))); (all_goals try (first | exact cn | exact rfl | exact (Jv aq).symm | exact (Eq.symm aq) | exact (xH aq) | exact (p_ aq (List.mem_of_getElem? aq)) | exact (EY aq aQ) | (have h1:=Ed (k:=‹Nat›) (show cA l=0 by with_reducible assumption); have h2:=mz (f:=‹Field›) (p_ (show cA l=0 by with_reducible assumption) (List.mem_of_getElem? aq)) aq; omega))); all_goals try first | refine ⟨‹Nat› + 1,?_⟩ | refine ⟨0,?_⟩)
theorem LP (q:Int) (v:Int) (r0:Int):cw tyT sr (IF q v) Tryz.f42 [.c (.int (q)),.c (.int (v))] [] [.c (.int (r0))]=((fun (q1:Int)=>(fun (q0:List Spec)=>I64 q->I64 v->q=(1:Int)/\(q0.length*(32:Nat)<=(140737488355328:Nat)->∃ (s0:Nat),(fun (q2:Nat)=>(q1=List.foldl (fun (t:Int) (s:Spec)=>max t s.num) q1 (List.take s0 q0)/\q0=q0/\(↑q0.length:Int)=(↑q2:Int)/\q1=(↑s0:Int))/\s0<=q2/\∀ (s:Nat),(fun (q3:Int)=>s<=q2->((↑s:Int)<(↑q2:Int)->q1<=(↑s:Int)/\(↑s:Int)<(↑q0.length:Int)/\∀ (x:Spec),q0[s]? = some x->I64 x.num->I64 x.wire->I64 x.since->I64 ((↑s:Int)+(1:Int))/\∃ (s':Nat),(max q3 x.num=List.foldl (fun (t:Int) (s:Spec)=>max t s.num) q1 (List.take s' q0)/\q0=q0/\(↑q2:Int)=(↑q2:Int)/\(↑s:Int)+(1:Int)=(↑s':Int))/\s' <= q2/\q2 - s' < q2 - s)/\((↑q2:Int)<=(↑s:Int)->q3=r0)) (List.foldl (fun (t:Int) (s:Spec)=>max t s.num) q1 (List.take s q0))) q0.length)) (aU v)) (0:Int)):=by kernel_rfl
theorem Kb (q:Int) (v:Int) (h0:q=1):Sat Tryz.prog (ai tyT) 42 [.c (.int (q)),.c (.int (v))] [] ⟨[q=1],[.c (.int ((bZ v)))],none,false⟩:=by
 refine aM kb (IF q v) Tryz.func42 (by decide) (by kernel_rfl) ?_
 rw [LP]
 iterate 3 ((all_goals (repeat' (first | with_reducible apply bP | with_reducible refine bQ ?_ | intro))); (all_goals try (first | exact cn | exact rfl | exact (Dk aq) | (rw [bZ,List.take_of_length_le aQ]))); all_goals try first | refine ⟨‹Nat› + 1,?_⟩ | refine ⟨0,?_⟩)
def Dq:cd:=(bq 42 (bm (ah (kC cI) (ah (kC cI) aK)) aJ fun (q,v,_) (_)=>⟨[q=1],[.c (.int ((bZ v)))],none,false⟩) (bq 43 (bm (ah (kC (cL (.nm .field))) aK) aJ fun (l,_) (_)=>⟨[],[.c (.own 0),.c (.int ((cA l)))],some ([.row 5 .u8 ((jF l))]),true⟩) (bq 93 (bm (ah (kC (cL .u8)) aK) aJ fun (b,_) (_)=>⟨[],[.c (.int ((((aY b).1:Nat)))),.c (.int (((aY b).2)))],none,false⟩) sr)))
theorem me:aN Tryz.prog (ai tyT) Dq:=(av (au (ab (al aw) (ab (al aw) ak)) aj fun (q,v,_) (_) hp=>Kb q v (dB hp)) (av (au (ab (al bb) ak) aj fun (l,_) (_) _=>Jj l ) (av (au (ab (al bb) ak) aj fun (b,_) (_) _=>EZ b ) kb)))
structure Wq (p:Prop):Prop where
 h:p
def dQ (l:List Field):Int->Option Int:=fun q=>if fl l q=0 then none else some ((fl l q:Nat):Int)
def qY (rest:List Field) (v:Int) (k:Nat):Prop:=∀ j y,j<k->rest[j]? = some y->¬ y.num<=bZ v
theorem Ja {xs:List Field} {f:Field} (h:(xs.length:Int)=0):true=eA xs f:=by
 unfold eA; rw [List.getElem?_eq_none (by omega)]
theorem LM {xs:List Field} {f:Field} (h:¬ (xs.length:Int)=0):ey (xs.getD ((xs.length:Int) - 1).toNat (dflt (.nm .field))) f=eA xs f:=by
 unfold eA
 rw [show ((xs.length:Int) - 1).toNat=xs.length - 1 by omega,List.getD_eq_getElem?_getD,List.getElem?_eq_getElem (by omega)]; rfl
theorem yu (l:List Field) (q:Int):(dQ l q).getD (dflt .int)=((fl l q:Nat):Int):=by
 unfold dQ
 by_cases h:fl l q=0
 ·rw [if_pos h,h]; rfl
 ·rw [if_neg h]; rfl
theorem Ku {l:List Field}:(fun _=>none)=dQ (l.take 0):=rfl
theorem Jr {l:List Field} {k:Nat} (h:l.length<=k):dQ (l.take k)=dQ l:=by rw [List.take_of_length_le h]
theorem Gw {l:List Field} {k:Nat} {x:Field} (hx:l[k]? = some x):(fun j=>if j=x.num then some ((dQ (l.take k) x.num).getD (dflt .int)+1) else dQ (l.take k) j)=dQ (l.take (k+1)):=by
 funext j
 have h:=Cq hx j
 by_cases hj:j=x.num
 ·rw [if_pos hj] at h ⊢
  rw [yu]; unfold dQ; rw [h,if_neg (by omega)]; rfl
 ·rw [if_neg hj] at h ⊢
  unfold dQ; rw [h]
theorem OV {l:List Field} {k:Nat} {x:Field} (hx:l[k]? = some x):x=l.getD k (dflt (.nm .field)):=by rw [List.getD_eq_getElem?_getD,hx]; rfl
theorem Sf {l:List Field} {k:Nat} (h:k<l.length):l[k]? = some (l.getD k (dflt (.nm .field))):=by
 rw [List.getD_eq_getElem?_getD,List.getElem?_eq_getElem h]; rfl
theorem QZ {l:List Field} {ss:List Spec} {x:Field} {y:Spec} {m:Nat} (h:Wq (AL ss x ((fl l x.num:Nat):Int) m)) (hy:ss[m]? = some y) (hn:¬ y.num=x.num\/HJ x y ((dQ l x.num).getD (dflt .int))=true):Wq (AL ss x ((fl l x.num:Nat):Int) (m+1)):=
 ⟨Ba h.h hy fun e=>by rw [yu] at hn; exact hn.resolve_left (fun h=>h e)⟩
theorem PG {l:List Field} {ss:List Spec} {k m:Nat} (h:Wq (nY l ss k)) (hk:k<l.length) (hi:Wq (AL ss (l.getD k (dflt (.nm .field))) ((fl (l.take (k+1)) (l.getD k (dflt (.nm .field))).num:Nat):Int) m)) (hm:(ss.length:Int)<=(m:Int)):Wq (nY l ss (k+1)):=
 ⟨Ax h.h (Sf hk) hi.h (by omega) rfl⟩
theorem Rv {l:List Field} {ss:List Spec} {k:Nat} (h:Wq (nY l ss k)) (hk:l.length<=k):Wq (nY l ss l.length):=⟨fun j x hj=>h.h j x (by omega)⟩
theorem Re {l:List Field} {v:Int} {m:Nat} {y:Spec} (hy:(aU v)[m]? = some y) (hn:y.need=true) (h0:(dQ l y.num).getD (dflt .int)=0):¬ si l v:=Gs hy ⟨hn,by rw [yu] at h0; exact h0⟩ rfl
theorem Qj {l:List Field} {ss:List Spec} {m:Nat} {y:Spec} (h:Wq (yW l ss m)) (hy:ss[m]? = some y) (hn:y.need=false\/¬ (dQ l y.num).getD (dflt .int)=0):Wq (yW l ss (m+1)):=
 ⟨Df h.h hy fun ha=>by
  rw [yu] at hn
  rcases hn with hn | hn
  ·rw [ha] at hn; cases hn
  ·omega⟩
theorem Pm {l:List Field} {v:Int} {k:Nat} (hA:Wq (nY l (aU v) l.length)) (hB:Wq (yW l (aU v) k)) (hk:(aU v).length<=k):si l v:=HG hA.h (Nat.le_refl _) hB.h hk
theorem MR {rest:List Field} {v:Int}:qY rest v 0:=fun j y h=>by omega
theorem OD {rest:List Field} {v:Int} {k:Nat} {x:Field} (h:Wq (qY rest v k)) (hx:rest[k]? = some x) (hn:¬ x.num<=bZ v):Wq (qY rest v (k+1)):=⟨xQ h.h hx hn⟩
theorem Se {c:Command} {rest:List Field} {v:Int} (h:bV v=false):cM c rest v=1:=Rl (by show (!(bV v))=true; rw [h]; rfl)
theorem Sm {c:Command} {rest:List Field} {v:Int} (h:bV v=true) (h1:eE c v=false) (h2:¬ b_ c v=0):cM c rest v=b_ c v:=Ry (by show (!(bV v))=false; rw [h]; rfl) h1 h2
theorem Sa {c:Command} {rest:List Field} {v:Int} {k:Nat} {x:Field} (h:bV v=true) (h1:eE c v=true\/b_ c v=0) (hx:rest[k]? = some x) (hn:x.num<=bZ v):cM c rest v=6:=Ra (by show (!(bV v))=false; rw [h]; rfl) h1 hx hn
theorem Sw {c:Command} {rest:List Field} {v:Int} {k:Nat} (h:bV v=true) (h1:eE c v=true\/b_ c v=0) (ht:Wq (qY rest v k)) (hk:rest.length<=k):cM c rest v=0:=Py (by show (!(bV v))=false; rw [h]; rfl) h1 ht.h hk
def xi (q:Int) (v:Int) (l:List Field):List (Nat × LI):=[(9,{ σ:=Nat,F:=fun k=>([(7,one (.fz (.nm .spec) (aU v))),(9,one (.mq 0)),(28,one (.fz (.nm .field) (l))),(29,one (.int (l).length)),(30,one (.int k))],[.mapo .int (dQ (l.take k))]),J:=fun k=>k<=l.length/\Wq (nY l (aU v) k),μ:=fun k=>(l).length - k }),(13,{ σ:=Nat × Nat,F:=fun q=>([(7,one (.fz (.nm .spec) (aU v))),(9,one (.mq 0)),(11,one (.ptr 1 0)),(28,one (.fz (.nm .field) (l))),(29,one (.int (l).length)),(30,one (.int q.1)),(39,one (.fz (.nm .spec) (aU v))),(40,one (.int (aU v).length)),(41,one (.int q.2))],[.mapo .int (dQ (l.take (q.1+1))),.box 90 (cellsOf (.nm .field) (((l.getD q.1 (dflt (.nm .field))))))]),J:=fun q=>q.1<l.length/\q.2<=(aU v).length/\Wq (nY l (aU v) q.1)/\Wq (AL (aU v) (l.getD q.1 (dflt (.nm .field))) ((fl (l.take (q.1+1)) (l.getD q.1 (dflt (.nm .field))).num:Nat):Int) q.2),μ:=fun q=>(aU v).length - q.2,R:=some fun q0 q=>q.1=q0.1 }),(20,{ σ:=Nat,F:=fun k=>([(9,one (.mq 0)),(62,one (.fz (.nm .spec) (aU v))),(63,one (.int (aU v).length)),(64,one (.int k))],[.mapo .int (dQ l)]),J:=fun k=>k<=(aU v).length/\Wq (nY l (aU v) l.length)/\Wq (yW l (aU v) k),μ:=fun k=>(aU v).length - k })]
def HZ (c:Command) (rest:List Field) (v:Int):List (Nat × LI):=[(9,{ σ:=Nat,F:=fun k=>([(1,one (.fz (.nm .field) (rest))),(2,one (.int (v))),(3,one (.ptr 0 0)),(9,one (.int (bZ v))),(27,one (.fz (.nm .field) (rest))),(28,one (.int (rest).length)),(29,one (.int k))],[.box 24 (cellsOf (.nm .command) ((c)))]),J:=fun k=>k<=rest.length/\Wq (qY rest v k),μ:=fun k=>rest.length - k })]
theorem Hn (f:Field) (xs:List Field) (r0:Bool):cw tyT Dq [] Tryz.f91 [.agg (cellsOf (.nm .field) f),.c (.ptr 0 0)] [.box 67 ([.own 1]),.row 90 (.nm .field) (xs)] [.c (.bool (.atom (r0)))]=((fun (q2:Int)=>(fun (q1:Int)=>(fun (q0:den (Sh.nm NT.field))=>I64 f.num->I64 f.wire->f.n.n<(18446744073709551616:Nat)->f.b.length*(1:Nat)<=(140737488355328:Nat)->(q2=(0:Int)->true=r0)/\(¬q2=(0:Int)->I64 q1/\((0:Int)<=q1/\q1<q2)/\(I64 q0.num->I64 q0.wire->q0.n.n<(18446744073709551616:Nat)->q0.b.length*(1:Nat)<=(140737488355328:Nat)->ey q0 f=r0))) (xs.getD q1.toNat (dflt (Sh.nm NT.field)))) (q2 - (1:Int))) (↑xs.length:Int)):=by kernel_rfl
theorem EC (f:Field) (xs:List Field) (h0:xs.length<=20000):Sat Tryz.prog (ai tyT) 91 [.agg (cellsOf (.nm .field) f),.c (.ptr 0 0)] [.box 67 ([.own 1]),.row 90 (.nm .field) (xs)] ⟨[xs.length<=20000],[.c (.bool (.atom ((eA xs f))))],none,false⟩:=by
 refine aM me [] Tryz.func91 (by decide) (by kernel_rfl) ?_
 rw [Hn]
 (repeat' (first | with_reducible apply bP | with_reducible refine bQ ?_ | intro))
 all_goals (first | exact cn | exact (Ja aq) | exact (LM aq))
theorem DO (q:Int) (v:Int) (l:List Field) (r0:Int):cw tyT Dq (xi q v l) Tryz.f52 [.c (.int (q)),.c (.int (v)),.c (.fz (.nm .field) (l))] [] [.c (.int (r0))]=((fun (q5:Nat)=>(fun (q4:Int)=>(fun (q3:Int)=>(fun (q2:Nat)=>(fun (q1:den (Sh.nm NT.field))=>(fun (q0:List Spec)=>I64 q->I64 v->l.length*(48:Nat)<=(140737488355328:Nat)->q=q4/\(q0.length*(32:Nat)<=(140737488355328:Nat)->((↑q0.length:Int)=q3->q4=r0)/\(¬(↑q0.length:Int)=q3->I64 (cA l)->(¬cA l=q3->cA l=r0)/\(cA l=q3->∃ (s0:Nat),(fun (q9:Int)=>(fun (q8:Int)=>(fun (q7:Prop)=>(fun (q6:Nat)=>(q7/\l=l/\(↑l.length:Int)=q8/\q3=(↑s0:Int)/\(fun (_:Int)=>none)=dQ (List.take s0 l))/\(s0<=q2/\Wq (nY l q0 s0))/\∀ (s:Nat),(fun (q10:Int)=>s<=q2/\Wq (nY l q0 s)->((↑s:Int)<q8->q3<=(↑s:Int)/\(↑s:Int)<(↑l.length:Int)/\∀ (x:Field),(fun (q11:Int)=>l[s]? = some x->I64 x.num->I64 x.wire->x.n.n<(18446744073709551616:Nat)->x.b.length*q5<=(140737488355328:Nat)->I64 q11/\∃ (s0:Nat × Nat),(fun (q13:Nat)=>(fun (q12:Field)=>(q7/\l=l/\q8=q8/\(↑s:Int)=(↑q13:Int)/\q7/\q9=q10/\q3=(↑s0.snd:Int)/\(fun (j:Int)=>if j=x.num then some q11 else dQ (List.take s l) j)=dQ (List.take (q13+q5) l)/\x.num=q12.num/\x.wire=q12.wire/\x.n.n=q12.n.n/\x.b=q12.b)/\(q13<q2/\s0.snd<=q6/\Wq (nY l q0 q13)/\Wq (AL q0 q12 (↑(fl (List.take (q13+q5) l) q12.num):Int) s0.snd))/\q13=q13/\∀ (s_1:Nat × Nat),(fun (q16:Int)=>(fun (q15:List Field)=>(fun (q14:Field)=>s_1.fst<q2/\s_1.snd<=q6/\Wq (nY l q0 s_1.fst)/\Wq (AL q0 q14 (↑(fl q15 q14.num):Int) s_1.snd)->s_1.fst=q13->(q16<q10->q3<=q16/\q16<q9/\∀ (x:Spec),(fun (q17:Bool)=>q0[s_1.snd]? = some x->I64 x.num->I64 x.wire->I64 x.since->(x.num=q14.num/\q17=false->(6:Int)=r0)/\(¬x.num=q14.num\/q17=true->I64 (q16+q4)/\∃ (s':Nat × Nat),(fun (q18:Field)=>(q7/\l=l/\q8=q8/\(↑s_1.fst:Int)=(↑s'.fst:Int)/\q7/\q10=q10/\q16+q4=(↑s'.snd:Int)/\dQ q15=dQ (List.take (s'.fst+q5) l)/\q14.num=q18.num/\q14.wire=q18.wire/\q14.n.n=q18.n.n/\q14.b=q18.b)/\(s'.fst<q2/\s'.snd<=q6/\Wq (nY l q0 s'.fst)/\Wq (AL q0 q18 (↑(fl (List.take (s'.fst+q5) l) q18.num):Int) s'.snd))/\s'.fst=q13/\q6 - s'.snd<q6 - s_1.snd) (l.getD s'.fst q1))) (HJ q14 x ((dQ q15 q14.num).getD (dflt Sh.int))))/\(q10<=q16->I64 ((↑s_1.fst:Int)+q4)/\∃ (s':Nat),(q7/\l=l/\q8=q8/\(↑s_1.fst:Int)+q4=(↑s':Int)/\dQ q15=dQ (List.take s' l))/\(s' <= q2/\Wq (nY l q0 s'))/\q2 - s' < q2 - s)) (l.getD s_1.fst q1)) (List.take (s_1.fst+q5) l)) (↑s_1.snd:Int)) (l.getD q13 q1)) s0.fst) ((dQ (List.take s l) x.num).getD (dflt Sh.int)+q4))/\(q8<=(↑s:Int)->∃ (s0:Nat),(q7/\q9=q10/\q3=(↑s0:Int)/\dQ (List.take s l)=dQ l)/\(s0<=q6/\Wq (nY l q0 q2)/\Wq (yW l q0 s0))/\∀ (s:Nat),s<=q6/\Wq (nY l q0 q2)/\Wq (yW l q0 s)->((↑s:Int)<q10->q3<=(↑s:Int)/\(↑s:Int)<q9/\∀ (x:Spec),(fun (q19:Prop)=>q0[s]? = some x->I64 x.num->I64 x.wire->I64 x.since->(x.need=true/\q19->(6:Int)=r0)/\(x.need=false\/¬q19->I64 ((↑s:Int)+q4)/\∃ (s':Nat),(q7/\q10=q10/\(↑s:Int)+q4=(↑s':Int)/\dQ l=dQ l)/\(s' <= q6/\Wq (nY l q0 q2)/\Wq (yW l q0 s'))/\q6 - s' < q6 - s)) ((dQ l x.num).getD (dflt Sh.int)=q3))/\(q10<=(↑s:Int)->q3=r0))) (↑q6:Int)) q0.length) (q0=q0)) (↑q2:Int)) (↑q0.length:Int))))) (aU v)) (dflt (Sh.nm NT.field))) l.length) (0:Int)) (1:Int)) (1:Nat)):=by kernel_rfl
theorem Ch (q:Int) (v:Int) (l:List Field) (h0:q=1):Sat Tryz.prog (ai tyT) 52 [.c (.int (q)),.c (.int (v)),.c (.fz (.nm .field) (l))] [] ⟨[q=1],[.c (.int ((fo l v)))],none,false⟩:=by
 refine aM me (xi q v l) Tryz.func52 (by decide) (by kernel_rfl) ?_
 rw [DO]
 (repeat' (first | with_reducible apply bP | with_reducible refine bQ ?_ | intro))
 all_goals try (refine ⟨0,?_⟩; (repeat' (first | with_reducible apply bP | with_reducible refine bQ ?_ | intro)))
 all_goals try (refine ⟨(‹Nat›,0),?_⟩; (repeat' (first | with_reducible apply bP | with_reducible refine bQ ?_ | intro)))
 all_goals try (refine ⟨(‹Nat × Nat›.1,‹Nat × Nat›.2+1),?_⟩; (repeat' (first | with_reducible apply bP | with_reducible refine bQ ?_ | intro)))
 all_goals try (refine ⟨‹Nat × Nat›.1+1,?_⟩; (repeat' (first | with_reducible apply bP | with_reducible refine bQ ?_ | intro)))
 all_goals try (refine ⟨0,?_⟩; (repeat' (first | with_reducible apply bP | with_reducible refine bQ ?_ | intro)))
 all_goals try (refine ⟨‹Nat› + 1,?_⟩; (repeat' (first | with_reducible apply bP | with_reducible refine bQ ?_ | intro)))
 all_goals (first | exact cn | exact rfl | exact (Rm aQ) | exact (Pk aQ aq) | exact Ku | exact ⟨MU⟩ | exact ⟨NR⟩ | exact ⟨Nm⟩ | exact (Gw aq) | exact (congrArg Field.num (OV aq)) | exact (congrArg Field.wire (OV aq)) | exact (congrArg (fun f=>f.n.n) (OV aq)) | exact (congrArg Field.b (OV aq)) | exact (Nj aQ aq (Fz (Sf aq) aq (And.intro aq aq) (yu _ _))) | exact (QZ aq aq (by assumption)) | exact (PG aq aq aq aq) | exact (Rv aq aQ) | exact (Jr aQ) | exact (Nj aQ aq (Re aq aq aq)) | exact (Qj aq aq (by assumption)) | exact (QK aQ aq (Pm aq aq aQ)) | (have h1:=Fl (l:=l) (k:=‹Nat›) ‹Field›.num; have h2:=yu (l.take ‹Nat›) ‹Field›.num; refine eX ?_ ?_ <;> omega))
theorem Lb (c:Command) (rest:List Field) (v:Int) (r0:Int) (r1:List UInt8):n_ tyT Dq (HZ c rest v) Tryz.f25 [.agg (cellsOf (.nm .command) c),.c (.fz (.nm .field) (rest)),.c (.int (v))] [] [.c (.own 0),.c (.int (r0))] [.row 5 .u8 (r1)]=((fun (q3:Int)=>(fun (q2:Nat)=>(fun (q1:Prop)=>(fun (q0:Prop)=>I64 c.kind->I64 c.client->I64 c.seq->I64 c.set->I64 c.id->I64 c.n->c.chunks.length*(8:Nat)<=(140737488355328:Nat)->c.text.b.length<=(140737488355328:Nat)->rest.length*(48:Nat)<=(140737488355328:Nat)->I64 v->(bV v=false->(1:Int)=r0/\r1=[])/\(bV v=true->(eE c v=false->I64 (b_ c v)->(¬b_ c v=q3->b_ c v=r0/\r1=[])/\(b_ c v=q3->q0))/\(eE c v=true->q0))) ((1:Int)=(1:Int)/\(I64 (bZ v)->∃ (s0:Nat),(rest=rest/\v=v/\bZ v=bZ v/\rest=rest/\(↑rest.length:Int)=(↑q2:Int)/\q3=(↑s0:Int)/\q1)/\(s0<=q2/\Wq (qY rest v s0))/\∀ (s:Nat),s<=q2/\Wq (qY rest v s)->((↑s:Int)<(↑q2:Int)->q3<=(↑s:Int)/\(↑s:Int)<(↑rest.length:Int)/\∀ (x:Field),rest[s]? = some x->I64 x.num->I64 x.wire->x.n.n<(18446744073709551616:Nat)->x.b.length*(1:Nat)<=(140737488355328:Nat)->(x.num<=bZ v->(6:Int)=r0/\r1=[])/\(bZ v<x.num->I64 ((↑s:Int)+(1:Int))/\∃ (s':Nat),(rest=rest/\v=v/\bZ v=bZ v/\rest=rest/\(↑q2:Int)=(↑q2:Int)/\(↑s:Int)+(1:Int)=(↑s':Int)/\q1)/\(s' <= q2/\Wq (qY rest v s'))/\q2 - s' < q2 - s))/\((↑q2:Int)<=(↑s:Int)->q3<=c.kind/\q3<=c.client/\q3<=c.seq/\q3<=c.set/\q3<=c.id/\q3<=c.n/\((c_ c v).length+rest.length)*(48:Nat)<=(140737488355328:Nat)/\(I64 (cA (c_ c v++rest))->cA (c_ c v++rest)=r0/\jF (c_ c v++rest)=r1))))) (c.kind=c.kind/\c.client=c.client/\c.seq=c.seq/\c.set=c.set/\c.id=c.id/\c.n=c.n/\c.chunks=c.chunks/\c.text=c.text)) rest.length) (0:Int)):=by kernel_rfl
theorem LH (c:Command) (rest:List Field) (v:Int) (h0:rest.length<=20000):Sat Tryz.prog (ai tyT) 25 [.agg (cellsOf (.nm .command) c),.c (.fz (.nm .field) (rest)),.c (.int (v))] [] ⟨[rest.length<=20000],[.c (.own 0),.c (.int ((fq c rest v)))],some ([.row 5 .u8 ((fO c rest v))]),true⟩:=by
 refine dO me (HZ c rest v) Tryz.func25 (by decide) (by kernel_rfl) ?_
 rw [Lb]
 iterate 3 ((all_goals (repeat' (first | with_reducible apply bP | with_reducible refine bQ ?_ | intro))); (all_goals try (first | exact cn | exact rfl | exact ⟨MR⟩ | exact (OD aq aq aQ) | exact (tQ (Se aq) (by decide)) | exact (vh (Se aq) (by decide)).symm | exact (tQ (Sm aq aq aq) aq) | exact (vh (Sm aq aq aq) aq).symm | exact (tQ (Sa aq (by first | exact .inl aq | exact .inr aq) aq aq) (by decide)) | exact (vh (Sa aq (by first | exact .inl aq | exact .inr aq) aq aq) (by decide)).symm | exact (Nf (Sw aq (by first | exact .inl aq | exact .inr aq) aq aQ)) | exact (N_ (Sw aq (by first | exact .inl aq | exact .inr aq) aq aQ)) | (have h:0<=c.kind/\0<=c.client/\0<=c.seq/\0<=c.set/\0<=c.id/\0<=c.n:=(by first | exact Jo aq | exact IW aq); omega) | (have h:=um c v; omega))); all_goals try first | refine ⟨‹Nat› + 1,?_⟩ | refine ⟨0,?_⟩)
noncomputable def J_:cd:=(bq 25 (bm (ah (kT (.nm .command)) (ah (kC (cL (.nm .field))) (ah (kC cI) aK))) aJ fun (c,rest,v,_) (_)=>⟨[rest.length<=20000],[.c (.own 0),.c (.int ((fq c rest v)))],some ([.row 5 .u8 ((fO c rest v))]),true⟩) (bq 52 (bm (ah (kC cI) (ah (kC cI) (ah (kC (cL (.nm .field))) aK))) aJ fun (q,v,l,_) (_)=>⟨[q=1],[.c (.int ((fo l v)))],none,false⟩) (bq 91 (bm (ah (kT (.nm .field)) (ah (kC (bJ 0 0)) aK)) (az (bH 67 (ao (bd 1) bF)) (az (bc 90 (.nm .field)) aJ)) fun (f,_,_) ((_,_),xs,_)=>⟨[xs.length<=20000],[.c (.bool (.atom ((eA xs f))))],none,false⟩) Dq)))
theorem wx:aN Tryz.prog (ai tyT) J_:=(av (au (ab bl (ab (al bb) (ab (al aw) ak))) aj fun (c,rest,v,_) (_) hp=>LH c rest v (dB hp)) (av (au (ab (al aw) (ab (al aw) (ab (al bb) ak))) aj fun (q,v,l,_) (_) hp=>Ch q v l (dB hp)) (av (au (ab bl (ab (al aI) ak)) (ag (aG (ae aC aF)) (ag aD aj)) fun (f,_,_) ((_,_),xs,_) hp=>EC f xs (dB hp)) me)))
def GL (b:List UInt8) (s:Nat × List Field):Nat × List Field:=(s.1+(aY (b.drop s.1)).1,s.2++[iK ((b.drop s.1).take (((s.1:Int)+((aY (b.drop s.1)).1:Nat)).toNat - s.1))])
theorem IN {b:List UInt8} {s:Nat × List Field}:(GL b s).2=s.2++[iK ((b.drop s.1).take (aY (b.drop s.1)).1)]:=by
 unfold GL; rw [show ((s.1:Int)+((aY (b.drop s.1)).1:Nat)).toNat - s.1=(aY (b.drop s.1)).1 by omega]
theorem S_ {b:List UInt8} (h:16384<(b.length:Int)):bt b=([],4):=Kh (by omega)
theorem SS {b:List UInt8} {s:Nat × List Field} (h:Wq (fY b s.1 s.2)) (hi:(s.1:Int)<(b.length:Int)) (hs:¬ (aY (b.drop s.1)).2=0):bt b=([],(aY (b.drop s.1)).2):=GJ h.h (by omega) hs
theorem Th {b:List UInt8} {s:Nat × List Field} (h:Wq (fY b s.1 s.2)) (hi:(s.1:Int)<(b.length:Int)) (hs:(aY (b.drop s.1)).2=0) (hr:eA s.2 (iK ((b.drop s.1).take (((s.1:Int)+((aY (b.drop s.1)).1:Nat)).toNat - s.1)))=false):bt b=([],5):=by
 rw [show ((s.1:Int)+((aY (b.drop s.1)).1:Nat)).toNat - s.1=(aY (b.drop s.1)).1 by omega] at hr
 obtain ⟨f,_,e⟩:=Bg h.h (show s.1<b.length by omega)
 rw [e,if_pos hs,hr,if_neg (by decide)]
theorem Tp {b:List UInt8} {s:Nat × List Field} (h:Wq (fY b s.1 s.2)) (hi:(s.1:Int)<(b.length:Int)) (hs:(aY (b.drop s.1)).2=0) (hr:eA s.2 (iK ((b.drop s.1).take (((s.1:Int)+((aY (b.drop s.1)).1:Nat)).toNat - s.1)))=true):Wq (fY b (GL b s).1 (GL b s).2):=by
 rw [show ((s.1:Int)+((aY (b.drop s.1)).1:Nat)).toNat - s.1=(aY (b.drop s.1)).1 by omega] at hr
 obtain ⟨f,hf,e⟩:=Bg h.h (show s.1<b.length by omega)
 have hp:=ke hs
 rw [IN]
 refine ⟨f,by show b.length - (s.1+(aY (b.drop s.1)).1)<=f; omega,?_⟩
 rw [e,if_pos hs,hr,if_pos rfl,List.drop_drop]; rfl
theorem Tn {b:List UInt8} {s:Nat × List Field} (h:Wq (fY b s.1 s.2)) (hi:(b.length:Int)<=(s.1:Int)):bt b=(s.2,0):=JP h.h (by omega)
theorem SI {b:List UInt8} {s:Nat × List Field} (hi:s.1<=b.length):(GL b s).1<=b.length:=by
 have:=ry (b.drop s.1); rw [List.length_drop] at this; show s.1+_<=_; omega
theorem Ta {b:List UInt8} {s:Nat × List Field} (hl:s.2.length<=s.1) (hs:(aY (b.drop s.1)).2=0):(GL b s).2.length<=(GL b s).1:=by
 have hp:=ke hs
 rw [IN,List.length_append]; simp only [List.length_cons,List.length_nil]; show _<=s.1+_; omega
theorem SM {b:List UInt8} {s:Nat × List Field} (hi:(s.1:Int)<(b.length:Int)) (hs:(aY (b.drop s.1)).2=0):b.length - (GL b s).1<b.length - s.1:=by
 have hp:=ke hs; show b.length - (s.1+_)<_; omega
def AM (b:List UInt8):List (Nat × LI):=[(6,{ σ:=Nat × List Field,F:=fun s=>([(0,one (.fz .u8 (b))),(4,one (.ptr 0 0)),(5,one (.fn 91 [] [(0,0)])),(6,one (.int s.1))],[.box 67 ([.own 1]),.row 90 (.nm .field) ((s.2))]),J:=fun s=>Wq (fY b s.1 s.2)/\s.1<=b.length/\s.2.length<=s.1,μ:=fun s=>b.length - s.1 })]
theorem EO (b:List UInt8) (r0:List Field) (r1:Int):cw tyT J_ (AM b) Tryz.f51 [.c (.fz .u8 (b))] [] [.c (.fz (.nm .field) (r0)),.c (.int (r1))]=((fun (q1:Int)=>(fun (q0:Int)=>b.length*(1:Nat)<=(140737488355328:Nat)->((16384:Int)<q0->r0=[]/\(4:Int)=r1)/\(q0<=(16384:Int)->∃ (s0:Nat × List Field),(b=b/\q1=(↑s0.fst:Int)/\s0.snd=[])/\(Wq (fY b s0.fst s0.snd)/\s0.fst<=b.length/\s0.snd.length<=s0.fst)/\∀ (s:Nat × List Field),(fun (q5:Int)=>(fun (q4:Nat × Int)=>(fun (q3:Int)=>(fun (q2:Field)=>Wq (fY b s.fst s.snd)/\s.fst<=b.length/\s.snd.length<=s.fst->(q5<q0->q1<=q5/\q5<=q0/\(I64 (↑q4.fst:Int)->I64 q4.snd->(¬q4.snd=q1->r0=[]/\q4.snd=r1)/\(q4.snd=q1->I64 q3/\q1<=q5/\q5<=q3/\q3<=q0/\(I64 q2.num->I64 q2.wire->q2.n.n<(18446744073709551616:Nat)->q2.b.length*(1:Nat)<=(140737488355328:Nat)->s.snd.length<=(20000:Nat)/\(eA s.snd q2=false->r0=[]/\(5:Int)=r1)/\(eA s.snd q2=true->(s.snd.length+[q2].length)*(48:Nat)<=(140737488355328:Nat)/\I64 q3/\∃ (s':Nat × List Field),(b=b/\q3=(↑s'.fst:Int)/\s.snd++[q2]=s'.snd)/\(Wq (fY b s'.fst s'.snd)/\s'.fst<=b.length/\s'.snd.length<=s'.fst)/\b.length - s'.fst<b.length - s.fst)))))/\(q0<=q5->s.snd=r0/\q1=r1)) (iK (List.take (q3.toNat - s.fst) (List.drop s.fst b)))) (q5+(↑q4.fst:Int))) (aY (List.drop s.fst b))) (↑s.fst:Int))) (↑b.length:Int)) (0:Int)):=by kernel_rfl
theorem HM (b:List UInt8):Sat Tryz.prog (ai tyT) 51 [.c (.fz .u8 (b))] [] ⟨[],[.c (.fz (.nm .field) (((bt b).1))),.c (.int (((bt b).2)))],none,false⟩:=by
 refine aM wx (AM b) Tryz.func51 (by decide) (by kernel_rfl) ?_
 rw [EO]
 iterate 3 ((all_goals (repeat' (first | with_reducible apply bP | with_reducible refine bQ ?_ | intro))); (all_goals try (first | exact cn | exact rfl | exact ⟨DA aQ⟩ | (rw [S_ aq] <;> rfl) | (rw [SS aq aq aq] <;> rfl) | (rw [Th aq aq aq aq] <;> rfl) | (rw [Tn aq aq] <;> rfl) | exact (Tp aq aq aq aq) | exact (SI aq) | exact (Ta aq aq) | exact (SM aq aq) | (have h:=ry (b.drop ‹Nat × List Field›.1); rw [List.length_drop] at h; first | omega | (refine eX ?_ ?_ <;> omega)) | (simp only [List.length_cons,List.length_nil]; omega))); all_goals try first | refine ⟨GL b ‹Nat × List Field›,?_⟩ | refine ⟨(0,[]),?_⟩)
noncomputable def Jd:cd:=(bq 51 (bm (ah (kC (cL .u8)) aK) aJ fun (b,_) (_)=>⟨[],[.c (.fz (.nm .field) (((bt b).1))),.c (.int (((bt b).2)))],none,false⟩) J_)
theorem wT:aN Tryz.prog (ai tyT) Jd:=(av (au (ab (al bb) ak) aj fun (b,_) (_) _=>HM b ) wx)
theorem Pe {v:Int} (h:bV v=true):1<=v/\v<=3:=by
 unfold bV at h; simpa using h
theorem PN {b:List UInt8} {v:Int} (h1:(bt b).2=0) (h2:fo (bt b).1 v=0):ji b v=0:=by rw [ji,if_pos h1,h2]
theorem Sv {b:List UInt8} {v:Int} (h:bV v=false):bR b v=⟨cj,[],1⟩:=Rw (fun h2=>by unfold bV at h; simp only [h2,decide_true,Bool.and_self] at h; cases h)
theorem SD {b:List UInt8} {v:Int} (h:bV v=true) (h1:(bt b).2=0) (h2:¬ fo (bt b).1 v=0):bR b v=⟨cj,[],fo (bt b).1 v⟩:=by
 have e:ji b v=fo (bt b).1 v:=by rw [ji,if_pos h1]
 rw [My (Pe h) (by rw [e]; exact h2),e]
theorem Tg {b:List UInt8} {v:Int} (h:bV v=true) (h1:¬ (bt b).2=0):bR b v=⟨cj,[],(bt b).2⟩:=by
 have e:ji b v=(bt b).2:=by rw [ji,if_neg h1]
 rw [My (Pe h) (by rw [e]; exact h1),e]
theorem Td {b:List UInt8} {v:Int} (h:bV v=true) (h1:(bt b).2=0) (h2:fo (bt b).1 v=0) (h3:¬ fq (cg (cS (bt b).1 (bZ v))) (dg (bt b).1 (bZ v)) v=0\/decide (fO (cg (cS (bt b).1 (bZ v))) (dg (bt b).1 (bZ v)) v=b)=false):bR b v=⟨cj,[],6⟩:=
 PM (Pe h) (PN h1 h2) (h3.imp_right fun h=>by simpa using h)
theorem SG {b:List UInt8} {v:Int} (h:bV v=true) (h1:(bt b).2=0) (h2:fo (bt b).1 v=0) (h3:fq (cg (cS (bt b).1 (bZ v))) (dg (bt b).1 (bZ v)) v=0) (h4:decide (fO (cg (cS (bt b).1 (bZ v))) (dg (bt b).1 (bZ v)) v=b)=true):bR b v=⟨cg (cS (bt b).1 (bZ v)),dg (bt b).1 (bZ v),0⟩:=
 Pp (Pe h) (PN h1 h2) ⟨h3,of_decide_eq_true h4⟩
theorem FL (b:List UInt8) (v:Int) (r0:Command) (r1:List Field) (r2:Int):cw tyT Jd [] Tryz.f28 [.c (.fz .u8 (b)),.c (.int (v))] [] [.agg (cellsOf (.nm .command) r0),.c (.fz (.nm .field) (r1)),.c (.int (r2))]=((fun (q8:Nat)=>(fun (q7:Int)=>(fun (q6:Prop)=>(fun (q5:Prop)=>(fun (q4:List Field)=>(fun (q3:List Field)=>(fun (q2:Int)=>(fun (q1:Command)=>(fun (q0:Prop)=>b.length*(1:Nat)<=q8->I64 v->(bV v=false->q2=r0.kind/\q2=r0.client/\q2=r0.seq/\q2=r0.set/\q2=r0.id/\q2=r0.n/\q6/\q5/\r1=[]/\(1:Int)=r2)/\(bV v=true->q4.length*(48:Nat)<=q8->I64 q7->(q7=q2->(1:Int)=(1:Int)/\(I64 (fo q4 v)->(¬fo q4 v=q2->q2=r0.kind/\q2=r0.client/\q2=r0.seq/\q2=r0.set/\q2=r0.id/\q2=r0.n/\q6/\q5/\r1=[]/\fo q4 v=r2)/\(fo q4 v=q2->q0)))/\(¬q7=q2->(¬q7=q2->q2=r0.kind/\q2=r0.client/\q2=r0.seq/\q2=r0.set/\q2=r0.id/\q2=r0.n/\q6/\q5/\r1=[]/\q7=r2)/\(q7=q2->q0)))) ((1:Int)=(1:Int)/\(I64 (bZ v)->(cS q4 (bZ v)).length*(48:Nat)<=q8->q3.length*(48:Nat)<=q8->(∀ (f:Field),List.Mem f (cS q4 (bZ v))->f.b.length<=(16384:Nat))/\(I64 q1.kind->I64 q1.client->I64 q1.seq->I64 q1.set->I64 q1.id->I64 q1.n->q1.chunks.length*(8:Nat)<=q8->q1.text.b.length<=q8->q3.length<=(20000:Nat)/\(I64 (fq q1 q3 v)->(¬fq q1 q3 v=q2\/decide (fO q1 q3 v=b)=false->q2=r0.kind/\q2=r0.client/\q2=r0.seq/\q2=r0.set/\q2=r0.id/\q2=r0.n/\q6/\q5/\r1=[]/\(6:Int)=r2)/\(fq q1 q3 v=q2/\decide (fO q1 q3 v=b)=true->q1.kind=r0.kind/\q1.client=r0.client/\q1.seq=r0.seq/\q1.set=r0.set/\q1.id=r0.id/\q1.n=r0.n/\q1.chunks=r0.chunks/\q1.text=r0.text/\q3=r1/\q2=r2)))))) (cg (cS q4 (bZ v)))) (0:Int)) (dg q4 (bZ v))) (bt b).fst) (Str.mk []=r0.text)) (r0.chunks=[])) (bt b).snd) (140737488355328:Nat)):=by kernel_rfl
theorem HN (b:List UInt8) (v:Int):Sat Tryz.prog (ai tyT) 28 [.c (.fz .u8 (b)),.c (.int (v))] [] ⟨[],[.agg (cellsOf (.nm .command) ((bR b v).c)),.c (.fz (.nm .field) (((bR b v).r))),.c (.int (((bR b v).e)))],none,false⟩:=by
 refine aM wT [] Tryz.func28 (by decide) (by kernel_rfl) ?_
 rw [FL]
 (repeat' (first | with_reducible apply bP | with_reducible refine bQ ?_ | intro))
 all_goals (first | exact cn | (rw [Sv aq] <;> rfl) | (rw [SD aq aq aq] <;> rfl) | (rw [Tg aq aq] <;> rfl) | (rw [Td aq aq aq (by assumption)] <;> rfl) | (rw [SG aq aq aq aq aq] <;> rfl) | exact (Ko (PN aq aq) _ (by assumption)) | (have h1:=w_ (bt b).1 (bZ v); have h2:=Hl b; omega))
noncomputable def MX:cd:=(bq 28 (bm (ah (kC (cL .u8)) (ah (kC cI) aK)) aJ fun (b,v,_) (_)=>⟨[],[.agg (cellsOf (.nm .command) ((bR b v).c)),.c (.fz (.nm .field) (((bR b v).r))),.c (.int (((bR b v).e)))],none,false⟩) Jd)
theorem GA:aN Tryz.prog (ai tyT) MX:=(av (au (ab (al bb) (ab (al aw) ak)) aj fun (b,v,_) (_) _=>HN b v ) wT)
noncomputable def OA:cd:=MX
theorem Gk:aN Tryz.prog (ai tyT) OA:=GA
noncomputable def M_:cd:=OA
theorem FI:aN Tryz.prog (ai tyT) M_:=Gk
noncomputable def Ng:cd:=M_
theorem EE:aN Tryz.prog (ai tyT) Ng:=FI
noncomputable def MW:cd:=Ng
theorem Hx:aN Tryz.prog (ai tyT) MW:=EE
noncomputable def MH:cd:=MW
theorem Gh:aN Tryz.prog (ai tyT) MH:=Hx
noncomputable def MC:cd:=MH
theorem Fi:aN Tryz.prog (ai tyT) MC:=Gh
def numR (x y:Int):Prop:=∃ n:Nat,n<18446744073709551616/\x=((min n 1048577:Nat):Int)/\y=fI n
structure RelQ (a:List Int) (c r:Command):Prop where
 len:a.length=7
 n1:numR (a.getD 1 (dflt .int)) r.kind
 n2:numR (a.getD 2 (dflt .int)) r.client
 n3:numR (a.getD 3 (dflt .int)) r.seq
 n4:numR (a.getD 4 (dflt .int)) r.set
 n5:numR (a.getD 5 (dflt .int)) r.id
 n6:numR (a.getD 6 (dflt .int)) r.n
 ch:c.chunks=r.chunks
 tx:c.text=r.text
theorem Rg {b:List UInt8} {v:Int} (h:cE v 1 3=false):bR b v=⟨cj,[],1⟩:=Sv h
noncomputable def JR:cd:=MC
theorem vQ:aN Tryz.prog (ai tyT) JR:=Fi
structure RdM where
 c:Command
 some:Bool
 e:Int
noncomputable def aR (x:Entry) (v:Int):RdM:=
 if x.b.length=0 then (if v<1\/3<v then ⟨cj,false,1⟩ else ⟨cj,false,0⟩)
 else if ¬ (bR x.b v).e=0 then ⟨cj,false,(bR x.b v).e⟩
 else if bD (bR x.b v).c.kind=0\/v<bD (bR x.b v).c.kind then ⟨cj,false,10⟩
 else ⟨(bR x.b v).c,true,0⟩
section
variable {x:Entry} {v:Int}
theorem SN (h:((x.b.length:Nat):Int)=0) (h2:v<1\/3<v):aR x v=⟨cj,false,1⟩:=by unfold aR; rw [if_pos (by omega),if_pos h2]
theorem SL (h:((x.b.length:Nat):Int)=0) (h1:1<=v) (h2:v<=3):aR x v=⟨cj,false,0⟩:=by unfold aR; rw [if_pos (by omega),if_neg (by omega)]
theorem Sz (h:¬ ((x.b.length:Nat):Int)=0) (h2:¬ (bR x.b v).e=0):aR x v=⟨cj,false,(bR x.b v).e⟩:=by unfold aR; rw [if_neg (by omega),if_pos h2]
theorem Tm (h:¬ ((x.b.length:Nat):Int)=0) (h2:(bR x.b v).e=0) (h3:bD (bR x.b v).c.kind=0\/v<bD (bR x.b v).c.kind):aR x v=⟨cj,false,10⟩:=by unfold aR; rw [if_neg (by omega),if_neg (by rw [h2]; simp),if_pos h3]
theorem SX (h:¬ ((x.b.length:Nat):Int)=0) (h2:(bR x.b v).e=0) (h3:¬ bD (bR x.b v).c.kind=0) (h4:bD (bR x.b v).c.kind<=v):aR x v=⟨(bR x.b v).c,true,0⟩:=by unfold aR; rw [if_neg (by omega),if_neg (by rw [h2]; simp),if_neg (by omega)]
theorem SF (h2:v<1\/3<v):aR x v=⟨cj,false,1⟩:=by
 by_cases h:((x.b.length:Nat):Int)=0
 ·exact SN h h2
 ·have e:bR x.b v=⟨cj,[],1⟩:=Rg (by unfold cE; rcases h2 with h2 | h2 <;> simp <;> omega)
  rw [Sz h (by rw [e]; decide),e]
end
theorem CT (x:Entry) (v:Int) (r0:Command) (r1:Bool) (r2:Int):cw tyT JR [] Tryz.f11 [.agg (cellsOf (.nm .entry) x),.c (.int (v))] [] [.agg (cellsOf (.nm .command) r0),.c (.bool (.atom (r1))),.c (.int (r2))]=((fun (q3:Prop)=>(fun (q2:Prop)=>(fun (q1:Int)=>(fun (q0:TkR)=>I64 x.term->x.b.length*(1:Nat)<=(140737488355328:Nat)->I64 v->((↑x.b.length:Int)=q1->(v<(1:Int)\/(3:Int)<v->q1=r0.kind/\q1=r0.client/\q1=r0.seq/\q1=r0.set/\q1=r0.id/\q1=r0.n/\q3/\q2/\false=r1/\(1:Int)=r2)/\((1:Int)<=v/\v<=(3:Int)->q1=r0.kind/\q1=r0.client/\q1=r0.seq/\q1=r0.set/\q1=r0.id/\q1=r0.n/\q3/\q2/\false=r1/\q1=r2))/\(¬(↑x.b.length:Int)=q1->I64 q0.c.kind->I64 q0.c.client->I64 q0.c.seq->I64 q0.c.set->I64 q0.c.id->I64 q0.c.n->q0.c.chunks.length*(8:Nat)<=(140737488355328:Nat)->q0.c.text.b.length<=(140737488355328:Nat)->q0.r.length*(48:Nat)<=(140737488355328:Nat)->I64 q0.e->(¬q0.e=q1->q1=r0.kind/\q1=r0.client/\q1=r0.seq/\q1=r0.set/\q1=r0.id/\q1=r0.n/\q3/\q2/\false=r1/\q0.e=r2)/\(q0.e=q1->I64 (bD q0.c.kind)->(bD q0.c.kind=q1\/v<bD q0.c.kind->q1=r0.kind/\q1=r0.client/\q1=r0.seq/\q1=r0.set/\q1=r0.id/\q1=r0.n/\q3/\q2/\false=r1/\(10:Int)=r2)/\(¬bD q0.c.kind=q1/\bD q0.c.kind<=v->q0.c.kind=r0.kind/\q0.c.client=r0.client/\q0.c.seq=r0.seq/\q0.c.set=r0.set/\q0.c.id=r0.id/\q0.c.n=r0.n/\q0.c.chunks=r0.chunks/\q0.c.text=r0.text/\true=r1/\q1=r2)))) (bR x.b v)) (0:Int)) (Str.mk []=r0.text)) (r0.chunks=[])):=by kernel_rfl
theorem Dx (x:Entry) (v:Int):Sat Tryz.prog (ai tyT) 11 [.agg (cellsOf (.nm .entry) x),.c (.int (v))] [] ⟨[],[.agg (cellsOf (.nm .command) ((aR x v).c)),.c (.bool (.atom (((aR x v).some)))),.c (.int (((aR x v).e)))],none,false⟩:=by
 refine aM vQ [] Tryz.func11 (by decide) (by kernel_rfl) ?_
 rw [CT]
 (repeat' (first | with_reducible apply bP | with_reducible refine bQ ?_ | intro))
 all_goals (first | exact cn | (rw [SF (by assumption)] <;> rfl) | (rw [SL aq aq aq] <;> rfl) | (rw [Sz aq aq] <;> rfl) | (rw [Tm aq aq (by assumption)] <;> rfl) | (rw [SX aq aq aq aq] <;> rfl))
noncomputable def KI:cd:=(bq 11 (bm (ah (kT (.nm .entry)) (ah (kC cI) aK)) aJ fun (x,v,_) (_)=>⟨[],[.agg (cellsOf (.nm .command) ((aR x v).c)),.c (.bool (.atom (((aR x v).some)))),.c (.int (((aR x v).e)))],none,false⟩) JR)
theorem we:aN Tryz.prog (ai tyT) KI:=(av (au (ab bl (ab (al aw) ak)) aj fun (x,v,_) (_) _=>Dx x v ) vQ)
noncomputable def eB (v:Int) (s:State) (x:Entry):State:=if (aR x v).some=true then (fk s (aR x v).c).1 else s
noncomputable def jy (v:Int) (s:State) (x:Entry):Reply:=if (aR x v).some=true then (fk s (aR x v).c).2 else ⟨0,0⟩
noncomputable def pS (v:Int) (s:State) (l:List Entry):State:=l.foldl (eB v) s
noncomputable def pR (v:Int):State->List Entry->List Reply
 | _,[]=>[]
 | s,x :: l=>jy v s x :: pR v (eB v s x) l
noncomputable def pN (v:Int):List Entry->Nat
 | []=>0
 | x :: l=>if (aR x v).e=0 then pN v l+1 else 0
noncomputable def pE (v:Int):List Entry->Int
 | []=>0
 | x :: l=>if (aR x v).e=0 then pE v l else (aR x v).e
noncomputable def plS (v:Int) (s:State) (l:List Entry):State:=pS v s (l.take (pN v l))
noncomputable def plR (v:Int) (s:State) (l:List Entry):List Reply:=pR v s (l.take (pN v l))
section
variable {v:Int} {s:State} {l:List Entry} {x:Entry} {k:Nat}
theorem OL (hx:l[k]? = some x):eB v (pS v s (l.take k)) x=pS v s (l.take (k+1)):=by
 rw [ax hx]; unfold pS; rw [List.foldl_append]; rfl
theorem vS:∀ {l:List Entry} {s:State},pR v s (l++[x])=pR v s l++[jy v (pS v s l) x]
 | [],_=>rfl
 | y :: l,s=>by
  show jy v s y :: pR v (eB v s y) (l++[x])=jy v s y :: (pR v (eB v s y) l++[jy v (pS v (eB v s y) l) x])
  rw [vS]
theorem Ov (hx:l[k]? = some x):pR v s (l.take k)++[jy v (pS v s (l.take k)) x]=pR v s (l.take (k+1)):=by
 rw [ax hx,vS]
theorem uu:∀ {l:List Entry} {s:State},(pR v s l).length=l.length
 | [],_=>rfl
 | y :: l,s=>by
  show (pR v (eB v s y) l).length+1=l.length+1
  rw [uu]
def okPl (v:Int) (l:List Entry):Prop:=∀ x ∈ l,(aR x v).e=0
theorem FH (h:okPl v (l.take k)) (hx:l[k]? = some x) (he:(aR x v).e=0):okPl v (l.take (k+1)):=by
 rw [ax hx]
 intro y hy
 rcases List.mem_append.1 hy with hy | hy
 ·exact h y hy
 ·rw [List.mem_singleton.1 hy]; exact he
theorem BD:∀ {l:List Entry},okPl v l->pN v l=l.length/\pE v l=0
 | [],_=>⟨rfl,rfl⟩
 | y :: l,h=>by
  obtain ⟨h1,h2⟩:=BD (l:=l) fun z hz=>h z (List.mem_cons_of_mem _ hz)
  have h0:=h y List.mem_cons_self
  unfold pN pE
  rw [if_pos h0,if_pos h0,h1,h2]; exact ⟨rfl,rfl⟩
theorem wW:∀ {l:List Entry} {k:Nat},okPl v (l.take k)->l[k]? = some x->¬ (aR x v).e=0->pN v l=k/\pE v l=(aR x v).e
 | [],k,_,hx,_=>by simp at hx
 | y :: l,0,_,hx,he=>by
  simp at hx; subst hx
  unfold pN pE
  rw [if_neg he,if_neg he]; exact ⟨rfl,rfl⟩
 | y :: l,k+1,h,hx,he=>by
  have h0:=h y (by simp)
  obtain ⟨h1,h2⟩:=wW (l:=l) (k:=k) (fun z hz=>h z (by rw [List.take_succ_cons]; exact List.mem_cons_of_mem _ hz)) (by simpa using hx) he
  unfold pN pE
  rw [if_pos h0,if_pos h0,h1,h2]; exact ⟨rfl,rfl⟩
theorem Ep (h:okPl v (l.take k)) (hx:l[k]? = some x) (he:¬ (aR x v).e=0):pS v s (l.take k)=plS v s l/\pR v s (l.take k)=plR v s l/\(aR x v).e=pE v l:=by
 obtain ⟨h1,h2⟩:=wW h hx he
 unfold plS plR; rw [h1,h2]; exact ⟨rfl,rfl,rfl⟩
theorem Jx (h:okPl v (l.take k)) (hk:l.length<=k):pS v s (l.take k)=plS v s l/\pR v s (l.take k)=plR v s l/\0=pE v l:=by
 rw [List.take_of_length_le hk] at h ⊢
 obtain ⟨h1,h2⟩:=BD h
 unfold plS plR; rw [h1,h2,List.take_length]; exact ⟨rfl,rfl,rfl⟩
end
def ky:Code->Code
 | .seq x _=>x
 | c=>c
def ec:Code->Code
 | .seq _ y=>y
 | c=>c
def Pf:Code->Code
 | .block _ c=>c
 | .loop c=>c
 | c=>c
def RD:Code->Code
 | .rangeFunc _ _ a _=>a
 | c=>c
def QT:Code->Code
 | .rangeFunc _ _ _ b=>b
 | c=>c
def gD:Code->List Oper
 | .region _ ops _=>ops.toList
 | _=>[]
def Ig (f:Func):Code:=f.body.getD .skip
theorem Kt (l:List Entry) (v:Int) (r0:List Entry) (r1:Int):n_ tyT KI [] Tryz.f33 [.c (.fz (.nm .entry) (l)),.c (.int (v))] [] [.c (.fn 60 [] [(0,0),(1,0)])] [.box 44 ([.fz (.nm .entry) (r0)]),.box 3 ([.int (r1)])]=(l.length*(32:Nat)<=(140737488355328:Nat)->I64 v->l=r0/\v=r1):=by kernel_rfl
theorem LV (l:List Entry) (v:Int):Sat Tryz.prog (ai tyT) 33 [.c (.fz (.nm .entry) (l)),.c (.int (v))] [] ⟨[],[.c (.fn 60 [] [(0,0),(1,0)])],some ([.box 44 ([.fz (.nm .entry) ((l))]),.box 3 ([.int ((v))])]),true⟩:=by
 refine dO we [] Tryz.func33 (by decide) (by kernel_rfl) ?_
 rw [Kt]
 grind
noncomputable def dE:cd:=(bq 33 (bm (ah (kC (cL (.nm .entry))) (ah (kC cI) aK)) aJ fun (l,v,_) (_)=>⟨[],[.c (.fn 60 [] [(0,0),(1,0)])],some ([.box 44 ([.fz (.nm .entry) ((l))]),.box 3 ([.int ((v))])]),true⟩) KI)
theorem ml:aN Tryz.prog (ai tyT) dE:=(av (au (ab (al bb) (ab (al aw) ak)) aj fun (l,v,_) (_) _=>LV l v ) we)
noncomputable abbrev Mk:Code:=Ig Tryz.f16
noncomputable abbrev Sg:Code:=Ig Tryz.f60
noncomputable abbrev Og:Code:=ky Mk
noncomputable abbrev Np:Code:=ky (ec Mk)
noncomputable abbrev Nh:Code:=ky (ec (ec Mk))
noncomputable abbrev ME:Code:=ky (ky (ec (ec (ec Mk))))
noncomputable abbrev So:Code:=Pf (ec (ky (ec (ec (ec Mk)))))
noncomputable abbrev GM:Code:=ec (ec (ec (ec Mk)))
noncomputable abbrev zp:Code:=RD So
noncomputable abbrev Bv:Code:=QT So
noncomputable abbrev Pq:Code:=ky Sg
noncomputable abbrev iB:Code:=Pf (Pf (ec Sg))
noncomputable abbrev RK:Code:=ky iB
noncomputable abbrev Sb:Code:=ky (ec iB)
noncomputable abbrev Pa:Code:=Pf (ky (ec (ec iB)))
noncomputable abbrev Sn:Code:=ky Pa
noncomputable abbrev RY:Code:=ky (ec Pa)
noncomputable abbrev wo:Code:=ky (ec (ec Pa))
noncomputable abbrev JM:Code:=ec (ec (ec Pa))
noncomputable abbrev Sc:Code:=ec (ec (ec iB))
def hK (s:State) (r:List Reply) (l:List Entry) (v:Int):AH:=[.box 43 ([.int ((s.version)),.int ((s.next)),.int ((s.keep)),.int ((s.quota)),.own 7,.own 8,.own 9]),.box 43 ([.int ((0)),.int ((0)),.int ((0)),.int ((0)),.em true,.em true,.em true]),.box 47 ([.em true]),.box 31 ([.int ((0))]),.box 47 ([.own 10]),.box 44 ([.fz (.nm .entry) ((l))]),.box 3 ([.int ((v))]),.row 82 (.nm .sess) ((s.sess)),.row 63 (.nm .opn) ((s.opens)),.row 73 (.nm .snap) ((s.snaps)),.row 56 (.nm .reply) ((r))]
def hE (s:State) (r:List Reply):AH:=[.row 82 (.nm .sess) ((s.sess)),.row 63 (.nm .opn) ((s.opens)),.row 73 (.nm .snap) ((s.snaps)),.row 56 (.nm .reply) ((r))]
def rE (s:State) (e:Int):List TV1:=[.agg [.int s.version,.int s.next,.int s.keep,.int s.quota,.own 0,.own 1,.own 2],.c (.own 3),.c (.int e)]
def frP:AFr:=[(3,one (.ptr 0 0)),(6,one (.ptr 1 0)),(7,one (.ptr 2 0)),(8,one (.ptr 3 0)),(9,one (.ptr 4 0)),(16,one (.fn 60 [] [(5,0),(6,0)]))]
def yP (L:Nat):Option TV->Prop
 | some (.one (.c (.yl a)))=>a=L
 | _=>False
def II (l:List Entry) (k:Nat):AFr:=[(1,one (.ptr 5 0)),(2,one (.ptr 6 0)),(9,one (.fz (.nm .entry) l)),(10,one (.int l.length)),(11,one (.int k))]
def DM (c:Command) (b:Bool) (e:Int):TV1:=.agg (cellsOf (.nm .command) ((c))++[.bool (.atom ((b))),.int ((e))])
def QS (l:List Entry) (k:Nat) (c:Command) (b:Bool) (e:Int):AFr:=(26,.one (DM c b e)) :: II l k
def hT (c:Command) (b:Bool) (e:Int):AO:=.box 78 (cellsOf (.nm .command) ((c))++[.bool (.atom ((b))),.int ((e))])
def Mq (k0:Nat) (q:AFr × AH):Exit->AFr->AH->Prop
 | .normal,fr,K=>f_ (sx tyT k0 fr K q)
 | _,_,_=>False
def QA (L:Nat) (q:AFr × AH):Exit->AFr->AH->Prop
 | .normal,fr,K=>yP L (lookA fr 0)/\f_ (sx tyT 11 fr K q)
 | _,_,_=>False
noncomputable def RT (L:Nat) (s:State) (r:List Reply) (l:List Entry) (v:Int) (k:Nat) (fr:AFr) (K:AH):Prop:=
 ∃ x,l[k]? = some x/\yP L (lookA fr 0)/\yP L (lookA fr 22)/\f_ (sx tyT 11 fr K (QS l k (aR x v).c (aR x v).some (aR x v).e,hK s r l v))
noncomputable def Pn (L:Nat) (s:State) (r:List Reply) (l:List Entry) (v:Int) (k:Nat):Exit->AFr->AH->Prop
 | .normal,fr,K=>wpOps tyT dE (eC 0) (gD wo) (RT L s r l v k) 6 ((gD wo).take 5) fr K
 | _,_,_=>False
noncomputable def RI (L:Nat) (s:State) (r:List Reply) (l:List Entry) (v:Int) (k:Nat):Exit->AFr->AH->Prop
 | .exit j,fr,K=>j=0/\l.length<=k/\yP L (lookA fr 0)/\f_ (sx tyT 11 fr K (II l k,hK s r l v))
 | .normal,fr,K=>fX tyT dE (eC 0) 11 [] (.seq Sn RY) (Pn L s r l v k) fr K
 | _,_,_=>False
noncomputable def Ob (L:Nat) (s:State) (r:List Reply) (l:List Entry) (v:Int) (k:Nat):Exit->AFr->AH->Prop
 | .normal,fr,K=>fX tyT dE (eC 0) 11 [] Sb (RI L s r l v k) fr K
 | _,_,_=>False
noncomputable def Ss (L:Nat) (s:State) (r:List Reply) (l:List Entry) (v:Int) (k:Nat) (fr:AFr) (K:AH):Prop:=fX tyT dE (eC 0) 11 [] (.seq JM Sc) (QA L (II l (k+1),hK s r l v)) fr K
noncomputable def Sy (s:State) (r:List Reply) (l:List Entry) (v:Int) (x:Entry):Exit->AFr->AH->Prop
 | .normal,_,K=>(aR x v).e=0/\f_ (KC tyT (hK s r l v) 11 (hK (eB v s x) (r++[jy v s x]) l v) K)
 | .ret,_,K=>¬ (aR x v).e=0/\endE tyT [] 0 Tryz.f16 (rE s (aR x v).e) (hE s r) frP K
 | _,_,_=>False
def Su (s:State) (r:List Reply):Exit->AFr->AH->Prop
 | .ret,fr,K=>endE tyT [] 0 Tryz.f16 (rE s 0) (hE s r) fr K
 | _,_,_=>False
theorem Qs (s:State) (l:List Entry) (v:Int):gR (wB [.agg (cellsOf (.nm .state) s),.c (.fz (.nm .entry) l),.c (.int v)]) (fX tyT dE (eC 0) 0 [] (.seq Og (.seq Np (.seq Nh ME))) (Mq 0 (frP,hK s [] l v)) (lA 0 [.agg (cellsOf (.nm .state) s),.c (.fz (.nm .entry) l),.c (.int v)]) [])=((fun (q0:Prop)=>I64 s.version->I64 s.next->I64 s.keep->I64 s.quota->s.sess.length*(32:Nat)<=(140737488355328:Nat)->s.opens.length*(16:Nat)<=(140737488355328:Nat)->s.snaps.length*(64:Nat)<=(140737488355328:Nat)->l.length*(32:Nat)<=(140737488355328:Nat)->I64 v->I64 s.version->I64 s.next->I64 s.keep->I64 s.quota->s.version=s.version/\s.next=s.next/\s.keep=s.keep/\s.quota=s.quota/\q0/\q0/\q0/\q0/\q0/\l=l/\v=v/\s.sess=s.sess/\s.opens=s.opens/\s.snaps=s.snaps/\([]:List Reply)=[]) ((0:Int)=(0:Int))):=by kernel_rfl
theorem PW (L:Nat) (s:State) (r:List Reply) (l:List Entry) (v:Int):fX tyT dE (eC 0) 11 [] Pq (QA L (II l 0,hK s r l v)) [(0,one (.yl L)),(1,one (.ptr 5 0)),(2,one (.ptr 6 0))] (hK s r l v)=((fun (q0:Prop)=>L=L/\l=l/\(↑l.length:Int)=(↑l.length:Int)/\(0:Int)=(↑(0:Nat):Int)/\s.version=s.version/\s.next=s.next/\s.keep=s.keep/\s.quota=s.quota/\q0/\q0/\q0/\q0/\q0/\l=l/\v=v/\s.sess=s.sess/\s.opens=s.opens/\s.snaps=s.snaps/\r=r) ((0:Int)=(0:Int))):=by kernel_rfl
theorem Pu (L:Nat) (s:State) (r:List Reply) (l:List Entry) (v:Int) (k:Nat):fX tyT dE (eC 0) 11 [] RK (Ob L s r l v k) ((0,one (.yl L)) :: II l k) (hK s r l v)=((fun (q2:Int)=>(fun (q1:Prop)=>(fun (q0:Prop)=>((↑k:Int)<q2->(0:Int)<=(↑k:Int)/\(↑k:Int)<(↑l.length:Int)/\∀ (x:Entry),(fun (q3:Command)=>l[k]? = some x->I64 x.term->x.b.length*(1:Nat)<=(140737488355328:Nat)->I64 q3.kind->I64 q3.client->I64 q3.seq->I64 q3.set->I64 q3.id->I64 q3.n->q3.chunks.length*(8:Nat)<=(140737488355328:Nat)->q3.text.b.length<=(140737488355328:Nat)->I64 (aR x v).e->∃ (x_1:Entry),(fun (q4:RdM)=>l[k]? = some x_1/\L=L/\L=L/\q3.kind=q4.c.kind/\q3.client=q4.c.client/\q3.seq=q4.c.seq/\q3.set=q4.c.set/\q3.id=q4.c.id/\q3.n=q4.c.n/\q3.chunks=q4.c.chunks/\q3.text=q4.c.text/\(aR x v).some=q4.some/\(aR x v).e=q4.e/\q0) (aR x_1 v)) (aR x v).c)/\(q2<=(↑k:Int)->(0:Nat)=(0:Nat)/\l.length<=k/\L=L/\q0)) (l=l/\q2=q2/\(↑k:Int)=(↑k:Int)/\s.version=s.version/\s.next=s.next/\s.keep=s.keep/\s.quota=s.quota/\q1/\q1/\q1/\q1/\q1/\l=l/\v=v/\s.sess=s.sess/\s.opens=s.opens/\s.snaps=s.snaps/\r=r)) ((0:Int)=(0:Int))) (↑l.length:Int)):=by kernel_rfl
theorem QU (L:Nat) (s:State) (r:List Reply) (l:List Entry) (v:Int) (k:Nat) (c:Command) (b:Bool) (er:Int):wpOps tyT dE (eC 0) (gD wo) (Ss L s r l v k) 2 ((gD wo).drop 6) ((27,one (.bool (.lit true))) :: (0,one (.yl L)) :: QS l k c b er) (hK s r l v)=((fun (q0:Prop)=>I64 ((↑k:Int)+(1:Int))/\L=L/\l=l/\(↑l.length:Int)=(↑l.length:Int)/\(↑k:Int)+(1:Int)=(↑(k+(1:Nat)):Int)/\s.version=s.version/\s.next=s.next/\s.keep=s.keep/\s.quota=s.quota/\q0/\q0/\q0/\q0/\q0/\l=l/\v=v/\s.sess=s.sess/\s.opens=s.opens/\s.snaps=s.snaps/\r=r) ((0:Int)=(0:Int))):=by kernel_rfl
theorem RH (s:State) (r:List Reply) (l:List Entry) (v:Int) (c:Command) (b:Bool) (er:Int):fX tyT dE (eC 0) 11 [] zp (Mq 11 ((10,one (.ptr 11 0)) :: frP,hK s r l v++[hT c b er])) ((17,.one (DM c b er)) :: frP) (hK s r l v)=((fun (q0:Prop)=>s.version=s.version/\s.next=s.next/\s.keep=s.keep/\s.quota=s.quota/\q0/\q0/\q0/\q0/\q0/\l=l/\v=v/\s.sess=s.sess/\s.opens=s.opens/\s.snaps=s.snaps/\r=r/\c.kind=c.kind/\c.client=c.client/\c.seq=c.seq/\c.set=c.set/\c.id=c.id/\c.n=c.n/\c.chunks=c.chunks/\c.text=c.text/\b=b/\er=er) ((0:Int)=(0:Int))):=by kernel_rfl
theorem Rh (s:State) (r:List Reply) (l:List Entry) (v:Int) (x:Entry):fX tyT dE (eC 0) 12 [] Bv (Sy s r l v x) ((10,one (.ptr 11 0)) :: frP) (hK s r l v++[hT (aR x v).c (aR x v).some (aR x v).e])=((fun (q3:RdM)=>(fun (q2:State)=>(fun (q1:Int)=>(fun (q0:State × Reply)=>(¬q3.e=q1->¬q3.e=q1/\s.version=s.version/\s.next=s.next/\s.keep=s.keep/\s.quota=s.quota/\q3.e=q3.e/\s.sess=s.sess/\s.opens=s.opens/\s.snaps=s.snaps/\r=r)/\(q3.e=q1->(q3.some=true->I64 q0.fst.version->I64 q0.fst.next->I64 q0.fst.keep->I64 q0.fst.quota->I64 q0.snd.code->I64 q0.snd.n->(r.length+[q0.snd].length)*(16:Nat)<=(140737488355328:Nat)/\q3.e=q1/\q0.fst.version=q2.version/\q0.fst.next=q2.next/\q0.fst.keep=q2.keep/\q0.fst.quota=q2.quota/\q1=q1/\q1=q1/\q1=q1/\q1=q1/\q1=q1/\l=l/\v=v/\q0.fst.sess=q2.sess/\q0.fst.opens=q2.opens/\q0.fst.snaps=q2.snaps/\r++[q0.snd]=r++[jy v s x])/\(q3.some=false->(r.length+[Reply.mk q1 q1].length)*(16:Nat)<=(140737488355328:Nat)/\q3.e=q1/\s.version=q2.version/\s.next=q2.next/\s.keep=q2.keep/\s.quota=q2.quota/\q1=q1/\q1=q1/\q1=q1/\q1=q1/\q1=q1/\l=l/\v=v/\s.sess=q2.sess/\s.opens=q2.opens/\s.snaps=q2.snaps/\r++[Reply.mk q1 q1]=r++[jy v s x]))) (fk s q3.c)) (0:Int)) (eB v s x)) (aR x v)):=by kernel_rfl
theorem QJ (s:State) (r:List Reply) (l:List Entry) (v:Int):fX tyT dE (eC 0) 11 [] GM (Su s r) frP (hK s r l v)=(s.version=s.version/\s.next=s.next/\s.keep=s.keep/\s.quota=s.quota/\(0:Int)=(0:Int)/\s.sess=s.sess/\s.opens=s.opens/\s.snaps=s.snaps/\r=r):=by kernel_rfl
noncomputable def L_:cd:=dE
theorem v_:aN Tryz.prog (ai tyT) L_:=ml
theorem vB {n k0:Nat} {G:Gl} {c:Code} {K:Exit->AFr->AH->Prop} {fr:AFr} {H:AH} {ρ0:List RE} {w0 w:World} {F:Fr} {Q:Exit->Act->World->Prop} (hG:G.shp=ai tyT) (hk:ρ0.length<=k0) (hc:di n c=true) (h:fX tyT dE (eC 0) k0 [] c K fr H)
  (hs:St G (eC 0) ρ0 w0 fr H F w) (hK:∀ e fr H F w,K e fr H->St G (eC 0) ρ0 w0 fr H F w->WX Q n e F w):WC Tryz.prog Q n c F w:=
 qJ (by rw [hG]; exact cF) (by rw [hG]; exact ml) (jN cF ml gl G n (eC 0) ρ0 w0 hG (fun i h=>by simp [eC,Nat.ble] at h)) hk c Q K fr H F w hc h hs hK
theorem NY {n m:Nat} {G:Gl} {l ops:List Oper} {K:AFr->AH->Prop} {fr:AFr} {H:AH} {ρ0:List RE} {w0 w:World} {F:Fr} {Q:Exit->Act->World->Prop} (hG:G.shp=ai tyT) (hd:gH n ops=true) (h:wpOps tyT dE (eC 0) l K m ops fr H)
  (hs:St G (eC 0) ρ0 w0 fr H F w) (hK:∀ fr H F w,K fr H->St G (eC 0) ρ0 w0 fr H F w->WX Q n .normal F w):WO Tryz.prog Q n l ops F w:=
 iA (by rw [hG]; exact cF) (by rw [hG]; exact ml) hK m ops fr H F w hd h hs
abbrev yV (L:Nat):Value:=.func (.yield L) #[] #[]
theorem iE {c:Cx} {ρ:List RE} {fr:AFr} {F:Fr} {L t:Nat} (hf:FrR c ρ fr F) (h:yP L (lookA fr t)):look F t=some (yV L):=by
 unfold yP at h
 split at h
 ·rename_i a hl
  subst h
  obtain ⟨v,h1,h2⟩:=dA hf hl
  have h2:v=yV a:=h2
  rw [h1,h2]
 ·exact h.elim
theorem qD {F F':Fr} {t:Nat} {v:Value} (h:look F t=some v) (k:∀ i u,look F' i=some u->look F i=some u):∀ i u,look ((t,v) :: F') i=some u->look F i=some u:=fun i u hu=>by
 rw [aV] at hu
 by_cases hi:t=i
 ·subst hi; rw [if_pos rfl] at hu; cases hu; exact h
 ·rw [if_neg hi] at hu; exact k i u hu
theorem FrR.rm {c:Cx} {ρ:List RE} {fr:AFr} {F:Fr} {t:Nat} {a:TV1} {v:Value} (h:ct c ρ a v) (k:FrR c ρ fr F):FrR c ρ ((t,.one a) :: fr) ((t,v) :: F):=.cons ⟨rfl,h⟩ k
theorem Rep.gw {G:Gl} {ρ:List RE} {H:AH} {w:World} {b:Nat} (h:Rep G ρ H w) (hz:G.Z b):¬ live ρ b:=fun ⟨i,r,h1,h2⟩=>(h.bnd i r b h1 h2).2.2 hz
theorem dw {w:World} {b:Nat} {o:Obj} (h:w.heap[b]? = some o):b<w.heap.size:=(Array.getElem?_eq_some_iff.1 h).1
structure PX where
 G:Gl
 D:Nat
 L:Nat
 fn:Nat
 tm:Array Value
 FP:Fr
 s:State
 l:List Entry
 v:Int
def PX.g (X:PX):Gl:=GZ X.G X.D X.L
noncomputable def PX.rc (X:PX) (st:LoopState) (pe:Option Code):Loop:={ state:=st,pending:=pe,fn:=X.fn,tmps:=X.tm,params:=#[17],assign:=zp,body:=Bv,defers:=X.D }
noncomputable def PX.hk (X:PX) (k:Nat):AH:=hK (pS X.v X.s (X.l.take k)) (pR X.v X.s (X.l.take k)) X.l X.v
abbrev PX.Z (X:PX):Nat->Prop:=fun b=>b=X.D\/b=X.L
structure Mid (X:PX) (k:Nat) (ρ:List RE) (W:World):Prop where
 rep:Rep X.g ρ (X.hk k) W
 fr:FrR (cx X.g ρ W) ρ frP X.FP
 ok:okPl X.v (X.l.take k)
 loop:W.heap[X.L]? = some (.loop (X.rc .ready none))
 dfr:W.heap[X.D]? = some (.deferred (some []))
structure Stopd (X:PX) (ρ:List RE) (W:World):Prop where
 rep:∃ H,Rep X.g ρ H W/\endE tyT [] 0 Tryz.f16 (rE (plS X.v X.s X.l) (pE X.v X.l)) (hE (plS X.v X.s X.l) (plR X.v X.s X.l)) frP H
 fr:FrR (cx X.g ρ W) ρ frP X.FP
 loop:W.heap[X.L]? = some (.loop (X.rc .done (some .ret)))
 dfr:W.heap[X.D]? = some (.deferred (some []))
theorem uc:vZ frP=true:=by decide
section
variable {X:PX} {k:Nat} {ρ ρ':List RE} {W W':World}
theorem Mid.step {ro:Lv} (h:Mid X k ρ W) (hs:Stp ro ρ W ρ' W') (hr:Rep X.g ρ' (X.hk k) W'):Mid X k ρ' W' /\ Adv X.Z ρ W ρ' W':=by
 have ha:Adv X.Z ρ W ρ' W':=.qL hs.ext hs.bx
 have hle:=ha.le (G:=X.g) (fun b hb=>.inr hb)
 exact ⟨⟨hr,h.fr.dD uc hle hs.bx,h.ok,(hs.ext.old _ (dw h.loop) (h.rep.gw (.inr (.inr rfl)))).2.trans h.loop,(hs.ext.old _ (dw h.dfr) (h.rep.gw (.inr (.inl rfl)))).2.trans h.dfr⟩,ha⟩
section
variable {s:State} {r:List Reply} {l:List Entry} {v:Int} {x:Entry}
theorem QH (h:(aR x v).some=true):eB v s x=(fk s (aR x v).c).1:=by unfold eB; rw [if_pos h]
theorem Ql (h:(aR x v).some=false):eB v s x=s:=by unfold eB; rw [if_neg (by rw [h]; decide)]
theorem QC (h:(aR x v).some=true):jy v s x=(fk s (aR x v).c).2:=by unfold jy; rw [if_pos h]
theorem PQ (h:(aR x v).some=false):jy v s x=⟨0,0⟩:=by unfold jy; rw [if_neg (by rw [h]; decide)]
theorem KQ (hr:(r.length+1)*16<=140737488355328):fX tyT dE (eC 0) 12 [] Bv (Sy s r l v x) ((10,one (.ptr 11 0)) :: frP) (hK s r l v++[hT (aR x v).c (aR x v).some (aR x v).e]):=by
 rw [Rh]
 repeat' (first | with_reducible apply bP | with_reducible refine bQ ?_ | intro)
 all_goals first | with_reducible rfl | with_reducible assumption | contradiction | (simp only [List.length_cons,List.length_nil]; omega) | (rw [QH aq]; done) | (rw [Ql aq]; done) | (rw [QC aq]; done) | (rw [PQ aq]; done)
theorem Kr {c:Command} {b:Bool} {er:Int}:fX tyT dE (eC 0) 11 [] zp (Mq 11 ((10,one (.ptr 11 0)) :: frP,hK s r l v++[hT c b er])) ((17,.one (DM c b er)) :: frP) (hK s r l v):=by
 rw [RH]
 repeat' (first | with_reducible apply bP | with_reducible refine bQ ?_ | intro)
 all_goals with_reducible rfl
end
theorem yb (hG:X.G.shp=ai tyT) (hsz:X.l.length*32<=140737488355328) (hM:M 40 X.FP { tmps:=X.tm,defers:=[] }) (hDL:X.D≠X.L) (h:Mid X k ρ W) {x:Entry} (hx:X.l[k]? = some x) {u:Value}
  (hu:ct (cx X.g ρ W) ρ (DM (aR x X.v).c (aR x X.v).some (aR x X.v).e) u) (ro:Option Nat) (m:Nat) :
  RoundIn (eG ro) m Tryz.prog X.L X.fn (X.tm.setIfInBounds 17 u) zp Bv W fun e w'=>∃ b,e = .returned b/\((b = .bool true/\∃ ρ',Mid X (k+1) ρ' w' /\ Adv X.Z ρ W ρ' w')\/(b = .bool false/\∃ ρ',Stopd X ρ' w' /\ Adv X.Z ρ W ρ' w')):=by
 refine AJ ?_
 have hGg:X.g.shp=ai tyT:=hG
 have hM1:M 40 ((17,u) :: X.FP) { tmps:=X.tm.setIfInBounds 17 u,defers:=[] }:=hM.put (d:=17) (v:=u) (by decide)
 have hlen:ρ.length=11:=h.rep.obj.length.symm
 have hkl:k<X.l.length:=(List.getElem?_eq_some_iff.1 hx).1
 refine vB hGg (Nat.le_of_eq hlen) (c:=zp) (n:=40) (by kernel_rfl) (Kr (s:=pS X.v X.s (X.l.take k)) (r:=pR X.v X.s (X.l.take k)) (l:=X.l) (v:=X.v) (c:=(aR x X.v).c) (b:=(aR x X.v).some) (er:=(aR x X.v).e)) (⟨ρ,Stp.refl _ _ _,h.rep,FrR.rm hu h.fr⟩) (fun e fr H F w1 hK hs=>?_) _ hM1
 cases e with
 | normal=>
  obtain ⟨F1,⟨ρ1,hs1,hr1,hf1⟩,hlk⟩:=ei (P:=Tryz.prog) (by rw [hGg]; exact cF) (Nat.le_of_eq hlen) hs hK
  intro a ha
  have hl1:w1.heap[X.L]? = some (.loop (X.rc .ready none)):=(hs1.ext.old _ (dw h.loop) (h.rep.gw (.inr (.inr rfl)))).2.trans h.loop
  have hd1:w1.heap[X.D]? = some (.deferred (some [])):=(hs1.ext.old _ (dw h.dfr) (h.rep.gw (.inr (.inl rfl)))).2.trans h.dfr
  refine ⟨_,run_beginRound (P:=Tryz.prog) hl1 rfl,?_,ha.1⟩
  have A1:Adv X.Z ρ W ρ1 (w1.putObj X.L (.loop { X.rc .ready none with state:=.busy })):=(Adv.qL hs1.ext hs1.bx).trans (.put _ (.inr rfl))
  have hr2:Rep X.g ρ1 (X.hk k++[hT (aR x X.v).c (aR x X.v).some (aR x X.v).e]) (w1.putObj X.L (.loop { X.rc .ready none with state:=.busy })):=hr1.yN _ (.inr (.inr rfl))
  have hl2:(w1.putObj X.L (.loop { X.rc .ready none with state:=.busy })).heap[X.L]? = some (.loop { X.rc .ready none with state:=.busy }):=World.putObj_heap_same (dw hl1)
  have hd2:(w1.putObj X.L (.loop { X.rc .ready none with state:=.busy })).heap[X.D]? = some (.deferred (some [])):=(World.putObj_heap_other hDL).trans hd1
  have hf2:FrR (cx X.g ρ1 (w1.putObj X.L (.loop { X.rc .ready none with state:=.busy }))) ρ1 ((10,one (.ptr 11 0)) :: frP) F1:=hf1.carry ((Adv.put (Z:=X.Z) _ (.inr rfl)).le (fun b hb=>.inr hb)) (gJ.refl _)
  revert A1 hr2 hl2 hd2 hf2
  generalize w1.putObj X.L (.loop { X.rc .ready none with state:=.busy })=w2
  intro A1 hr2 hl2 hd2 hf2
  have hlen1:ρ1.length=12:=hr2.obj.length.symm
  refine vB hGg (Nat.le_of_eq hlen1) (c:=Bv) (n:=40) (by kernel_rfl) (KQ (s:=pS X.v X.s (X.l.take k)) (r:=pR X.v X.s (X.l.take k)) (l:=X.l) (v:=X.v) (x:=x) (by rw [uu,List.length_take]; omega)) (⟨ρ1,Stp.refl _ _ _,hr2,hf2⟩) (fun e fr H F w3 hK hs=>?_) _ (ha.sub hlk)
  obtain ⟨ρ3,hs3,hr3,_⟩:=hs
  have hl3:w3.heap[X.L]? = _:=(hs3.ext.old _ (dw hl2) (hr2.gw (.inr (.inr rfl)))).2.trans hl2
  have hd3:w3.heap[X.D]? = _:=(hs3.ext.old _ (dw hd2) (hr2.gw (.inr (.inl rfl)))).2.trans hd2
  cases e with
  | normal=>
   obtain ⟨he,hend⟩:=hK
   obtain ⟨ρ',hr',hE',hb'⟩:=zl (P:=Tryz.prog) (ρ0:=ρ1) (w0:=w2) (by rw [hGg]; exact cF) hr3 hs3.ext hs3.bx (fun i g hi hg=>by
    have hn:=Is (b:=false) hr2 hg
    have:i=0\/i=1\/i=2\/i=3\/i=4\/i=5\/i=6\/i=7\/i=8\/i=9\/i=10:=by omega
    rcases this with rfl | rfl | rfl | rfl | rfl | rfl | rfl | rfl | rfl | rfl | rfl <;> exact hn) hend
   refine fun _ _=>⟨_,_,run_endRound (P:=Tryz.prog) none hl3,_,rfl,.inl ⟨rfl,ρ',?_⟩⟩
   have A3:Adv X.Z ρ W ρ' (w3.putObj X.L (.loop (X.rc .ready none))):=by
    have A2:Adv X.Z ρ W ρ' w3:=⟨hE'.os.trans A1.os,hE'.tape.trans A1.tape,hE'.output.trans A1.output,Nat.le_trans A1.size hE'.size,fun b hb hl=>by
     obtain ⟨h1,h2⟩:=A1.old b hb hl
     obtain ⟨h3,h4⟩:=hE'.old b (Nat.lt_of_lt_of_le hb A1.size) h1
     exact ⟨h3,fun hz=>h4.trans (h2 hz)⟩,fun i g hg=>hb' i g (by rw [<- hlen]; exact (List.getElem?_eq_some_iff.1 hg).1) (A1.bx i g hg)⟩
    exact A2.trans (.put _ (.inr rfl))
   refine ⟨⟨?_,h.fr.dD uc (A3.le fun b hb=>.inr hb) A3.bx,FH h.ok hx he,World.putObj_heap_same (dw hl3),(World.putObj_heap_other hDL).trans hd3⟩,A3⟩
   have:=hr'.yN (l:=X.L) (.loop (X.rc .ready none)) (.inr (.inr rfl))
   rw [OL hx,Ov hx] at this
   exact this
  | ret=>
   obtain ⟨he,hend⟩:=hK
   refine fun _ _=>⟨_,_,run_endRound (P:=Tryz.prog) (some .ret) hl3,_,rfl,.inr ⟨rfl,ρ3,?_⟩⟩
   have A3:Adv X.Z ρ W ρ3 (w3.putObj X.L (.loop (X.rc .done (some .ret)))):=(A1.trans (.qL hs3.ext hs3.bx)).trans (.put _ (.inr rfl))
   obtain ⟨p1,p2,p3⟩:=Ep (s:=X.s) h.ok hx he
   rw [p1,p2,p3] at hend
   exact ⟨⟨⟨_,hr3.yN _ (.inr (.inr rfl)),hend⟩,h.fr.dD uc (A3.le fun b hb=>.inr hb) A3.bx,World.putObj_heap_same (dw hl3),(World.putObj_heap_other hDL).trans hd3⟩,A3⟩
  | _=>exact hK.elim
 | _=>exact hK.elim
theorem Jf:Tryz.f60.body=some (.seq Pq (.block 0 (.loop (.seq RK (.seq Sb (.seq (.block 1 (.seq Sn (.seq RY (.seq wo JM)))) Sc)))))):=by kernel_rfl
theorem Mb:wo = .region 4 (gD wo).toArray false:=by kernel_rfl
theorem FF:JM = .cond (.tmp 28) .ret .skip:=by kernel_rfl
noncomputable def It (k:Nat):Oper:=(gD wo).getD k ⟨none,.move (.tmp 0),0,"",#[],none⟩
noncomputable def RU:Array TypeId:=match (It 5).op with
 | .call c=>c.argTypes
 | _=>#[]
noncomputable def To:TypeId:=match (It 6).op with
 | .unOp _ t _=>t
 | _=>0
theorem QV:gD wo=(gD wo).take 5++(⟨some 27,.call ⟨.value (.tmp 22),#[.tmp 26],RU⟩,(It 5).type,(It 5).pos,(It 5).after,none⟩ :: (gD wo).drop 6):=by kernel_rfl
theorem QN:(gD wo).drop 6=[⟨some 28,.unOp .not To (.tmp 27),(It 6).type,(It 6).pos,(It 6).after,none⟩]:=by kernel_rfl
theorem uW {P:Program} {n:Nat} {F:Fr} {w:World} {L:Nat} {rl:Loop} {u:Value} {tys:Array TypeId} {ty:TypeId} (h22:look F 22=some (yV L)) (h26:look F 26=some u) (hl:w.heap[L]? = some (.loop rl)) (hp:rl.params = #[17]) (a:Act) (d:Option Tmp) (pos:String) (af:Array Edge) (g:Option (Nat × Bool)) (ha:M n F a) :
  (execOp a.eval ⟨d,.call ⟨.value (.tmp 22),#[.tmp 26],tys⟩,ty,pos,af,g⟩).run P w = .ok (.round L rl.fn (rl.tmps.setIfInBounds 17 u) rl.assign rl.body) w:=by
 have e1:a.eval (.tmp 22)=yV L:=ha.ev (x:=.tmp 22) h22
 have e2:a.eval (.tmp 26)=u:=ha.ev (x:=.tmp 26) h26
 have hy:=run_yield (P:=P) (args:=#[u]) hl (by rw [hp]; rfl)
 simp [execOp,resolve,e1,e2,Deferred.ofValue,invoke,hy,hp]
theorem FK {F F':Fr} {t:Nat} {v:Value} (k:∀ i u,look F' i=some u->look F i=some u):∀ i u,look ((t,v) :: F') i=some u->look ((t,v) :: F) i=some u:=fun i u hu=>by
 rw [aV] at hu ⊢
 split
 ·rename_i h; rw [if_pos h] at hu; exact hu
 ·rename_i h; rw [if_neg h] at hu; exact k i u hu
section
variable {s:State} {r:List Reply} {l:List Entry} {v:Int} {L:Nat}
theorem Mc:fX tyT dE (eC 0) 11 [] Pq (QA L (II l 0,hK s r l v)) [(0,one (.yl L)),(1,one (.ptr 5 0)),(2,one (.ptr 6 0))] (hK s r l v):=by
 rw [PW]
 repeat' (first | with_reducible apply bP | with_reducible refine bQ ?_ | intro)
 all_goals first | with_reducible rfl | rfl
theorem Je {k:Nat}:fX tyT dE (eC 0) 11 [] RK (Ob L s r l v k) ((0,one (.yl L)) :: II l k) (hK s r l v):=by
 rw [Pu]
 repeat' (first | with_reducible apply bP | with_reducible refine bQ ?_ | intro)
 all_goals try (refine ⟨_,by with_reducible assumption,?_⟩)
 repeat' (first | with_reducible apply bP | with_reducible refine bQ ?_ | intro)
 all_goals first | with_reducible rfl | omega | rfl
theorem Ke {k:Nat} {c:Command} {b:Bool} {er:Int} (hk:k<4611686018427387904):wpOps tyT dE (eC 0) (gD wo) (Ss L s r l v k) 2 ((gD wo).drop 6) ((27,one (.bool (.lit true))) :: (0,one (.yl L)) :: QS l k c b er) (hK s r l v):=by
 rw [QU]
 repeat' (first | with_reducible apply bP | with_reducible refine bQ ?_ | intro)
 all_goals first | with_reducible rfl | omega | (refine eX ?_ ?_ <;> omega) | rfl
end
def Ld (y:Code) (k0:Nat) (K:Exit->AFr->AH->Prop):Exit->AFr->AH->Prop
 | .normal,fr,H=>fX tyT dE (eC 0) k0 [] y K fr H
 | e,fr,H=>K e fr H
theorem jZ {x y:Code} {k0:Nat} {K:Exit->AFr->AH->Prop} {fr:AFr} {H:AH} (h:fX tyT dE (eC 0) k0 [] (.seq x y) K fr H):fX tyT dE (eC 0) k0 [] x (Ld y k0 K) fr H:=by
 have e:Ld y k0 K=fun e fr H=>(match e with | .normal=>fX tyT dE (eC 0) k0 [] y K fr H | e=>K e fr H):=by funext e fr H; cases e <;> rfl
 rw [e]; exact h
def PX.Out (X:PX) (ρ:List RE) (W:World) (_:Value) (w':World):Prop:=∃ ρ',Adv X.Z ρ W ρ' w' /\ ((∃ k,X.l.length<=k/\Mid X k ρ' w')\/Stopd X ρ' w')
theorem WO.of_eq {P:Program} {Q:Exit->Act->World->Prop} {n:Nat} {l r r':List Oper} {F:Fr} {w:World} (e:r=r') (h:WO P Q n l r' F w):WO P Q n l r F w:=e ▸ h
theorem At (hG:X.G.shp=ai tyT) (hsz:X.l.length*32<=140737488355328) (hM:M 40 X.FP { tmps:=X.tm,defers:=[] }) (hDL:X.D≠X.L) (h:Mid X 0 ρ W) {p8 p9:Value} (h8:dH ρ (5,0) p8) (h9:dH ρ (6,0) p9) :
  gI Tryz.prog 60 #[yV X.L,p8,p9] W (X.Out ρ W):=by
 have hGg:X.g.shp=ai tyT:=hG
 have hlen:ρ.length=11:=h.rep.obj.length.symm
 refine gI.enter (args:=[yV X.L,p8,p9]) (n:=30) Tryz.func60 Jf rfl rfl rfl ?_
 refine WC.seq (vB hGg (Nat.le_of_eq hlen) (by kernel_rfl) Mc (⟨ρ,Stp.refl _ _ _,h.rep,FrR.rm (a:=.c (.yl X.L)) rfl (FrR.rm (a:=.c (.ptr 5 0)) h8 (FrR.rm (a:=.c (.ptr 6 0)) h9 .nil))⟩) fun e fr H F w hK hs=>?_)
 cases e with
 | normal=>
  obtain ⟨hy,he⟩:=hK
  have hy0:look F 0=some (yV X.L):=by obtain ⟨_,_,_,hf⟩:=hs; exact iE hf hy
  obtain ⟨F1,⟨ρ1,hs1,hr1,hf1⟩,hlk⟩:=ei (P:=Tryz.prog) (by rw [hGg]; exact cF) (Nat.le_of_eq hlen) hs he
  refine WX.next (WC.block fun a ha=>?_)
  refine rH (fun a w k=>∃ ρ' F',M 30 F' a/\Mid X k ρ' w/\FrR (cx X.g ρ' w) ρ' ((0,one (.yl X.L)) :: II X.l k) F' /\ k<=X.l.length/\Adv X.Z ρ W ρ' w) (fun k=>X.l.length - k) 0 ⟨ρ1,(0,yV X.L) :: F1,ha.sub (qD hy0 hlk),(h.step hs1 hr1).1,FrR.rm (a:=.c (.yl X.L)) rfl hf1,Nat.zero_le _,(h.step hs1 hr1).2⟩ fun k a w hD=>?_
  obtain ⟨ρ',F',hM',hmid,hfr,hk,hadv⟩:=hD
  have hlen':ρ'.length=11:=hmid.rep.obj.length.symm
  refine (WC.seq (vB hGg (Nat.le_of_eq hlen') (by kernel_rfl) (Je (L:=X.L) (k:=k)) (⟨ρ',Stp.refl _ _ _,hmid.rep,hfr⟩) fun e fr H F w2 hK hs=>?_)) a hM'
  cases e with
  | normal=>
   refine WX.next (WC.seq (vB hGg (Nat.le_of_eq hlen') (by kernel_rfl) hK hs fun e fr H F w2 hK hs=>?_))
   cases e with
   | exit j=>
    obtain ⟨rfl,hle,hy,he⟩:=hK
    obtain ⟨F2,⟨ρ2,hs2,hr2,hf2⟩,hlk2⟩:=ei (P:=Tryz.prog) (by rw [hGg]; exact cF) (Nat.le_of_eq hlen') hs he
    obtain ⟨hm2,ha2⟩:=hmid.step hs2 hr2
    have hφ:X.Out ρ W (.tuple #[]) w2:=⟨ρ2,hadv.trans ha2,.inl ⟨k,hle,hm2⟩⟩
    have hh:=WX.KA (id:=0) (WX.Lq (WX.OP (n:=30) (fr:=F) (P:=Tryz.prog) (fn:=Tryz.f60) (φ:=X.Out ρ W) rfl hφ))
    exact fun a ha=>hh a ha
   | normal=>
    refine WX.next (WC.seq (WC.block (WC.seq (vB hGg (Nat.le_of_eq hlen') (by kernel_rfl) (jZ hK) hs fun e fr H F w2 hK hs=>?_))))
    cases e with
    | normal=>
     refine WX.next (WC.seq (vB hGg (Nat.le_of_eq hlen') (by kernel_rfl) hK hs fun e fr H F w2 hK hs=>?_))
     cases e with
     | normal=>
      refine WX.next (WC.seq ?_)
      rw [Mb]
      refine WC.region ?_
      refine WO.of_eq QV (WO.app (NY hGg (by kernel_rfl) hK hs fun fr H F w3 hK hs=>?_))
      intro a ha
      obtain ⟨x,hx,hy,hy22,he⟩:=hK
      have hy0:look F 0=some (yV X.L):=by obtain ⟨_,_,_,hf⟩:=hs; exact iE hf hy
      have h22:look F 22=some (yV X.L):=by obtain ⟨_,_,_,hf⟩:=hs; exact iE hf hy22
      obtain ⟨F2,⟨ρ2,hs2,hr2,hf2⟩,hlk2⟩:=ei (P:=Tryz.prog) (by rw [hGg]; exact cF) (Nat.le_of_eq hlen') hs he
      obtain ⟨hm2,ha2⟩:=hmid.step hs2 hr2
      obtain ⟨u,hu26,hu⟩:=dA (i:=26) (tv:=.one (DM (aR x X.v).c (aR x X.v).some (aR x X.v).e)) hf2 rfl
      have hkl:k<X.l.length:=(List.getElem?_eq_some_iff.1 hx).1
      refine WO.yield (L:=X.L) (f:=X.fn) (tmps:=X.tm.setIfInBounds 17 u) (assign:=zp) (body:=Bv) (fun a d pos af g ha=>uW h22 (hlk2 _ _ hu26) hm2.loop rfl a d pos af g ha) rfl (fun ro m=>yb hG hsz hM hDL hm2 hx hu ro m) (fun b w4 hb=>?_) a ha
      rcases hb with ⟨rfl,ρ4,hm4,ha4⟩ | ⟨rfl,ρ4,hst4,ha4⟩
      ·intro a ha
       have hf4:=FrR.rm (t:=0) (a:=.c (.yl X.L)) (v:=yV X.L) rfl (hf2.dD rfl (ha4.le fun b hb=>.inr hb) ha4.bx)
       have hlen4:ρ4.length=11:=hm4.rep.obj.length.symm
       refine (NY hGg (by kernel_rfl) (Ke (L:=X.L) (k:=k) (by omega)) (⟨ρ4,Stp.refl _ _ _,hm4.rep,FrR.rm (t:=27) (a:=.c (.bool (.lit true))) (Pd.bool (e:=.lit true)) hf4⟩) fun fr H F w5 hK hs=>?_) a (ha.sub (FK (qD hy0 hlk2)))
       refine WX.next (vB hGg (Nat.le_of_eq hlen4) (by kernel_rfl) (jZ hK) hs fun e fr H F w6 hK hs=>?_)
       cases e with
       | normal=>
        refine WX.xR (WX.next (vB hGg (Nat.le_of_eq hlen4) (by kernel_rfl) hK hs fun e fr H F w7 hK hs=>?_))
        cases e with
        | normal=>
         obtain ⟨hy,he⟩:=hK
         have hy0:look F 0=some (yV X.L):=by obtain ⟨_,_,_,hf⟩:=hs; exact iE hf hy
         obtain ⟨F7,⟨ρ7,hs7,hr7,hf7⟩,hlk7⟩:=ei (P:=Tryz.prog) (by rw [hGg]; exact cF) (Nat.le_of_eq hlen4) hs he
         obtain ⟨hm7,ha7⟩:=hm4.step hs7 hr7
         exact fun a ha=>⟨k+1,⟨ρ7,(0,yV X.L) :: F7,ha.sub (qD hy0 hlk7),hm7,FrR.rm (a:=.c (.yl X.L)) rfl hf7,hkl,((hadv.trans ha2).trans ha4).trans ha7⟩,by omega⟩
        | _=>exact hK.elim
       | _=>exact hK.elim
      ·have hφ:X.Out ρ W (.tuple #[]) w4:=⟨ρ4,(hadv.trans ha2).trans ha4,.inr hst4⟩
       refine WO.of_eq QN (WO.v (R.not (b:=false) rfl) rfl (WO.nil (WX.next ?_)))
       rw [FF]
       exact WC.wG rfl (WC.ret (WX.OP (P:=Tryz.prog) (fn:=Tryz.f60) (φ:=X.Out ρ W) rfl hφ))
     | _=>exact hK.elim
    | _=>exact hK.elim
   | _=>exact hK.elim
  | _=>exact hK.elim
 | _=>exact hK.elim
end
theorem Jz:Tryz.f16.body=some (.seq Og (.seq Np (.seq Nh (.seq (.seq ME (.block 0 (.rangeFunc (.tmp 16) #[17] zp Bv))) GM)))):=by kernel_rfl
theorem IX {n:Nat} {args:List Value} (hle:args.length<=n):M n (ow 0 args) { tmps:=args.toArray++Array.replicate (n - args.toArray.size) undef,defers:=[] }:=by
 refine ⟨rfl,?_,fun i v hv=>?_⟩
 ·simp; omega
 ·rw [nQ] at hv
  obtain ⟨_,h2⟩:=nB args 0 i v hv
  rw [Nat.sub_zero] at h2
  have hi:i<args.length:=(List.getElem?_eq_some_iff.1 h2).1
  refine ⟨by omega,?_⟩
  have h3:args[i]=v:=by rw [List.getElem?_eq_getElem hi] at h2; exact Option.some.inj h2
  simp [Array.getD,hi,h3]
  omega
def wL (G:Gl) (w0:World) (s:State) (l:List Entry) (v:Int) (u:Value) (w':World):Prop:=
 ∃ us,u=sC us/\∃ ρ',Rep G ρ' (hE (plS v s l) (plR v s l)) w' /\ Ext [] w0 ρ' w' /\ All2 (ct (cx G ρ' w') ρ') (rE (plS v s l) (pE v l)) us/\Kp [] w0 w'
section
variable {X:PX} {ρ1 ρ':List RE} {w0 W1 w4:World} {H:AH} {a:Act}
theorem Bo {fr:AFr} {F:Fr} (hG:X.G.shp=ai tyT) (hz:∀ x,X.G.Z x->x<w0.heap.size) (hD:w0.heap.size<=X.D) (hDL:X.D<X.L) (hR:Rep X.g ρ' H w4) (hf:FrR (cx X.g ρ' w4) ρ' fr F) (hM:M 40 F a)
  (hend:endE tyT [] 0 Tryz.f16 (rE (plS X.v X.s X.l) (pE X.v X.l)) (hE (plS X.v X.s X.l) (plR X.v X.s X.l)) fr H) (hd:w4.heap[X.D]? = some (.deferred (some []))) (hE:Ext [] w0 ρ1 W1) (hA:Adv X.Z ρ1 W1 ρ' w4) :
  ∃ w',(Instr.takeDeferred X.D).run Tryz.prog w4 = .ok [] w' /\ ∃ u,(results Tryz.f16 a.tmps).run Tryz.prog w' = .ok u w' /\ wL X.G w0 X.s X.l X.v u w':=by
 refine ⟨_,run_takeDeferred (P:=Tryz.prog) hd,?_⟩
 have hR5:=hR.yN (l:=X.D) (.deferred none) (.inr (.inl rfl))
 have hsz:(w4.putObj X.D (.deferred none)).heap.size=w4.heap.size:=by simp
 have h04:w0.heap.size<=w4.heap.size:=Nat.le_trans hE.size hA.size
 obtain ⟨hR6,hle⟩:=hR5.leave (fun x hx=>Nat.lt_of_lt_of_le (hz x hx) (by rw [hsz]; exact h04))
 have hle2:(cx X.g ρ' w4).le (cx X.G ρ' (w4.putObj X.D (.deferred none))):=((Adv.put (Z:=X.Z) (ρ:=ρ') (w:=w4) (.deferred none) (.inl rfl)).le (G:=X.g) (fun b hb=>.inr hb)).trans hle
 have hf6:=hf.carry hle2 (gJ.refl _)
 have hE6:Ext [] w0 ρ' (w4.putObj X.D (.deferred none)):=⟨hA.os.trans hE.os,hA.tape.trans hE.tape,hA.output.trans hE.output,by rw [hsz]; exact h04,fun b hb hl=>by
  obtain ⟨h1,h2⟩:=hE.old b hb hl
  obtain ⟨h3,h4⟩:=hA.old b (Nat.lt_of_lt_of_le hb hE.size) h1
  have hbD:b≠X.D:=by omega
  exact ⟨h3,(World.putObj_heap_other hbD).trans ((h4 (fun hz=>by rcases hz with hz | hz <;> omega)).trans h2)⟩⟩
 unfold endE IV at hend
 split at hend
 ·rename_i l hl
  obtain ⟨us,h1,h2⟩:=gS (by rw [hG]; exact cF) hR6 hf6 hM hl
  replace hend:=dm.1 hend
  refine ⟨_,h2,us,rfl,_,jH (P:=Tryz.prog) (by rw [hG]; exact cF) hR6 rfl (bO.1 fun p hp=>hend p (List.mem_append_left _ (List.mem_append_left _ hp))) fun p hp=>hend p (List.mem_append_right _ hp),jS hE6,j_ hR6 rfl h1 fun p hp=>hend p (List.mem_append_left _ (List.mem_append_right _ hp)),?_⟩
  exact ⟨hE6.os,hE6.tape,hE6.output,hE6.size,fun b hb _=>(hE6.old b hb (fun ⟨i,r,h,_⟩=>by simp at h)).2⟩
 ·exact (show False from hend).elim
end
theorem KN {s:State} {r:List Reply} {l:List Entry} {v:Int}:fX tyT dE (eC 0) 11 [] GM (Su s r) frP (hK s r l v):=by
 rw [QJ]
 repeat' (first | with_reducible apply bP | with_reducible refine bQ ?_ | intro)
 all_goals with_reducible rfl
theorem Wq.go {l:List Prop} {R:Prop} (k:∀ p ∈ l,p) (h:Wq (gR l R)):Wq R:=⟨df.1 h.h k⟩
theorem Wq.seq {x y:Code} {k0:Nat} {K:Exit->AFr->AH->Prop} {fr:AFr} {H:AH} (h:Wq (fX tyT dE (eC 0) k0 [] (.seq x y) K fr H)):Wq (fX tyT dE (eC 0) k0 [] x (Ld y k0 K) fr H):=⟨jZ h.h⟩
theorem PD {n k0:Nat} {G:Gl} {c:Code} {K:Exit->AFr->AH->Prop} {fr:AFr} {H:AH} {ρ0:List RE} {w0 w:World} {F:Fr} {Q:Exit->Act->World->Prop} (hG:G.shp=ai tyT) (hk:ρ0.length<=k0) (hc:di n c=true) (h:Wq (fX tyT dE (eC 0) k0 [] c K fr H))
  (hs:St G (eC 0) ρ0 w0 fr H F w) (hK:∀ e fr H F w,K e fr H->St G (eC 0) ρ0 w0 fr H F w->WX Q n e F w):WC Tryz.prog Q n c F w:=vB hG hk hc h.h hs hK
theorem JB {s:State} {l:List Entry} {v:Int}:Wq (gR (wB [.agg (cellsOf (.nm .state) s),.c (.fz (.nm .entry) l),.c (.int v)]) (fX tyT dE (eC 0) 0 [] (.seq Og (.seq Np (.seq Nh ME))) (Mq 0 (frP,hK s [] l v)) (lA 0 [.agg (cellsOf (.nm .state) s),.c (.fz (.nm .entry) l),.c (.int v)]) [])):=by
 refine ⟨?_⟩
 rw [Qs]
 repeat' (first | with_reducible apply bP | with_reducible refine bQ ?_ | intro)
 all_goals with_reducible rfl
theorem Lf {s:State} {l:List Entry} {v:Int} (h:∀ p ∈ wB [.agg (cellsOf (.nm .state) s),.c (.fz (.nm .entry) l),.c (.int v)],p):Wq (fX tyT dE (eC 0) 0 [] (.seq Og (.seq Np (.seq Nh ME))) (Mq 0 (frP,hK s [] l v)) (lA 0 [.agg (cellsOf (.nm .state) s),.c (.fz (.nm .entry) l),.c (.int v)]) []):=by
 have h1:=@JB s l v
 revert h1 h
 generalize wB [.agg (cellsOf (.nm .state) s),.c (.fz (.nm .entry) l),.c (.int v)]=L
 generalize fX tyT dE (eC 0) 0 [] (.seq Og (.seq Np (.seq Nh ME))) (Mq 0 (frP,hK s [] l v)) (lA 0 [.agg (cellsOf (.nm .state) s),.c (.fz (.nm .entry) l),.c (.int v)]) []=R
 intro h h1
 exact Wq.go h h1
theorem Dn {G:Gl} {ρ:List RE} {w:World} {vs:List Value} {s:State} {l:List Entry} {v:Int} (hG:G.shp=ai tyT) (hR:Rep G ρ [] w) (hvs:All2 (ct (cx G ρ w) ρ) [.agg (cellsOf (.nm .state) s),.c (.fz (.nm .entry) l),.c (.int v)] vs) :
  gI Tryz.prog 16 vs.toArray w (wL G w s l v):=by
 have hok:=EW.jo hvs
 have hsz:l.length*32<=140737488355328:=by
  have:l.length*Sh.bytes (.nm .entry)<=140737488355328:=hok _ (by simp [wB,TV1.ok,AV.ok])
  exact this
 have hρ:ρ=[]:=List.eq_nil_of_length_eq_zero hR.obj.length.symm
 subst hρ
 have hl3:vs.length=3:=hvs.length.symm
 refine (callsIn_wide (n:=0)).1 (callsIn_of_wp_marks (F:=eG none) (n:=0) Tryz.func16 Jz trivial ?_)
 have hM0:=IX (n:=40) (args:=vs) (by omega)
 have h0:([]:List RE).length<=0:=Nat.le_refl 0
 refine wpIn_seq (gK.Mp rfl ((PD (n:=40) hG h0 (by kernel_rfl) (Wq.seq (Lf hok)) (⟨[],Stp.refl _ _ _,hR,jr hvs⟩) fun e fr H F w1 hK hs=>?_) _ hM0))
 cases e with
 | normal=>
  intro a ha
  refine wpIn_seq (gK.Mp ha.1 ((vB (n:=40) hG h0 (by kernel_rfl) (jZ hK) hs fun e fr H F w1 hK hs=>?_) _ ha))
  cases e with
  | normal=>
   intro a ha
   refine wpIn_seq (gK.Mp ha.1 ((vB (n:=40) hG h0 (by kernel_rfl) (jZ hK) hs fun e fr H F w1 hK hs=>?_) _ ha))
   cases e with
   | normal=>
    intro a ha
    refine wpIn_seq (wpIn_seq (gK.Mp ha.1 ((vB (n:=40) hG h0 (by kernel_rfl) hK hs fun e fr H F w1 hK hs=>?_) _ ha)))
    cases e with
    | normal=>
     obtain ⟨F1,⟨ρ1,hs1,hr1,hf1⟩,hlk⟩:=ei (P:=Tryz.prog) (by rw [hG]; exact cF) h0 hs hK
     intro a ha0
     have ha:=ha0.sub hlk
     refine wpIn_block (wpIn_rangeFunc fun fn hfn=>?_)
     have hae:a={ tmps:=a.tmps,defers:=[] }:=by rw [<- ha.1]
     obtain ⟨vg,hg1,hg2⟩:=dA (i:=16) (tv:=one (.fn 60 [] [(5,0),(6,0)])) hf1 rfl
     obtain ⟨bs,us,hb,hu,rfl⟩:=hg2
     cases hb
     cases hu with | cons h8 hu=>
     cases hu with | cons h9 hu=>
     cases hu
     rename_i p8 p9
     have hg:a.eval (.tmp 16) = .func (.func 60) #[] #[p8,p9]:=ha.ev (x:=.tmp 16) hg1
     obtain ⟨X,hX⟩:∃ X:PX,X=⟨G,w1.heap.size,w1.heap.size+1,fn,a.tmps,F1,s,l,v⟩:=⟨_,rfl⟩
     have hXD:X.D=w1.heap.size:=by rw [hX]
     have hXL:X.L=w1.heap.size+1:=by rw [hX]
     obtain ⟨hre,hle,hk⟩:=hr1.enter (.deferred (some [])) (.loop (X.rc .ready none))
     have hsz2:((w1.alloc (.deferred (some []))).alloc (.loop (X.rc .ready none))).heap.size=w1.heap.size+1+1:=by simp
     have hmid:Mid X 0 ρ1 ((w1.alloc (.deferred (some []))).alloc (.loop (X.rc .ready none))):=by
      refine ⟨?_,?_,fun x hx=>by simp at hx,?_,?_⟩
      ·have:Rep (GZ G w1.heap.size (w1.heap.size+1)) ρ1 (Go.Proofs.YtladifkbefehdaaGreat.hK s [] l v) ((w1.alloc (.deferred (some []))).alloc (.loop (X.rc .ready none))):=hre
       rw [hX] at this ⊢; exact this
      ·have:=hf1.carry hle (gJ.refl _)
       rw [hX] at this ⊢; exact this
      ·rw [hXL]
       have:=World.alloc_heap_new (w1.alloc (.deferred (some []))) (.loop (X.rc .ready none))
       rwa [World.size_alloc] at this
      ·rw [hXD]
       exact (Below.heap_alloc _ _ _ (by simp)).trans (World.alloc_heap_new w1 _)
     have hGX:X.G.shp=ai tyT:=by rw [hX]; exact hG
     have hGgX:X.g.shp=ai tyT:=hGX
     have hlX:X.l=l:=by rw [hX]
     have hMX:M 40 X.FP { tmps:=X.tm,defers:=[] }:=by rw [hX]; rw [hae] at ha; exact ha
     have hMa:M 40 X.FP a:=by rw [hX]; exact ha
     have h8':dH ρ1 (5,0) p8:=h8
     have h9':dH ρ1 (6,0) p9:=h9
     have hit:=At hGX (by rw [hlX]; exact hsz) hMX (by rw [hXD,hXL]; omega) hmid h8' h9'
     have hE1:Ext [] w ρ1 ((w1.alloc (.deferred (some []))).alloc (.loop (X.rc .ready none))):=hs1.ext.trans (Ext.kp hk)
     have hfin:∀ {ρ':List RE} {w4:World} {H:AH} {b:Act} {fr:AFr} {F:Fr},Rep X.g ρ' H w4->FrR (cx X.g ρ' w4) ρ' fr F->M 40 F b->endE tyT [] 0 Tryz.f16 (rE (plS X.v X.s X.l) (pE X.v X.l)) (hE (plS X.v X.s X.l) (plR X.v X.s X.l)) fr H->w4.heap[X.D]? = some (.deferred (some [])) ->
       Adv X.Z ρ1 ((w1.alloc (.deferred (some []))).alloc (.loop (X.rc .ready none))) ρ' w4->bodyPostM (eG none) 0 Tryz.prog Tryz.f16 (fun e w'=>∃ u,e = .returned u/\wL G w s l v u w') .ret (fG b [{ target:=.collected X.D,args:=#[] }]) w4:=fun hR4 hf4 hMb hend hd4 hA4=>by
      obtain ⟨w',ht,u,hu,ho⟩:=Bo (w0:=w) hGX (by rw [hX]; exact hR.z) (by rw [hXD]; exact hs1.ext.size) (by rw [hXD,hXL]; omega) hR4 hf4 hMb hend hd4 hE1 hA4
      rw [hX] at ho
      exact ⟨by simp,.inl ⟨_,w',rfl,ht,u,hu,u,rfl,ho⟩⟩
     refine ⟨w1.heap.size+1,[{ target:=.collected w1.heap.size,args:=#[] }],(w1.alloc (.deferred (some []))).alloc (.loop { state:=.ready,pending:=none,fn:=fn,tmps:=a.tmps,params:=#[17],assign:=zp,body:=Bv,defers:=w1.heap.size }),{ target:=.fn (.func 60) #[p8,p9],args:=#[yV (w1.heap.size+1)] },(w1.alloc (.deferred (some []))).alloc (.loop { state:=.ready,pending:=none,fn:=fn,tmps:=a.tmps,params:=#[17],assign:=zp,body:=Bv,defers:=w1.heap.size }),60,#[yV (w1.heap.size+1)] ++ #[p8,p9],(w1.alloc (.deferred (some []))).alloc (.loop { state:=.ready,pending:=none,fn:=fn,tmps:=a.tmps,params:=#[17],assign:=zp,body:=Bv,defers:=w1.heap.size }),run_enterLoop_outer _ _ _ _ _,?_,fun _ _=>trivial,?_,fun h=>(by cases h),?_⟩
     ·simp only [resolve,hg]
      simp [go_sem]
     ·simp [invoke,go_sem]
     ·have hrc:({ state:=.ready,pending:=none,fn:=fn,tmps:=a.tmps,params:=#[17],assign:=zp,body:=Bv,defers:=w1.heap.size }:Loop)=X.rc .ready none:=by rw [hX]; rfl
      rw [hrc,<- hXL]
      refine zg (Calls.mono hit fun e w2 ⟨v0,he,ρ2,hA2,hc⟩=>?_)
      subst he
      rcases hc with ⟨k,hk,hm⟩ | hst
      ·refine ⟨none,_,run_endLoop (P:=Tryz.prog) hm.loop (by simp [PX.rc]),?_⟩
       obtain ⟨p1,p2,p3⟩:=Jx (s:=X.s) hm.ok hk
       have hRm:=hm.rep.yN (l:=X.L) (.loop { X.rc .ready none with state:=.exhausted }) (.inr (.inr rfl))
       have A2:Adv X.Z ρ1 _ ρ2 (w2.putObj X.L (.loop { X.rc .ready none with state:=.exhausted })):=hA2.trans (.put _ (.inr rfl))
       have hfm:FrR (cx X.g ρ2 (w2.putObj X.L (.loop { X.rc .ready none with state:=.exhausted }))) ρ2 frP X.FP:=hm.fr.carry ((Adv.put (Z:=X.Z) (ρ:=ρ2) (w:=w2) _ (.inr rfl)).le (G:=X.g) (fun b hb=>.inr hb)) (gJ.refl _)
       have hdm:(w2.putObj X.L (.loop { X.rc .ready none with state:=.exhausted })).heap[X.D]? = some (.deferred (some [])):=(World.putObj_heap_other (by rw [hXD,hXL]; omega)).trans hm.dfr
       have hlen2:ρ2.length=11:=hm.rep.obj.length.symm
       revert hRm A2 hfm hdm
       generalize w2.putObj X.L (.loop { X.rc .ready none with state:=.exhausted })=w4
       intro hRm A2 hfm hdm
       have hwc:WC Tryz.prog (fun e b w5=>e = .ret/\bodyPostM (eG none) 0 Tryz.prog Tryz.f16 (fun e w'=>∃ u,e = .returned u/\wL G w s l v u w') .ret (fG b [{ target:=.collected X.D,args:=#[] }]) w5) 40 GM X.FP w4:=by
        refine vB hGgX (Nat.le_of_eq hlen2) (by kernel_rfl) (KN (s:=pS X.v X.s (X.l.take k)) (r:=pR X.v X.s (X.l.take k)) (l:=X.l) (v:=X.v)) (⟨ρ2,Stp.refl _ _ _,hRm,hfm⟩) fun e fr H F w5 hK hs=>?_
        cases e with
        | ret=>
         obtain ⟨ρ5,hs5,hr5,hf5⟩:=hs
         have hd5:w5.heap[X.D]? = some (.deferred (some [])):=(hs5.ext.old _ (dw hdm) (hRm.gw (.inr (.inl rfl)))).2.trans hdm
         have hend:endE tyT [] 0 Tryz.f16 (rE (pS X.v X.s (X.l.take k)) 0) (hE (pS X.v X.s (X.l.take k)) (pR X.v X.s (X.l.take k))) fr H:=hK
         rw [p1,p2,p3] at hend
         exact fun b hb=>⟨rfl,hfin hr5 hf5 hb hend hd5 (A2.trans (.qL hs5.ext hs5.bx))⟩
        | _=>exact hK.elim
       have hwi:=zU (m:=0) (hwc a hMa none [{ target:=.collected X.D,args:=#[] }])
       rw [hXD] at hwi
       have hadf:({ a with defers:=[{ target:=.collected w1.heap.size,args:=#[] }]++a.defers }:Act)=fG a [{ target:=.collected w1.heap.size,args:=#[] }]:=by rw [ha.1]; rfl
       show Exit.inBlock 0 _ .normal _ w4
       rw [hadf]
       refine wpIn_mono hwi fun e b w5 ⟨b0,hb0,hbe,hbr,hpost⟩=>?_
       subst hbr; subst hbe
       exact hpost
      ·refine ⟨some .ret,_,run_endLoop (P:=Tryz.prog) hst.loop (by simp [PX.rc]),?_⟩
       obtain ⟨H,hR,hend⟩:=hst.rep
       have A2:Adv X.Z ρ1 _ ρ2 (w2.putObj X.L (.loop { X.rc .done (some .ret) with state:=.exhausted })):=hA2.trans (.put _ (.inr rfl))
       have hfm:FrR (cx X.g ρ2 (w2.putObj X.L (.loop { X.rc .done (some .ret) with state:=.exhausted }))) ρ2 frP X.FP:=hst.fr.carry ((Adv.put (Z:=X.Z) (ρ:=ρ2) (w:=w2) _ (.inr rfl)).le (G:=X.g) (fun b hb=>.inr hb)) (gJ.refl _)
       have hdm:(w2.putObj X.L (.loop { X.rc .done (some .ret) with state:=.exhausted })).heap[X.D]? = some (.deferred (some [])):=(World.putObj_heap_other (by rw [hXD,hXL]; omega)).trans hst.dfr
       have hp:=hfin (hR.yN _ (.inr (.inr rfl))) hfm hMa hend hdm A2
       have hadf:({ a with defers:=[{ target:=.collected w1.heap.size,args:=#[] }]++a.defers }:Act)=fG a [{ target:=.collected w1.heap.size,args:=#[] }]:=by rw [ha.1]; rfl
       rw [hXD] at hp
       show Code.ret.wpIn _ _ _ _ _ _
       rw [hadf]
       exact wpIn_ret hp
    | _=>exact hK.elim
   | _=>exact hK.elim
  | _=>exact hK.elim
 | _=>exact hK.elim
theorem Cr (s:State) (l:List Entry) (v:Int):Sat Tryz.prog (ai tyT) 16 [.agg (cellsOf (.nm .state) s),.c (.fz (.nm .entry) l),.c (.int v)] [] ⟨[],rE (plS v s l) (pE v l),some (hE (plS v s l) (plR v s l)),true⟩:=by
 refine ⟨⟨_,Tryz.func16,by decide,by kernel_rfl⟩,fun G ρ w vs hG hR hvs=>?_⟩
 have hρ:ρ=[]:=List.eq_nil_of_length_eq_zero hR.obj.length.symm
 subst hρ
 refine (Dn hG hR hvs).mono fun u w' ⟨us,e,ρ',h1,h2,h3,h4⟩=>⟨us,e,ρ',h1,h2,fun i g h=>by simp at h,h3,fun _=>⟨h4,fun i r h=>by simp at h⟩⟩
section
variable {v:Int} {s:State} {l:List Entry} {k:Nat} {x:Entry}
end
def kE (x:Entry):Entry:=⟨x.term,x.b.take 100⟩
def CQ (l:List Entry):List Entry:=(l.take 40).map kE
theorem Qt {l:List Entry} {k:Nat} {x:Entry} (hx:l[k]? = some x) (_:100<x.b.length):(l.take k).map kE++[Entry.mk x.term (x.b.take 100)]=(l.take (k+1)).map kE:=by
 rw [ax hx,List.map_append]; rfl
theorem RJ {l:List Entry} {k:Nat} {x:Entry} (hx:l[k]? = some x) (h:x.b.length<=100):(l.take k).map kE++[x]=(l.take (k+1)).map kE:=by
 have e:kE x=x:=by unfold kE; rw [List.take_of_length_le h]
 rw [ax hx,List.map_append,List.map_singleton,e]
theorem Qv {l:List Entry} {k:Nat} (h:k<=40) (h2:(l.length:Int)<=k\/40<=(k:Int)):(l.take k).map kE=CQ l:=by
 unfold CQ
 by_cases e:k=40
 ·rw [e]
 ·rw [List.take_of_length_le (by omega),List.take_of_length_le (by omega)]
def zN (l:List Entry):List (Nat × LI):=[(3,{ σ:=Nat,F:=fun k=>([(0,one (.fz (.nm .entry) (l))),(3,one (.own 0)),(4,one (.int k))],[.row 30 (.nm .entry) (((l.take k).map kE))]),J:=fun k=>k<=l.length/\k<=40,μ:=fun k=>l.length - k })]
theorem EX (st:State) (l:List Entry) (v:Int):Sat Tryz.prog (ai tyT) 16 [.agg (cellsOf (.nm .state) st),.c (.fz (.nm .entry) (l)),.c (.int (v))] [] ⟨[],[.agg ([.int (((plS v st l).version)),.int (((plS v st l).next)),.int (((plS v st l).keep)),.int (((plS v st l).quota)),.own 0,.own 1,.own 2]),.c (.own 3),.c (.int ((pE v l)))],some ([.row 82 (.nm .sess) (((plS v st l).sess)),.row 63 (.nm .opn) (((plS v st l).opens)),.row 73 (.nm .snap) (((plS v st l).snaps)),.row 56 (.nm .reply) ((plR v st l))]),true⟩:=Cr st l v
theorem Hf (l:List Entry) (r0:List Entry):cw tyT L_ (zN l) Tryz.f15 [.c (.fz (.nm .entry) (l))] [] [.c (.fz (.nm .entry) (r0))]=((fun (q0:Nat)=>l.length*(32:Nat)<=(140737488355328:Nat)->∃ (s0:Nat),(l=l/\(0:Int)=(↑s0:Int)/\List.map kE (List.take s0 l)=[])/\(s0<=q0/\s0<=(40:Nat))/\∀ (s:Nat),(fun (q2:List (den (Sh.nm NT.entry)))=>(fun (q1:Int)=>s<=q0/\s<=(40:Nat)->((↑s:Int)<(↑l.length:Int)/\(↑s:Int)<(40:Int)->(0:Int)<=(↑s:Int)/\(↑s:Int)<(↑l.length:Int)/\∀ (x:Entry),l[s]? = some x->I64 x.term->x.b.length*(1:Nat)<=(140737488355328:Nat)->((100:Int)<(↑x.b.length:Int)->(0:Int)<=(100:Int)/\(100:Int)<=(↑x.b.length:Int)/\(q2.length+[Entry.mk x.term (List.take (100:Nat) x.b)].length)*(32:Nat)<=(140737488355328:Nat)/\I64 q1/\∃ (s':Nat),(l=l/\q1=(↑s':Int)/\q2++[Entry.mk x.term (List.take (100:Nat) x.b)]=List.map kE (List.take s' l))/\(s' <= q0/\s' <= (40:Nat))/\q0 - s' < q0 - s)/\((↑x.b.length:Int)<=(100:Int)->(q2.length+[x].length)*(32:Nat)<=(140737488355328:Nat)/\I64 q1/\∃ (s':Nat),(l=l/\q1=(↑s':Int)/\q2++[x]=List.map kE (List.take s' l))/\(s' <= q0/\s' <= (40:Nat))/\q0 - s' < q0 - s))/\((↑l.length:Int)<=(↑s:Int)\/(40:Int)<=(↑s:Int)->q2=r0)) ((↑s:Int)+(1:Int))) (List.map kE (List.take s l))) l.length):=by kernel_rfl
theorem Gg (l:List Entry):Sat Tryz.prog (ai tyT) 15 [.c (.fz (.nm .entry) (l))] [] ⟨[],[.c (.fz (.nm .entry) ((CQ l)))],none,false⟩:=by
 refine aM v_ (zN l) Tryz.func15 (by decide) (by kernel_rfl) ?_
 rw [Hf]
 iterate 3 ((all_goals (repeat' (first | with_reducible apply bP | with_reducible refine bQ ?_ | intro))); (all_goals try (first | exact cn | exact rfl | exact (Qt aq aQ) | exact (RJ aq aQ) | exact (Qv aQ aQ) | (simp only [List.length_map,List.length_take,List.length_cons,List.length_nil]; omega))); all_goals try first | refine ⟨‹Nat› + 1,?_⟩ | refine ⟨0,?_⟩)
noncomputable def NP:cd:=(bq 15 (bm (ah (kC (cL (.nm .entry))) aK) aJ fun (l,_) (_)=>⟨[],[.c (.fz (.nm .entry) ((CQ l)))],none,false⟩) (bq 16 (bm (ah (kT (.nm .state)) (ah (kC (cL (.nm .entry))) (ah (kC cI) aK))) aJ fun (st,l,v,_) (_)=>⟨[],[.agg ([.int (((plS v st l).version)),.int (((plS v st l).next)),.int (((plS v st l).keep)),.int (((plS v st l).quota)),.own 0,.own 1,.own 2]),.c (.own 3),.c (.int ((pE v l)))],some ([.row 82 (.nm .sess) (((plS v st l).sess)),.row 63 (.nm .opn) (((plS v st l).opens)),.row 73 (.nm .snap) (((plS v st l).snaps)),.row 56 (.nm .reply) ((plR v st l))]),true⟩) L_))
theorem HB:aN Tryz.prog (ai tyT) NP:=(av (au (ab (al bb) ak) aj fun (l,_) (_) _=>Gg l ) (av (au (ab bl (ab (al bb) (ab (al aw) ak))) aj fun (st,l,v,_) (_) _=>EX st l v ) v_))
section
variable {v:Int} {s:State} {l:List Entry} {x:Entry}
theorem vm:pN v (x :: l)=if (aR x v).e=0 then pN v l+1 else 0:=rfl
theorem sw:plS v s (x :: l)=if (aR x v).e=0 then plS v (eB v s x) l else s:=by
 unfold plS
 rw [vm]
 split
 ·rfl
 ·rfl
theorem te:plR v s (x :: l)=if (aR x v).e=0 then jy v s x :: plR v (eB v s x) l else []:=by
 unfold plR
 rw [vm]
 split
 ·rfl
 ·rfl
theorem xm:pE v (x :: l)=if (aR x v).e=0 then pE v l else (aR x v).e:=rfl
theorem Dv {b:List Entry}:∀ {l:List Entry} {s:State},pE v (l++b)=(if pE v l=0 then pE v b else pE v l)/\plS v s (l++b)=(if pE v l=0 then plS v (plS v s l) b else plS v s l)/\plR v s (l++b)=(if pE v l=0 then plR v s l++plR v (plS v s l) b else plR v s l)
 | [],s=>⟨rfl,rfl,rfl⟩
 | x :: l,s=>by
  rw [List.cons_append,xm,xm,sw,sw,te,te]
  by_cases h:(aR x v).e=0
  ·obtain ⟨h1,h2,h3⟩:=Dv (b:=b) (l:=l) (s:=eB v s x)
   rw [if_pos h,if_pos h,if_pos h,if_pos h,if_pos h,if_pos h,h1,h2,h3]
   refine ⟨rfl,rfl,?_⟩
   split <;> rfl
  ·simp [h]
theorem Cl (k:Nat):pE v l=(if pE v (l.take k)=0 then pE v (l.drop k) else pE v (l.take k))/\plS v s l=(if pE v (l.take k)=0 then plS v (plS v s (l.take k)) (l.drop k) else plS v s (l.take k))/\plR v s l=(if pE v (l.take k)=0 then plR v s (l.take k)++plR v (plS v s (l.take k)) (l.drop k) else plR v s (l.take k)):=by
 have h:=Dv (v:=v) (b:=l.drop k) (l:=l.take k) (s:=s)
 rwa [List.take_append_drop] at h
theorem QF {K:Int} (h:¬ pE v (l.take K.toNat)=0):(true && decide (pE v l=pE v (l.take K.toNat)) && decide (plS v s l=plS v s (l.take K.toNat)) && decide (plR v s l=plR v s (l.take K.toNat)))=true:=by
 obtain ⟨h1,h2,h3⟩:=Cl (v:=v) (s:=s) (l:=l) K.toNat
 rw [if_neg h] at h1 h2 h3
 rw [h1,h2,h3]; simp
theorem Mz {K:Int} (h:pE v (l.take K.toNat)=0):plS v s l=plS v (plS v s (l.take K.toNat)) (l.drop K.toNat)/\pE v l=pE v (l.drop K.toNat)/\plR v s l=plR v s (l.take K.toNat)++plR v (plS v s (l.take K.toNat)) (l.drop K.toNat):=by
 obtain ⟨h1,h2,h3⟩:=Cl (v:=v) (s:=s) (l:=l) K.toNat
 rw [if_pos h] at h1 h2 h3
 exact ⟨h2,h1,h3⟩
theorem Nt {a:Int} {n:Nat}:0<=min (max a 0) (n:Int):=by omega
theorem Oc {a:Int} {n:Nat}:min (max a 0) (n:Int)<=(n:Int):=by omega
theorem uo:(plR v s l).length<=l.length:=by
 unfold plR; rw [uu,List.length_take]; omega
theorem MK {K:Int} (hl:l.length*32<=140737488355328):(plR v s (l.take K.toNat)).length*16<=140737488355328:=by
 have h:=uo (v:=v) (s:=s) (l:=l.take K.toNat)
 rw [List.length_take] at h; omega
theorem Ni {K:Int} {s':State} (hl:l.length*32<=140737488355328):((plR v s (l.take K.toNat)).length+(plR v s' (l.drop K.toNat)).length)*16<=140737488355328:=by
 have h:=uo (v:=v) (s:=s) (l:=l.take K.toNat)
 have h2:=uo (v:=v) (s:=s') (l:=l.drop K.toNat)
 rw [List.length_take] at h
 rw [List.length_drop] at h2
 omega
theorem MF {K:Int} (h0:pE v (l.take K.toNat)=0) (h:(true=false\/decide (plS v s l=plS v (plS v s (l.take K.toNat)) (l.drop K.toNat))=false)\/¬ pE v l=pE v (l.drop K.toNat)):False:=by
 obtain ⟨a,b,_⟩:=Mz (s:=s) h0
 rcases h with (h | h) | h
 ·cases h
 ·exact of_decide_eq_false h a
 ·exact h b
end
noncomputable def Oq:cd:=NP
theorem Gi:aN Tryz.prog (ai tyT) Oq:=HB
theorem GD (st:State) (l:List Entry) (xs:List Int) (r0:Bool):cw tyT Oq [] Tryz.f5 [.agg (cellsOf (.nm .state) st),.c (.fz (.nm .entry) (l)),.agg (iR .int (xs) 0 2)] [] [.c (.bool (.atom (r0)))]=((fun (q10:Nat)=>(fun (q9:Prop)=>(fun (q8:Nat)=>(fun (q7:State)=>(fun (q6:List Entry)=>(fun (q5:Nat)=>(fun (q4:Int)=>(fun (q3:Nat)=>(fun (q2:den Sh.int)=>(fun (q1:Int)=>(fun (q0:List (den Sh.int))=>I64 st.version->I64 st.next->I64 st.keep->I64 st.quota->st.sess.length*(32:Nat)<=q8->st.opens.length*(16:Nat)<=q8->st.snaps.length*(64:Nat)<=q8->l.length*(32:Nat)<=q8->I64 (xs.getD q5 q2)->I64 (xs.getD q3 q2)->I64 q7.version->I64 q7.next->I64 q7.keep->I64 q7.quota->q7.sess.length*(32:Nat)<=q8->q7.opens.length*(16:Nat)<=q8->q7.snaps.length*(64:Nat)<=q8->q6.length*(32:Nat)<=q8->q4<=q4/\q4<(↑q10:Int)/\q5<q10/\(I64 (q0.getD q5 q2)->q4<=(1:Int)/\q9/\q3<q10/\(I64 (q0.getD q3 q2)->I64 (plS (q0.getD q3 q2) q7 q6).version->I64 (plS (q0.getD q3 q2) q7 q6).next->I64 (plS (q0.getD q3 q2) q7 q6).keep->I64 (plS (q0.getD q3 q2) q7 q6).quota->I64 (pE (q0.getD q3 q2) q6)->(q4<=min (max (q0.getD q5 q2) q4) q1/\min (max (q0.getD q5 q2) q4) q1<=q1)/\(q4<=(1:Int)/\q9)/\q3<q10/\(I64 (q0.getD q3 q2)->I64 (plS (q0.getD q3 q2) q7 (List.take (min (max (q0.getD q5 q2) q4) q1).toNat q6)).version->I64 (plS (q0.getD q3 q2) q7 (List.take (min (max (q0.getD q5 q2) q4) q1).toNat q6)).next->I64 (plS (q0.getD q3 q2) q7 (List.take (min (max (q0.getD q5 q2) q4) q1).toNat q6)).keep->I64 (plS (q0.getD q3 q2) q7 (List.take (min (max (q0.getD q5 q2) q4) q1).toNat q6)).quota->I64 (pE (q0.getD q3 q2) (List.take (min (max (q0.getD q5 q2) q4) q1).toNat q6))->(¬pE (q0.getD q3 q2) (List.take (min (max (q0.getD q5 q2) q4) q1).toNat q6)=q4->(true && decide (pE (q0.getD q3 q2) q6=pE (q0.getD q3 q2) (List.take (min (max (q0.getD q5 q2) q4) q1).toNat q6)) && decide (plS (q0.getD q3 q2) q7 q6=plS (q0.getD q3 q2) q7 (List.take (min (max (q0.getD q5 q2) q4) q1).toNat q6)) && decide (plR (q0.getD q3 q2) q7 q6=plR (q0.getD q3 q2) q7 (List.take (min (max (q0.getD q5 q2) q4) q1).toNat q6)))=r0)/\(pE (q0.getD q3 q2) (List.take (min (max (q0.getD q5 q2) q4) q1).toNat q6)=q4->(q4<=min (max (q0.getD q5 q2) q4) q1/\min (max (q0.getD q5 q2) q4) q1<=q1)/\(q4<=(1:Int)/\q9)/\q3<q10/\(I64 (q0.getD q3 q2)->I64 (plS (q0.getD q3 q2) (plS (q0.getD q3 q2) q7 (List.take (min (max (q0.getD q5 q2) q4) q1).toNat q6)) (List.drop (min (max (q0.getD q5 q2) q4) q1).toNat q6)).version->I64 (plS (q0.getD q3 q2) (plS (q0.getD q3 q2) q7 (List.take (min (max (q0.getD q5 q2) q4) q1).toNat q6)) (List.drop (min (max (q0.getD q5 q2) q4) q1).toNat q6)).next->I64 (plS (q0.getD q3 q2) (plS (q0.getD q3 q2) q7 (List.take (min (max (q0.getD q5 q2) q4) q1).toNat q6)) (List.drop (min (max (q0.getD q5 q2) q4) q1).toNat q6)).keep->I64 (plS (q0.getD q3 q2) (plS (q0.getD q3 q2) q7 (List.take (min (max (q0.getD q5 q2) q4) q1).toNat q6)) (List.drop (min (max (q0.getD q5 q2) q4) q1).toNat q6)).quota->I64 (pE (q0.getD q3 q2) (List.drop (min (max (q0.getD q5 q2) q4) q1).toNat q6))->((true=true/\decide (plS (q0.getD q3 q2) q7 q6=plS (q0.getD q3 q2) (plS (q0.getD q3 q2) q7 (List.take (min (max (q0.getD q5 q2) q4) q1).toNat q6)) (List.drop (min (max (q0.getD q5 q2) q4) q1).toNat q6))=true)/\pE (q0.getD q3 q2) q6=pE (q0.getD q3 q2) (List.drop (min (max (q0.getD q5 q2) q4) q1).toNat q6)->(plR (q0.getD q3 q2) q7 (List.take (min (max (q0.getD q5 q2) q4) q1).toNat q6)).length*(16:Nat)<=q8/\((plR (q0.getD q3 q2) q7 (List.take (min (max (q0.getD q5 q2) q4) q1).toNat q6)).length+(plR (q0.getD q3 q2) (plS (q0.getD q3 q2) q7 (List.take (min (max (q0.getD q5 q2) q4) q1).toNat q6)) (List.drop (min (max (q0.getD q5 q2) q4) q1).toNat q6)).length)*(16:Nat)<=q8/\decide (plR (q0.getD q3 q2) q7 q6=plR (q0.getD q3 q2) q7 (List.take (min (max (q0.getD q5 q2) q4) q1).toNat q6)++plR (q0.getD q3 q2) (plS (q0.getD q3 q2) q7 (List.take (min (max (q0.getD q5 q2) q4) q1).toNat q6)) (List.drop (min (max (q0.getD q5 q2) q4) q1).toNat q6))=r0)/\((true=false\/decide (plS (q0.getD q3 q2) q7 q6=plS (q0.getD q3 q2) (plS (q0.getD q3 q2) q7 (List.take (min (max (q0.getD q5 q2) q4) q1).toNat q6)) (List.drop (min (max (q0.getD q5 q2) q4) q1).toNat q6))=false)\/¬pE (q0.getD q3 q2) q6=pE (q0.getD q3 q2) (List.drop (min (max (q0.getD q5 q2) q4) q1).toNat q6)->false=r0))))))) [xs.getD q5 q2,xs.getD q3 q2]) (↑q6.length:Int)) (dflt Sh.int)) (1:Nat)) (0:Int)) (0:Nat)) (CQ l)) (dR st)) (140737488355328:Nat)) ((1:Int)<(↑q10:Int))) (2:Nat)):=by kernel_rfl
theorem F_ (st:State) (l:List Entry) (xs:List Int) (h0:xs.length=2):Sat Tryz.prog (ai tyT) 5 [.agg (cellsOf (.nm .state) st),.c (.fz (.nm .entry) (l)),.agg (iR .int (xs) 0 2)] [] ⟨[xs.length=2],[.c (.bool (.atom ((true))))],none,false⟩:=by
 refine aM Gi [] Tryz.func5 (by decide) (by kernel_rfl) ?_
 rw [GD]
 (repeat' (first | with_reducible apply bP | with_reducible refine bQ ?_ | intro))
 all_goals (first | with_reducible rfl | with_reducible assumption | exact Nt | exact Oc | exact (QF aq) | exact (decide_eq_true (Mz aq).2.2) | exact (MF aq aq).elim | with_reducible exact (MK aq) | with_reducible exact (Ni aq) | decide)
end Go.Proofs.YtladifkbefehdaaGreat
namespace Go.Proofs.YtladifkbefehdaaGreat
open Go.RowKit Go.ChangeShapes Go.WideShapes
def tO (shp:TypeId->Option Sh) (w:World):Cx:=cx ⟨shp,w.heap.size,fun _=>False⟩ [] w
theorem IQ {shp:TypeId->Option Sh} {w:World} {s:Sh} {b:Nat} (h:b<w.heap.size):(tO shp w).at s b:=⟨⟨h,fun ⟨_,_,h,_⟩=>by simp at h,fun h=>h⟩,.inl h⟩
def Tr (P:Program) (shp:TypeId->Option Sh) (t:TypeId) (s:Sh):Prop:=
 ∀ (H:Type) (enc:TypeId × Value->H) (w:World) (fuel:Nat) (cs:List Value) (x:DataW H × List MemPlace),
  DataW.trod enc P w 0 (fun _=>true) true fuel t cs=some x->(∀ n ∈ x.1.weights P t,n<=140737488351232)->(∀ q ∈ x.2,q.block<w.heap.size)->∃ y:den s,Pds (tO shp w) (cellsOf s y) cs
def KZ:List Sh->List AV->Prop
 | [],asx=>asx=[]
 | s :: r,asx=>∃ (y:den s) (l:List AV),asx=cellsOf s y++l/\KZ r l
def No:List Sh->Nat
 | []=>0
 | s :: r=>s.size+No r
def iJ (P:Program) (shp:TypeId->Option Sh) (fs:List Go.Field) (o:Nat) (ss:List Sh):Prop:=
 ∀ (H:Type) (enc:TypeId × Value->H) (w:World) (fuel:Nat) (cs:List Value) (xs:List (DataW H × List MemPlace)),
  cs.length=o+No ss->xs.length=fs.length->(∀ (i:Nat) (f:Go.Field),fs[i]? = some f->DataW.trod enc P w 0 (fun _=>true) true fuel f.type ((cs.drop f.offset).take (P.cellsOf f.type))=xs[i]?) ->
  (∀ n ∈ DataW.weightsEach P (fs.map (·.type)) (xs.map (·.1)),n<=140737488351232)->(∀ q ∈ xs.flatMap (·.2),q.block<w.heap.size)->∃ asx,KZ ss asx/\Pds (tO shp w) asx (cs.drop o)
section
variable {P:Program} {shp:TypeId->Option Sh} {t:TypeId}
theorem Tr.int (h:P.underlying t=some (.int .i64)):Tr P shp t .int:=fun _ enc w fuel cs x hx _ _=>by
 obtain ⟨n,rfl,_,hw⟩:=DataW.trod_int h hx
 have h1:IntKind.i64.min = -9223372036854775808:=rfl
 have h2:IntKind.i64.max=9223372036854775807:=rfl
 simp only [Lit.wf,Bool.and_eq_true,decide_eq_true_eq] at hw
 exact ⟨n,.cons (.int ⟨by omega,by omega⟩) .nil⟩
theorem Tr.bool (h:P.underlying t=some .bool):Tr P shp t .bool:=fun _ enc w fuel cs x hx _ _=>by
 obtain ⟨n,rfl,_⟩:=DataW.trod_bool h hx
 exact ⟨n,.cons (Pd.bool (e:=.atom n)) .nil⟩
theorem Tr.u8 (h:P.underlying t=some (.int .u8)):Tr P shp t .u8:=fun _ enc w fuel cs x hx _ _=>by
 obtain ⟨n,rfl,_,hw⟩:=DataW.trod_int h hx
 have h1:IntKind.u8.min=0:=rfl
 have h2:IntKind.u8.max=255:=rfl
 simp only [Lit.wf,Bool.and_eq_true,decide_eq_true_eq] at hw
 refine ⟨UInt8.ofNat n.toNat,?_⟩
 have:n=((UInt8.ofNat n.toNat).toNat:Int):=by
  rw [UInt8.toNat_ofNat']; omega
 generalize hg:UInt8.ofNat n.toNat=b at this
 subst this
 exact .cons .u8 .nil
theorem Tr.u64 (h:P.underlying t=some (.int .u64)):Tr P shp t .u64:=fun _ enc w fuel cs x hx _ _=>by
 obtain ⟨n,rfl,_,hw⟩:=DataW.trod_int h hx
 have h1:IntKind.u64.min=0:=rfl
 have h2:IntKind.u64.max=18446744073709551615:=rfl
 simp only [Lit.wf,Bool.and_eq_true,decide_eq_true_eq] at hw
 refine ⟨⟨n.toNat⟩,?_⟩
 have:n=(n.toNat:Int):=by omega
 generalize hg:n.toNat=b at this
 subst this
 exact .cons (.u64 (by show b<_; omega)) .nil
theorem Tr.str (h:P.underlying t=some .string):Tr P shp t .str:=fun _ enc w fuel cs x hx hw _=>by
 obtain ⟨s,rfl,hx,_⟩:=DataW.trod_string h hx
 refine ⟨⟨s.data.toList⟩,?_⟩
 have:=hw s.data.toList.length (by rw [hx]; simp [DataW.weights])
 have e:=Pd.str (c:=tO shp w) (s:=⟨s.data.toList⟩) (by show s.data.toList.length<=_; omega)
 have e2:(⟨s.data.toList⟩:Str).val = .string s:=by simp [Str.val]
 rw [e2] at e
 exact .cons e .nil
theorem fg {H:Type} {e:TypeId}:∀ {ds:List (DataW H)} {d:DataW H},d ∈ ds->∀ n ∈ d.weights P e,n ∈ DataW.weightsAll P e ds
 | [],_,h,_,_=>by cases h
 | d0 :: ds,d,h,n,hn=>by
  rw [DataW.weightsAll,List.mem_append]
  rcases List.mem_cons.1 h with rfl | h
  ·exact .inl hn
  ·exact .inr (fg h n hn)
theorem oI {s:Sh} {xs:List (den s)} {y:den s}:(xs++[y]).flatMap (cellsOf s)=xs.flatMap (cellsOf s)++cellsOf s y:=by simp
theorem Tr.list {e:TypeId} {s:Sh} (ht:P.underlying t=some (.slice e)) (hC:P.cellsOf e=s.size) (hB:P.bytesOf e=s.bytes) (he:Tr P shp e s):Tr P shp t (.lst s):=fun H enc w fuel cs x hx hw hlt=>by
 have hp:=size_pos s
 rcases DataW.trod_slice ht hx with ⟨rfl,_⟩ | ⟨a,len,cap,elems,rest,n,rfl,rfl,rfl,_,hl,hc,hel,hget,hrest,_⟩
 ·exact ⟨([]:List (den s)),.cons (Pd.qf (.em (a:=none) (b:=true) rfl)) .nil⟩
 ·rw [hC] at *
  have step:∀ m,m<=len->∃ (cells:List Value) (xs:List (den s)),Pds (tO shp w) (xs.flatMap (cellsOf s)) cells/\xs.length=m/\CellsAt w a cells:=by
   intro m
   induction m with
   | zero=>intro _; exact ⟨[],[],.nil,rfl,CellsAt.nil⟩
   | succ m ih=>
    intro hm
    obtain ⟨cells,xs,h1,h2,h3⟩:=ih (by omega)
    have hg:=hget m (by omega)
    have hem:elems[m]? = some (elems[m]'(by omega)):=List.getElem?_eq_getElem (by omega)
    rw [hem,Option.bind_eq_some_iff] at hg
    obtain ⟨cs,hcs,htr⟩:=hg
    have hmem:elems[m]'(by omega) ∈ elems:=List.getElem_mem _
    obtain ⟨y,hy⟩:=he H enc w n cs _ htr
     (fun k hk=>hw k (by
      simp only [DataW.weights,ht,List.mem_cons,List.mem_append]
      exact .inr (.inl (fg (List.mem_map_of_mem hmem) k hk))))
     (fun q hq=>hlt q (by
      simp only [List.mem_append,List.mem_flatMap]
      exact .inr ⟨_,.inl hmem,hq⟩))
    obtain ⟨_,hcl,hat⟩:=World.cells?_some hcs
    refine ⟨cells++cs,xs++[y],by rw [oI]; exact h1.append hy,by simp [h2],fun j v hv=>?_⟩
    have hfl:cells.length=m*s.size:=by rw [<- h1.length,bN,h2]
    by_cases hj:j<m*s.size
    ·rw [List.getElem?_append_left (by omega)] at hv
     exact h3 j v hv
    ·rw [List.getElem?_append_right (by omega),hfl] at hv
     have hj2:=uZ hv
     have:=hat (j - m*s.size) (by omega)
     rw [hv,add_add,show m*s.size+(j - m*s.size)=j by omega] at this
     exact this
  obtain ⟨cells,xs,h1,h2,h3⟩:=step len (Nat.le_refl _)
  have hwt:(elems.length+rest.length)*P.bytesOf e<=140737488351232:=hw _ (by simp [DataW.weights,ht])
  refine ⟨xs,.cons ?_ .nil⟩
  subst h2
  refine .fz (by omega) hc ?_ h1 ?_
  ·rw [hB] at hwt
   have:xs.length*s.bytes<=(elems.length+rest.length)*s.bytes:=Nat.mul_le_mul_right _ (by omega)
   omega
  ·by_cases h0:xs.length=0
   ·left; exact List.eq_nil_of_length_eq_zero h0
   ·right
    refine ⟨a,rfl,IQ ?_,h3⟩
    have:MemPlace.cell a.block (a.off+0) ∈ MemPlace.row a ((elems.length+rest.length)*s.size):=MemPlace.mem_row.2 ⟨0,Nat.mul_pos (by omega) hp,rfl⟩
    exact hlt _ (List.mem_append_left _ this)
theorem iJ.nil {o:Nat}:iJ P shp [] o []:=fun H enc w fuel cs xs hl _ _ _ _=>⟨[],rfl,by rw [List.drop_eq_nil_of_le (by simp only [No] at hl; omega)]; exact .nil⟩
theorem iJ.cons {f:Go.Field} {fs:List Go.Field} {o:Nat} {s:Sh} {ss:List Sh} (h:Tr P shp f.type s) (ho:f.offset=o) (hC:P.cellsOf f.type=s.size) (hr:iJ P shp fs (o+s.size) ss):iJ P shp (f :: fs) o (s :: ss):=fun H enc w fuel cs xs hl hx hf hw hlt=>by
 match xs,hx with
 | x :: xs,hx=>
  have hl':cs.length=o+(s.size+No ss):=hl
  have h1:=hf 0 f rfl
  rw [ho,hC] at h1
  obtain ⟨y,hy⟩:=h H enc w fuel _ x h1 (fun n hn=>hw n (by simp [DataW.weightsEach,hn])) (fun q hq=>hlt q (by simp [hq]))
  obtain ⟨z,hz1,hz2⟩:=hr H enc w fuel cs xs (by omega) (by simpa using hx) (fun i f' hi=>by simpa using hf (i+1) f' (by simpa using hi)) (fun n hn=>hw n (by simp only [List.map_cons,DataW.weightsEach,List.mem_append]; exact .inr hn)) (fun q hq=>hlt q (by simp only [List.flatMap_cons,List.mem_append]; exact .inr hq))
  refine ⟨cellsOf s y++z,⟨y,z,rfl,hz1⟩,?_⟩
  have:=hy.append hz2
  rwa [<- List.drop_drop,List.take_append_drop] at this
theorem Tr.struct {s:Sh} {ss:List Sh} {fs:Array Go.Field} (ht:P.underlying t=some (.struct fs)) (hC:P.cellsOf t=No ss) (hs:∀ asx,KZ ss asx->∃ y:den s,asx=cellsOf s y) (h:iJ P shp fs.toList 0 ss):Tr P shp t s:=fun H enc w fuel cs x hx hw hlt=>by
 obtain ⟨xs,n,_,rfl,hl,hxl,hf⟩:=DataW.trod_struct ht hx
 obtain ⟨asx,h1,h2⟩:=h H enc w n cs xs (by omega) (by simpa using hxl) (fun i f hi=>hf i f (by simpa using hi)) (fun k hk=>hw k (by simpa [DataW.weights,ht] using hk)) hlt
 obtain ⟨y,rfl⟩:=hs asx h1
 exact ⟨y,by simpa using h2⟩
end
section
variable {H:Type} {enc:TypeId × Value->H} {P:Program} {shp:TypeId->Option Sh}
structure Ar (enc:TypeId × Value->H) (P:Program) (W:World) (t:TypeId) (v:Value):Prop where
 form:∃ base,Value.okWide P W .any base t v
 read:∃ d p fuel,DataW.trod enc P W 0 (fun _=>true) true fuel t v.cells.toList=some (d,p)/\(∀ n ∈ d.weights P t,n<=140737488351232)/\(∀ q ∈ p,q.block<W.heap.size)
variable {W:World} {t:TypeId} {v:Value}
theorem Ar.rp {s:Sh} (h:Ar enc P W t v) (ht:Tr P shp t s):∃ y:den s,Pds (tO shp W) (cellsOf s y) v.cells.toList:=by
 obtain ⟨d,p,fuel,h1,h2,h3⟩:=h.read
 exact ht H enc W fuel _ _ h1 h2 h3
theorem uX {a:AV} {u:Value} (h:Pds (tO shp W) [a] [u]):ct (tO shp W) [] (.c a) u:=by cases h with | cons h1 _=>exact h_ h1
theorem Ar.int (h:Ar enc P W t v) (ht:P.underlying t=some (.int .i64)):∃ y:Int,ct (tO shp W) [] (.c (.int y)) v:=by
 obtain ⟨base,hf⟩:=h.form
 obtain ⟨n,rfl⟩:=okWide_int ht hf
 obtain ⟨y,h1⟩:=h.rp (shp:=shp) (Tr.int ht)
 exact ⟨y,uX (by simpa [Value.cells,cellsOf] using h1)⟩
theorem Ar.u8 (h:Ar enc P W t v) (ht:P.underlying t=some (.int .u8)):∃ y:UInt8,ct (tO shp W) [] (.c (.u8 y)) v:=by
 obtain ⟨base,hf⟩:=h.form
 obtain ⟨n,rfl⟩:=okWide_int ht hf
 obtain ⟨y,h1⟩:=h.rp (shp:=shp) (Tr.u8 ht)
 exact ⟨y,uX (by simpa [Value.cells,cellsOf] using h1)⟩
theorem Ar.bool (h:Ar enc P W t v) (ht:P.underlying t=some .bool):∃ y:Bool,ct (tO shp W) [] (.c (.bool (.atom y))) v:=by
 obtain ⟨base,hf⟩:=h.form
 obtain ⟨b,rfl⟩:=okWide_bool ht hf
 exact ⟨b,Pd.bool (e:=.atom b)⟩
theorem Ar.list {e:TypeId} {s:Sh} (h:Ar enc P W t v) (hu:P.underlying t=some (.slice e)) (ht:Tr P shp t (.lst s)):∃ xs:List (den s),ct (tO shp W) [] (.c (.fz s xs)) v:=by
 obtain ⟨base,hf⟩:=h.form
 obtain ⟨a,len,cap,rfl⟩:=okWide_slice hu hf
 obtain ⟨y,h1⟩:=h.rp ht
 exact ⟨y,uX (by simpa [Value.cells,cellsOf] using h1)⟩
theorem Ar.struct {s:Sh} {fs:Array Go.Field} (h:Ar enc P W t v) (hu:P.underlying t=some (.struct fs)) (ht:Tr P shp t s):∃ x:den s,ct (tO shp W) [] (.agg (cellsOf s x)) v:=by
 obtain ⟨base,hf⟩:=h.form
 obtain ⟨cs,rfl,_⟩:=okWide_struct hu hf
 obtain ⟨y,h1⟩:=h.rp ht
 exact ⟨y,cs.toList,by simp,dT (by simpa [Value.cells] using h1)⟩
theorem Hb {f:Nat} {args:List TV1} {pre:List Prop} {e:BE} {vs:List Value} (h:Sat P shp f args [] ⟨pre,[.c (.bool e)],none,false⟩) (he:e.val=true) (hv:All2 (ct (tO shp W) []) args vs):gI P f vs.toArray W fun r W'=>r = .bool true/\Kp [] W W':=by
 refine (h.2 ⟨shp,W.heap.size,fun _=>False⟩ [] W vs rfl ⟨.nil,fun _ _ _ _ _ h=>by simp at h,fun _ _ _ h=>by simp at h,fun _ h=>h.elim,Nat.le_refl _⟩ hv).mono fun v w' ⟨us,h1,h2,h3⟩=>⟨?_,h2⟩
 cases h3 with | cons h4 h5=>
 cases h5
 have h4:Pd _ (.bool e) _:=h4
 cases h4
 rw [h1,he]; rfl
theorem EH {base:Nat} {ts:List TypeId} {args:Array Value} {ds:List (DataW H)} {p:List MemPlace} (hf:∀ (j:Nat) t v,ts[j]? = some t->args[j]? = some v->Value.okWide P W .any base t v)
  (h:DataW.TrodAll enc P W 0 (fun _=>true) true ts args.toList ds p) (hw:∀ n ∈ DataW.weightsEach P ts ds,n<=140737488351232) (hlt:∀ q ∈ p,q.block<W.heap.size) :
  args.size=ts.length/\∀ (j:Nat) t v,ts[j]? = some t->args[j]? = some v->Ar enc P W t v:=by
 have key:∀ (ts:List TypeId) (vs:List Value) (ds:List (DataW H)) (p:List MemPlace),DataW.TrodAll enc P W 0 (fun _=>true) true ts vs ds p->(∀ n ∈ DataW.weightsEach P ts ds,n<=140737488351232)->(∀ q ∈ p,q.block<W.heap.size) ->
   vs.length=ts.length/\∀ (j:Nat) t v,ts[j]? = some t->vs[j]? = some v->∃ d p fuel,DataW.trod enc P W 0 (fun _=>true) true fuel t v.cells.toList=some (d,p)/\(∀ n ∈ d.weights P t,n<=140737488351232)/\(∀ q ∈ p,q.block<W.heap.size):=by
  intro ts
  induction ts with
  | nil=>intro vs ds p h _ _; obtain ⟨rfl,_,_⟩:=trodAll_nil h; exact ⟨rfl,fun j t v h=>by simp at h⟩
  | cons t ts ih=>
   intro vs ds p h hw hlt
   obtain ⟨v,vs,d,ds,p1,p2,rfl,rfl,rfl,h1,h2⟩:=trodAll_cons h
   obtain ⟨k1,k2⟩:=ih vs ds p2 h2 (fun n hn=>hw n (by rw [DataW.weightsEach,List.mem_append]; exact .inr hn)) (fun q hq=>hlt q (List.mem_append_right _ hq))
   refine ⟨by simp [k1],fun j t' v' ht hv=>?_⟩
   cases j with
   | zero=>
    simp at ht hv
    subst ht; subst hv
    obtain ⟨fuel,hf⟩:=h1
    exact ⟨d,p1,fuel,hf,fun n hn=>hw n (by rw [DataW.weightsEach,List.mem_append]; exact .inl hn),fun q hq=>hlt q (List.mem_append_left _ hq)⟩
   | succ j=>exact k2 j t' v' (by simpa using ht) (by simpa using hv)
 obtain ⟨k1,k2⟩:=key ts args.toList ds p h hw hlt
 exact ⟨by simpa using k1,fun j t v ht hv=>⟨⟨base,hf j t v ht hv⟩,k2 j t v ht (by simpa using hv)⟩⟩
theorem yh (hl:laidOutB P=true) {W':World} (hb:Below W.heap.size W W'):∀ (ts:List TypeId) (vs:List Value) (ds:List (DataW H)) (p:List MemPlace),ts.all (fun t=>P.readableRec t && decide (t<P.types.size))=true->DataW.TrodAll enc P W 0 (fun _=>true) true ts vs ds p->(∀ q ∈ p,q.block<W.heap.size) ->
  DataW.TrodAll enc P W' 0 (fun b=>decide (b<W.heap.size)) true ts vs ds p:=by
 intro ts
 induction ts with
 | nil=>intro vs ds p _ h _; obtain ⟨rfl,rfl,rfl⟩:=trodAll_nil h; rfl
 | cons t ts ih=>
  intro vs ds p hr h hlt
  obtain ⟨v,vs,d,ds,p1,p2,rfl,rfl,rfl,h1,h2⟩:=trodAll_cons h
  rw [List.all_cons,Bool.and_eq_true,Bool.and_eq_true,decide_eq_true_eq] at hr
  exact ⟨p1,p2,Below.trod hl hr.1.1 hr.1.2 h1 hb fun q hq=>hlt q (List.mem_append_left _ hq),ih vs ds p2 hr.2 h2 fun q hq=>hlt q (List.mem_append_right _ hq),rfl⟩
theorem BF {fn:Func} {s:ChangeSpec} {tb:TypeId} {W':World} {args:Array Value} {ds:List (DataW H)} {p:List MemPlace} (hl:laidOutB P=true)
  (hrow:fn.params.toList.all (fun t=>P.readableRec t && decide (t<P.types.size))=true) (hr:fn.resultTypes = #[tb]) (hb:P.underlying tb=some .bool) (hv:s.vars=[])
  (hs:s.fn H (ds++[])={ results:=[.lit (.bool true)],args:=ds }) (hW:DataW.Whole enc P fn.params.toList s.vars false W args.toList ds [] p) (hA:DataW.TrodAll enc P W 0 (fun _=>true) true fn.params.toList args.toList ds p) (hlt:∀ q ∈ p,q.block<W.heap.size) (hk:Kp [] W W') :
  s.post enc P fn false true false false W args (.bool true) W':=by
 refine ⟨ds,[],p,[],p,[],hW,?_,?_,?_,hk.below.frame _,fun h=>by cases h⟩
 ·rw [hs,hr]
  exact trodAll_mk1 ⟨1,by simp [DataW.trod,Value.cells,hb]⟩
 ·rw [hs]
  exact yh hl hk.below _ _ _ _ hrow hA hlt
 ·rw [hs,hv]; rfl
theorem BM {C:Checked} {os:Os} {f:FuncId} {fn:Func} {s:ChangeSpec} {conds:List PathCond} {tb:TypeId} (own:ownKnob C.prog.godebug=none) (started:os.Started) (noInit:C.prog.inits.idxOf? f=none) (hfn:C.prog.funcs[f]? = some fn)
  (witness:∃ (w:World) (tape:Tape) (i:Input),w.os=os/\(w.forCall tape i).Shaped C.prog/\i.vars=[]/\Input.okWide C.prog (w.forCall tape i) .any w.heap.size f i /\
   s.pre6 enc C.prog fn conds false (w.forCall tape i).memory i.args/\({}:Assume).holds C.prog (lone (Frame.enter C.prog f i.args .normal) [] (w.forCall tape i)))
  (hl:laidOutB C.prog=true) (hrow:fn.params.toList.all (fun t=>C.prog.readableRec t && decide (t<C.prog.types.size))=true) (hr:fn.resultTypes = #[tb]) (hb:C.prog.underlying tb=some .bool) (hv:s.vars=[])
  (hs:∀ ds:List (DataW H),ds.length=fn.params.size->s.fn H ds={ results:=[.lit (.bool true)],args:=ds })
  (law:∀ (W:World) (args:Array Value),args.size=fn.params.toList.length->(∀ (j:Nat) t v,fn.params.toList[j]? = some t->args[j]? = some v->Ar enc C.prog W t v)->gI C.prog f args W fun r W'=>r = .bool true/\Kp [] W W') :
  ReturnsInHanded {} C os f .any (s.pre6 enc C.prog fn conds false) (s.post enc C.prog fn false true false false):=by
 refine returnsInHanded_of_change_sized own started noInit hfn witness ?_
 intro W base args ds gs before hval hW _ hsz _
 have hW0:=hW
 obtain ⟨p,q,hA,hV,rfl,_,_⟩:=hW
 rw [hv] at hV
 obtain ⟨rfl,rfl⟩:=trodVars_none hV
 simp only [List.append_nil] at hW0 hsz
 have hlt:∀ x ∈ p,x.block<W.heap.size:=fun x hx=>by simpa using hW0.lt x hx
 have hwt:∀ n ∈ DataW.weightsEach C.prog fn.params.toList ds,n<=140737488351232:=fun n hn=>by
  have hmem:n ∈ DataW.weightsEach C.prog (fn.params.toList++s.plain.varTypes C.prog) ds:=by
   have:∀ (ts us:List TypeId) (ds:List (DataW H)),n ∈ DataW.weightsEach C.prog ts ds->n ∈ DataW.weightsEach C.prog (ts++us) ds:=by
    intro ts
    induction ts with
    | nil=>intro us ds h; simp [DataW.weightsEach] at h
    | cons t ts ih=>
     intro us ds h
     cases ds with
     | nil=>simp [DataW.weightsEach] at h
     | cons d ds=>
      rw [DataW.weightsEach,List.mem_append] at h
      rw [List.cons_append,DataW.weightsEach,List.mem_append]
      exact h.imp id (ih us ds)
   exact this _ _ _ hn
  exact of_decide_eq_true (List.all_eq_true.1 hsz n hmem)
 obtain ⟨hsize,har⟩:=EH (fun j t v ht hv=>hval j t v (by simpa using ht) hv) hA hwt hlt
 have hdl:ds.length=fn.params.size:=by
  have:∀ (ts:List TypeId) (vs:List Value) (ds:List (DataW H)) (p:List MemPlace),DataW.TrodAll enc C.prog W 0 (fun _=>true) true ts vs ds p->ds.length=ts.length:=by
   intro ts
   induction ts with
   | nil=>intro vs ds p h; obtain ⟨_,rfl,_⟩:=trodAll_nil h; rfl
   | cons t ts ih=>intro vs ds p h; obtain ⟨v,vs,d,ds,p1,p2,rfl,rfl,rfl,_,h2⟩:=trodAll_cons h; simp [ih vs ds p2 h2]
  simpa using this _ _ _ _ hA
 refine Calls.mono (law W args hsize har) fun e W' ⟨v,he,hv',hk⟩=>⟨v,he,?_⟩
 subst hv'
 exact BF hl hrow hr hb hv (by rw [List.append_nil]; exact hs ds hdl) hW0 hA hlt hk
end
end Go.Proofs.YtladifkbefehdaaGreat
namespace Go.Proofs.YtladifkbefehdaaGreat
open Go.RowKit Go.ChangeShapes Go.WideShapes
theorem Ag:ownKnob Tryz.prog.godebug=none:=by kernel_rfl
theorem Ah:laidOutB Tryz.prog=true:=by kernel_rfl
theorem PI:Tr Tryz.prog (ai tyT) 73 (.nm .snap):=Tr.struct (ss:=[.int,.int,(.lst .int),.bool,.str]) Tryz.underlying73 (by kernel_rfl) (fun cells h=>by
 obtain ⟨y0,l0,rfl,y1,l1,rfl,y2,l2,rfl,y3,l3,rfl,y4,l4,rfl,rfl⟩:=h
 exact ⟨⟨y0,y1,y2,y3,y4⟩,rfl⟩) (iJ.cons (Tr.int Tryz.underlying3) rfl (by kernel_rfl) (iJ.cons (Tr.int Tryz.underlying3) rfl (by kernel_rfl) (iJ.cons (Tr.list Tryz.underlying22 (by kernel_rfl) (by kernel_rfl) (Tr.int Tryz.underlying3)) rfl (by kernel_rfl) (iJ.cons (Tr.bool Tryz.underlying4) rfl (by kernel_rfl) (iJ.cons (Tr.str Tryz.underlying9) rfl (by kernel_rfl) (iJ.nil))))))
theorem Q_:Tr Tryz.prog (ai tyT) 63 (.nm .opn):=Tr.struct (ss:=[.int,.int]) Tryz.underlying63 (by kernel_rfl) (fun cells h=>by
 obtain ⟨y0,l0,rfl,y1,l1,rfl,rfl⟩:=h
 exact ⟨⟨y0,y1⟩,rfl⟩) (iJ.cons (Tr.int Tryz.underlying3) rfl (by kernel_rfl) (iJ.cons (Tr.int Tryz.underlying3) rfl (by kernel_rfl) (iJ.nil)))
theorem Qa:Tr Tryz.prog (ai tyT) 56 (.nm .reply):=Tr.struct (ss:=[.int,.int]) Tryz.underlying56 (by kernel_rfl) (fun cells h=>by
 obtain ⟨y0,l0,rfl,y1,l1,rfl,rfl⟩:=h
 exact ⟨⟨y0,y1⟩,rfl⟩) (iJ.cons (Tr.int Tryz.underlying31) rfl (by kernel_rfl) (iJ.cons (Tr.int Tryz.underlying3) rfl (by kernel_rfl) (iJ.nil)))
theorem Po:Tr Tryz.prog (ai tyT) 82 (.nm .sess):=Tr.struct (ss:=[.int,.int,(.nm .reply)]) Tryz.underlying82 (by kernel_rfl) (fun cells h=>by
 obtain ⟨y0,l0,rfl,y1,l1,rfl,y2,l2,rfl,rfl⟩:=h
 exact ⟨⟨y0,y1,y2⟩,rfl⟩) (iJ.cons (Tr.int Tryz.underlying3) rfl (by kernel_rfl) (iJ.cons (Tr.int Tryz.underlying3) rfl (by kernel_rfl) (iJ.cons (Qa) rfl (by kernel_rfl) (iJ.nil))))
theorem PF:Tr Tryz.prog (ai tyT) 43 (.nm .state):=Tr.struct (ss:=[.int,.int,.int,.int,(.lst (.nm .sess)),(.lst (.nm .opn)),(.lst (.nm .snap))]) Tryz.underlying43 (by kernel_rfl) (fun cells h=>by
 obtain ⟨y0,l0,rfl,y1,l1,rfl,y2,l2,rfl,y3,l3,rfl,y4,l4,rfl,y5,l5,rfl,y6,l6,rfl,rfl⟩:=h
 exact ⟨⟨y0,y1,y2,y3,y4,y5,y6⟩,rfl⟩) (iJ.cons (Tr.int Tryz.underlying3) rfl (by kernel_rfl) (iJ.cons (Tr.int Tryz.underlying3) rfl (by kernel_rfl) (iJ.cons (Tr.int Tryz.underlying3) rfl (by kernel_rfl) (iJ.cons (Tr.int Tryz.underlying3) rfl (by kernel_rfl) (iJ.cons (Tr.list Tryz.underlying39 (by kernel_rfl) (by kernel_rfl) (Po)) rfl (by kernel_rfl) (iJ.cons (Tr.list Tryz.underlying40 (by kernel_rfl) (by kernel_rfl) (Q_)) rfl (by kernel_rfl) (iJ.cons (Tr.list Tryz.underlying41 (by kernel_rfl) (by kernel_rfl) (PI)) rfl (by kernel_rfl) (iJ.nil))))))))
theorem PB:Tr Tryz.prog (ai tyT) 30 (.nm .entry):=Tr.struct (ss:=[.int,(.lst .u8)]) Tryz.underlying30 (by kernel_rfl) (fun cells h=>by
 obtain ⟨y0,l0,rfl,y1,l1,rfl,rfl⟩:=h
 exact ⟨⟨y0,y1⟩,rfl⟩) (iJ.cons (Tr.int Tryz.underlying3) rfl (by kernel_rfl) (iJ.cons (Tr.list Tryz.underlying28 (by kernel_rfl) (by kernel_rfl) (Tr.u8 Tryz.underlying5)) rfl (by kernel_rfl) (iJ.nil)))
theorem KS {H:Type} {enc:TypeId × Value->H} {P:Program} {shp:TypeId->Option Sh} {W:World} {t:TypeId} {v:Value} {n:Nat} {e:TypeId} {s:Sh} (h:Ar enc P W t v) (hu:P.underlying t=some (.array n e)) (hC:P.cellsOf e=s.size) (hz:P.cellsOf t=n*s.size) (he:Tr P shp e s):∃ xs:List (den s),xs.length=n/\ct (tO shp W) [] (.agg (xs.flatMap (cellsOf s))) v:=by
 obtain ⟨base,hf⟩:=h.form
 obtain ⟨cs,rfl⟩:∃ cs,v = .agg cs:=by
  simp only [Value.okWide,hu] at hf
  obtain ⟨cs,h1,_⟩:=hf
  exact ⟨cs,h1⟩
 obtain ⟨d,p,fuel,h1,h2,h3⟩:=h.read
 obtain ⟨ys,m,_,hdp,hl,hyl,hg⟩:=DataW.trod_array hu h1
 obtain ⟨rfl,rfl⟩:=Prod.mk.inj hdp
 have step:∀ k,k<=n->∃ xs:List (den s),xs.length=k/\Pds (tO shp W) (xs.flatMap (cellsOf s)) ((Value.cells (.agg cs)).toList.take (k*s.size)):=by
  intro k
  induction k with
  | zero=>intro _; exact ⟨[],rfl,by simp; exact .nil⟩
  | succ k ih=>
   intro hk
   obtain ⟨xs,hx,hp⟩:=ih (by omega)
   have hgk:=hg k (by omega)
   rw [hC,List.getElem?_eq_getElem (show k<ys.length by omega)] at hgk
   obtain ⟨y,hy⟩:=he H enc W m _ _ hgk (fun q hq=>h2 q (by simp only [DataW.weights,hu]; exact fg (List.mem_map_of_mem (List.getElem_mem (show k<ys.length by omega))) q hq)) (fun q hq=>h3 q (List.mem_flatMap.2 ⟨_,List.getElem_mem (show k<ys.length by omega),hq⟩))
   refine ⟨xs++[y],by simp [hx],?_⟩
   rw [oI,Nat.succ_mul,List.take_add]
   exact hp.append hy
 obtain ⟨xs,hx,hp⟩:=step n (Nat.le_refl _)
 refine ⟨xs,hx,cs.toList,by simp,dT ?_⟩
 rw [List.take_of_length_le (by rw [hl,hz]; exact Nat.le_refl _)] at hp
 simpa [Value.cells] using hp
set_option maxRecDepth 100000 in
theorem lN (os:Os) (started:os.Started) (H:Type) (enc:TypeId × Value->H) :
  ReturnsInHanded {} Tryz.checked os 5 .any (Rows.modelPartsSpec.pre6 enc Tryz.prog Tryz.f5 Rows.modelPartsRow.domain false) (Rows.modelPartsSpec.post enc Tryz.prog Tryz.f5 false true false false):=by
 refine BM (C:=Tryz.checked) Ag started (by kernel_rfl) Tryz.func5 (ChangeSpec.witness6 (enc:=enc) (C:=Tryz.checked) false ⟨#[],#[.agg #[.int .i64 0,.int .i64 0,.int .i64 0,.int .i64 0,.slice none 0 0,.slice none 0 0,.slice none 0 0],.slice none 0 0,.agg #[.int .i64 0,.int .i64 0]],[]⟩ 8 (by kernel_rfl) (by kernel_rfl) (by kernel_rfl) (by kernel_rfl)) Ah (by kernel_rfl) (by kernel_rfl) Tryz.underlying4 rfl (fun ds h=>?_) ?_
 ·match ds,h with
  | [d0,d1,d2],_=>rfl
 ·intro W args hs ha
  obtain ⟨l⟩:=args
  match l,hs with
  | [v0,v1,v2],_=>
   obtain ⟨x0,h0⟩:=Ar.struct (shp:=ai tyT) (ha 0 43 _ rfl rfl) Tryz.underlying43 PF
   obtain ⟨x1,h1⟩:=Ar.list (shp:=ai tyT) (ha 1 44 _ rfl rfl) Tryz.underlying44 (Tr.list Tryz.underlying44 (by kernel_rfl) (by kernel_rfl) (PB))
   obtain ⟨xs2,hl2,h2⟩:=KS (shp:=ai tyT) (s:=.int) (ha 2 53 _ rfl rfl) Tryz.underlying53 (by kernel_rfl) (by kernel_rfl) (Tr.int Tryz.underlying3)
   obtain ⟨y2_0,y2_1,rfl⟩:∃ y2_0 y2_1,xs2=[y2_0,y2_1]:=by match xs2,hl2 with | [y2_0,y2_1],_=>exact ⟨y2_0,y2_1,rfl⟩
   exact Hb (F_ x0 x1 [y2_0,y2_1] rfl) rfl (.cons h0 (.cons h1 (.cons h2 .nil)))
theorem modelParts_holds:Rows.ModelPartsSaid:=
 OpenClaim.holds_of_wide 5 Tryz.f5 rfl rfl rfl rfl rfl rfl rfl ⟨rfl,rfl,rfl,rfl,rfl⟩ rfl rfl rfl rfl rfl (by kernel_rfl) Tryz.func5 (by kernel_rfl)
  (of_decide_eq_true (by kernel_rfl)) (by unfold Func.isWrapper; first | (rw [if_pos (by decide +kernel)]; kernel_rfl) | (rw [if_neg (by decide +kernel)]; exact ⟨rfl,rfl⟩))
  (fun os started H enc _=>lN os started H enc)
end Go.Proofs.YtladifkbefehdaaGreat
