/- What leads to the law, part 5. Conditions: each lemma's own. -/
import Derived.Test.YticbaadnibdbkaaGreatNLM4
set_option linter.unusedVariables false
set_option linter.unusedSimpArgs false
set_option maxHeartbeats 2000000
set_option linter.defProp false
namespace Go.Proofs.YticbaadnibdbkaaGreat
open Go.RowKit
def agn:=@List.take_succ_cons
def adi:=@Classical.not_not
def d_ (s:State) (at_:Nat) (k:Nat):Int:=(((s.snaps.drop (at_+1)).take k).filter fun x=>decide (x.set=(s.snaps.getD at_ (ao (.nm .snap))).set)).length
def lE (s:State) (at_:Int):Bool:=if at_<0\/(s.snaps.length:Int)<=at_ then false else decide (d_ s at_.toNat s.snaps.length<s.keep)
def nch (l:List Snap):Nat:=(l.flatMap Snap.chunks).length
def BC (c:Int) (l:List Snap):Nat:=(l.flatMap Snap.chunks).count c
def bg (id:Int) (l:List Snap):List Snap:=l.filter fun x=>!decide (x.id=id)
variable {k:Nat} {α:Type}
theorem gd {l:List α} {d:α} (h:(k:Int)<l.length):l[k]? = some (l.getD k d):=by
 have hk:k<l.length:=by omega
 rw [List.getD_eq_getElem?_getD,List.getElem?_eq_getElem hk]; rfl
variable {a:Nat}
theorem YP {s:State}:0=d_ s a 0:=by simp [d_]
theorem Rf {s:State}:d_ s a k<=(k:Int):=by
 have h1:=List.length_filter_le (fun x:Snap=>decide (x.set=(s.snaps.getD a (ao (.nm .snap))).set)) ((s.snaps.drop (a+1)).take k);have h2:((s.snaps.drop (a+1)).take k).length<=k:=by rw [List.length_take]; omega
 unfold d_; omega
theorem PZ {s:State}:0<=d_ s a k:=by unfold d_; omega
theorem Wl {s:State} (h:a+1+k<=s.snaps.length) (h2:s.snaps.length*64<=140737488355328):I64 (d_ s a k+1):=by
 have h1:=Rf (s:=s) (a:=a) (k:=k);have h0:=PZ (s:=s) (a:=a) (k:=k);constructor <;> omega
variable {x:Snap}
theorem YH {s:State} (hx:(s.snaps.drop (a+1))[k]? = some x) (h:x.set=(s.snaps.getD a (ao (.nm .snap))).set):d_ s a k+1=d_ s a (k+1):=by
 unfold d_;rw [ai hx,List.filter_append,List.length_append];simp [h]
theorem Zg {s:State} (hx:(s.snaps.drop (a+1))[k]? = some x) (h:¬ x.set=(s.snaps.getD a (ao (.nm .snap))).set):d_ s a k=d_ s a (k+1):=by
 unfold d_;rw [ai hx,List.filter_append,List.length_append];rw [show List.filter (fun x:Snap=>decide (x.set=(s.snaps.getD a (ao (.nm .snap))).set)) [x]=[] by simp only [List.filter_cons,h,decide_false,List.filter_nil]; rfl];simp
variable {a:Int}
theorem JZ {s:State} (h0:0<=a) (ha:a<s.snaps.length) (h:(s.snaps.length:Int)<=a+1+k):decide (d_ s a.toNat k<s.keep)=lE s a:=by
 unfold lE;rw [if_neg (by omega)];have e:∀ m:Nat,(s.snaps.length:Int)<=a+1+m->d_ s a.toNat m=d_ s a.toNat s.snaps.length:=fun m hm=>by
  unfold d_;rw [List.take_of_length_le (by rw [List.length_drop]; omega),List.take_of_length_le (by rw [List.length_drop]; omega)]
 rw [e k h]
theorem IG {s:State} (h:a<0\/(s.snaps.length:Int)<=a):false=lE s a:=by unfold lE; rw [if_pos h]
variable {l:List Snap} {id:Int}
theorem aaI {y:Snap} (h:¬ x.id=id) (hx:l[k]? = some x) (hy:l[k]? = some y):bg id (l.take k)++[y]=bg id (l.take (k+1)):=by
 rw [hx] at hy; cases hy;unfold bg; rw [ai hx,List.filter_append]; simp [h]
theorem aaw (hx:l[k]? = some x) (h:x.id=id):bg id (l.take k)=bg id (l.take (k+1)):=by
 unfold bg; rw [ai hx,List.filter_append]; simp [h]
theorem Xp (h:(l.length:Int)<=k):bg id (l.take k)=bg id l:=by rw [List.take_of_length_le (by omega)]
theorem Zb (h:(k:Int)<l.length) (hl:l.length*64<=140737488355328):((bg id (l.take k)).length+[x].length)*64<=140737488355328:=by
 have h1:=List.length_filter_le (fun x:Snap=>!decide (x.id=id)) (l.take k);rw [List.length_take] at h1;unfold bg;simp only [List.length_cons,List.length_nil];omega
def acG (st:State) (at_:Int):List (Nat × LI):=[(5,{ σ:=Nat,F:=fun k=>([(1,one (.int (at_))),(2,one (.ptr 0 0)),(5,one (.int (d_ st at_.toNat k))),(21,one (.fz (.nm .snap) (st.snaps.drop (at_+1).toNat))),(22,one (.int (st.snaps.drop (at_+1).toNat).length)),(23,one (.int k))],[.box 46 (cellsOf (.nm .state) (st))]),J:=fun k=>at_.toNat+1+k<=st.snaps.length/\0<=at_,μ:=fun k=>st.snaps.length - k })]
def Lz:Kn:=aJ (ae (kT (.nm .state)) (ae (kC cI) au)) aw fun (st,at_,_) _=>⟨[],[.c (.bool (.atom ((lE st at_))))],none,false⟩
theorem YR:CK 347 Lz:=ah fun (st,at_,_) _ _=>by
 refine av Fi (acG st at_) Tryz.func347 (?_:(fun q5=>(fun q4=>(fun q3=>(fun q2=>(fun q6=>(fun q1=>(fun q9=>(fun q8=>(fun q7=>(fun q0=>(fun q11=>(fun q10=>fo st (I64 at_->(at_<q5\/q8<=at_->false=lE st at_)/\(q3/\at_<q8->I64 (at_+q4)/\q5<=at_+q4/\at_+q4<=q8/\∃ s0,(at_=at_/\q5=d_ st q2 s0/\q11=q11/\(↑q11.length:Int)=q10/\q5=(↑s0:Int)/\cV st st)/\(q6+s0<=q7/\q3)/\∀ (s:Nat),(fun q13=>(fun q12=>q6+s<=q7/\q3->((↑s:Int)<q10->q5<=(↑s:Int)/\(↑s:Int)<(↑q11.length:Int)/\∀ (x:Snap),q11[s]? = some x->eV x (q3/\at_<q8/\eV q9 ((x.set=q9.set->I64 (q13+q4)/\I64 q12/\∃ s',(at_=at_/\q13+q4=d_ st q2 s' /\ q11=q11/\q10=q10/\q12=(↑s':Int)/\cV st st)/\(q6+s' <= q7/\q3)/\q7 - s' < q7 - s)/\(¬x.set=q9.set->I64 q12/\∃ s',(at_=at_/\q13=d_ st q2 s' /\ q11=q11/\q10=q10/\q12=(↑s':Int)/\cV st st)/\(q6+s' <= q7/\q3)/\q7 - s' < q7 - s))))/\(q10<=(↑s:Int)->decide (q13<st.keep)=lE st at_)) ((↑s:Int)+q4)) (d_ st q2 s)))) (↑(List.drop q0 q1).length:Int)) (List.drop q0 q1)) (at_+q4).toNat) q1.length) (↑q1.length:Int)) (q1.getD q2 (ao (Sh.nm NT.snap)))) st.snaps) (q2+1)) at_.toNat) (q5<=at_)) (1:Int)) (0:Int));iterate 3 ((all_goals (repeat' with_reducible first|apply bd|refine bf ?_|intro)); (all_goals try (first | exact bq | exact YP | exact (IG (by assumption)) | exact (Wl aK aK) | exact (JZ aK aK (by rw [List.length_drop] at *; omega)) | exact (YH (by rw [show (at_+1).toNat=at_.toNat+1 by omega] at *; assumption) ab) | exact (by have:=‹_<((List.length (List.drop _ _):Nat):Int)›; rw [List.length_drop] at this; omega) | exact (Zg (by rw [show (at_+1).toNat=at_.toNat+1 by omega] at *; assumption) ab))); all_goals try first | refine ⟨‹Nat› + 1,?_⟩ | refine ⟨0,?_⟩)
def abh:bD:=(aL 347 Lz abU)
theorem qq:ay Tryz.prog (al tyT) abh:=(ag YR Fi)
theorem XG {l:List α} {d:α} (h:(k:Int)<l.length):l.set k (l.getD k d)=l:=by simp_all
def Me (l:List Snap) (k:Nat):Nat:=((List.range k).filter fun (i:Nat)=>decide (0<BC ((i:Int)+1) l)).length
def kr (l:List Snap):Nat:=Me l 64
def Zn (st:State):List (Nat × LI):=[(5,{ σ:=Nat,F:=fun k=>([(1,one (.ptr 0 0)),(2,one (.ptr 1 0)),(18,one (.int st.snaps.length)),(19,one (.int k))],[.box 46 ([.int ((st.version)),.int ((st.next)),.int ((st.keep)),.int ((st.quota)),.own 2,.own 3,.own 4]),.box 46 ([.int ((0)),.int ((0)),.int ((0)),.int ((0)),.em true,.em true,.em true]),.row 137 (.nm .sess) ((st.sess)),.row 139 (.nm .opn) ((st.opens)),.row 172 (.nm .snap) ((st.snaps))]),J:=fun k=>k<=st.snaps.length,μ:=fun k=>st.snaps.length - k })]
def Oe:Kn:=aJ (ae (kT (.nm .state)) (ae (kC cI) au)) aw fun (st,v,_) _=>⟨[],[.c (.int ((ei st v)))],none,false⟩
theorem WA:CK 276 Oe:=ah fun (st,v,_) _ _=>by
 refine av qq [] Tryz.func276 (?_:(fun q11=>(fun q10=>(fun q9=>(fun q8=>(fun q7=>(fun q6=>(fun q12=>(fun q5=>(fun q4=>(fun q16=>(fun q15=>(fun q14=>(fun q13=>(fun q3=>(fun q2=>(fun q1=>(fun q0=>(fun q18=>(fun q17=>fo st (I64 v->(bX v q6 q8=false->q6=q11)/\(bX v q6 q8=true->(v<q8->q5<=q7/\q5<=q7/\(q17->q12)/\((((q3\/q16=false)\/q13)\/q14)\/fO st v=false->6=q11)/\(q17/\fO st v=true->q4=q11))/\(q8<=v->q5<=q7/\q5<=q7/\(q18->q12)/\((((q3\/q15=false)\/q13)\/q14)\/fO st v=false->6=q11)/\(q18/\fO st v=true->q4=q11))))) (((q0/\q16=true)/\q1)/\q2)) (((q0/\q15=true)/\q1)/\q2)) ((bX st.version q6 q8=true/\bX st.next q6 q7=true)/\bX st.keep q4 q5=true)) (az Sess.client q5 q4 st.sess=true/\q10=true)) (az Opn.set q5 q4 st.opens=true/\q9=true)) ((bX st.version q6 q8=false\/bX st.next q6 q7=false)\/bX st.keep q4 q5=false)) (az Sess.client q5 q4 st.sess=false\/q10=false)) (az Opn.set q5 q4 st.opens=false\/q9=false)) (bX st.quota q4 64)) (bX st.quota q4 q4)) (0:Int)) (8:Int)) (q6<=st.next/\st.next<=q7)) (1:Int)) (1048576:Int)) (3:Int)) (st.opens.all dW)) (st.sess.all dR)) (ei st v));(repeat' with_reducible first|apply bd|refine bf ?_|intro)
 all_goals (first | exact bq | exact (HO (a:=1) (b:=1048576) ab).1 | exact (HO (a:=1) (b:=1048576) ab).2 | (simp only [ei,jU,zX,vP]; grind))
def EP:Kn:=aJ (ae (kT (.nm .command)) (ae (kC cI) au)) aw fun (c,v,_) _=>⟨[],[.c (.int ((bC c v)))],none,false⟩
theorem Sk:CK 52 EP:=ah fun (c,v,_) _ _=>by
 refine av qq [] Tryz.func52 (?_:(fun q0=>bI c (I64 v->I64 q0->(cm v=false\/q0=0->1=bC c v)/\(cm v=true/\¬q0=0->(v<q0->10=bC c v)/\(q0<=v->(lC c=false->1=bC c v)/\(lC c=true->0=bC c v))))) (ck c.kind));rw [show cm v=bX v 1 3 from rfl];(repeat' with_reducible first|apply bd|refine bf ?_|intro)
 all_goals (first | exact bq | (simp only [bC]; grind))
def Er:Kn:=aJ (ae (kT (.nm .state)) au) aw fun (st,_) _=>⟨[],[.agg ([.int ((st.version)),.int ((st.next)),.int ((st.keep)),.int ((st.quota)),.own 0,.own 1,.own 2])],some ([.row 137 (.nm .sess) ((st.sess)),.row 139 (.nm .opn) ((st.opens)),.row 172 (.nm .snap) ((st.snaps))]),true⟩
theorem RD:CK 61 Er:=ah fun (st,_) _ _=>by
 refine dr qq (Zn st) Tryz.func61 (?_:(fun (q2:List Snap)=>(fun (q1:Nat)=>(fun (q0:Prop)=>fo st (∃ (s0:Nat),((↑q2.length:Int)=(↑q1:Int)/\0=(↑s0:Int)/\st.version=st.version/\st.next=st.next/\st.keep=st.keep/\st.quota=st.quota/\q0/\q0/\q0/\q0/\st.sess=st.sess/\st.opens=st.opens/\q2=q2)/\s0<=q1/\∀ (s:Nat),(fun (q3:den (Sh.nm NT.snap))=>s<=q1->((↑s:Int)<(↑q1:Int)->0<=(↑s:Int)/\(↑s:Int)<(↑q2.length:Int)/\0<=(↑s:Int)/\(↑s:Int)<(↑q2.length:Int)/\eV q3 (q3.chunks.length*8<=140737488355328->eV q3 (I64 ((↑s:Int)+1)/\∃ (s':Nat),((↑q1:Int)=(↑q1:Int)/\(↑s:Int)+1=(↑s':Int)/\st.version=st.version/\st.next=st.next/\st.keep=st.keep/\st.quota=st.quota/\q0/\q0/\q0/\q0/\st.sess=st.sess/\st.opens=st.opens/\q2.set s q3=q2)/\s' <= q1/\q1 - s' < q1 - s)))/\((↑q1:Int)<=(↑s:Int)->cV st st)) (q2.getD s (ao (Sh.nm NT.snap))))) ((0:Int)=0)) q2.length) st.snaps);iterate 3 ((all_goals (repeat' with_reducible first|apply bd|refine bf ?_|intro)); (all_goals try (first | exact bq | exact rfl | exact (XG aK))); all_goals try first | refine ⟨‹Nat› + 1,?_⟩ | refine ⟨0,?_⟩)
def UP:bD:=(aL 61 Er (aL 52 EP (aL 276 Oe abh)))
theorem rT:ay Tryz.prog (al tyT) UP:=(ag RD (ag Sk (ag WA qq)))
def Dc (l:List Snap) (id:Int) (k:Nat):List Int:=((List.range k).filter fun (i:Nat)=>decide (0<BC ((i:Int)+1) l) && decide (BC ((i:Int)+1) (bg id l)=0)).map fun (i:Nat)=>(i:Int)+1
def eh (xs:List Int) (l:List Int):List Int:=l.foldl (fun xs n=>if 1<=n/\n<=64 then xs.set n.toNat (xs.getD n.toNat 0+1) else xs) xs
theorem WQ (h:nch l<=1048576):nch (bg id l)<=1048576:=by
 refine Nat.le_trans ?_ h;unfold nch bg;induction l with
 | nil=>exact ac5 _
 | cons x l ih=>
  have hl:(l.flatMap Snap.chunks).length<=1048576:=by unfold nch at h; rw [List.flatMap_cons,List.length_append] at h; omega
  have:=ih hl;grind
def mc (l:List Snap) (id:Int):List Int:=Dc l id 64
def Cw (xs l:List Int):Prop:=∀ i,0<=xs.getD i 0/\xs.getD i 0+l.length<=4611686018427387904
variable {i:Nat} {xs:List Int}
theorem NW {j:Nat} {v:Int}:(xs.set j v).getD i 0=if j=i/\j<xs.length then v else xs.getD i 0:=by grind
theorem BQ:∀ (l xs:List Int) (i:Nat),xs.getD i 0<=(eh xs l).getD i 0/\(eh xs l).getD i 0<=xs.getD i 0+l.length
 | [],xs,i=>by simp [eh]
 | n :: l,xs,i=>by
  have h:=BQ l (if 1<=n/\n<=64 then xs.set n.toNat (xs.getD n.toNat 0+1) else xs) i;have e:eh xs (n :: l)=eh (if 1<=n/\n<=64 then xs.set n.toNat (xs.getD n.toNat 0+1) else xs) l:=rfl;have h2:xs.getD i 0<=(if 1<=n/\n<=64 then xs.set n.toNat (xs.getD n.toNat 0+1) else xs).getD i 0/\(if 1<=n/\n<=64 then xs.set n.toNat (xs.getD n.toNat 0+1) else xs).getD i 0<=xs.getD i 0+1:=by
   split
   ·rw [NW]; split
    ·grind
    omega
   omega
  grind
variable {l:List Int} {n:Int}
theorem z_ (hx:l[k]? = some n):eh xs (l.take (k+1))=if 1<=n/\n<=64 then (eh xs (l.take k)).set n.toNat ((eh xs (l.take k)).getD n.toNat 0+1) else eh xs (l.take k):=by
 rw [ai hx,eh,List.foldl_append]; rfl
theorem acP (hx:l[k]? = some n) (h:1<=n/\n<=64):(eh xs (l.take k)).set n.toNat ((eh xs (l.take k)).getD n.toNat (ao .int)+1)=eh xs (l.take (k+1)):=by rw [z_ hx,if_pos h]; rfl
theorem acx (hx:l[k]? = some n) (h:¬ (1<=n/\n<=64)):eh xs (l.take k)=eh xs (l.take (k+1)):=by rw [z_ hx,if_neg h]
theorem ZY (h:Cw xs l):I64 ((eh xs (l.take k)).getD n.toNat (ao .int)+1):=by
 have h1:=BQ (l.take k) xs n.toNat;have h2:=h n.toNat;rw [List.length_take] at h1;show I64 ((eh xs (l.take k)).getD n.toNat 0+1);constructor <;> omega
def agx (l:List Int) (xs:List Int):List (Nat × LI):=[(1,{ σ:=Nat,F:=fun k=>([(0,one (.ptr 0 0)),(6,one (.fz .int (l))),(7,one (.int (l).length)),(8,one (.int k))],[.arr 338 .int 65 ((eh xs (l.take k)))]),J:=fun k=>k<=l.length,μ:=fun k=>(l).length - k })]
def Lt:Kn:=aJ (ae (kT (.nm .state)) (ae (kT (.nm .command)) au)) aw fun (st,c,_) _=>⟨[],[.c (.int ((if ei st st.version=0 then bC c st.version else 1)))],none,false⟩
theorem Yv:CK 260 Lt:=ah fun (st,c,_) _ _=>by
 refine av rT [] Tryz.func260 (?_:(fun q1=>(fun q0=>(fun q2=>fo st (bI c (I64 q0->(¬q0=0->1=q2)/\(q0=0->I64 q1->q1=q2)))) (if q0=0 then q1 else 1)) (ei st st.version)) (bC c st.version));grind
def Vm:Kn:=aJ (ae (kC (aW 0 0)) (ae (kC (cL .int)) au)) (aB (Be 338 .int 65) aw) fun (_,l,_) (xs,_)=>⟨[Cw xs l],[],some ([.arr 338 .int 65 ((eh xs l))]),false⟩
theorem aaA:CK 360 Vm:=ah fun (_,l,_) (xs,_) hp=>by
 have h0:=bW hp;refine bw rT (agx l xs) Tryz.func360 (?_:(fun (q1:Int)=>(fun (q0:Nat)=>(fun (q2:Int)=>l.length*(8:Nat)<=(140737488355328:Nat)->∃ (s0:Nat),(l=l/\(↑l.length:Int)=q2/\(0:Int)=(↑s0:Int)/\xs=eh xs (List.take s0 l))/\s0<=q0/\∀ (s:Nat),(fun (q4:Int)=>(fun (q3:List Int)=>s<=q0->((↑s:Int)<q2->(0:Int)<=(↑s:Int)/\(↑s:Int)<(↑l.length:Int)/\∀ (x:Int),(fun (q5:den Sh.int)=>l[s]? = some x->I64 x->(q1<=x/\x<=(64:Int)->(0:Int)<=x/\x<(↑(65:Nat):Int)/\x.toNat<(65:Nat)/\I64 (q5+q1)/\(0:Int)<=x/\x<(↑(65:Nat):Int)/\(I64 q5->x.toNat<(65:Nat)/\I64 q4/\∃ (s':Nat),(l=l/\q2=q2/\q4=(↑s':Int)/\q3.set x.toNat (q5+q1)=eh xs (List.take s' l))/\s' <= q0/\q0 - s' < q0 - s))/\(x<q1\/(64:Int)<x->I64 q4/\∃ (s':Nat),(l=l/\q2=q2/\q4=(↑s':Int)/\q3=eh xs (List.take s' l))/\s' <= q0/\q0 - s' < q0 - s)) (q3.getD x.toNat (ao Sh.int)))/\(q2<=(↑s:Int)->q3=eh xs l)) (eh xs (List.take s l))) ((↑s:Int)+q1)) (↑q0:Int)) l.length) (1:Int));iterate 3 ((all_goals (repeat' with_reducible first|apply bd|refine bf ?_|intro)); (all_goals try (first | exact bq | exact rfl | exact (acP ab (by constructor <;> omega)) | exact (acx ab aK) | exact (by rw [List.take_of_length_le aK]) | exact (ZY ab))); all_goals try first | refine ⟨‹Nat› + 1,?_⟩ | refine ⟨0,?_⟩)
def UI:bD:=(aL 360 Vm (aL 260 Lt UP))
theorem Ow:ay Tryz.prog (al tyT) UI:=(ag aaA (ag Yv rT))
section
variable {B:Bool} {k:Nat}
variable {st:State} {v:Int}
end
def Ve:bD:=UI
theorem Oa:ay Tryz.prog (al tyT) Ve:=Ow
def UN:bD:=Ve
theorem jT:ay Tryz.prog (al tyT) UN:=Oa
def fq (xs:List Int) (c:Int):Bool:=decide (0<xs.getD c.toNat (ao .int))
def fk (xs ys:List Int) (c:Int):Bool:=decide (0<xs.getD c.toNat (ao .int)) && decide (ys.getD c.toNat (ao .int)=0)
def j_ (p:Int->Bool) (k:Nat):List Int:=((List.range k).map fun (i:Nat)=>(i:Int)+1).filter p
theorem aai {p:Int->Bool} (h:p ((k:Int)+1)=true):j_ p k++[(k:Int)+1]=j_ p (k+1):=by
 unfold j_; rw [List.range_succ,List.map_append,List.filter_append]; simp [h]
theorem aa2 {p:Int->Bool} (h:p ((k:Int)+1)=false):j_ p k=j_ p (k+1):=by
 unfold j_; rw [List.range_succ,List.map_append,List.filter_append]; simp [h]
theorem abW {p:Int->Bool} (h:k<=64) (h2:64<(k:Int)+1):j_ p k=j_ p 64:=by rw [show k=64 by omega]
theorem Iy {p:Int->Bool} (h:k<=64):((j_ p k).length+[n].length)*8<=140737488355328:=by
 have:=List.length_filter_le p ((List.range k).map fun (i:Nat)=>(i:Int)+1);rw [List.length_map,ahC] at this;unfold j_; simp only [List.length_cons,List.length_nil]; omega
def bU (l:List Snap):List Int:=l.foldl (fun t x=>eh t x.chunks) (List.replicate 65 0)
theorem qY:∀ (l xs:List Int),(eh xs l).length=xs.length
 | [],_=>rfl
 | n :: l,xs=>by
  show (eh (if 1<=n/\n<=64 then xs.set n.toNat (xs.getD n.toNat 0+1) else xs) l).length=_;rw [qY l]; split
  ·grind
  rfl
variable {l:List Snap}
theorem kn:bU (l++[x])=eh (bU l) x.chunks:=by unfold bU; rw [List.foldl_append]; rfl
theorem Wm (hx:l[k]? = some x):eh (bU (l.take k)) x.chunks=bU (l.take (k+1)):=by rw [ai hx,kn]
theorem vY {p:List Snap->Prop} (h0:p []) (hs:∀ l x,p l->p (l++[x])) (l:List Snap):p l:=by
 have:∀ r:List Snap,p r.reverse:=fun r=>by
  induction r with
  | nil=>exact h0
  | cons x r ih=>rw [List.reverse_cons]; exact hs _ _ ih
 have h:=this l.reverse;grind
theorem jv (l:List Snap):(bU l).length=65:=by
 refine vY (p:=fun l=>(bU l).length=65) rfl (fun l x h=>?_) l;rw [kn,qY,h]
theorem zH:nch (l++[x])=nch l+x.chunks.length:=by unfold nch; simp
theorem IN (l:List Snap) (i:Nat):0<=(bU l).getD i 0/\(bU l).getD i 0<=nch l:=by
 refine vY (p:=fun l=>0<=(bU l).getD i 0/\(bU l).getD i 0<=nch l) ?_ (fun l x h=>?_) l
 ·show 0<=(List.replicate 65 (0:Int)).getD i 0/\(List.replicate 65 (0:Int)).getD i 0<=_;grind
 have:=BQ x.chunks (bU l) i;rw [kn,zH]; omega
theorem CS (hx:l[k]? = some x) (h:nch l<=1048576):Cw (bU (l.take k)) x.chunks:=fun i=>by
 have h1:=IN (l.take k) i;have h2:nch (l.take (k+1))<=nch l:=by
  unfold nch; rw [<- List.take_append_drop (k+1) l,List.flatMap_append,List.length_append,List.take_append_drop]; omega
 rw [ai hx,zH] at h2;omega
theorem Ec {m:List Int} {s:Sh} (h:nch l<=1048576) (hm:m.length*8<=140737488355328):Cw (xr .int (bU l) 0 65) m:=fun i=>by
 rw [iI (jv l)];have h1:=IN l i;omega
theorem EC:∀ (l xs:List Int) (c:Int),1<=c->c<=64->xs.length=65->(eh xs l).getD c.toNat 0=xs.getD c.toNat 0+(l.count c:Nat)
 | [],_,_,_,_,_=>by simp [eh]
 | n :: l,xs,c,h1,h2,h3=>by
  show (eh (if 1<=n/\n<=64 then xs.set n.toNat (xs.getD n.toNat 0+1) else xs) l).getD c.toNat 0=_;rw [EC l _ c h1 h2 (by split; rw [adn,h3]; exact h3),List.count_cons];split
  ·grind
  grind
theorem Ca (l:List Snap) (c:Int) (h1:1<=c) (h2:c<=64):(bU l).getD c.toNat 0=(BC c l:Nat):=by
 refine vY (p:=fun l=>(bU l).getD c.toNat 0=(BC c l:Nat)) ?_ (fun l x h=>?_) l
 ·show (List.replicate 65 (0:Int)).getD c.toNat 0=_;rw [List.getD_eq_getElem?_getD,List.getElem?_replicate]; split <;> simp [BC]
 rw [kn,EC _ _ _ h1 h2 (jv l),h];unfold BC; simp
theorem DR (l:List Snap):((j_ (fq (bU l)) 64).length:Int)=(kr l:Int):=by
 unfold j_ kr Me;rw [List.filter_map,List.length_map];congr 2;apply List.filter_congr;intro i hi;rw [List.mem_range] at hi;have:=Ca l ((i:Int)+1) (by omega) (by omega);simp only [Function.comp,fq];rw [show (ao .int)=(0:Int) from rfl,this];grind
theorem KX (l m:List Snap) (id:Int) (e:m=bg id l):j_ (fk (bU l) (bU m)) 64=mc l id:=by
 subst e;unfold j_ mc Dc;rw [List.filter_map];congr 1;apply List.filter_congr;intro i hi;rw [List.mem_range] at hi;have h1:=Ca l ((i:Int)+1) (by omega) (by omega);have h2:=Ca (bg id l) ((i:Int)+1) (by omega) (by omega);simp only [Function.comp,fk];rw [show (ao .int)=(0:Int) from rfl,h1,h2];grind
def XQ (l:List Snap):List (Nat × LI):=[(3,{ σ:=Nat,F:=fun k=>([(2,one (.ptr 0 0)),(3,one (.ptr 1 0)),(6,one (.fz (.nm .snap) (l))),(7,one (.int (l).length)),(8,one (.int k))],[.arr 338 .int 65 ((List.replicate 65 0)),.arr 338 .int 65 ((bU (l.take k)))]),J:=fun k=>k<=l.length,μ:=fun k=>l.length - k })]
def JE (l:List Snap) (id:Int):List (Nat × LI):=[(3,{ σ:=Nat,F:=fun k=>([(1,one (.int (id))),(5,one (.own 0)),(8,one (.fz (.nm .snap) (l))),(9,one (.int (l).length)),(10,one (.int k))],[.row 172 (.nm .snap) ((bg id (l.take k)))]),J:=fun k=>k<=l.length,μ:=fun k=>l.length - k })]
def De:Kn:=aJ (ae (kC cI) (ae (kC (aW 0 0)) au)) (aB (Be 338 .int 65) aw) fun (n,_,_) (xs,_)=>⟨[0<=n/\n<65],[.c (.bool (.atom ((fq xs n))))],none,false⟩
theorem OU:CK 362 De:=ah fun (n,_,_) (xs,_) hp=>by
 have h0:=bW hp;refine av jT [] Tryz.func362 (?_:I64 n->(0:Int)<=n/\n<(↑(65:Nat):Int)/\n.toNat<(65:Nat)/\(I64 (xs.getD n.toNat (ao Sh.int))->decide ((0:Int)<xs.getD n.toNat (ao Sh.int))=fq xs n));(repeat' with_reducible first|apply bd|refine bf ?_|intro) <;> first | (first | with_reducible rfl | with_reducible assumption | omega | (refine bK ?_ ?_ <;> omega)) | rfl
def yH:Kn:=aJ (ae (kC cI) (ae (kC (aW 0 0)) (ae (kC (aW 1 0)) au))) (aB (Be 338 .int 65) (aB (Be 338 .int 65) aw)) fun (n,_,_,_) (xs,ys,_)=>⟨[0<=n/\n<65],[.c (.bool (.atom ((fk xs ys n))))],none,false⟩
theorem Jg:CK 363 yH:=ah fun (n,_,_,_) (xs,ys,_) hp=>by
 have h0:=bW hp;refine av jT [] Tryz.func363 (?_:(fun q1=>(fun q0=>I64 n->q1<=n/\n<(↑(65:Nat):Int)/\n.toNat<(65:Nat)/\(I64 q0->(q1<q0->q1<=n/\n<(↑(65:Nat):Int)/\n.toNat<(65:Nat))/\((q1<q0->I64 (ys.getD n.toNat (ao Sh.int)))->(decide (q1<q0) && decide (ys.getD n.toNat (ao Sh.int)=q1))=fk xs ys n))) (xs.getD n.toNat (ao Sh.int))) (0:Int));(repeat' with_reducible first|apply bd|refine bf ?_|intro) <;> first | (first | with_reducible rfl | with_reducible assumption | omega | (refine bK ?_ ?_ <;> omega)) | rfl
def ET:Kn:=aJ (ae (kC (cL (.nm .snap))) au) aw fun (l,_) _=>⟨[nch l<=1048576],[.agg (sG .int ((bU l)) 0 65)],none,false⟩
theorem Qa:CK 346 ET:=ah fun (l,_) _ hp=>by
 have h0:=bW hp;refine av jT (XQ l) Tryz.func346 (?_:(fun (q6:Nat)=>(fun (q5:List Int)=>(fun (q4:Nat)=>(fun (q3:Nat)=>(fun (q2:Int)=>(fun (q1:den Sh.int)=>(fun (q0:List (den Sh.int))=>l.length*64<=140737488355328->∃ (s0:Nat),(l=l/\(↑l.length:Int)=(↑q6:Int)/\q2=(↑s0:Int)/\q0=List.replicate q3 (0:den Sh.int)/\q0=bU (List.take s0 l))/\s0<=q6/\∀ (s:Nat),(fun (q8:List Int)=>(fun (q7:List (den Sh.int))=>s<=q6->((↑s:Int)<(↑q6:Int)->q2<=(↑s:Int)/\(↑s:Int)<(↑l.length:Int)/\∀ (x:Snap),l[s]? = some x->eV x ((∀ (i:Nat),q2<=q8.getD i q2/\q8.getD i q2+(↑x.chunks.length:Int)<=4611686018427387904)/\I64 ((↑s:Int)+1)/\∃ (s':Nat),(l=l/\(↑q6:Int)=(↑q6:Int)/\(↑s:Int)+1=(↑s':Int)/\List.replicate q3 (0:den Sh.int)=List.replicate q3 (0:den Sh.int)/\eh q8 x.chunks=bU (List.take s' l))/\s' <= q6/\q6 - s' < q6 - s))/\((↑q6:Int)<=(↑s:Int)->q7.getD q4 q1=q5.getD q4 q1/\q7.getD 1 q1=q5.getD 1 q1/\q7.getD 2 q1=q5.getD 2 q1/\q7.getD 3 q1=q5.getD 3 q1/\q7.getD 4 q1=q5.getD 4 q1/\q7.getD 5 q1=q5.getD 5 q1/\q7.getD 6 q1=q5.getD 6 q1/\q7.getD 7 q1=q5.getD 7 q1/\q7.getD 8 q1=q5.getD 8 q1/\q7.getD 9 q1=q5.getD 9 q1/\q7.getD 10 q1=q5.getD 10 q1/\q7.getD 11 q1=q5.getD 11 q1/\q7.getD 12 q1=q5.getD 12 q1/\q7.getD 13 q1=q5.getD 13 q1/\q7.getD 14 q1=q5.getD 14 q1/\q7.getD 15 q1=q5.getD 15 q1/\q7.getD 16 q1=q5.getD 16 q1/\q7.getD 17 q1=q5.getD 17 q1/\q7.getD 18 q1=q5.getD 18 q1/\q7.getD 19 q1=q5.getD 19 q1/\q7.getD 20 q1=q5.getD 20 q1/\q7.getD 21 q1=q5.getD 21 q1/\q7.getD 22 q1=q5.getD 22 q1/\q7.getD 23 q1=q5.getD 23 q1/\q7.getD 24 q1=q5.getD 24 q1/\q7.getD 25 q1=q5.getD 25 q1/\q7.getD 26 q1=q5.getD 26 q1/\q7.getD 27 q1=q5.getD 27 q1/\q7.getD 28 q1=q5.getD 28 q1/\q7.getD 29 q1=q5.getD 29 q1/\q7.getD 30 q1=q5.getD 30 q1/\q7.getD 31 q1=q5.getD 31 q1/\q7.getD 32 q1=q5.getD 32 q1/\q7.getD 33 q1=q5.getD 33 q1/\q7.getD 34 q1=q5.getD 34 q1/\q7.getD 35 q1=q5.getD 35 q1/\q7.getD 36 q1=q5.getD 36 q1/\q7.getD 37 q1=q5.getD 37 q1/\q7.getD 38 q1=q5.getD 38 q1/\q7.getD 39 q1=q5.getD 39 q1/\q7.getD 40 q1=q5.getD 40 q1/\q7.getD 41 q1=q5.getD 41 q1/\q7.getD 42 q1=q5.getD 42 q1/\q7.getD 43 q1=q5.getD 43 q1/\q7.getD 44 q1=q5.getD 44 q1/\q7.getD 45 q1=q5.getD 45 q1/\q7.getD 46 q1=q5.getD 46 q1/\q7.getD 47 q1=q5.getD 47 q1/\q7.getD 48 q1=q5.getD 48 q1/\q7.getD 49 q1=q5.getD 49 q1/\q7.getD 50 q1=q5.getD 50 q1/\q7.getD 51 q1=q5.getD 51 q1/\q7.getD 52 q1=q5.getD 52 q1/\q7.getD 53 q1=q5.getD 53 q1/\q7.getD 54 q1=q5.getD 54 q1/\q7.getD 55 q1=q5.getD 55 q1/\q7.getD 56 q1=q5.getD 56 q1/\q7.getD 57 q1=q5.getD 57 q1/\q7.getD 58 q1=q5.getD 58 q1/\q7.getD 59 q1=q5.getD 59 q1/\q7.getD 60 q1=q5.getD 60 q1/\q7.getD 61 q1=q5.getD 61 q1/\q7.getD 62 q1=q5.getD 62 q1/\q7.getD 63 q1=q5.getD 63 q1/\q7.getD 64 q1=q5.getD 64 q1)) (xr Sh.int q8 q4 q3)) (bU (List.take s l))) [q2,q2,q2,q2,q2,q2,q2,q2,q2,q2,q2,q2,q2,q2,q2,q2,q2,q2,q2,q2,q2,q2,q2,q2,q2,q2,q2,q2,q2,q2,q2,q2,q2,q2,q2,q2,q2,q2,q2,q2,q2,q2,q2,q2,q2,q2,q2,q2,q2,q2,q2,q2,q2,q2,q2,q2,q2,q2,q2,q2,q2,q2,q2,q2,q2]) (ao Sh.int)) 0) 65) 0) (bU l)) l.length);iterate 3 ((all_goals (repeat' with_reducible first|apply bd|refine bf ?_|intro)); (all_goals try (first | exact bq | exact rfl | exact (Wm ab) | exact (CS ab ab _).1 | exact (CS ab ab _).2 | exact (by rw [iI (jv _),List.take_of_length_le aK]))); all_goals try first | refine ⟨‹Nat› + 1,?_⟩ | refine ⟨0,?_⟩)
def uL:Kn:=aJ (ae (kC (cL (.nm .snap))) (ae (kC cI) au)) aw fun (l,id,_) _=>⟨[],[.c (.own 0)],some ([.row 172 (.nm .snap) ((bg id l))]),true⟩
theorem GN:CK 349 uL:=ah fun (l,id,_) _ _=>by
 refine dr jT (JE l id) Tryz.func349 (?_:(fun (q0:Nat)=>(fun (q1:Int)=>l.length*64<=140737488355328->I64 id->∃ (s0:Nat),(id=id/\l=l/\(↑l.length:Int)=q1/\0=(↑s0:Int)/\bg id (List.take s0 l)=[])/\s0<=q0/\∀ (s:Nat),(fun (q3:List Snap)=>(fun (q2:Int)=>s<=q0->((↑s:Int)<q1->0<=(↑s:Int)/\(↑s:Int)<(↑l.length:Int)/\∀ (x:Snap),l[s]? = some x->eV x ((¬x.id=id->x.chunks.length*8<=140737488355328->(q3.length+[x].length)*64<=140737488355328/\I64 q2/\∃ (s':Nat),(id=id/\l=l/\q1=q1/\q2=(↑s':Int)/\q3++[x]=bg id (List.take s' l))/\s' <= q0/\q0 - s' < q0 - s)/\(x.id=id->I64 q2/\∃ (s':Nat),(id=id/\l=l/\q1=q1/\q2=(↑s':Int)/\q3=bg id (List.take s' l))/\s' <= q0/\q0 - s' < q0 - s)))/\(q1<=(↑s:Int)->q3=bg id l)) ((↑s:Int)+1)) (bg id (List.take s l))) (↑q0:Int)) l.length);iterate 3 ((all_goals (repeat' with_reducible first|apply bd|refine bf ?_|intro)); (all_goals try (first | exact bq | exact rfl | exact (aaI ab ab ab) | exact (aaw ab ab) | exact (Xp aK) | exact (Zb aK aK))); all_goals try first | refine ⟨‹Nat› + 1,?_⟩ | refine ⟨0,?_⟩)
def Uy:bD:=(aL 349 uL (aL 346 ET (aL 363 yH (aL 362 De UN))))
theorem qT:ay Tryz.prog (al tyT) Uy:=(ag GN (ag Qa (ag Jg (ag OU jT))))
def Li (xs:List Int):List (Nat × LI):=[(3,{ σ:=Nat,F:=fun k=>([(0,one (.fn 362 [] [(0,0)])),(3,one (.own 1)),(4,one (.int (k+1)))],[.arr 338 .int 65 ((xs)),.row 3 .int ((j_ (fq xs) k))]),J:=fun k=>k<=64,μ:=fun k=>64 - k })]
def Kl (xs:List Int) (ys:List Int):List (Nat × LI):=[(3,{ σ:=Nat,F:=fun k=>([(0,one (.fn 363 [] [(0,0),(1,0)])),(3,one (.own 2)),(4,one (.int (k+1)))],[.arr 338 .int 65 ((xs)),.arr 338 .int 65 ((ys)),.row 3 .int ((j_ (fk xs ys) k))]),J:=fun k=>k<=64,μ:=fun k=>64 - k })]
def uv:Kn:=aJ (ae (kC (qf 362 [] [(0,0)])) au) (aB (Be 338 .int 65) aw) fun _ (xs,_)=>⟨[],[.c (.fz .int ((j_ (fq xs) 64)))],none,false⟩
theorem HC:CK 361 uv:=ah fun _ (xs,_) _=>by
 refine av qT (Li xs) Tryz.func361 (?_:(fun (q1:Nat)=>(fun (q0:Int)=>∃ (s0:Nat),(q0=(↑s0:Int)+q0/\xs=xs/\j_ (fq xs) s0=[])/\s0<=q1/\∀ (s:Nat),(fun (q3:List Int)=>(fun (q2:Int)=>s<=q1->(q2<=64->(0<=q2/\q2<65)/\(fq xs q2=true->(q3.length+[q2].length)*8<=140737488355328/\I64 (q2+q0)/\∃ (s':Nat),(q2+q0=(↑s':Int)+q0/\xs=xs/\q3++[q2]=j_ (fq xs) s')/\s' <= q1/\q1 - s' < q1 - s)/\(fq xs q2=false->I64 (q2+q0)/\∃ (s':Nat),(q2+q0=(↑s':Int)+q0/\xs=xs/\q3=j_ (fq xs) s')/\s' <= q1/\q1 - s' < q1 - s))/\(64<q2->q3=j_ (fq xs) q1)) ((↑s:Int)+q0)) (j_ (fq xs) s)) 1) 64);iterate 3 ((all_goals (repeat' with_reducible first|apply bd|refine bf ?_|intro)); (all_goals try (first | exact bq | exact rfl | exact (aai ab) | exact (aa2 ab) | exact (abW aK aK) | exact (Iy aK) | exact (And.intro aK aK))); all_goals try first | refine ⟨‹Nat› + 1,?_⟩ | refine ⟨0,?_⟩)
def uf:Kn:=aJ (ae (kC (qf 363 [] [(0,0),(1,0)])) au) (aB (Be 338 .int 65) (aB (Be 338 .int 65) aw)) fun _ (xs,ys,_)=>⟨[],[.c (.fz .int ((j_ (fk xs ys) 64)))],none,false⟩
theorem Gn:CK 361 uf:=ah fun _ (xs,ys,_) _=>by
 refine av qT (Kl xs ys) Tryz.func361 (?_:(fun (q1:Nat)=>(fun (q0:Int)=>∃ (s0:Nat),(q0=(↑s0:Int)+q0/\xs=xs/\ys=ys/\j_ (fk xs ys) s0=[])/\s0<=q1/\∀ (s:Nat),(fun (q3:List Int)=>(fun (q2:Int)=>s<=q1->(q2<=64->(0<=q2/\q2<65)/\(fk xs ys q2=true->(q3.length+[q2].length)*8<=140737488355328/\I64 (q2+q0)/\∃ (s':Nat),(q2+q0=(↑s':Int)+q0/\xs=xs/\ys=ys/\q3++[q2]=j_ (fk xs ys) s')/\s' <= q1/\q1 - s' < q1 - s)/\(fk xs ys q2=false->I64 (q2+q0)/\∃ (s':Nat),(q2+q0=(↑s':Int)+q0/\xs=xs/\ys=ys/\q3=j_ (fk xs ys) s')/\s' <= q1/\q1 - s' < q1 - s))/\(64<q2->q3=j_ (fk xs ys) q1)) ((↑s:Int)+q0)) (j_ (fk xs ys) s)) 1) 64);iterate 3 ((all_goals (repeat' with_reducible first|apply bd|refine bf ?_|intro)); (all_goals try (first | exact bq | exact rfl | exact (aai ab) | exact (aa2 ab) | exact (abW aK aK) | exact (Iy aK) | exact (And.intro aK aK))); all_goals try first | refine ⟨‹Nat› + 1,?_⟩ | refine ⟨0,?_⟩)
def Vb:bD:=(aL 361 uf (aL 361 uv Uy))
theorem td:ay Tryz.prog (al tyT) Vb:=(ag Gn (ag HC qT))
def KM:Kn:=aJ (ae (kA .int 65) au) aw fun (xs,_) _=>⟨[xs.length=65],[.c (.fz .int ((j_ (fq xs) 64)))],none,false⟩
theorem Wx:CK 345 KM:=ah fun (xs,_) _ hp=>by
 have h0:=bW hp;refine av td [] Tryz.func345 (?_:(fun q1=>(fun q0=>I64 (xs.getD 0 q0)->I64 (xs.getD 1 q0)->I64 (xs.getD 2 q0)->I64 (xs.getD 3 q0)->I64 (xs.getD 4 q0)->I64 (xs.getD 5 q0)->I64 (xs.getD 6 q0)->I64 (xs.getD 7 q0)->I64 (xs.getD 8 q0)->I64 (xs.getD 9 q0)->I64 (xs.getD 10 q0)->I64 (xs.getD 11 q0)->I64 (xs.getD 12 q0)->I64 (xs.getD 13 q0)->I64 (xs.getD 14 q0)->I64 (xs.getD 15 q0)->I64 (xs.getD 16 q0)->I64 (xs.getD 17 q0)->I64 (xs.getD 18 q0)->I64 (xs.getD 19 q0)->I64 (xs.getD 20 q0)->I64 (xs.getD 21 q0)->I64 (xs.getD 22 q0)->I64 (xs.getD 23 q0)->I64 (xs.getD 24 q0)->I64 (xs.getD 25 q0)->I64 (xs.getD 26 q0)->I64 (xs.getD 27 q0)->I64 (xs.getD 28 q0)->I64 (xs.getD 29 q0)->I64 (xs.getD 30 q0)->I64 (xs.getD 31 q0)->I64 (xs.getD 32 q0)->I64 (xs.getD 33 q0)->I64 (xs.getD 34 q0)->I64 (xs.getD 35 q0)->I64 (xs.getD 36 q0)->I64 (xs.getD 37 q0)->I64 (xs.getD 38 q0)->I64 (xs.getD 39 q0)->I64 (xs.getD 40 q0)->I64 (xs.getD 41 q0)->I64 (xs.getD 42 q0)->I64 (xs.getD 43 q0)->I64 (xs.getD 44 q0)->I64 (xs.getD 45 q0)->I64 (xs.getD 46 q0)->I64 (xs.getD 47 q0)->I64 (xs.getD 48 q0)->I64 (xs.getD 49 q0)->I64 (xs.getD 50 q0)->I64 (xs.getD 51 q0)->I64 (xs.getD 52 q0)->I64 (xs.getD 53 q0)->I64 (xs.getD 54 q0)->I64 (xs.getD 55 q0)->I64 (xs.getD 56 q0)->I64 (xs.getD 57 q0)->I64 (xs.getD 58 q0)->I64 (xs.getD 59 q0)->I64 (xs.getD 60 q0)->I64 (xs.getD 61 q0)->I64 (xs.getD 62 q0)->I64 (xs.getD 63 q0)->I64 (xs.getD 64 q0)->q1.length*8<=140737488355328->q1=j_ (fq xs) 64) (ao Sh.int)) (j_ (fq (xr Sh.int xs 0 65)) 64));(repeat' with_reducible first|apply bd|refine bf ?_|intro)
 all_goals (first | exact bq | exact (by rw [iI h0]) | exact (by rw [iI h0]; assumption))
def AS:Kn:=aJ (ae (kC (cL (.nm .snap))) (ae (kC cI) au)) aw fun (l,id,_) _=>⟨[nch l<=1048576],[.c (.fz .int ((mc l id)))],none,false⟩
theorem Nu:CK 348 AS:=ah fun (l,id,_) _ hp=>by
 have h0:=bW hp;refine av td [] Tryz.func348 (?_:(fun q3=>(fun q2=>(fun q1=>(fun q0=>(fun q4=>l.length*64<=140737488355328->I64 id->nch l<=1048576/\(I64 (q2.getD q3 q1)->I64 (q2.getD 1 q1)->I64 (q2.getD 2 q1)->I64 (q2.getD 3 q1)->I64 (q2.getD 4 q1)->I64 (q2.getD 5 q1)->I64 (q2.getD 6 q1)->I64 (q2.getD 7 q1)->I64 (q2.getD 8 q1)->I64 (q2.getD 9 q1)->I64 (q2.getD 10 q1)->I64 (q2.getD 11 q1)->I64 (q2.getD 12 q1)->I64 (q2.getD 13 q1)->I64 (q2.getD 14 q1)->I64 (q2.getD 15 q1)->I64 (q2.getD 16 q1)->I64 (q2.getD 17 q1)->I64 (q2.getD 18 q1)->I64 (q2.getD 19 q1)->I64 (q2.getD 20 q1)->I64 (q2.getD 21 q1)->I64 (q2.getD 22 q1)->I64 (q2.getD 23 q1)->I64 (q2.getD 24 q1)->I64 (q2.getD 25 q1)->I64 (q2.getD 26 q1)->I64 (q2.getD 27 q1)->I64 (q2.getD 28 q1)->I64 (q2.getD 29 q1)->I64 (q2.getD 30 q1)->I64 (q2.getD 31 q1)->I64 (q2.getD 32 q1)->I64 (q2.getD 33 q1)->I64 (q2.getD 34 q1)->I64 (q2.getD 35 q1)->I64 (q2.getD 36 q1)->I64 (q2.getD 37 q1)->I64 (q2.getD 38 q1)->I64 (q2.getD 39 q1)->I64 (q2.getD 40 q1)->I64 (q2.getD 41 q1)->I64 (q2.getD 42 q1)->I64 (q2.getD 43 q1)->I64 (q2.getD 44 q1)->I64 (q2.getD 45 q1)->I64 (q2.getD 46 q1)->I64 (q2.getD 47 q1)->I64 (q2.getD 48 q1)->I64 (q2.getD 49 q1)->I64 (q2.getD 50 q1)->I64 (q2.getD 51 q1)->I64 (q2.getD 52 q1)->I64 (q2.getD 53 q1)->I64 (q2.getD 54 q1)->I64 (q2.getD 55 q1)->I64 (q2.getD 56 q1)->I64 (q2.getD 57 q1)->I64 (q2.getD 58 q1)->I64 (q2.getD 59 q1)->I64 (q2.getD 60 q1)->I64 (q2.getD 61 q1)->I64 (q2.getD 62 q1)->I64 (q2.getD 63 q1)->I64 (q2.getD 64 q1)->nch (bg id l)<=1048576/\(I64 (q0.getD q3 q1)->I64 (q0.getD 1 q1)->I64 (q0.getD 2 q1)->I64 (q0.getD 3 q1)->I64 (q0.getD 4 q1)->I64 (q0.getD 5 q1)->I64 (q0.getD 6 q1)->I64 (q0.getD 7 q1)->I64 (q0.getD 8 q1)->I64 (q0.getD 9 q1)->I64 (q0.getD 10 q1)->I64 (q0.getD 11 q1)->I64 (q0.getD 12 q1)->I64 (q0.getD 13 q1)->I64 (q0.getD 14 q1)->I64 (q0.getD 15 q1)->I64 (q0.getD 16 q1)->I64 (q0.getD 17 q1)->I64 (q0.getD 18 q1)->I64 (q0.getD 19 q1)->I64 (q0.getD 20 q1)->I64 (q0.getD 21 q1)->I64 (q0.getD 22 q1)->I64 (q0.getD 23 q1)->I64 (q0.getD 24 q1)->I64 (q0.getD 25 q1)->I64 (q0.getD 26 q1)->I64 (q0.getD 27 q1)->I64 (q0.getD 28 q1)->I64 (q0.getD 29 q1)->I64 (q0.getD 30 q1)->I64 (q0.getD 31 q1)->I64 (q0.getD 32 q1)->I64 (q0.getD 33 q1)->I64 (q0.getD 34 q1)->I64 (q0.getD 35 q1)->I64 (q0.getD 36 q1)->I64 (q0.getD 37 q1)->I64 (q0.getD 38 q1)->I64 (q0.getD 39 q1)->I64 (q0.getD 40 q1)->I64 (q0.getD 41 q1)->I64 (q0.getD 42 q1)->I64 (q0.getD 43 q1)->I64 (q0.getD 44 q1)->I64 (q0.getD 45 q1)->I64 (q0.getD 46 q1)->I64 (q0.getD 47 q1)->I64 (q0.getD 48 q1)->I64 (q0.getD 49 q1)->I64 (q0.getD 50 q1)->I64 (q0.getD 51 q1)->I64 (q0.getD 52 q1)->I64 (q0.getD 53 q1)->I64 (q0.getD 54 q1)->I64 (q0.getD 55 q1)->I64 (q0.getD 56 q1)->I64 (q0.getD 57 q1)->I64 (q0.getD 58 q1)->I64 (q0.getD 59 q1)->I64 (q0.getD 60 q1)->I64 (q0.getD 61 q1)->I64 (q0.getD 62 q1)->I64 (q0.getD 63 q1)->I64 (q0.getD 64 q1)->q4.length*8<=140737488355328->q4=mc l id))) (j_ (fk (xr Sh.int q2 q3 65) (xr Sh.int q0 q3 65)) 64)) (bU (bg id l))) (ao Sh.int)) (bU l)) (0:Nat))
 (repeat' with_reducible first|apply bd|refine bf ?_|intro)
 all_goals (first | exact bq | exact (WQ (by assumption)) | exact (by rw [iI (jv _),iI (jv _)]; exact KX _ _ _ rfl))
def Ty:bD:=(aL 348 AS (aL 345 KM Vb))
theorem sI:ay Tryz.prog (al tyT) Ty:=(ag Nu (ag Wx td))
def oW:Kn:=aJ (ae (kC (cL (.nm .snap))) au) aw fun (l,_) _=>⟨[nch l<=1048576],[.c (.int (((kr l:Int))))],none,false⟩
theorem zL:CK 313 oW:=ah fun (l,_) _ hp=>by
 have h0:=bW hp;refine av sI [] Tryz.func313 (?_:(fun (q1:den Sh.int)=>(fun (q0:List Int)=>(fun (q2:Nat)=>l.length*64<=140737488355328->nch l<=1048576/\(I64 (q0.getD 0 q1)->I64 (q0.getD 1 q1)->I64 (q0.getD 2 q1)->I64 (q0.getD 3 q1)->I64 (q0.getD 4 q1)->I64 (q0.getD 5 q1)->I64 (q0.getD 6 q1)->I64 (q0.getD 7 q1)->I64 (q0.getD 8 q1)->I64 (q0.getD 9 q1)->I64 (q0.getD 10 q1)->I64 (q0.getD 11 q1)->I64 (q0.getD 12 q1)->I64 (q0.getD 13 q1)->I64 (q0.getD 14 q1)->I64 (q0.getD 15 q1)->I64 (q0.getD 16 q1)->I64 (q0.getD 17 q1)->I64 (q0.getD 18 q1)->I64 (q0.getD 19 q1)->I64 (q0.getD 20 q1)->I64 (q0.getD 21 q1)->I64 (q0.getD 22 q1)->I64 (q0.getD 23 q1)->I64 (q0.getD 24 q1)->I64 (q0.getD 25 q1)->I64 (q0.getD 26 q1)->I64 (q0.getD 27 q1)->I64 (q0.getD 28 q1)->I64 (q0.getD 29 q1)->I64 (q0.getD 30 q1)->I64 (q0.getD 31 q1)->I64 (q0.getD 32 q1)->I64 (q0.getD 33 q1)->I64 (q0.getD 34 q1)->I64 (q0.getD 35 q1)->I64 (q0.getD 36 q1)->I64 (q0.getD 37 q1)->I64 (q0.getD 38 q1)->I64 (q0.getD 39 q1)->I64 (q0.getD 40 q1)->I64 (q0.getD 41 q1)->I64 (q0.getD 42 q1)->I64 (q0.getD 43 q1)->I64 (q0.getD 44 q1)->I64 (q0.getD 45 q1)->I64 (q0.getD 46 q1)->I64 (q0.getD 47 q1)->I64 (q0.getD 48 q1)->I64 (q0.getD 49 q1)->I64 (q0.getD 50 q1)->I64 (q0.getD 51 q1)->I64 (q0.getD 52 q1)->I64 (q0.getD 53 q1)->I64 (q0.getD 54 q1)->I64 (q0.getD 55 q1)->I64 (q0.getD 56 q1)->I64 (q0.getD 57 q1)->I64 (q0.getD 58 q1)->I64 (q0.getD 59 q1)->I64 (q0.getD 60 q1)->I64 (q0.getD 61 q1)->I64 (q0.getD 62 q1)->I64 (q0.getD 63 q1)->I64 (q0.getD 64 q1)->(xr Sh.int q0 0 65).length=65/\(q2*8<=140737488355328->(↑q2:Int)=(↑(kr l):Int)))) (j_ (fq (xr Sh.int q0 0 65)) 64).length) (bU l)) (ao Sh.int));(repeat' with_reducible first|apply bd|refine bf ?_|intro)
 all_goals (first | exact bq | exact (qh 65 0) | exact (by rw [iI (jv _)]; exact DR _))
def Fc:Kn:=aJ (ae (kC (cL (.nm .snap))) (ae (kC (cL .int)) au)) aw fun (l,m,_) _=>⟨[nch l<=1048576],[.c (.int (((kr (l++[⟨0,0,m,false,⟨[]⟩⟩]):Int))))],none,false⟩
theorem OX:CK 343 Fc:=ah fun (l,m,_) _ hp=>by
 have h0:=bW hp;refine av sI [] Tryz.func343 (?_:(fun q3=>(fun q2=>(fun q1=>(fun q0=>(fun q4=>l.length*64<=140737488355328->m.length*8<=140737488355328->nch l<=1048576/\(I64 (q0.getD q2 q1)->I64 (q0.getD 1 q1)->I64 (q0.getD 2 q1)->I64 (q0.getD 3 q1)->I64 (q0.getD 4 q1)->I64 (q0.getD 5 q1)->I64 (q0.getD 6 q1)->I64 (q0.getD 7 q1)->I64 (q0.getD 8 q1)->I64 (q0.getD 9 q1)->I64 (q0.getD 10 q1)->I64 (q0.getD 11 q1)->I64 (q0.getD 12 q1)->I64 (q0.getD 13 q1)->I64 (q0.getD 14 q1)->I64 (q0.getD 15 q1)->I64 (q0.getD 16 q1)->I64 (q0.getD 17 q1)->I64 (q0.getD 18 q1)->I64 (q0.getD 19 q1)->I64 (q0.getD 20 q1)->I64 (q0.getD 21 q1)->I64 (q0.getD 22 q1)->I64 (q0.getD 23 q1)->I64 (q0.getD 24 q1)->I64 (q0.getD 25 q1)->I64 (q0.getD 26 q1)->I64 (q0.getD 27 q1)->I64 (q0.getD 28 q1)->I64 (q0.getD 29 q1)->I64 (q0.getD 30 q1)->I64 (q0.getD 31 q1)->I64 (q0.getD 32 q1)->I64 (q0.getD 33 q1)->I64 (q0.getD 34 q1)->I64 (q0.getD 35 q1)->I64 (q0.getD 36 q1)->I64 (q0.getD 37 q1)->I64 (q0.getD 38 q1)->I64 (q0.getD 39 q1)->I64 (q0.getD 40 q1)->I64 (q0.getD 41 q1)->I64 (q0.getD 42 q1)->I64 (q0.getD 43 q1)->I64 (q0.getD 44 q1)->I64 (q0.getD 45 q1)->I64 (q0.getD 46 q1)->I64 (q0.getD 47 q1)->I64 (q0.getD 48 q1)->I64 (q0.getD 49 q1)->I64 (q0.getD 50 q1)->I64 (q0.getD 51 q1)->I64 (q0.getD 52 q1)->I64 (q0.getD 53 q1)->I64 (q0.getD 54 q1)->I64 (q0.getD 55 q1)->I64 (q0.getD 56 q1)->I64 (q0.getD 57 q1)->I64 (q0.getD 58 q1)->I64 (q0.getD 59 q1)->I64 (q0.getD 60 q1)->I64 (q0.getD 61 q1)->I64 (q0.getD 62 q1)->I64 (q0.getD 63 q1)->I64 (q0.getD 64 q1)->(∀ (i:Nat),(fun q5=>0<=q5/\q5+(↑m.length:Int)<=4611686018427387904) ((xr Sh.int q0 q2 q3).getD i 0))/\q4.length=q3/\((j_ (fq q4) 64).length*8<=140737488355328->(↑(j_ (fq q4) 64).length:Int)=(↑(kr (l++[Snap.mk 0 0 m false (Str.mk [])])):Int)))) (xr Sh.int (eh (xr Sh.int q0 q2 q3) m) q2 q3)) (bU l)) (ao Sh.int)) (0:Nat)) (65:Nat));(repeat' with_reducible first|apply bd|refine bf ?_|intro)
 all_goals (first | exact bq | exact (qh 65 0) | exact (Ec (s:=.int) (by assumption) (by assumption) _).1 | exact (Ec (s:=.int) (by assumption) (by assumption) _).2 | exact (by rw [iI (s:=.int) (xs:=eh _ _) (by rw [qY,qh]),iI (jv l)]; have:=DR (l++[Snap.mk 0 0 m false ⟨[]⟩]); rw [kn] at this; exact this))
def UJ:bD:=(aL 343 Fc (aL 313 oW Ty))
theorem gf:ay Tryz.prog (al tyT) UJ:=(ag OX (ag zL sI))
def Ap {α:Type} (l:List α) (i:Nat) (x:α):List α:=l.take i++x :: l.drop i
def Tc {α:Type} (l:List α) (i:Int):List α:=l.take i.toNat++l.drop (i+1).toNat
def cf (s:State) (c:Command):Int:=if 0<=ak Opn.set c.set s.opens/\¬ (s.opens.getD (ak Opn.set c.set s.opens).toNat (ao (.nm .opn))).client=c.client then -1 else ak Opn.set c.set s.opens
def eI (s:State) (c:Command):State × Reply:=if 0<=ak Opn.set c.set s.opens then (s,⟨16,(s.opens.getD (ak Opn.set c.set s.opens).toNat (ao (.nm .opn))).client⟩)
 else ({ s with opens:=Ap s.opens (s.opens.takeWhile fun y=>decide (y.set<c.set)).length ⟨c.set,c.client⟩ },⟨0,0⟩)
def eG (s:State) (c:Command):State × Reply:=if cf s c<0 then (s,⟨15,0⟩) else ({ s with opens:=Tc s.opens (cf s c) },⟨0,0⟩)
def ey (s:State) (c:Command):State × Reply:=
 if cf s c<0 then (s,⟨15,0⟩)
 else if 16<=(s.snaps.length:Int)\/1048576<=s.next then (s,⟨20,0⟩)
 else if ¬ s.quota=0/\s.quota<(kr (s.snaps++[⟨0,0,c.chunks,false,⟨[]⟩⟩]):Int) then (s,⟨19,0⟩)
 else ({ s with next:=s.next+1,opens:=Tc s.opens (cf s c),snaps:=s.snaps++[⟨s.next,c.set,c.chunks,false,⟨[]⟩⟩] },⟨0,s.next⟩)
def dY (s:State) (at_:Nat):State × Reply:=
 if (s.snaps.getD at_ (ao (.nm .snap))).held=true then (s,⟨17,0⟩)
 else if lE s at_=true then (s,⟨18,0⟩)
 else ({ s with snaps:=bg (s.snaps.getD at_ (ao (.nm .snap))).id s.snaps },⟨0,(mc s.snaps (s.snaps.getD at_ (ao (.nm .snap))).id).length⟩)
def fJ (s:State) (at_:Nat):State × Reply:=(s,⟨0,(s.snaps.getD at_ (ao (.nm .snap))).chunks.length⟩)
def gp (b:Bool) (s:State) (at_:Nat):State × Reply:=
 if (s.snaps.getD at_ (ao (.nm .snap))).held=b then (s,⟨0,0⟩)
 else ({ s with snaps:=s.snaps.set at_ { s.snaps.getD at_ (ao (.nm .snap)) with held:=b } },⟨0,1⟩)
def rf (c:Command) (s:State) (at_:Nat):State × Reply:=({ s with snaps:=s.snaps.set at_ { s.snaps.getD at_ (ao (.nm .snap)) with tag:=c.text } },⟨0,0⟩)
def sE (c:Command) (s:State):State × Reply:=({ s with keep:=c.n },⟨0,0⟩)
def oD (c:Command) (s:State):State × Reply:=({ s with quota:=c.n },⟨0,kr s.snaps⟩)
theorem dL {key:α->Int} {want:Int} {l:List α} (h:0<=ak key want l):ak key want l<(l.length:Int):=by
 unfold ak at *;split
 ·rename_i i hi;have:=(aeN.1 hi).1;omega
 omega
theorem Oz {s:State} {c:Command} (h:0<=cf s c):cf s c+1<=(s.opens.length:Int):=by
 unfold cf at *;split
 ·grind
 rename_i h1; rw [if_neg h1] at h;have:=dL h;omega
theorem Gv (i:Int) (m:List Opn) (l:List Opn) (h0:0<=i/\i<=(l.length:Int)) (h1:l.length<1048576) (h2:m.length=1):Sat Tryz.prog (al tyT) 341 [.c (.own 0),.c (.int (i)),.c (.fz (.nm .opn) (m))] [.row 139 (.nm .opn) (l)] ⟨[0<=i/\i<=(l.length:Int),l.length<1048576,m.length=1],[.c (.own 0)],some ([.row 139 (.nm .opn) ((l.take i.toNat++m++l.drop i.toNat))]),false⟩:=wu i l m h0 h1 h2
def uP:Kn:=aJ (ae (kC (eN 0)) (ae (kC cI) (ae (kC (cL (.nm .opn))) au))) (aB (eS 139 (.nm .opn)) aw) fun (_,i,m,_) (l,_)=>⟨[0<=i/\i<=(l.length:Int),l.length<1048576,m.length=1],[.c (.own 0)],some ([.row 139 (.nm .opn) ((l.take i.toNat++m++l.drop i.toNat))]),false⟩
theorem HA:CK 341 uP:=ah fun (_,i,m,_) (l,_) hp=>Gv i m l (bW hp) (bW (eH hp)) (bW (eH (eH hp)))
theorem By (i:Int) (l:List Sess) (m:List Sess) (h0:0<=i/\i<=(l.length:Int)) (h1:l.length<1048576) (h2:m.length=1):Sat Tryz.prog (al tyT) 263 [.c (.own 0),.c (.int (i)),.c (.own 1)] [.row 137 (.nm .sess) (l),.row 137 (.nm .sess) (m)] ⟨[0<=i/\i<=(l.length:Int),l.length<1048576,m.length=1],[.c (.own 0)],some ([.row 137 (.nm .sess) ((l.take i.toNat++m++l.drop i.toNat)),.row 137 (.nm .sess) ((m))]),false⟩:=vK i l m h0 h1 h2
def qA:Kn:=aJ (ae (kC (eN 0)) (ae (kC cI) (ae (kC (eN 1)) au))) (aB (eS 137 (.nm .sess)) (aB (eS 137 (.nm .sess)) aw)) fun (_,i,_,_) (l,m,_)=>⟨[0<=i/\i<=(l.length:Int),l.length<1048576,m.length=1],[.c (.own 0)],some ([.row 137 (.nm .sess) ((l.take i.toNat++m++l.drop i.toNat)),.row 137 (.nm .sess) ((m))]),false⟩
theorem Bu:CK 263 qA:=ah fun (_,i,_,_) (l,m,_) hp=>By i l m (bW hp) (bW (eH hp)) (bW (eH (eH hp)))
theorem HF (i:Int) (j:Int) (l:List Opn) (h0:0<=i/\i<(l.length:Int)/\j=i+1):Sat Tryz.prog (al tyT) 344 [.c (.own 0),.c (.int (i)),.c (.int (j))] [.row 139 (.nm .opn) (l)] ⟨[0<=i/\i<(l.length:Int)/\j=i+1],[.c (.own 0)],some ([.row 139 (.nm .opn) ((l.take i.toNat++l.drop j.toNat))]),false⟩:=zC i j l h0
def uY:Kn:=aJ (ae (kC (eN 0)) (ae (kC cI) (ae (kC cI) au))) (aB (eS 139 (.nm .opn)) aw) fun (_,i,j,_) (l,_)=>⟨[0<=i/\i<(l.length:Int)/\j=i+1],[.c (.own 0)],some ([.row 139 (.nm .opn) ((l.take i.toNat++l.drop j.toNat))]),false⟩
theorem FW:CK 344 uY:=ah fun (_,i,j,_) (l,_) hp=>HF i j l (bW hp)
def uH:Kn:=aJ (ae (kC (aW 0 0)) (ae (kT (.nm .command)) au)) (pF 0 aw) fun (_,c,_) (z,_)=>⟨[],[.c (.int ((cf z c)))],none,false⟩
theorem Hz:CK 342 uH:=ah fun (_,c,_) (z,_) _=>by
 obtain ⟨v,nx,kp,qt,se,op,sn⟩:=z;refine av gf [] Tryz.func342 (?_:(fun q1=>(fun q0=>(fun q3=>(fun q2=>bI c (I64 q0->(q3->q3/\q0<(↑op.length:Int))/\((q3->I64 q2.set/\I64 q2.client)->(q3/\¬q2.client=c.client -> -1=q1)/\(q0<0\/q2.client=c.client->q0=q1)))) (op.getD q0.toNat (ao (Sh.nm NT.opn)))) (0<=q0)) (ak Opn.set c.set op)) (cf (State.mk v nx kp qt se op sn) c));(repeat' with_reducible first|apply bd|refine bf ?_|intro)
 all_goals (first | exact bq | exact dL ab | (unfold cf; grind))
def Jf:Kn:=aJ (ae (kC (aW 0 0)) (ae (kC (aW 1 0)) au)) (aB (xq 35 (.nm .command)) (pF 1 aw)) fun _ (c,z,_)=>⟨[],[.agg (cellsOf (.nm .reply) ((sE c z).2))],some (([.box 35 (cellsOf (.nm .command) (c))]++qX 1 ((sE c z).1))),false⟩
theorem WJ:CK 311 Jf:=ah fun _ (c,z,_) _=>by
 obtain ⟨v,nx,kp,qt,se,op,sn⟩:=z;refine bw gf [] Tryz.func311 (?_:(fun q0=>0=q0.snd.code/\0=q0.snd.n/\bh c c (cV (State.mk v nx c.n qt se op sn) q0.fst)) (sE c (State.mk v nx kp qt se op sn)));(repeat' with_reducible first|apply bd|refine bf ?_|intro)
 all_goals (first | exact bq | exact rfl)
def Ki:Kn:=aJ (ae (kC (aW 0 0)) (ae (kC (aW 1 0)) au)) (aB (xq 35 (.nm .command)) (pF 1 aw)) fun _ (c,z,_)=>⟨[nch z.snaps<=1048576],[.agg (cellsOf (.nm .reply) ((oD c z).2))],some (([.box 35 (cellsOf (.nm .command) (c))]++qX 1 ((oD c z).1))),false⟩
theorem YT:CK 312 Ki:=ah fun _ (c,z,_) hp=>by
 obtain ⟨v,nx,kp,qt,se,op,sn⟩:=z;have h0:nch sn<=1048576:=bW hp;refine bw gf [] Tryz.func312 (?_:(fun q0=>nch sn<=1048576/\(I64 (↑(kr sn):Int)->0=q0.snd.code/\(↑(kr sn):Int)=q0.snd.n/\bh c c (cV (State.mk v nx kp c.n se op sn) q0.fst))) (oD c (State.mk v nx kp qt se op sn)));(repeat' with_reducible first|apply bd|refine bf ?_|intro)
 all_goals (first | exact bq | exact rfl)
def EM:Kn:=aJ (ae (kC (aW 0 0)) (ae (kC cI) au)) (pF 0 aw) fun (_,i,_) (z,_)=>⟨[0<=i/\i<(z.snaps.length:Int),nch z.snaps<=1048576],[.agg (cellsOf (.nm .reply) ((dY z i.toNat).2))],some ((qX 0 ((dY z i.toNat).1))),false⟩
theorem PE:CK 315 EM:=ah fun (_,i,_) (z,_) hp=>by
 obtain ⟨v,nx,kp,qt,se,op,sn⟩:=z;have h0:0<=i/\i<(sn.length:Int):=bW hp;have h1:nch sn<=1048576:=bW (eH hp);refine bw gf [] Tryz.func315 (?_:(fun q3=>(fun q2=>(fun q1=>(fun q0=>(fun q4=>I64 i->q3<=i/\i<(↑sn.length:Int)/\eV q1 ((q1.held=true->I64 17->I64 q3->17=q0.snd.code/\q4)/\(q1.held=false->(lE q2 i=true->I64 18->I64 q3->18=q0.snd.code/\q4)/\(lE q2 i=false->nch sn<=1048576/\((mc sn q1.id).length*8<=140737488355328->q3=q0.snd.code/\(↑(mc sn q1.id).length:Int)=q0.snd.n/\cV (State.mk v nx kp qt se op (bg q1.id sn)) q0.fst))))) (q3=q0.snd.n/\cV q2 q0.fst)) (dY q2 i.toNat)) (sn.getD i.toNat (ao (Sh.nm NT.snap)))) (State.mk v nx kp qt se op sn)) (0:Int));have hi:((i.toNat:Nat):Int)=i:=by omega
 (repeat' with_reducible first|apply bd|refine bf ?_|intro)
 all_goals (first | exact bq | ((simp only [dY,hi]; simp_all) <;> (intros; omega)) | (simp only [dY,hi]; grind))
def JR:Kn:=aJ (ae (kC cI) (ae (kC (aW 0 0)) au)) (pF 0 aw) fun (i,_,_) (z,_)=>⟨[0<=i/\i<(z.snaps.length:Int)],[.agg (cellsOf (.nm .reply) ((fJ z i.toNat).2))],some ((qX 0 ((fJ z i.toNat).1))),false⟩
theorem Yf:CK 316 JR:=ah fun (i,_,_) (z,_) hp=>by
 obtain ⟨v,nx,kp,qt,se,op,sn⟩:=z;have h0:0<=i/\i<(sn.length:Int):=bW hp;refine bw gf [] Tryz.func316 (?_:(fun q0=>I64 i->0<=i/\i<(↑sn.length:Int)/\eV (sn.getD i.toNat (ao (Sh.nm NT.snap))) (0=(fJ q0 i.toNat).snd.code/\(↑(sn.getD i.toNat (ao (Sh.nm NT.snap))).chunks.length:Int)=(fJ q0 i.toNat).snd.n/\cV q0 (fJ q0 i.toNat).fst)) (State.mk v nx kp qt se op sn));(repeat' with_reducible first|apply bd|refine bf ?_|intro)
 all_goals (first | exact bq | rfl)
def CA:Kn:=aJ (ae (kC cI) (ae (kC (aW 0 0)) (ae (kC (aW 1 0)) au))) (aB (xq 35 (.nm .command)) (pF 1 aw)) fun (i,_,_,_) (c,z,_)=>⟨[0<=i/\i<(z.snaps.length:Int)],[.agg (cellsOf (.nm .reply) ((rf c z i.toNat).2))],some (([.box 35 (cellsOf (.nm .command) (c))]++qX 1 ((rf c z i.toNat).1))),false⟩
theorem Qg:CK 317 CA:=ah fun (i,_,_,_) (c,z,_) hp=>by
 obtain ⟨v,nx,kp,qt,se,op,sn⟩:=z;have h0:0<=i/\i<(sn.length:Int):=bW hp;refine bw gf [] Tryz.func317 (?_:(fun q1=>(fun q0=>I64 i->0<=i/\i<(↑sn.length:Int)/\eV q0 (0=q1.snd.code/\0=q1.snd.n/\bh c c (cV (State.mk v nx kp qt se op (sn.set i.toNat (Snap.mk q0.id q0.set q0.chunks q0.held c.text))) q1.fst))) (sn.getD i.toNat (ao (Sh.nm NT.snap)))) (rf c (State.mk v nx kp qt se op sn) i.toNat));(repeat' with_reducible first|apply bd|refine bf ?_|intro)
 all_goals (first | exact bq | exact rfl)
def yE:Kn:=aJ (ae (kC cI) (ae (kC (aW 0 0)) (ae (kC (aW 4 0)) au))) (pF 0 (aB (dx 4 (ax cB du)) aw)) fun (i,_,_,_) (z,(b,_),_)=>⟨[0<=i/\i<(z.snaps.length:Int)],[.agg (cellsOf (.nm .reply) ((gp b z i.toNat).2))],some ((qX 0 ((gp b z i.toNat).1)++[.box 4 ([.bool (.atom ((b)))])])),false⟩
theorem KA:CK 304 yE:=ah fun (i,_,_,_) (z,(b,_),_) hp=>by
 obtain ⟨v,nx,kp,qt,se,op,sn⟩:=z;have h0:0<=i/\i<(sn.length:Int):=bW hp;refine bw gf [] Tryz.func304 (?_:(fun q1=>(fun q0=>I64 i->0<=i/\i<(↑sn.length:Int)/\eV q1 (((q1.held == b)=true->0=q0.snd.code/\0=q0.snd.n/\bN (State.mk v nx kp qt se op sn) q0.fst (b=b))/\((q1.held == b)=false->0=q0.snd.code/\1=q0.snd.n/\bN (State.mk v nx kp qt se op (sn.set i.toNat (Snap.mk q1.id q1.set q1.chunks b q1.tag))) q0.fst (b=b)))) (gp b (State.mk v nx kp qt se op sn) i.toNat)) (sn.getD i.toNat (ao (Sh.nm NT.snap))));(repeat' with_reducible first|apply bd|refine bf ?_|intro)
 all_goals (first | exact bq | ((simp only [gp]; simp_all) <;> (intros; omega)) | (simp only [gp]; grind))
def US:bD:=(aL 304 yE (aL 317 CA (aL 316 JR (aL 315 EM (aL 312 Ki (aL 311 Jf (aL 342 uH (aL 344 uY (aL 263 qA (aL 341 uP UJ))))))))))
theorem jW:ay Tryz.prog (al tyT) US:=(ag KA (ag Qg (ag Yf (ag PE (ag YT (ag WJ (ag Hz (ag FW (ag Bu (ag HA gf))))))))))
theorem Oo {p:α->Bool} {l:List α} (h:(l.take k).all p=true) (hk:k<=l.length) (h2:(l.length:Int)<=k\/(k:Int)<l.length/\∃ x,l[k]? = some x/\p x=false):k=(l.takeWhile p).length:=by
 induction l generalizing k with
 | nil=>simp at hk; simp [hk]
 | cons a l ih=>
  cases k with
  | zero=>
   rcases h2 with h2 | ⟨_,x,hx,hp⟩
   ·grind
   simp_all
  | succ k=>
   simp only [agn,agy,Bool.and_eq_true] at h;rw [List.takeWhile_cons,h.1,if_pos rfl,List.length_cons];congr 1;refine ih h.2 (by simpa using hk) ?_;rcases h2 with h2 | ⟨h3,x,hx,hp⟩
   ·grind
   grind
variable {op:List Opn}
theorem aau {v nx kp qt:Int} {se:List Sess} {sn:List Snap} {c:Command} {s:Nat} (h:ak Opn.set c.set op<0) (hs:s<=op.length) (ha:(op.take s).all (fun y=>decide (y.set<c.set))=true) (hb:(op.length:Int)<=s\/c.set<=(op.getD s (ao (.nm .opn))).set):op.take s++[Opn.mk c.set c.client]++op.drop s=(eI (State.mk v nx kp qt se op sn) c).1.opens:=by
 have h1:¬ 0<=ak Opn.set c.set op:=by omega
 simp only [eI,if_neg h1];have:s=(op.takeWhile fun y=>decide (y.set<c.set)).length:=by
  refine Oo ha hs ?_;grind
 rw [<- this]; simp [Ap]
theorem acZ {c:Command} {s:Nat} (ha:(op.take s).all (fun y=>decide (y.set<c.set))=true) (h:(s:Int)<op.length) (hb:(op.getD s (ao (.nm .opn))).set<c.set):(op.take (s+1)).all (fun y=>decide (y.set<c.set))=true:=by
 rw [ai (gd (d:=ao (.nm .opn)) h),agr,ha]; simp only [agy,decide_eq_true hb]; rfl
section
variable {v nx kp qt:Int} {se:List Sess} {op:List Opn} {sn:List Snap} {c:Command}
theorem bgN (h:ak Opn.set c.set op<0):eI (State.mk v nx kp qt se op sn) c=(State.mk v nx kp qt se (Ap op (op.takeWhile fun y=>decide (y.set<c.set)).length ⟨c.set,c.client⟩) sn,⟨0,0⟩):=by
 have h1:¬ 0<=ak Opn.set c.set op:=by omega
 simp only [eI,if_neg h1]
theorem bgY (h:0<=ak Opn.set c.set op):eI (State.mk v nx kp qt se op sn) c=(State.mk v nx kp qt se op sn,⟨16,(op.getD (ak Opn.set c.set op).toNat (ao (.nm .opn))).client⟩):=by
 simp only [eI,if_pos h]
theorem abY (h:cf (State.mk v nx kp qt se op sn) c<0):eG (State.mk v nx kp qt se op sn) c=(State.mk v nx kp qt se op sn,⟨15,0⟩):=by
 simp only [eG,if_pos h]
theorem abN (h:0<=cf (State.mk v nx kp qt se op sn) c):eG (State.mk v nx kp qt se op sn) c=(State.mk v nx kp qt se (op.take (cf (State.mk v nx kp qt se op sn) c).toNat++op.drop (cf (State.mk v nx kp qt se op sn) c+1).toNat) sn,⟨0,0⟩):=by
 have h1:¬ cf (State.mk v nx kp qt se op sn) c<0:=by omega
 simp only [eG,if_neg h1,Tc]
end
def SZ (c:Command) (v:Int) (nx:Int) (kp:Int) (qt:Int) (se:List Sess) (op:List Opn) (sn:List Snap):List (Nat × LI):=[(5,{ σ:=Nat,F:=fun k=>([(0,one (.ptr 0 0)),(3,one (.ptr 4 0)),(4,one (.ptr 5 0)),(6,one (.int k))],(qX 0 (State.mk v nx kp qt se op sn)++[.box 35 (cellsOf (.nm .command) (c)),.box 78 ([.int ((0)),.int ((0))])])),J:=fun k=>k<=op.length/\(op.take k).all (fun y=>decide (y.set<c.set))=true,μ:=fun k=>op.length - k })]
def zV:Kn:=aJ (ae (kC (aW 0 0)) (ae (kT (.nm .command)) au)) (pF 0 aw) fun (_,c,_) (z,_)=>⟨[z.opens.length<1048576],[.agg (cellsOf (.nm .reply) ((eI z c).2))],some ((qX 0 ((eI z c).1))),false⟩
theorem JB:CK 306 zV:=ah fun (_,c,_) (z,_) hp=>by
 obtain ⟨v,nx,kp,qt,se,op,sn⟩:=z;have h0:op.length<1048576:=bW hp;refine bw jW (SZ c v nx kp qt se op sn) Tryz.func306 (?_:(fun (q5:den (Sh.nm NT.opn))=>(fun (q4:Int)=>(fun (q3:Int)=>(fun (q2:Int)=>(fun (q1:State × Reply)=>(fun (q0:Prop)=>bI c (I64 q2->(q3<=q2->q3<=q2/\q2<q4/\(I64 (op.getD q2.toNat q5).set->I64 (op.getD q2.toNat q5).client->16=q1.snd.code/\(op.getD q2.toNat q5).client=q1.snd.n/\cV (State.mk v nx kp qt se op sn) q1.fst))/\(q2<q3->∃ (s0:Nat),(q3=(↑s0:Int)/\q0)/\(s0<=op.length/\((List.take s0 op).all fun (y:Opn)=>decide (y.set<c.set))=true)/\∀ (s:Nat),(fun (q7:Int)=>(fun (q6:Int)=>s<=op.length/\((List.take s op).all fun (y:Opn)=>decide (y.set<c.set))=true->(q6<q4->q3<=q6/\q6<q4)/\((q6<q4->I64 q7/\I64 (op.getD s q5).client)->(q6<q4/\q7<c.set->I64 (q6+1)/\∃ (s':Nat),(q6+1=(↑s':Int)/\q0)/\(s' <= op.length/\((List.take s' op).all fun (y:Opn)=>decide (y.set<c.set))=true)/\op.length - s' < op.length - s)/\(q4<=q6\/c.set<=q7->((q3<=q6/\q6<=q4)/\op.length<1048576/\[Opn.mk c.set c.client].length=1)/\q3=q1.snd.code/\q3=q1.snd.n/\cV (State.mk v nx kp qt se (List.take s op++[Opn.mk c.set c.client]++List.drop s op) sn) q1.fst))) (↑s:Int)) (op.getD s q5).set))) (v=v/\nx=nx/\kp=kp/\qt=qt/\se=se/\op=op/\sn=sn/\bh c c (q3=q3/\q3=q3))) (eI (State.mk v nx kp qt se op sn) c)) (ak Opn.set c.set op)) 0) (↑op.length:Int)) (ao (Sh.nm NT.opn)));iterate 3 ((all_goals (repeat' with_reducible first|apply bd|refine bf ?_|intro)); (all_goals try (first | exact bq | exact rfl | exact dL ab | exact (acZ ab ab ab) | exact (aau ab aK ab (by assumption)) | (rw [bgN]; omega) | (rw [bgY]; omega))); all_goals try first | refine ⟨‹Nat› + 1,?_⟩ | refine ⟨0,?_⟩)
def Al:Kn:=aJ (ae (kC (aW 0 0)) (ae (kT (.nm .command)) au)) (pF 0 aw) fun (_,c,_) (z,_)=>⟨[z.opens.length<1048576],[.agg (cellsOf (.nm .reply) ((eG z c).2))],some ((qX 0 ((eG z c).1))),false⟩
theorem Kd:CK 310 Al:=ah fun (_,c,_) (z,_) hp=>by
 obtain ⟨v,nx,kp,qt,se,op,sn⟩:=z;have h0:op.length<1048576:=bW hp;refine bw jW [] Tryz.func310 (?_:(fun q1=>(fun q0=>(fun q3=>(fun q2=>(fun q4=>bI c (I64 q2->(q2<q1->I64 15->I64 q1->15=q3.code/\q1=q3.n/\cV q0 (eG q0 c).fst)/\(q1<=q2->I64 q4/\(q1<=q2/\q2<(↑op.length:Int)/\q4=q4)/\q1=q3.code/\q1=q3.n/\cV (State.mk v nx kp qt se (List.take q2.toNat op++List.drop q4.toNat op) sn) (eG q0 c).fst))) (q2+1)) (cf q0 c)) (eG q0 c).snd) (State.mk v nx kp qt se op sn)) (0:Int));have hl:0<=cf (State.mk v nx kp qt se op sn) c->cf (State.mk v nx kp qt se op sn) c+1<=(op.length:Int):=fun h=>Oz h;(repeat' with_reducible first|apply bd|refine bf ?_|intro)
 all_goals (first | exact bq | (rw [abN]; omega) | (rw [abY]; omega))
def vr:Kn:=aJ (ae (kC (aW 0 0)) (ae (kT (.nm .command)) au)) (pF 0 aw) fun (_,c,_) (z,_)=>⟨[nch z.snaps<=1048576,z.snaps.length<1048576,z.opens.length<1048576,0<=z.next],[.agg (cellsOf (.nm .reply) ((ey z c).2))],some ((qX 0 ((ey z c).1))),false⟩
theorem GI:CK 308 vr:=ah fun (_,c,_) (z,_) hp=>by
 obtain ⟨v,nx,kp,qt,se,op,sn⟩:=z;have h0:nch sn<=1048576:=bW hp;have h1:sn.length<1048576:=bW (eH hp);have h2:op.length<1048576:=bW (eH (eH hp));have h3:0<=nx:=bW (eH (eH (eH hp)));refine bw jW [] Tryz.func308 (?_:(fun q4=>(fun q3=>(fun q2=>(fun q1=>(fun q0=>(fun q7=>(fun q6=>(fun q5=>bI c (I64 q6->(q6<q2->I64 15->I64 q2->15=q7.code/\q5)/\(q2<=q6->(16<=(↑sn.length:Int)\/1048576<=nx->I64 20->I64 q2->20=q7.code/\q5)/\((↑sn.length:Int)<16/\nx<1048576->(¬qt=q2->nch sn<=1048576)/\((¬qt=q2->I64 q1)->(¬qt=q2/\qt<q1->I64 19->I64 q2->19=q7.code/\q5)/\(qt=q2\/q1<=qt->c.chunks.length*8<=140737488355328->(sn.length+[q4].length)*64<=140737488355328/\I64 (nx+q3)/\I64 (q6+q3)/\(q2<=q6/\q6<(↑op.length:Int)/\q6+q3=q6+q3)/\q2=q7.code/\nx=q7.n/\cV (State.mk v (nx+q3) kp qt se (List.take q6.toNat op++List.drop (q6+q3).toNat op) (sn++[q4])) (ey q0 c).fst)))))) (q2=q7.n/\cV q0 (ey q0 c).fst)) (cf q0 c)) (ey q0 c).snd) (State.mk v nx kp qt se op sn)) (↑(kr (sn++[Snap.mk q2 q2 c.chunks false (Str.mk [])])):Int)) (0:Int)) (1:Int)) (Snap.mk nx c.set c.chunks false (Str.mk [])));have hl:0<=cf (State.mk v nx kp qt se op sn) c->cf (State.mk v nx kp qt se op sn) c+1<=(op.length:Int):=fun h=>Oz h;(repeat' with_reducible first|apply bd|refine bf ?_|intro)
 all_goals (first | exact bq | (simp only [ey,Tc]; grind) | (simp only [List.length_cons,List.length_nil]; omega))
def Ov:Kn:=aJ (ae (kC cI) (ae (kC (aW 0 0)) au)) (pF 0 aw) fun (i,_,_) (z,_)=>⟨[0<=i/\i<(z.snaps.length:Int),nch z.snaps<=1048576],[.agg (cellsOf (.nm .reply) ((dY z i.toNat).2))],some ((qX 0 ((dY z i.toNat).1))),false⟩
theorem Yx:CK 314 Ov:=ah fun (i,_,_) (z,_) hp=>by
 obtain ⟨v,nx,kp,qt,se,op,sn⟩:=z;have h0:0<=i/\i<(sn.length:Int):=bW hp;have h1:nch sn<=1048576:=bW (eH hp);refine bw jW [] Tryz.func314 (?_:(fun q0=>I64 i->(0<=i/\i<(↑sn.length:Int))/\nch sn<=1048576/\(I64 q0.snd.code->I64 q0.snd.n->q0.snd.code=q0.snd.code/\q0.snd.n=q0.snd.n/\cV q0.fst q0.fst)) (dY (State.mk v nx kp qt se op sn) i.toNat));(repeat' with_reducible first|apply bd|refine bf ?_|intro)
 all_goals (first | exact bq | exact rfl)
def TC:bD:=(aL 314 Ov (aL 308 vr (aL 310 Al (aL 306 zV US))))
theorem fX:ay Tryz.prog (al tyT) TC:=(ag Yx (ag GI (ag Kd (ag JB jW))))
def bm (f:State->Nat->State × Reply) (c:Command) (s:State):State × Reply:=if ak Snap.id c.id s.snaps<0 then (s,⟨15,0⟩) else f s (ak Snap.id c.id s.snaps).toNat
section
variable {v nx kp qt:Int} {se:List Sess} {op:List Opn} {sn:List Snap} {c:Command} {f:State->Nat->State × Reply}
theorem sdY (h:ak Snap.id c.id sn<0):bm f c (State.mk v nx kp qt se op sn)=(State.mk v nx kp qt se op sn,⟨15,0⟩):=by
 simp only [bm,if_pos h]
theorem sdN (h:0<=ak Snap.id c.id sn):bm f c (State.mk v nx kp qt se op sn)=f (State.mk v nx kp qt se op sn) (ak Snap.id c.id sn).toNat:=by
 have h1:¬ ak Snap.id c.id sn<0:=by omega
 simp only [bm,if_neg h1]
end
def IK:Kn:=aJ (ae (kC (aW 0 0)) (ae (kC (aW 4 0)) au)) (pF 0 (aB (xq 35 (.nm .command)) aw)) fun _ (z,c,_)=>⟨[z.opens.length<1048576],[.agg (cellsOf (.nm .reply) ((eI z c).2))],some ((qX 0 ((eI z c).1)++[.box 35 (cellsOf (.nm .command) (c))])),false⟩
theorem Xo:CK 305 IK:=ah fun _ (z,c,_) hp=>by
 obtain ⟨v,nx,kp,qt,se,op,sn⟩:=z;have h0:op.length<1048576:=bW hp;refine bw fX [] Tryz.func305 (?_:(fun q0=>op.length<1048576/\(I64 q0.snd.code->I64 q0.snd.n->q0.snd.code=q0.snd.code/\q0.snd.n=q0.snd.n/\bN q0.fst q0.fst (aT c c))) (eI (State.mk v nx kp qt se op sn) c));(repeat' with_reducible first|apply bd|refine bf ?_|intro)
 all_goals (first | exact bq | exact rfl)
def Ji:Kn:=aJ (ae (kC (aW 0 0)) (ae (kC (aW 4 0)) au)) (pF 0 (aB (xq 35 (.nm .command)) aw)) fun _ (z,c,_)=>⟨[nch z.snaps<=1048576,z.snaps.length<1048576,z.opens.length<1048576,0<=z.next],[.agg (cellsOf (.nm .reply) ((ey z c).2))],some ((qX 0 ((ey z c).1)++[.box 35 (cellsOf (.nm .command) (c))])),false⟩
theorem YS:CK 307 Ji:=ah fun _ (z,c,_) hp=>by
 obtain ⟨v,nx,kp,qt,se,op,sn⟩:=z;have h0:nch sn<=1048576:=bW hp;have h1:sn.length<1048576:=bW (eH hp);have h2:op.length<1048576:=bW (eH (eH hp));have h3:0<=nx:=bW (eH (eH (eH hp)));refine bw fX [] Tryz.func307 (?_:(fun q0=>nch sn<=1048576/\sn.length<1048576/\op.length<1048576/\0<=nx/\(I64 q0.snd.code->I64 q0.snd.n->q0.snd.code=q0.snd.code/\q0.snd.n=q0.snd.n/\bN q0.fst q0.fst (aT c c))) (ey (State.mk v nx kp qt se op sn) c));(repeat' with_reducible first|apply bd|refine bf ?_|intro)
 all_goals (first | exact bq | exact rfl)
def Jw:Kn:=aJ (ae (kC (aW 0 0)) (ae (kC (aW 4 0)) au)) (pF 0 (aB (xq 35 (.nm .command)) aw)) fun _ (z,c,_)=>⟨[z.opens.length<1048576],[.agg (cellsOf (.nm .reply) ((eG z c).2))],some ((qX 0 ((eG z c).1)++[.box 35 (cellsOf (.nm .command) (c))])),false⟩
theorem Zw:CK 309 Jw:=ah fun _ (z,c,_) hp=>by
 obtain ⟨v,nx,kp,qt,se,op,sn⟩:=z;have h0:op.length<1048576:=bW hp;refine bw fX [] Tryz.func309 (?_:(fun q0=>op.length<1048576/\(I64 q0.snd.code->I64 q0.snd.n->q0.snd.code=q0.snd.code/\q0.snd.n=q0.snd.n/\bN q0.fst q0.fst (aT c c))) (eG (State.mk v nx kp qt se op sn) c));(repeat' with_reducible first|apply bd|refine bf ?_|intro)
 all_goals (first | exact bq | exact rfl)
def mG:Kn:=aJ (ae (kC (qf 314 [] [(0,0)])) (ae (kC (aW 0 0)) (ae (kC (aW 4 0)) au))) (pF 0 (aB (xq 35 (.nm .command)) aw)) fun _ (z,c,_)=>⟨[],[.c (.fn 301 [] [(0,0),(4,0),(5,0)])],some ((qX 0 z++[.box 35 (cellsOf (.nm .command) (c)),.box 306 ([.fn 314 [] [(0,0)]])])),true⟩
theorem vX:CK 300 mG:=ah fun _ (z,c,_) _=>by
 obtain ⟨v,nx,kp,qt,se,op,sn⟩:=z;refine dr fX [] Tryz.func300 (?_:v=v/\nx=nx/\kp=kp/\qt=qt/\se=se/\op=op/\sn=sn/\aT c c);(repeat' with_reducible first|apply bd|refine bf ?_|intro)
 all_goals (first | exact bq | exact rfl)
def pc:Kn:=aJ (ae (kC (qf 316 [] [(0,0)])) (ae (kC (aW 0 0)) (ae (kC (aW 4 0)) au))) (pF 0 (aB (xq 35 (.nm .command)) aw)) fun _ (z,c,_)=>⟨[],[.c (.fn 301 [] [(0,0),(4,0),(5,0)])],some ((qX 0 z++[.box 35 (cellsOf (.nm .command) (c)),.box 306 ([.fn 316 [] [(0,0)]])])),true⟩
theorem zT:CK 300 pc:=ah fun _ (z,c,_) _=>by
 obtain ⟨v,nx,kp,qt,se,op,sn⟩:=z;refine dr fX [] Tryz.func300 (?_:v=v/\nx=nx/\kp=kp/\qt=qt/\se=se/\op=op/\sn=sn/\aT c c);(repeat' with_reducible first|apply bd|refine bf ?_|intro)
 all_goals (first | exact bq | exact rfl)
def qF:Kn:=aJ (ae (kC (qf 317 [] [(0,0),(1,0)])) (ae (kC (aW 1 0)) (ae (kC (aW 0 0)) au))) (aB (xq 35 (.nm .command)) (pF 1 aw)) fun _ (c,z,_)=>⟨[],[.c (.fn 301 [] [(1,0),(0,0),(5,0)])],some (([.box 35 (cellsOf (.nm .command) (c))]++qX 1 z++[.box 306 ([.fn 317 [] [(0,0),(1,0)]])])),true⟩
theorem Bo:CK 300 qF:=ah fun _ (c,z,_) _=>by
 obtain ⟨v,nx,kp,qt,se,op,sn⟩:=z;refine dr fX [] Tryz.func300 (?_:bh c c (v=v/\nx=nx/\kp=kp/\qt=qt/\se=se/\op=op/\sn=sn));(repeat' with_reducible first|apply bd|refine bf ?_|intro)
 all_goals (first | exact bq | exact rfl)
def oV:Kn:=aJ (ae (kC (qf 304 [] [(0,0),(4,0)])) (ae (kC (aW 0 0)) (ae (kC (aW 5 0)) au))) (pF 0 (aB (dx 4 (ax cB du)) (aB (xq 35 (.nm .command)) aw))) fun _ (z,(b,_),c,_)=>⟨[],[.c (.fn 301 [] [(0,0),(5,0),(6,0)])],some ((qX 0 z++[.box 4 ([.bool (.atom ((b)))]),.box 35 (cellsOf (.nm .command) (c)),.box 306 ([.fn 304 [] [(0,0),(4,0)]])])),true⟩
theorem yh:CK 300 oV:=ah fun _ (z,(b,_),c,_) _=>by
 obtain ⟨v,nx,kp,qt,se,op,sn⟩:=z;refine dr fX [] Tryz.func300 (?_:v=v/\nx=nx/\kp=kp/\qt=qt/\se=se/\op=op/\sn=sn/\b=b/\aT c c);(repeat' with_reducible first|apply bd|refine bf ?_|intro)
 all_goals (first | exact bq | exact rfl)
def TT:bD:=(aL 300 oV (aL 300 qF (aL 300 pc (aL 300 mG (aL 309 Jw (aL 307 Ji (aL 305 IK TC)))))))
theorem iP:ay Tryz.prog (al tyT) TT:=(ag yh (ag Bo (ag zT (ag vX (ag Zw (ag YS (ag Xo fX)))))))
def Kk:Kn:=aJ (ae (kC cB) (ae (kC (aW 0 0)) (ae (kC (aW 1 0)) au))) (aB (dx 308 (ax (qf 300 [] [(1,0),(5,0)]) du)) (pF 1 (aB (xq 35 (.nm .command)) aw))) fun (b,_,_,_) ((_,_),z,c,_)=>⟨[],[.c (.fn 301 [] [(1,0),(5,0),(7,0)])],some (([.box 308 ([.fn 300 [] [(1,0),(5,0)]])]++qX 1 z++[.box 35 (cellsOf (.nm .command) (c)),.box 4 ([.bool (.atom ((b)))]),.box 306 ([.fn 304 [] [(1,0),(6,0)]])])),true⟩
theorem Xn:CK 303 Kk:=ah fun (b,_,_,_) ((_,_),z,c,_) _=>by
 obtain ⟨v,nx,kp,qt,se,op,sn⟩:=z;refine dr iP [] Tryz.func303 (?_:v=v/\nx=nx/\kp=kp/\qt=qt/\se=se/\op=op/\sn=sn/\bh c c (b=b));(repeat' with_reducible first|apply bd|refine bf ?_|intro)
 all_goals (first | exact bq | exact rfl)
def sq:Kn:=aJ (ae (kC (aW 0 0)) (ae (kC (aW 4 0)) (ae (kC (aW 5 0)) au))) (pF 0 (aB (xq 35 (.nm .command)) (aB (dx 306 (ax (qf 314 [] [(0,0)]) du)) aw))) fun _ (z,c,(_,_),_)=>⟨[nch z.snaps<=1048576],[.agg (cellsOf (.nm .reply) ((bm dY c z).2))],some ((qX 0 ((bm dY c z).1)++[.box 35 (cellsOf (.nm .command) (c)),.box 306 ([.fn 314 [] [(0,0)]])])),false⟩
theorem Bv:CK 301 sq:=ah fun _ (z,c,(_,_),_) hp=>by
 obtain ⟨v,nx,kp,qt,se,op,sn⟩:=z;have h0:nch sn<=1048576:=bW hp;refine bw iP [] Tryz.func301 (?_:(fun q1=>(fun q0=>(fun q3=>(fun q2=>I64 q1->(q1<0->I64 15->I64 0->15=q2.snd.code/\0=q2.snd.n/\bN q0 q2.fst (aT c c))/\(0<=q1->(0<=q1/\q1<(↑sn.length:Int))/\nch sn<=1048576/\(I64 q3.code->I64 q3.n->q3.code=q2.snd.code/\q3.n=q2.snd.n/\bN (dY q0 q1.toNat).fst q2.fst (aT c c)))) (bm dY c q0)) (dY q0 q1.toNat).snd) (State.mk v nx kp qt se op sn)) (ak Snap.id c.id sn));(repeat' with_reducible first|apply bd|refine bf ?_|intro)
 all_goals (first | exact bq | exact dL ab | (rw [sdY] <;> first | rfl | omega) | (rw [sdN] <;> first | rfl | omega))
def vv:Kn:=aJ (ae (kC (aW 0 0)) (ae (kC (aW 4 0)) (ae (kC (aW 5 0)) au))) (pF 0 (aB (xq 35 (.nm .command)) (aB (dx 306 (ax (qf 316 [] [(0,0)]) du)) aw))) fun _ (z,c,(_,_),_)=>⟨[],[.agg (cellsOf (.nm .reply) ((bm fJ c z).2))],some ((qX 0 ((bm fJ c z).1)++[.box 35 (cellsOf (.nm .command) (c)),.box 306 ([.fn 316 [] [(0,0)]])])),false⟩
theorem Fo:CK 301 vv:=ah fun _ (z,c,(_,_),_) _=>by
 obtain ⟨v,nx,kp,qt,se,op,sn⟩:=z;refine bw iP [] Tryz.func301 (?_:(fun q1=>(fun q0=>(fun q3=>(fun q2=>I64 q1->(q1<0->I64 15->I64 0->15=q2.snd.code/\0=q2.snd.n/\bN q0 q2.fst (aT c c))/\(0<=q1->(0<=q1/\q1<(↑sn.length:Int))/\(I64 q3.code->I64 q3.n->q3.code=q2.snd.code/\q3.n=q2.snd.n/\bN (fJ q0 q1.toNat).fst q2.fst (aT c c)))) (bm fJ c q0)) (fJ q0 q1.toNat).snd) (State.mk v nx kp qt se op sn)) (ak Snap.id c.id sn));(repeat' with_reducible first|apply bd|refine bf ?_|intro)
 all_goals (first | exact bq | exact dL ab | (rw [sdY] <;> first | rfl | omega) | (rw [sdN] <;> first | rfl | omega))
def yU:Kn:=aJ (ae (kC (aW 0 0)) (ae (kC (aW 4 0)) (ae (kC (aW 5 0)) au))) (pF 0 (aB (xq 35 (.nm .command)) (aB (dx 306 (ax (qf 317 [] [(4,0),(0,0)]) du)) aw))) fun _ (z,c,(_,_),_)=>⟨[],[.agg (cellsOf (.nm .reply) ((bm (rf c) c z).2))],some ((qX 0 ((bm (rf c) c z).1)++[.box 35 (cellsOf (.nm .command) (c)),.box 306 ([.fn 317 [] [(4,0),(0,0)]])])),false⟩
theorem Mo:CK 301 yU:=ah fun _ (z,c,(_,_),_) _=>by
 obtain ⟨v,nx,kp,qt,se,op,sn⟩:=z;refine bw iP [] Tryz.func301 (?_:(fun q1=>(fun q0=>(fun q3=>(fun q2=>I64 q1->(q1<0->I64 15->I64 0->15=q2.snd.code/\0=q2.snd.n/\bN q0 q2.fst (aT c c))/\(0<=q1->(0<=q1/\q1<(↑sn.length:Int))/\(I64 q3.code->I64 q3.n->q3.code=q2.snd.code/\q3.n=q2.snd.n/\bN (rf c q0 q1.toNat).fst q2.fst (aT c c)))) (bm (rf c) c q0)) (rf c q0 q1.toNat).snd) (State.mk v nx kp qt se op sn)) (ak Snap.id c.id sn));(repeat' with_reducible first|apply bd|refine bf ?_|intro)
 all_goals (first | exact bq | exact dL ab | (rw [sdY] <;> first | rfl | omega) | (rw [sdN] <;> first | rfl | omega))
def ue:Kn:=aJ (ae (kC (aW 0 0)) (ae (kC (aW 4 0)) (ae (kC (aW 5 0)) au))) (pF 0 (aB (xq 35 (.nm .command)) (aB (dx 306 (ax (qf 304 [] [(0,0),(6,0)]) du)) (aB (dx 4 (ax cB du)) aw)))) fun _ (z,c,(_,_),(b,_),_)=>⟨[],[.agg (cellsOf (.nm .reply) ((bm (gp b) c z).2))],some ((qX 0 ((bm (gp b) c z).1)++[.box 35 (cellsOf (.nm .command) (c)),.box 306 ([.fn 304 [] [(0,0),(6,0)]]),.box 4 ([.bool (.atom ((b)))])])),false⟩
theorem Gf:CK 301 ue:=ah fun _ (z,c,(_,_),(b,_),_) _=>by
 obtain ⟨v,nx,kp,qt,se,op,sn⟩:=z;refine bw iP [] Tryz.func301 (?_:(fun q1=>(fun q0=>(fun q3=>(fun q2=>I64 q1->(q1<0->I64 15->I64 0->15=q2.snd.code/\0=q2.snd.n/\bN q0 q2.fst (bh c c (b=b)))/\(0<=q1->(0<=q1/\q1<(↑sn.length:Int))/\(I64 q3.code->I64 q3.n->q3.code=q2.snd.code/\q3.n=q2.snd.n/\bN (gp b q0 q1.toNat).fst q2.fst (bh c c (b=b))))) (bm (gp b) c q0)) (gp b q0 q1.toNat).snd) (State.mk v nx kp qt se op sn)) (ak Snap.id c.id sn));(repeat' with_reducible first|apply bd|refine bf ?_|intro)
 all_goals (first | exact bq | exact dL ab | (rw [sdY] <;> first | rfl | omega) | (rw [sdN] <;> first | rfl | omega))
def UC:bD:=(aL 301 ue (aL 301 yU (aL 301 vv (aL 301 sq (aL 303 Kk TT)))))
theorem ya:ay Tryz.prog (al tyT) UC:=(ag Gf (ag Mo (ag Fo (ag Bv (ag Xn iP)))))
def ft (s:State) (c:Command):Int:=if ei s s.version=0 then bC c s.version else 1
def HY (s:State) (c:Command):State × Reply:=
 if c.kind=11 then bm (rf c) c s
 else if c.kind=10 then bm (gp false) c s
 else if c.kind=9 then bm (gp true) c s
 else if c.kind=7 then bm fJ c s
 else if c.kind=5 then bm dY c s
 else if c.kind=12 then oD c s
 else if c.kind=6 then sE c s
 else if c.kind=4 then eG s c
 else if c.kind=3 then ey s c
 else if c.kind=2 then eI s c
 else (s,⟨1,0⟩)
def eK (s:State) (c:Command):State × Reply:=if ¬ ft s c=0 then (s,⟨ft s c,0⟩) else HY s c
theorem xb {α:Type} {key:α->Int} {most:Int}:∀ {l:List α} {a:Int},az key most a l=true->l=[]\/a+(l.length:Int)<=most
 | [],_,_=>.inl rfl
 | x :: l,a,h=>by
  simp only [az,Bool.and_eq_true] at h;have h1:=HO h.1;rcases xb h.2 with h2 | h2
  ·grind
  grind
theorem gA {s:State} {v:Int} (h:ei s v=0):bX v 1 3=true/\jU s v=true/\zX s=true/\vP s=true/\fO s v=true:=by
 unfold ei at h;grind
theorem Yo {s:State} {v:Int} (h:ei s v=0):s.opens.length<=8:=by
 have h1:=(gA h).2.2.2.1;simp only [vP,Bool.and_eq_true] at h1;rcases xb h1.1 with h2 | h2
 ·grind
 omega
theorem YZ {s:State} {v:Int} (h:ei s v=0):s.sess.length<=8:=by
 have h1:=(gA h).2.2.1;simp only [zX,Bool.and_eq_true] at h1;rcases xb h1.1 with h2 | h2
 ·grind
 omega
theorem Jd {s:State} {v:Int} (h:ei s v=0):s.snaps.length<=16/\az Snap.id (s.next - 1) 0 s.snaps=true/\∀ x ∈ s.snaps,dq v (vM v) x=true:=by
 have h1:=(gA h).2.2.2.2;simp only [fO] at h1;grind
variable {t:Int}
theorem Yk {v:Int} (h:dq v t x=true):cr x.chunks=true:=by
 simp only [dq,Bool.and_eq_true,decide_eq_true_eq] at h;cases hr:cr x.chunks with
 | true=>rfl
 | false=>have:=rU (l:=x.chunks) hr; omega
theorem LA:∀ {l:List Snap},(∀ x ∈ l,cr x.chunks=true)->nch l<=8*l.length
 | [],_=>ac5 _
 | x :: l,h=>by
  have h1:=LA (l:=l) fun y hy=>h y (acb _ hy);have h2:=(EG (h x (ac7))).2;have e:nch (x :: l)=x.chunks.length+nch l:=by simp [nch]
  grind
theorem Pg {s:State} {v:Int} (h:ei s v=0):nch s.snaps<=128:=by
 have h1:=Jd h;have:=LA (l:=s.snaps) fun x hx=>Yk (h1.2.2 x hx);omega
theorem YL {s:State} {v:Int} (h:ei s v=0):1<=s.next/\s.next<=1048576:=by
 have h1:=(gA h).2.1;simp only [jU,Bool.and_eq_true] at h1;exact HO h1.1.1.2
theorem Bq {s:State} {c:Command} (h:(if ei s s.version=0 then bC c s.version else 1)=0):ei s s.version=0:=by grind
theorem VG {s:State} {c:Command} (h:(if ei s s.version=0 then bC c s.version else 1)=0):nch s.snaps<=1048576:=by have:=Pg (Bq h); omega
theorem aax {s:State} {c:Command} (h:(if ei s s.version=0 then bC c s.version else 1)=0):s.opens.length<1048576:=by have:=Yo (Bq h); omega
theorem U_ {s:State} {c:Command} (h:(if ei s s.version=0 then bC c s.version else 1)=0):s.sess.length<1048576:=by have:=YZ (Bq h); omega
theorem acB {s:State} {c:Command} (h:(if ei s s.version=0 then bC c s.version else 1)=0):s.snaps.length<1048576:=by have:=(Jd (Bq h)).1; omega
theorem ZU {s:State} {c:Command} (h:(if ei s s.version=0 then bC c s.version else 1)=0):0<=s.next:=by have:=YL (Bq h); omega
theorem aaU {s:State} {c:Command} (h:(if ei s s.version=0 then bC c s.version else 1)=0):eK s c=HY s c:=by
 have h:ft s c=0:=h;rw [eK,h]; rfl
theorem adp {s:State} {c:Command} (h:¬ (if ei s s.version=0 then bC c s.version else 1)=0):eK s c=(s,⟨(if ei s s.version=0 then bC c s.version else 1),0⟩):=by
 have h:¬ ft s c=0:=h;rw [eK,if_pos h]; rfl
def Oi:Kn:=aJ (ae (kT (.nm .state)) (ae (kT (.nm .command)) au)) aw fun (st,c,_) _=>⟨[],[.agg ([.int (((eK st c).1.version)),.int (((eK st c).1.next)),.int (((eK st c).1.keep)),.int (((eK st c).1.quota)),.own 0,.own 1,.own 2]),.agg (cellsOf (.nm .reply) ((eK st c).2))],some ([.row 137 (.nm .sess) (((eK st c).1.sess)),.row 139 (.nm .opn) (((eK st c).1.opens)),.row 172 (.nm .snap) (((eK st c).1.snaps))]),true⟩
theorem VI:CK 281 Oi:=ah fun (st,c,_) _ _=>by
 refine dr ya [] Tryz.func281 (?_:(fun q18=>(fun q17=>(fun q16=>(fun q15=>(fun q14=>(fun q13=>(fun q12=>(fun q11=>(fun q10=>(fun q9=>(fun q8=>(fun q7=>(fun q6=>(fun q5=>(fun q4=>(fun q3=>(fun q2=>(fun q1=>(fun q19=>(fun q0=>(fun q27=>(fun q26=>(fun q25=>(fun q24=>(fun q23=>(fun q22=>(fun q21=>(fun q20=>fo st (bI c (I64 q18->I64 st.next->I64 st.keep->I64 st.quota->I64 q2->(¬q2=q15->I64 q2->I64 q15->q18=q21/\st.next=q24/\st.keep=q23/\st.quota=q22/\q2=q19/\q20)/\(q2=q15->(q9=11->I64 q5.snd.code->I64 q5.snd.n->q5.fst.version=q21/\q5.fst.next=q24/\q5.fst.keep=q23/\q5.fst.quota=q22/\q5.snd.code=q19/\q5.snd.n=q1.n/\q5.fst.sess=q27/\q5.fst.opens=q25/\q5.fst.snaps=q26)/\(¬q9=11->(q9=10->I64 q3.snd.code->I64 q3.snd.n->q3.fst.version=q21/\q3.fst.next=q24/\q3.fst.keep=q23/\q3.fst.quota=q22/\q3.snd.code=q19/\q3.snd.n=q1.n/\q3.fst.sess=q27/\q3.fst.opens=q25/\q3.fst.snaps=q26)/\(¬q9=10->(q9=9->I64 q4.snd.code->I64 q4.snd.n->q4.fst.version=q21/\q4.fst.next=q24/\q4.fst.keep=q23/\q4.fst.quota=q22/\q4.snd.code=q19/\q4.snd.n=q1.n/\q4.fst.sess=q27/\q4.fst.opens=q25/\q4.fst.snaps=q26)/\(¬q9=9->(q9=7->I64 q6.snd.code->I64 q6.snd.n->q6.fst.version=q21/\q6.fst.next=q24/\q6.fst.keep=q23/\q6.fst.quota=q22/\q6.snd.code=q19/\q6.snd.n=q1.n/\q6.fst.sess=q27/\q6.fst.opens=q25/\q6.fst.snaps=q26)/\(¬q9=7->(q9=5->q16/\(I64 q7.snd.code->I64 q7.snd.n->q7.fst.version=q21/\q7.fst.next=q24/\q7.fst.keep=q23/\q7.fst.quota=q22/\q7.snd.code=q19/\q7.snd.n=q1.n/\q7.fst.sess=q27/\q7.fst.opens=q25/\q7.fst.snaps=q26))/\(¬q9=5->(q9=12->q16/\(I64 q12.snd.code->I64 q12.snd.n->q12.fst.version=q21/\q12.fst.next=q24/\q12.fst.keep=q23/\q12.fst.quota=q22/\q12.snd.code=q19/\q12.snd.n=q1.n/\q12.fst.sess=q27/\q12.fst.opens=q25/\q12.fst.snaps=q26))/\(¬q9=12->(q9=6->I64 q17.code->I64 q17.n->q13.version=q21/\q13.next=q24/\q13.keep=q23/\q13.quota=q22/\q17.code=q19/\q17.n=q1.n/\q13.sess=q27/\q13.opens=q25/\q13.snaps=q26)/\(¬q9=6->(q9=4->q14/\(I64 q10.snd.code->I64 q10.snd.n->q10.fst.version=q21/\q10.fst.next=q24/\q10.fst.keep=q23/\q10.fst.quota=q22/\q10.snd.code=q19/\q10.snd.n=q1.n/\q10.fst.sess=q27/\q10.fst.opens=q25/\q10.fst.snaps=q26))/\(¬q9=4->(q9=3->q16/\st.snaps.length<1048576/\q14/\q15<=st.next/\(I64 q8.snd.code->I64 q8.snd.n->q8.fst.version=q21/\q8.fst.next=q24/\q8.fst.keep=q23/\q8.fst.quota=q22/\q8.snd.code=q19/\q8.snd.n=q1.n/\q8.fst.sess=q27/\q8.fst.opens=q25/\q8.fst.snaps=q26))/\(¬q9=3->(q9=2->q14/\(I64 q11.snd.code->I64 q11.snd.n->q11.fst.version=q21/\q11.fst.next=q24/\q11.fst.keep=q23/\q11.fst.quota=q22/\q11.snd.code=q19/\q11.snd.n=q1.n/\q11.fst.sess=q27/\q11.fst.opens=q25/\q11.fst.snaps=q26))/\(¬q9=2->I64 1->I64 q15->q18=q21/\st.next=q24/\st.keep=q23/\st.quota=q22/\1=q19/\q20)))))))))))))) (q15=q1.n/\st.sess=q27/\st.opens=q25/\st.snaps=q26)) q0.version) q0.quota) q0.keep) q0.next) q0.opens) q0.snaps) q0.sess) (eK st c).fst) q1.code) (eK st c).snd) (if ei st q18=q15 then bC c q18 else 1)) (bm (gp false) c st)) (bm (gp true) c st)) (bm (rf c) c st)) (bm fJ c st)) (bm dY c st)) (ey st c)) c.kind) (eG st c)) (eI st c)) (oD c st)) (sE c st).fst) (st.opens.length<1048576)) (0:Int)) (nch st.snaps<=1048576)) (sE c st).snd) st.version)
 (repeat' with_reducible first|apply bd|refine bf ?_|intro)
 all_goals (first | exact bq | exact (VG ab) | exact (aax ab) | exact (U_ ab) | exact (acB ab) | exact (ZU ab) | (rw [adp ab]; done) | (rw [aaU ab]; simp only [HY, *]; done) | (rw [aaU ab]; simp [HY, *]; done))
def TQ:bD:=(aL 281 Oi UC)
theorem xJ:ay Tryz.prog (al tyT) TQ:=(ag VI ya)
def cw (s:State) (c:Command):State × Reply:=
 if ak Sess.client c.client s.sess<0 then (s,⟨11,0⟩)
 else if c.seq=(s.sess.getD (ak Sess.client c.client s.sess).toNat (ao (.nm .sess))).seq then (s,(s.sess.getD (ak Sess.client c.client s.sess).toNat (ao (.nm .sess))).last)
 else if c.seq<(s.sess.getD (ak Sess.client c.client s.sess).toNat (ao (.nm .sess))).seq then (s,⟨13,0⟩)
 else if (s.sess.getD (ak Sess.client c.client s.sess).toNat (ao (.nm .sess))).seq+1<c.seq then (s,⟨14,0⟩)
 else ({ (eK s c).1 with sess:=(eK s c).1.sess.set (ak Sess.client c.client s.sess).toNat { (eK s c).1.sess.getD (ak Sess.client c.client s.sess).toNat (ao (.nm .sess)) with seq:=c.seq,last:=(eK s c).2 } },(eK s c).2)
def qc (s:State) (c:Command):State × Reply:=
 if ¬ ft s c=0 then (s,⟨ft s c,0⟩)
 else if c.kind=8 then (if ¬ c.n=s.version+1 then (s,⟨1,0⟩) else ({ s with version:=c.n },⟨0,c.n⟩))
 else if c.kind=1 then (if 0<=ak Sess.client c.client s.sess then (s,⟨12,0⟩) else ({ s with sess:=Ap s.sess (s.sess.takeWhile fun y=>decide (y.client<c.client)).length ⟨c.client,0,⟨0,0⟩⟩ },⟨0,0⟩))
 else cw s c
variable {Q:State × Reply->Prop}
theorem QZ {s:State} {c:Command} (h0:∀ e:Int,¬ e=0->Q (s,⟨e,0⟩))
  (hs:∀ f:State->Nat->State × Reply,ft s c=0->(f=rf c\/(∃ b,f=gp b)\/f=fJ\/f=dY)->Q (bm f c s))
  (hq:ft s c=0->Q (oD c s)) (hk:ft s c=0->Q (sE c s)) (ha:ft s c=0->Q (eG s c)) (hc:ft s c=0->Q (ey s c)) (hb:ft s c=0->Q (eI s c)):Q (eK s c):=by
 unfold eK;split
 ·exact h0 _ (by assumption)
 rename_i h;have h:ft s c=0:=adi.1 h;unfold HY;split
 ·exact hs _ h (.inl rfl)
 split
 ·exact hs _ h (.inr (.inl ⟨_,rfl⟩))
 split
 ·exact hs _ h (.inr (.inl ⟨_,rfl⟩))
 split
 ·exact hs _ h (.inr (.inr (.inl rfl)))
 split
 ·exact hs _ h (.inr (.inr (.inr rfl)))
 split
 ·exact hq h
 split
 ·exact hk h
 split
 ·exact ha h
 split
 ·exact hc h
 split
 ·exact hb h
 exact h0 1 (by decide)
theorem Gi {f:State->Nat->State × Reply} {s:State} {c:Command} (h0:∀ e:Int,¬ e=0->Q (s,⟨e,0⟩)) (h:∀ n:Nat,(n:Int)=ak Snap.id c.id s.snaps->Q (f s n)):Q (bm f c s):=by
 unfold bm;grind
theorem Ga {s:State} {c:Command}:(eK s c).1.sess=s.sess:=by
 refine QZ (Q:=fun r=>r.1.sess=s.sess) (fun _ _=>rfl) (fun f _ hf=>?_) (fun _=>rfl) (fun _=>rfl) (fun _=>?_) (fun _=>?_) (fun _=>?_)
 ·refine Gi (Q:=fun r=>r.1.sess=s.sess) (fun _ _=>rfl) fun n _=>?_;rcases hf with rfl | ⟨b,rfl⟩ | rfl | rfl
  ·rfl
  ·unfold gp; split <;> rfl
  ·rfl
  unfold dY; split; rfl; split <;> rfl
 ·unfold eG; split <;> rfl
 ·unfold ey; split; rfl; split; rfl; split <;> rfl
 unfold eI; split <;> rfl
theorem yw {l:List Sess} {q:Int} {R:Reply} (h:k<l.length):(l.set k (Sess.mk (l.getD k (ao (.nm .sess))).client q (l.getD k (ao (.nm .sess))).last)).set k (Sess.mk ((l.set k (Sess.mk (l.getD k (ao (.nm .sess))).client q (l.getD k (ao (.nm .sess))).last)).getD k (ao (.nm .sess))).client ((l.set k (Sess.mk (l.getD k (ao (.nm .sess))).client q (l.getD k (ao (.nm .sess))).last)).getD k (ao (.nm .sess))).seq R)=l.set k { l.getD k (ao (.nm .sess)) with seq:=q,last:=R }:=by simp_all
section
variable {v nx kp qt:Int} {se:List Sess} {op:List Opn} {sn:List Snap} {c:Command}
theorem as1 (h:ak Sess.client c.client se<0):cw (State.mk v nx kp qt se op sn) c=(State.mk v nx kp qt se op sn,⟨11,0⟩):=by
 simp only [cw,if_pos h]
theorem as2 (h:0<=ak Sess.client c.client se) (e:c.seq=(se.getD (ak Sess.client c.client se).toNat (ao (.nm .sess))).seq):cw (State.mk v nx kp qt se op sn) c=(State.mk v nx kp qt se op sn,(se.getD (ak Sess.client c.client se).toNat (ao (.nm .sess))).last):=by
 have h1:¬ ak Sess.client c.client se<0:=by omega
 simp only [cw,if_neg h1,if_pos e]
theorem as3 (h:0<=ak Sess.client c.client se) (e:¬ c.seq=(se.getD (ak Sess.client c.client se).toNat (ao (.nm .sess))).seq) (l:c.seq<(se.getD (ak Sess.client c.client se).toNat (ao (.nm .sess))).seq):cw (State.mk v nx kp qt se op sn) c=(State.mk v nx kp qt se op sn,⟨13,0⟩):=by
 have h1:¬ ak Sess.client c.client se<0:=by omega
 simp only [cw,if_neg h1,if_neg e,if_pos l]
theorem as4 (h:0<=ak Sess.client c.client se) (e:¬ c.seq=(se.getD (ak Sess.client c.client se).toNat (ao (.nm .sess))).seq) (l:(se.getD (ak Sess.client c.client se).toNat (ao (.nm .sess))).seq<=c.seq) (g:(se.getD (ak Sess.client c.client se).toNat (ao (.nm .sess))).seq+1<c.seq):cw (State.mk v nx kp qt se op sn) c=(State.mk v nx kp qt se op sn,⟨14,0⟩):=by
 have h1:¬ ak Sess.client c.client se<0:=by omega
 have h2:¬ c.seq<(se.getD (ak Sess.client c.client se).toNat (ao (.nm .sess))).seq:=by omega
 simp only [cw,if_neg h1,if_neg e,if_neg h2,if_pos g]
theorem as5 (h:0<=ak Sess.client c.client se) (e:¬ c.seq=(se.getD (ak Sess.client c.client se).toNat (ao (.nm .sess))).seq) (l:(se.getD (ak Sess.client c.client se).toNat (ao (.nm .sess))).seq<=c.seq) (g:c.seq<=(se.getD (ak Sess.client c.client se).toNat (ao (.nm .sess))).seq+1):cw (State.mk v nx kp qt se op sn) c=({ (eK (State.mk v nx kp qt se op sn) c).1 with sess:=(eK (State.mk v nx kp qt se op sn) c).1.sess.set (ak Sess.client c.client se).toNat { (eK (State.mk v nx kp qt se op sn) c).1.sess.getD (ak Sess.client c.client se).toNat (ao (.nm .sess)) with seq:=c.seq,last:=(eK (State.mk v nx kp qt se op sn) c).2 } },(eK (State.mk v nx kp qt se op sn) c).2):=by
 have h1:¬ ak Sess.client c.client se<0:=by omega
 have h2:¬ c.seq<(se.getD (ak Sess.client c.client se).toNat (ao (.nm .sess))).seq:=by omega
 have h3:¬ (se.getD (ak Sess.client c.client se).toNat (ao (.nm .sess))).seq+1<c.seq:=by omega
 simp only [cw,if_neg h1,if_neg e,if_neg h2,if_neg h3]
theorem NU (h:0<=ak Sess.client c.client se):ak Sess.client c.client se<((eK (State.mk v nx kp qt se op sn) c).1.sess.length:Int):=by rw [Ga]; exact dL h
theorem xE (h:0<=ak Sess.client c.client se):(ak Sess.client c.client se).toNat<(eK (State.mk v nx kp qt se op sn) c).1.sess.length:=by have:=NU (v:=v) (nx:=nx) (kp:=kp) (qt:=qt) (op:=op) (sn:=sn) h; omega
theorem abD {x:Sess} (h:0<=ak Sess.client c.client se):ak Sess.client c.client se<(((eK (State.mk v nx kp qt se op sn) c).1.sess.set (ak Sess.client c.client se).toNat x).length:Int):=by rw [adn]; exact NU h
theorem agF (h:ft (State.mk v nx kp qt se op sn) c=0) (h0:0<=ak Sess.client c.client se):I64 ((se.getD (ak Sess.client c.client se).toNat (ao (.nm .sess))).seq+1):=by
 have h1:=(gA (Bq h)).2.2.1;simp only [zX,Bool.and_eq_true,afi] at h1;have h2:=h1.2 _ (ada (gd (d:=ao (.nm .sess)) (k:=(ak Sess.client c.client se).toNat) (l:=se) (by have:=dL h0; omega)));simp only [dR,Bool.and_eq_true] at h2;have h3:=HO h2.1.1;constructor <;> omega
end
def zb:Kn:=aJ (ae (kG (ax cI (ax cI (ax cI (ax cI (ax (eN 0) (ax (eN 1) (ax (eN 2) du)))))))) (ae (kT (.nm .command)) au)) (aB (eS 137 (.nm .sess)) (aB (eS 139 (.nm .opn)) (aB (eS 172 (.nm .snap)) aw))) fun ((v,nx,kp,qt,_,_,_,_),c,_) (se,op,sn,_)=>⟨[ft (State.mk v nx kp qt se op sn) c=0],[.agg ([.int (((cw (State.mk v nx kp qt se op sn) c).1.version)),.int (((cw (State.mk v nx kp qt se op sn) c).1.next)),.int (((cw (State.mk v nx kp qt se op sn) c).1.keep)),.int (((cw (State.mk v nx kp qt se op sn) c).1.quota)),.own 0,.own 1,.own 2]),.agg (cellsOf (.nm .reply) ((cw (State.mk v nx kp qt se op sn) c).2))],some ([.row 137 (.nm .sess) (((cw (State.mk v nx kp qt se op sn) c).1.sess)),.row 139 (.nm .opn) (((cw (State.mk v nx kp qt se op sn) c).1.opens)),.row 172 (.nm .snap) (((cw (State.mk v nx kp qt se op sn) c).1.snaps))]),false⟩
theorem IL:CK 264 zb:=ah fun ((v,nx,kp,qt,_,_,_,_),c,_) (se,op,sn,_) hp=>by
 have h0:=bW hp;refine bw xJ [] Tryz.func264 (?_:(fun q4=>(fun q3=>(fun q2=>(fun q1=>(fun q5=>(fun q6=>(fun q7=>(fun q0=>(fun q12=>(fun q11=>(fun q10=>(fun q13=>(fun q9=>(fun q8=>(fun q18=>(fun q17=>(fun q16=>(fun q15=>(fun q14=>(fun q19=>I64 v->I64 nx->I64 kp->I64 qt->bI c (I64 q1->(q1<q3->I64 11->I64 q3->q15/\q17/\q18/\q16/\11=q11.code/\q19)/\(q3<=q1->q3<=q1/\q1<(↑se.length:Int)/\ju q6 ((q4=q6.seq->q15/\q17/\q18/\q16/\q6.last.code=q11.code/\q6.last.n=q11.n/\q14)/\(¬q4=q6.seq->(q4<q6.seq->I64 13->I64 q3->q15/\q17/\q18/\q16/\13=q11.code/\q19)/\(q6.seq<=q4->I64 q7/\(q7<q4->I64 14->I64 q3->q15/\q17/\q18/\q16/\14=q11.code/\q19)/\(q4<=q7->I64 q10.version->I64 q10.next->I64 q10.keep->I64 q10.quota->I64 q12.code->I64 q12.n->(q3<=q1/\q1<(↑q10.sess.length:Int))/\ju q13 (q3<=q1/\q1<(↑q9.length:Int))/\ju q13 (ju (q9.getD q5 q2) (q10.version=q8.version/\q10.next=q8.next/\q10.keep=q8.keep/\q10.quota=q8.quota/\q12.code=q11.code/\q12.n=q11.n/\q9.set q5 (Sess.mk (q9.getD q5 q2).client (q9.getD q5 q2).seq q12)=q8.sess/\q10.opens=q8.opens/\q10.snaps=q8.snaps))))))))) (q3=q11.n/\q14)) (se=q8.sess/\op=q8.opens/\sn=q8.snaps)) (v=q8.version)) (qt=q8.quota)) (nx=q8.next)) (kp=q8.keep)) (cw q0 c).fst) (q10.sess.set q5 (Sess.mk q13.client q4 q13.last))) (q10.sess.getD q5 q2)) (eK q0 c).fst) (cw q0 c).snd) (eK q0 c).snd) (State.mk v nx kp qt se op sn)) (q6.seq+1)) (se.getD q5 q2)) q1.toNat) (ak Sess.client c.client se)) (ao (Sh.nm NT.sess))) (0:Int)) c.seq);(repeat' with_reducible first|apply bd|refine bf ?_|intro)
 all_goals (first | exact bq | exact dL ab | exact NU ab | exact abD ab | exact agF ab ab | (rw [as1] <;> first | rfl | with_reducible assumption | exact yw (xE ab)) | (rw [as2] <;> first | rfl | with_reducible assumption | exact yw (xE ab)) | (rw [as3] <;> first | rfl | with_reducible assumption | exact yw (xE ab)) | (rw [as4] <;> first | rfl | with_reducible assumption | exact yw (xE ab)) | (rw [as5] <;> first | rfl | with_reducible assumption | exact yw (xE ab)))
def Tu:bD:=(aL 264 zb TQ)
theorem xv:ay Tryz.prog (al tyT) Tu:=(ag IL xJ)
section
variable {s:State} {c:Command}
theorem adv (h:(if ei s s.version=0 then bC c s.version else 1)=0):ft s c=0:=h
theorem adJ (h:(if ei s s.version=0 then bC c s.version else 1)=0):I64 (s.version+1):=by
 have h1:=(gA (Bq h)).2.1;simp only [jU,Bool.and_eq_true] at h1;have:=HO h1.1.1.1;constructor <;> omega
theorem doE (h:¬ (if ei s s.version=0 then bC c s.version else 1)=0):qc s c=(s,⟨(if ei s s.version=0 then bC c s.version else 1),0⟩):=by
 have h:¬ ft s c=0:=h;rw [qc,if_pos h]; rfl
theorem doM (h:(if ei s s.version=0 then bC c s.version else 1)=0):qc s c=if c.kind=8 then (if ¬ c.n=s.version+1 then (s,⟨1,0⟩) else ({ s with version:=c.n },⟨0,c.n⟩))
 else if c.kind=1 then (if 0<=ak Sess.client c.client s.sess then (s,⟨12,0⟩) else ({ s with sess:=Ap s.sess (s.sess.takeWhile fun y=>decide (y.client<c.client)).length ⟨c.client,0,⟨0,0⟩⟩ },⟨0,0⟩))
 else cw s c:=by
 have h:¬ ¬ ft s c=0:=fun k=>k h;rw [qc,if_neg h]
theorem aeM (h:(if ei s s.version=0 then bC c s.version else 1)=0) (k:c.kind=8) (n:¬ c.n=s.version+1):qc s c=(s,⟨1,0⟩):=by rw [doM h,if_pos k,if_pos n]
theorem aex (h:(if ei s s.version=0 then bC c s.version else 1)=0) (k:c.kind=8) (n:c.n=s.version+1):qc s c=({ s with version:=c.n },⟨0,c.n⟩):=by rw [doM h,if_pos k,if_neg (fun h=>h n)]
theorem afj (h:(if ei s s.version=0 then bC c s.version else 1)=0) (k:c.kind=1) (n:0<=ak Sess.client c.client s.sess):qc s c=(s,⟨12,0⟩):=by rw [doM h,if_neg (by omega),if_pos k,if_pos n]
theorem af0 (h:(if ei s s.version=0 then bC c s.version else 1)=0) (k:c.kind=1) (n:ak Sess.client c.client s.sess<0):qc s c=({ s with sess:=Ap s.sess (s.sess.takeWhile fun y=>decide (y.client<c.client)).length ⟨c.client,0,⟨0,0⟩⟩ },⟨0,0⟩):=by rw [doM h,if_neg (by omega),if_pos k,if_neg (by omega)]
theorem doX (h:(if ei s s.version=0 then bC c s.version else 1)=0) (k:¬ c.kind=8) (n:¬ c.kind=1):qc s c=cw s c:=by rw [doM h,if_neg k,if_neg n]
variable {l:List Sess}
theorem nS {x:Sess} (hs:k<=l.length) (ha:(l.take k).all (fun y=>decide (y.client<c.client))=true) (hb:(l.length:Int)<=k\/c.client<=(l.getD k (ao (.nm .sess))).client):l.take k++[x]++l.drop k=Ap l (l.takeWhile fun y=>decide (y.client<c.client)).length x:=by
 have:k=(l.takeWhile fun y=>decide (y.client<c.client)).length:=by
  refine Oo ha hs ?_;grind
 rw [<- this]; simp [Ap]
theorem abn (ha:(l.take k).all (fun y=>decide (y.client<c.client))=true) (h:(k:Int)<l.length) (hb:(l.getD k (ao (.nm .sess))).client<c.client):(l.take (k+1)).all (fun y=>decide (y.client<c.client))=true:=by
 rw [ai (gd (d:=ao (.nm .sess)) h),agr,ha]; simp only [agy,decide_eq_true hb]; rfl
end
def afX (st:State) (c:Command):List (Nat × LI):=[(15,{ σ:=Nat,F:=fun k=>([(2,one (.ptr 0 0)),(3,one (.ptr 1 0)),(4,one (.ptr 2 0)),(5,one (.ptr 3 0)),(7,one (.int k))],[.box 46 ([.int ((st.version)),.int ((st.next)),.int ((st.keep)),.int ((st.quota)),.own 4,.own 5,.own 6]),.box 35 (cellsOf (.nm .command) (c)),.box 46 ([.int ((0)),.int ((0)),.int ((0)),.int ((0)),.em true,.em true,.em true]),.box 78 ([.int ((0)),.int ((0))]),.row 137 (.nm .sess) ((st.sess)),.row 139 (.nm .opn) ((st.opens)),.row 172 (.nm .snap) ((st.snaps))]),J:=fun k=>k<=st.sess.length/\(st.sess.take k).all (fun y=>decide (y.client<c.client))=true,μ:=fun k=>st.sess.length - k })]
def Ui:Kn:=aJ (ae (kT (.nm .state)) (ae (kT (.nm .command)) au)) aw fun (st,c,_) _=>⟨[],[.agg ([.int (((qc st c).1.version)),.int (((qc st c).1.next)),.int (((qc st c).1.keep)),.int (((qc st c).1.quota)),.own 0,.own 1,.own 2]),.agg (cellsOf (.nm .reply) ((qc st c).2))],some ([.row 137 (.nm .sess) (((qc st c).1.sess)),.row 139 (.nm .opn) (((qc st c).1.opens)),.row 172 (.nm .snap) (((qc st c).1.snaps))]),true⟩
theorem ZF:CK 227 Ui:=ah fun (st,c,_) _ _=>by
 refine dr xv (afX st c) Tryz.func227 (?_:(fun (q14:List Opn)=>(fun (q13:Int)=>(fun (q12:Int)=>(fun (q11:Reply)=>(fun (q10:Int)=>(fun (q9:den (Sh.nm NT.sess))=>(fun (q8:Int)=>(fun (q7:Int)=>(fun (q6:Reply)=>(fun (q5:State)=>(fun (q4:Int)=>(fun (q16:Int)=>(fun (q15:Int)=>(fun (q3:List Sess)=>(fun (q18:Int)=>(fun (q17:Int)=>(fun (q2:Int)=>(fun (q20:Prop)=>(fun (q19:Int)=>(fun (q1:Prop)=>(fun (q0:State)=>(fun (q26:Prop)=>(fun (q25:Prop)=>(fun (q24:Prop)=>(fun (q23:Prop)=>(fun (q22:Prop)=>(fun (q21:Prop)=>(fun (q27:Prop)=>fo st (bI c (I64 q4->I64 q13->I64 q12->I64 q10->I64 q19->(¬q19=q2->I64 q19->I64 q2->q25/\q23/\q24/\q22/\q19=q6.code/\q27)/\(q19=q2->(c.kind=8->I64 (q4+q7)/\(¬c.n=q4+q7->I64 q7->I64 q2->q25/\q23/\q24/\q22/\q7=q6.code/\q27)/\(c.n=q4+q7->c.n=q0.version/\q23/\q24/\q22/\q2=q6.code/\c.n=q6.n/\q21))/\(¬c.kind=8->(c.kind=q7->I64 q18->(q2<=q18->I64 12->I64 q2->q25/\q23/\q24/\q22/\12=q6.code/\q27)/\(q18<q2->∃ (s0:Nat),(q2=(↑s0:Int)/\q1)/\(s0<=q3.length/\((List.take s0 q3).all fun (y:Sess)=>decide (y.client<q8))=true)/\∀ (s:Nat),(fun (q29:Int)=>(fun (q28:den (Sh.nm NT.sess))=>s<=q3.length/\((List.take s q3).all fun (y:Sess)=>decide (y.client<q8))=true->(q29<q17->q2<=q29/\q29<q17)/\((q29<q17->I64 q28.client/\I64 q28.seq/\I64 q28.last.code/\I64 q28.last.n)->(q29<q17/\q28.client<q8->I64 (q29+q7)/\∃ (s':Nat),(q29+q7=(↑s':Int)/\q1)/\(s' <= q3.length/\((List.take s' q3).all fun (y:Sess)=>decide (y.client<q8))=true)/\q3.length - s' < q3.length - s)/\(q17<=q29\/q8<=q28.client->(q2<=q29/\q29<=q17)/\q3.length<1048576/\[Sess.mk q8 q2 (Reply.mk q2 q2)].length=1/\q25/\q23/\q24/\q22/\q2=q6.code/\q2=q6.n/\List.take s q3++[Sess.mk q8 q2 (Reply.mk q2 q2)]++List.drop s q3=q0.sess/\q26))) (q3.getD s q9)) (↑s:Int)))/\(¬c.kind=q7->ft st c=q2/\(I64 q5.version->I64 q5.next->I64 q5.keep->I64 q5.quota->I64 q11.code->I64 q11.n->q5.version=q0.version/\q5.next=q0.next/\q5.keep=q0.keep/\q5.quota=q0.quota/\q11.code=q6.code/\q11.n=q6.n/\q5.sess=q0.sess/\q5.opens=q0.opens/\q5.snaps=q0.snaps))))))) (q2=q6.n/\q21)) (q3=q0.sess/\q26)) (q10=q0.quota)) (q13=q0.next)) (q12=q0.keep)) (q4=q0.version)) (q14=q0.opens/\st.snaps=q0.snaps)) (qc st c).fst) (q4=q4/\q13=q13/\q12=q12/\q10=q10/\bh c c (q20/\q20/\q20/\q20/\q20/\q20/\q3=q3/\q14=q14/\st.snaps=st.snaps))) (if q15=q2 then q16 else q7)) (q2=q2)) 0) (↑q3.length:Int)) (ak Sess.client q8 q3)) st.sess) (ei st q4)) (bC c q4)) st.version) (cw st c).fst) (qc st c).snd) 1) c.client) (ao (Sh.nm NT.sess))) st.quota) (cw st c).snd) st.keep) st.next) st.opens);iterate 3 ((all_goals (repeat' with_reducible first|apply bd|refine bf ?_|intro)); (all_goals try (first | exact bq | exact rfl | exact adv ab | exact adJ ab | exact U_ ab | exact abn ab ab ab | (rw [doE] <;> first | rfl | with_reducible assumption | exact nS aK ab (by assumption)) | (rw [aeM] <;> first | rfl | with_reducible assumption | exact nS aK ab (by assumption)) | (rw [aex] <;> first | rfl | with_reducible assumption | exact nS aK ab (by assumption)) | (rw [afj] <;> first | rfl | with_reducible assumption | exact nS aK ab (by assumption)) | (rw [af0] <;> first | rfl | with_reducible assumption | exact nS aK ab (by assumption)) | (rw [doX] <;> first | rfl | with_reducible assumption | exact nS aK ab (by assumption)))); all_goals try first | refine ⟨‹Nat› + 1,?_⟩ | refine ⟨0,?_⟩)
def Uc:bD:=(aL 227 Ui Tu)
theorem KJ:ay Tryz.prog (al tyT) Uc:=(ag ZF xv)
def Uq:bD:=Uc
theorem LY:ay Tryz.prog (al tyT) Uq:=KJ
def UT:bD:=Uq
theorem LV:ay Tryz.prog (al tyT) UT:=LY
section
variable {s:State} {c:Command}
end
theorem SA {c:Command} {v:Int} (h:bC c v=0):(1<=v/\v<=3)/\¬ ck c.kind=0/\ck c.kind<=v/\lC c=true:=by
 unfold bC at h;split at h
 ·cases h
 rename_i h1;rw [Bool.or_eq_true,not_or] at h1;simp only [adu,Bool.not_eq_false,decide_eq_true_eq] at h1;split at h
 ·cases h
 split at h
 ·cases h
 rename_i h2 h3;exact ⟨HO h1.1,h1.2,by omega,by simpa using h3⟩
section
variable {α:Type} {key:α->Int} {most:Int}
end
section
variable {α:Type} {key:α->Int} {most:Int}
end
section
variable {s:State} {c:Command}
end
section
variable {α:Type} {key:α->Int} {most:Int}
end
section
variable {s:State} {x:Snap} {i:Nat}
end
section
variable {s:State} {x:Snap} {i:Nat}
end
section
variable {s:State} {x:Snap} {i:Nat}
end
section
variable {s:State} {c:Command} {k:Nat}
end
section
variable {α:Type} {key:α->Int} {most:Int}
end
section
variable {s:State} {c:Command}
end
section
variable {α:Type} {key:α->Int} {x y d:α}
variable {l:List α} {k:Nat}
end
def Uu:bD:=UT
theorem KU:ay Tryz.prog (al tyT) Uu:=LV
section
variable {st:State} {c:Command}
variable {i:Int} {x:Snap}
end
def Ts:bD:=Uu
theorem IH:ay Tryz.prog (al tyT) Ts:=KU
section
variable {st:State} {c:Command}
end
def Ur:bD:=Ts
theorem NO:ay Tryz.prog (al tyT) Ur:=IH
section
variable {st:State} {c:Command}
end
def Um:bD:=Ur
theorem yp:ay Tryz.prog (al tyT) Um:=NO
def ur (l:List Int):Int:=match l.findIdx? (fun x=>!bF x) with
 | some i=>(i:Int)
 | none=>-1
section
variable {l:List Int} {k:Nat} {x:Int}
theorem t_:ur l=ak (fun x=>if bF x=true then 0 else 1) 1 l:=by
 have e:(fun x=>!bF x)=fun x:Int=>decide ((if bF x=true then (0:Int) else 1)=1):=by
  funext x;cases bF x <;> rfl
 unfold ur ak; rw [e]; rfl
theorem VS (h:ur (l.take k) = -1) (hx:l[k]? = some x) (hn:(!bF x)=false):ur (l.take (k+1)) = -1:=by
 rw [Bool.not_eq_false'] at hn;rw [t_] at h ⊢;exact mX h hx (by rw [if_pos hn]; decide)
theorem Ti (h:ur (l.take k) = -1) (hx:l[k]? = some x) (hn:(!bF x)=true):(k:Int)=ur l:=by
 rw [adu] at hn;rw [t_] at h ⊢;exact kV h hx (by rw [hn]; rfl)
theorem V_ (h:ur (l.take k) = -1) (hk:l.length<=k):-1=ur l:=by rw [List.take_of_length_le hk] at h; exact h.symm
theorem RF:decide (0<=ur l) = !l.all bF:=by
 cases e:l.findIdx? (fun x=>!bF x) with
 | none=>
  have h:=List.findIdx?_eq_none_iff.1 e;have:l.all bF=true:=afi.2 fun x hx=>by simpa using h x hx
  unfold ur; rw [e,this]; rfl
 | some i=>
  obtain ⟨hi,hp,_⟩:=aeN.1 e;have:l.all bF=false:=by
   rw [List.all_eq_false];exact ⟨l[i],adV hi,by simpa using hp⟩
  unfold ur; rw [e,this];show decide (0<=(i:Int))=true;rw [decide_eq_true_eq]; omega
end
def za:Kn:=aJ (ae (kC cI) au) aw fun (k,_) _=>⟨[],[.c (.bool (.atom ((bF k))))],none,false⟩
theorem LF:CK 86 za:=ah fun (k,_) _ _=>by
 refine av yp [] Tryz.func86 (?_:I64 k->(decide (1<=k) && decide (k<=3))=bF k);grind [bF]
def UY:bD:=(aL 86 za Um)
theorem sd:ay Tryz.prog (al tyT) UY:=(ag LF yp)
section
variable {st:State} {v:Int}
end
def vC:Kn:=aJ (ae (kC cI) (ae (kC cI) au)) aw fun (a,b,_) _=>⟨[],[.c (.int ((bS a b)))],none,false⟩
theorem HB:CK 43 vC:=ah fun (a,b,_) _ _=>by
 refine av sd [] Tryz.func43 (?_:I64 a->I64 b->(bF a=false\/bF b=false->1=bS a b)/\(bF a=true/\bF b=true->(a<b->32=bS a b)/\(b<=a->0=bS a b)));grind [bS,bF]
def AP:Kn:=aJ (ae (kC cI) au) aw fun (n,_) _=>⟨[],[.c (.bool (.atom ((!bF n))))],none,false⟩
theorem Lk:CK 157 AP:=ah fun (n,_) _ _=>by
 refine av sd [] Tryz.func157 (?_:I64 n->(!bF n) = !bF n);grind
def TP:bD:=(aL 157 AP (aL 43 vC UY))
theorem rM:ay Tryz.prog (al tyT) TP:=(ag Lk (ag HB sd))
variable {l:List Int}
theorem Qf {s:Nat} {x:Int} (hx:l[((s:Int)+1).toNat]? = some x):min (im l (s+1)) x=im l (s+1+1):=BO (by omega) (by rwa [show ((s:Int)+1).toNat=s+1 by omega] at hx)
def Ry (l:List Int):List (Nat × LI):=[(2,{ σ:=Nat,F:=fun k=>([(0,one (.fz .int (l))),(1,one (.fn 157 [] [])),(7,one (.int (l).length)),(8,one (.int k))],[]),J:=fun k=>k<=l.length/\ur (l.take k) = -1,μ:=fun k=>(l).length - k })]
def abr (l:List Int):List (Nat × LI):=[(5,{ σ:=Nat,F:=fun k=>([(0,one (.fz .int (l))),(3,one (.int (im l (k+1)))),(4,one (.int (k+1)))],[]),J:=fun k=>k+1<=l.length,μ:=fun k=>l.length - k })]
def AY:Kn:=aJ (ae (kC (cL .int)) (ae (kC (qf 157 [] [])) au)) aw fun (l,_,_) _=>⟨[],[.c (.int ((ur l)))],none,false⟩
theorem Nk:CK 219 AY:=ah fun (l,_,_) _ _=>by
 refine av rM (Ry l) Tryz.func219 (?_:(fun (q1:Int)=>(fun (q0:Nat)=>l.length*8<=140737488355328->∃ (s0:Nat),(l=l/\(↑l.length:Int)=(↑q0:Int)/\0=(↑s0:Int))/\(s0<=q0/\ur (List.take s0 l) = -q1)/\∀ (s:Nat),s<=q0/\ur (List.take s l) = -q1->((↑s:Int)<(↑q0:Int)->0<=(↑s:Int)/\(↑s:Int)<(↑l.length:Int)/\∀ (x:Int),l[s]? = some x->I64 x->((!bF x)=true->(↑s:Int)=ur l)/\((!bF x)=false->I64 ((↑s:Int)+q1)/\∃ (s':Nat),(l=l/\(↑q0:Int)=(↑q0:Int)/\(↑s:Int)+q1=(↑s':Int))/\(s' <= q0/\ur (List.take s' l) = -q1)/\q0 - s' < q0 - s))/\((↑q0:Int)<=(↑s:Int) -> -q1=ur l)) l.length) 1);iterate 3 ((all_goals (repeat' with_reducible first|apply bd|refine bf ?_|intro)); (all_goals try (first | exact bq | exact rfl | exact (VS ab ab ab) | exact (Ti ab ab ab) | exact (V_ ab aK))); all_goals try first | refine ⟨‹Nat› + 1,?_⟩ | refine ⟨0,?_⟩)
def MM:Kn:=aJ (ae (kC (cL .int)) au) aw fun (l,_) _=>⟨[0<l.length],[.c (.int ((AF l)))],none,false⟩
theorem WM:CK 159 MM:=ah fun (l,_) _ hp=>by
 have h0:=bW hp;refine av rM (abr l) Tryz.func159 (?_:(fun q2=>(fun q1=>(fun q0=>l.length*(8:Nat)<=(140737488355328:Nat)->(q1<q0->False)/\(q0<=q1->(0:Int)<=(0:Int)/\(0:Int)<q1/\∀ (x:Int),l[(0:Nat)]? = some x->I64 x->∃ s0,(l=l/\x=im l (s0+q2)/\q0=(↑s0:Int)+q0)/\s0+q2<=l.length/\∀ (s:Nat),(fun q3=>s+q2<=l.length->(q3<q1->(0:Int)<=q3/\q3<q1/\∀ (x:Int),l[q3.toNat]? = some x->I64 x->I64 (q3+q0)/\∃ s',(l=l/\min (im l (s+q2)) x=im l (s' + q2)/\q3+q0=(↑s':Int)+q0)/\s' + q2<=l.length/\l.length - s' < l.length - s)/\(q1<=q3->im l (s+q2)=AF l)) ((↑s:Int)+q0))) (1:Int)) (↑l.length:Int)) (1:Nat));iterate 3 ((all_goals (repeat' with_reducible first|apply bd|refine bf ?_|intro)); (all_goals try (first | exact bq | exact (Gy ab) | exact (Qf ab) | exact (Fw aK))); all_goals try first | refine ⟨‹Nat› + 1,?_⟩ | refine ⟨0,?_⟩)
def Uh:bD:=(aL 159 MM (aL 219 AY TP))
theorem zI:ay Tryz.prog (al tyT) Uh:=(ag WM (ag Nk rM))
def Ex:Kn:=aJ (ae (kC (cL .int)) (ae (kC (qf 157 [] [])) au)) aw fun (l,_,_) _=>⟨[],[.c (.bool (.atom ((!l.all bF))))],none,false⟩
theorem OQ:CK 158 Ex:=ah fun (l,_,_) _ _=>by
 refine av zI [] Tryz.func158 (?_:l.length*8<=140737488355328->I64 (ur l)->decide (0<=ur l) = !l.all bF);(repeat' with_reducible first|apply bd|refine bf ?_|intro)
 all_goals (first | exact bq | exact (RF))
def Vk:bD:=(aL 158 Ex Uh)
theorem AI:ay Tryz.prog (al tyT) Vk:=(ag OQ zI)
theorem ag7 (o:(l.length:Int)=0\/(!l.all bF)=true):0=iK l:=by
 have h:(decide (l.length=0) || !l.all bF)=true:=by
  rcases o with o | o
  ·rw [decide_eq_true (by omega)]; rfl
  rw [o,Bool.or_true]
 unfold iK; rw [if_pos h]
theorem afE (o:¬ (l.length:Int)=0) (h:(!l.all bF)=false):AF l=iK l:=by
 have h:¬ (decide (l.length=0) || !l.all bF)=true:=by
  rw [h,decide_eq_false (by omega)]; decide
 unfold iK; rw [if_neg h]
def xF:Kn:=aJ (ae (kC (cL .int)) au) aw fun (l,_) _=>⟨[],[.c (.int ((iK l)))],none,false⟩
theorem MB:CK 92 xF:=ah fun (l,_) _ _=>by
 refine av AI [] Tryz.func92 (?_:l.length*8<=140737488355328->((↑l.length:Int)=0\/(!l.all bF)=true->0=iK l)/\(¬(↑l.length:Int)=0/\(!l.all bF)=false->0<l.length/\(I64 (AF l)->AF l=iK l)));(repeat' with_reducible first|apply bd|refine bf ?_|intro)
 all_goals (first | exact bq | exact (ag7 (by assumption)) | exact (afE ab ab))
def Vh:bD:=(aL 92 xF Vk)
theorem ym:ay Tryz.prog (al tyT) Vh:=(ag MB AI)
def xO:Kn:=aJ (ae (kC cI) (ae (kC (cL .int)) au)) aw fun (v,l,_) _=>⟨[],[.c (.bool (.atom ((kg v l))))],none,false⟩
theorem Im:CK 53 xO:=ah fun (v,l,_) _ _=>by
 refine av ym [] Tryz.func53 (?_:I64 v->l.length*8<=140737488355328->(1<=v/\v<3->I64 (iK l))->(decide (1<=v) && decide (v<3) && decide (v<iK l))=kg v l);(repeat' with_reducible first|apply bd|refine bf ?_|intro)
 all_goals (first | exact bq | rfl | grind [kg])
def TW:bD:=(aL 53 xO Vh)
theorem Nl:ay Tryz.prog (al tyT) TW:=(ag Im ym)
def TR:bD:=TW
theorem Jb:ay Tryz.prog (al tyT) TR:=Nl
section
variable {s:State} {l:List Command} {x:Command} {k:Nat}
end
section
variable {s:State} {l:List Command} {x:Command} {k:Nat} {d:Command}
end
def UE:bD:=TR
theorem Iv:ay Tryz.prog (al tyT) UE:=Jb
def Ua:bD:=UE
theorem dg:ay Tryz.prog (al tyT) Ua:=Iv
def dV (f:Field):Bool:=(decide (1<=f.num) && decide (f.num<=1000)) && (if f.wire=0 then decide (((f.b.length:Nat):Int)=0) else if f.wire=2 then decide ((f.n.n:Int)=0) else false)
def fP (a f:Field):Bool:=if f.num=a.num then (decide (f.wire=2) && decide (a.wire=2)) else decide (a.num<f.num)
def oR (num wire:Int):Bool:=(decide (1<=num) && decide (num<=1000)) && (decide (wire=0) || decide (wire=2))
def mH (num wire:Int):List UInt8:=if oR num wire then cJ ((8*num)+wire).toNat else []
def zg (num wire:Int):Int:=if oR num wire then 0 else 1
def cj (f:Field):List UInt8:=if f.wire=0 then mH f.num f.wire++cJ f.n.n else (mH f.num f.wire++cJ f.b.length)++f.b
def okP:Option Field->Field->Bool
 | none,_=>true
 | some q,f=>fP q f
def stepT (p:Option Field) (f:Field):Int:=if dV f=false then 1 else if okP p f=false then 5 else if (16384:Int)<((f.b.length:Nat):Int) then 4 else 0
def dT:Option Field->List Field->Int
 | _,[]=>0
 | p,f :: r=>if stepT p f=0 then dT (some f) r else stepT p f
def gI (l:List Field):Nat:=(l.map fun f=>(cj f).length).sum
def cE (l:List Field):Int:=if dT none l=0 then (if (16384:Int)<((gI l:Nat):Int) then 4 else 0) else dT none l
def lK (l:List Field):List UInt8:=if cE l=0 then (l.map cj).flatten else []
def eO (l:List Field) (k:Nat):Option Field:=if k=0 then none else l[k - 1]?
def xc (l:List Field) (k:Nat) (x:Field):Prop:=(¬ 0<k)\/∃ y,l[k - 1]? = some y/\fP y x=true
variable {wire num:Int}
theorem Nb (h:(num<1\/1000<num)\/(¬ wire=0/\¬ wire=2)):oR num wire=false:=by
 rw [<- Bool.not_eq_true]; unfold oR; simp only [Bool.and_eq_true,Bool.or_eq_true,decide_eq_true_eq]; omega
theorem El (h:¬ ((num<1\/1000<num)\/(¬ wire=0/\¬ wire=2))):oR num wire=true:=by
 unfold oR; simp only [Bool.and_eq_true,Bool.or_eq_true,decide_eq_true_eq]; omega
theorem CN (h:(num<1\/1000<num)\/(¬ wire=0/\¬ wire=2)):[]=mH num wire:=by rw [mH,Nb h]; rfl
theorem QO (h:(num<1\/1000<num)\/(¬ wire=0/\¬ wire=2)):1=zg num wire:=by rw [zg,Nb h]; rfl
theorem Ng (h:¬ ((num<1\/1000<num)\/(¬ wire=0/\¬ wire=2))):cJ ((8*num)+wire).toNat=mH num wire:=by rw [mH,El h]; rfl
theorem ND (h:¬ ((num<1\/1000<num)\/(¬ wire=0/\¬ wire=2))):0=zg num wire:=by rw [zg,El h]; rfl
theorem sX (num wire:Int):(mH num wire).length<=10:=by
 unfold mH;cases h:oR num wire with
 | false=>simp
 | true=>
  unfold oR at h; simp only [Bool.and_eq_true,Bool.or_eq_true,decide_eq_true_eq] at h;exact cK aK
variable {f:Field}
theorem si (hb:f.b.length<=16384) (hn:f.n.n<18446744073709551616):(cj f).length<=16404:=by
 have h1:=sX f.num f.wire;unfold cj;split
 ·have:=cK hn; rw [List.length_append]; omega
 have:=cK (n:=f.b.length) (by omega); rw [List.length_append,List.length_append]; omega
theorem Sf (h:f.wire=0):mH f.num f.wire++cJ f.n.n=cj f:=by rw [cj,if_pos h]
theorem Qn (h:¬ f.wire=0):(mH f.num f.wire++cJ f.b.length)++f.b=cj f:=by rw [cj,if_neg h]
variable {l:List Field} {x:Field}
theorem IQ (hx:l[k]? = some x):gI (l.take k)+(cj x).length=gI (l.take (k+1)):=by
 unfold gI; rw [ai hx,List.map_append,List.sum_append]; simp
theorem DY (hp:xc l k x):okP (eO l k) x=true:=by
 unfold eO;rcases hp with h | ⟨y,hy,hr⟩
 ·rw [if_pos (by omega)]; rfl
 by_cases hk:k=0
 ·rw [if_pos hk]; rfl
 rw [if_neg hk,hy]; exact hr
theorem KP (hx:l[k]? = some x):dT (eO l k) (l.drop k)=if stepT (eO l k) x=0 then dT (some x) (l.drop (k+1)) else stepT (eO l k) x:=by
 obtain ⟨hk,he⟩:=aam.1 hx;rw [adz hk,he]; rfl
variable {e:Int}
theorem Ot (hc:dT none l=dT (eO l k) (l.drop k)) (hx:l[k]? = some x) (he:stepT (eO l k) x=e) (h0:e≠0):e=cE l:=by
 have h1:dT none l=e:=by rw [hc,KP hx,he,if_neg h0]
 rw [cE,h1,if_neg h0]
theorem Vr (hc:dT none l=dT (eO l k) (l.drop k)) (hx:l[k]? = some x) (ha:dV x=false):1=cE l:=Ot hc hx (by rw [stepT,if_pos ha]) (by decide)
theorem Wy {y:Field} (hc:dT none l=dT (eO l k) (l.drop k)) (hx:l[k]? = some x) (ha:dV x=true) (h0:0<k) (hy:l[k - 1]? = some y) (hr:fP y x=false):5=cE l:=
 Ot hc hx (by rw [stepT,if_neg (by rw [ha]; decide),if_pos]; unfold eO; rw [if_neg (by omega),hy]; exact hr) (by decide)
theorem WG (hc:dT none l=dT (eO l k) (l.drop k)) (hx:l[k]? = some x) (ha:dV x=true) (hp:xc l k x) (hb:(16384:Int)<((x.b.length:Nat):Int)):4=cE l:=
 Ot hc hx (by rw [stepT,if_neg (by rw [ha]; decide),if_neg (by rw [DY hp]; decide),if_pos hb]) (by decide)
theorem Kr (hc:dT none l=dT (eO l k) (l.drop k)) (hx:l[k]? = some x) (ha:dV x=true) (hp:xc l k x) (hb:¬ (16384:Int)<((x.b.length:Nat):Int)):dT none l=dT (eO l (k+1)) (l.drop (k+1)):=by
 rw [hc,KP hx,if_pos (by rw [stepT,if_neg (by rw [ha]; decide),if_neg (by rw [DY hp]; decide),if_neg hb])];unfold eO; rw [if_neg (by omega),Nat.add_sub_cancel,hx]
theorem DN (hc:dT none l=dT (eO l k) (l.drop k)) (hk:l.length<=k):dT none l=0:=by
 rw [hc,aeu hk]; rfl
theorem Jk (hc:dT none l=dT (eO l k) (l.drop k)) (hk:l.length<=k) (hs:(16384:Int)<((gI (l.take k):Nat):Int)):4=cE l:=by
 rw [List.take_of_length_le hk] at hs; rw [cE,if_pos (DN hc hk),if_pos hs]
theorem KO (hc:dT none l=dT (eO l k) (l.drop k)) (hk:l.length<=k) (hs:¬ (16384:Int)<((gI (l.take k):Nat):Int)):0=cE l:=by
 rw [List.take_of_length_le hk] at hs; rw [cE,if_pos (DN hc hk),if_neg hs]
theorem QF (h:cE l=0):gI l<=16384:=by
 unfold cE at h;grind
theorem RT (h:cE l=0):dT none l=0:=by
 unfold cE at h;grind
theorem CI:∀ {l:List Field} {p:Option Field},dT p l=0->∀ x ∈ l,x.b.length<=16384
 | f :: r,p,h,x,hx=>by
  unfold dT at h;split at h
  ·rename_i hs;rcases ac4.1 hx with rfl | hx
   ·unfold stepT at hs;grind
   exact CI h x hx
  grind
theorem xn (h:cE l=0) (hx:x ∈ l):x.b.length<=16384:=CI (RT h) x hx
theorem Hk (hx:l[k]? = some x):((l.take k).map cj).flatten++cj x=((l.take (k+1)).map cj).flatten:=by
 rw [ai hx,List.map_append,List.flatten_append]; simp
theorem MJ (l:List Field):((l.map cj).flatten).length=gI l:=by
 unfold gI; rw [List.length_flatten,List.map_map]; rfl
theorem Ly:gI (l.take k)<=gI l:=by
 have:gI l=gI (l.take k)+gI (l.drop k):=by unfold gI; rw [<- List.sum_append,<- List.map_append,List.take_append_drop]
 omega
theorem MC (h:cE l=0):((l.take k).map cj).flatten.length<=16384:=by
 have:=QF h; have:=Ly (l:=l) (k:=k); rw [MJ]; omega
theorem QD (h:cE l=0) (hk:l.length<=k):((l.take k).map cj).flatten=lK l:=by rw [lK,if_pos h,List.take_of_length_le hk]
theorem Ya (h:¬ cE l=0):[]=lK l:=by rw [lK,if_neg h]
theorem Kv (h:f.num<1\/1000<f.num):false=dV f:=by
 have:(decide (1<=f.num) && decide (f.num<=1000))=false:=by rw [<- Bool.not_eq_true]; simp only [Bool.and_eq_true,decide_eq_true_eq]; omega
 unfold dV; rw [this]; rfl
theorem Ja (h:¬ (f.num<1\/1000<f.num)):dV f=(if f.wire=0 then decide (((f.b.length:Nat):Int)=0) else if f.wire=2 then decide ((f.n.n:Int)=0) else false):=by
 have:(decide (1<=f.num) && decide (f.num<=1000))=true:=by simp only [Bool.and_eq_true,decide_eq_true_eq]; omega
 unfold dV; rw [this]; rfl
def bG:List Spec:=([⟨1,0,1,true,false⟩,⟨2,0,1,false,false⟩,⟨3,0,1,false,false⟩,⟨4,0,1,false,false⟩,⟨5,0,1,false,false⟩,⟨6,0,1,false,false⟩,⟨7,2,1,false,false⟩,⟨8,2,3,false,false⟩]:List Spec)
def aP (v:Int):List Spec:=if v<1\/3<v then [] else bG.filter fun s=>decide (s.since<=v)
def cH (v:Int):Int:=(aP v).foldl (fun t s=>max t s.num) 0
variable {x:Spec}
theorem No {v:Int} (hx:bG[k]? = some x) (h:x.since<=v):(bG.take k).filter (fun s=>decide (s.since<=v))++[x]=(bG.take (k+1)).filter (fun s=>decide (s.since<=v)):=by
 rw [ai hx,List.filter_append]; simp [h]
theorem QU {v:Int} (hx:bG[k]? = some x) (h:¬ x.since<=v):(bG.take k).filter (fun s=>decide (s.since<=v))=(bG.take (k+1)).filter (fun s=>decide (s.since<=v)):=by
 rw [ai hx,List.filter_append]; simp [h]
theorem Hc {v:Int} (h:v<1\/3<v):[]=aP v:=by rw [aP,if_pos h]
theorem Mc {v:Int} (h:¬ (v<1\/3<v)) (hk:bG.length<=k):(bG.take k).filter (fun s=>decide (s.since<=v))=aP v:=by rw [aP,if_neg h,List.take_of_length_le hk]
theorem MZ {v:Int}:((bG.take k).filter (fun s=>decide (s.since<=v))).length<=8:=by
 have h1:=List.length_filter_le (fun s:Spec=>decide (s.since<=v)) (bG.take k);have h2:(bG.take k).length<=8:=by rw [List.length_take]; exact Nat.le_trans (Nat.min_le_right _ _) (by decide)
 omega
theorem Ko {v:Int} (hx:(aP v)[k]? = some x):max (((aP v).take k).foldl (fun t s=>max t s.num) 0) x.num=((aP v).take (k+1)).foldl (fun t s=>max t s.num) 0:=by
 rw [ai hx,List.foldl_append]; rfl
def pq (num n:Int):List Field:=if n=0 then [] else [⟨num,0,⟨n.toNat⟩,[]⟩]
def Ba (num:Int) (b:List UInt8):List Field:=if 0<((b.length:Nat):Int) then [⟨num,2,⟨0⟩,b⟩] else []
def xm (c:Command):List Field:=(((((([]++pq 1 c.kind)++pq 2 c.client)++pq 3 c.seq)++pq 4 c.set)++pq 5 c.id)++pq 6 c.n)++Ba 7 (eA c.chunks)
def dE (c:Command) (v:Int):List Field:=if 3<=v then xm c++Ba 8 c.text.b else xm c
theorem gi (num n:Int):(pq num n).length<=1:=by unfold pq; split <;> simp
theorem Ck (num:Int) (b:List UInt8):(Ba num b).length<=1:=by unfold Ba; split <;> simp
variable {xs:List Field}
theorem zM (h:¬ n=0):xs++[⟨num,0,⟨n.toNat⟩,[]⟩]=xs++pq num n:=by rw [pq,if_neg h]
theorem zo (h:n=0):xs=xs++pq num n:=by rw [pq,if_pos h,ade]
variable {b:List UInt8}
theorem AE (h:0<((b.length:Nat):Int)):xs++[⟨num,2,⟨0⟩,b⟩]=xs++Ba num b:=by rw [Ba,if_pos h]
theorem yt (h:¬ 0<((b.length:Nat):Int)):xs=xs++Ba num b:=by rw [Ba,if_neg h,ade]
theorem Cd (c:Command) (v:Int):(dE c v).length<=8:=by
 have h1:=gi 1 c.kind; have h2:=gi 2 c.client; have h3:=gi 3 c.seq; have h4:=gi 4 c.set; have h5:=gi 5 c.id; have h6:=gi 6 c.n;have h7:=Ck 7 (eA c.chunks); have h8:=Ck 8 c.text.b;unfold dE xm;split <;> simp only [List.length_append,List.length_nil] <;> omega
def dD (c:Command) (rest:List Field) (v:Int):Int:=if !(bX v 1 3) then 1 else if (fY c v=false/\¬ bC c v=0) then bC c v else if rest.any (fun f=>decide (f.num<=cH v)) then 6 else 0
def e_ (c:Command) (rest:List Field) (v:Int):Int:=if dD c rest v=0 then cE (dE c v++rest) else dD c rest v
def fZ (c:Command) (rest:List Field) (v:Int):List UInt8:=if dD c rest v=0 then lK (dE c v++rest) else []
theorem Cb {k:Int} (h:¬ ck k=0):1<=k/\k<=12:=Decidable.byContradiction fun h2=>h (RG h2)
theorem We {c:Command} {v:Int} (h:fY c v=true):0<=c.kind/\0<=c.client/\0<=c.seq/\0<=c.set/\0<=c.id/\0<=c.n:=by
 unfold fY uU bX at h;simp only [Bool.and_eq_true,decide_eq_true_eq] at h;omega
theorem xk {m:Int} {b:Bool} (h:mJ n m b=true):0<=n:=by
 unfold mJ at h; cases b <;> simp at h <;> omega
theorem OE {k:Int} (h:1<=k/\k<=12):0<=(uI k).1:=by
 have:k=1\/k=2\/k=3\/k=4\/k=5\/k=6\/k=7\/k=8\/k=9\/k=10\/k=11\/k=12:=by omega
 rcases this with rfl | rfl | rfl | rfl | rfl | rfl | rfl | rfl | rfl | rfl | rfl | rfl <;> decide
theorem Jq {c:Command} {v:Int} (h:bC c v=0):(1<=v/\v<=3)/\¬ ck c.kind=0/\ck c.kind<=v/\lC c=true:=by
 unfold bC at h;split at h
 ·cases h
 rename_i h1;rw [Bool.or_eq_true,not_or] at h1;simp only [adu,Bool.not_eq_false,decide_eq_true_eq] at h1;split at h
 ·cases h
 split at h
 ·cases h
 rename_i h2 h3;exact ⟨HO h1.1,h1.2,by omega,by simpa using h3⟩
theorem Vw {c:Command} {v:Int} (h:bC c v=0):0<=c.kind/\0<=c.client/\0<=c.seq/\0<=c.set/\0<=c.id/\0<=c.n:=by
 obtain ⟨_,hn,_,hf⟩:=Jq h;have hr:=Cb hn;have hs:=OE hr;unfold lC at hf;simp only [Bool.and_eq_true,decide_eq_true_eq] at hf;obtain ⟨⟨⟨⟨⟨⟨⟨h1,h2⟩,_⟩,_⟩,h3⟩,h4⟩,h5⟩,h6⟩:=hf;exact ⟨by omega,xk h3,xk h4,xk h5,xk h6,by omega⟩
variable {rest:List Field}
theorem aec {c:Command} {v:Int} (h:(!(bX v 1 3))=true):dD c rest v=1:=by rw [dD,if_pos h]
theorem agq {c:Command} {v:Int} (h:(!(bX v 1 3))=false) (h1:fY c v=false) (h2:¬ bC c v=0):dD c rest v=bC c v:=by rw [dD,h,if_neg (by decide),if_pos ⟨h1,h2⟩]
theorem af4 {c:Command} {v:Int} {x:Field} (h:(!(bX v 1 3))=false) (h1:fY c v=true\/bC c v=0) (hx:rest[k]? = some x) (hn:x.num<=cH v):dD c rest v=6:=by
 have:(rest.any fun f=>decide (f.num<=cH v))=true:=List.any_eq_true.2 ⟨x,ada hx,decide_eq_true hn⟩;rw [dD,h,if_neg (by decide),if_neg (fun hh=>by rcases h1 with h1 | h1; rw [h1] at hh; cases hh.1; exact hh.2 h1),if_pos this]
theorem afL {c:Command} {v:Int} (h:(!(bX v 1 3))=false) (h1:fY c v=true\/bC c v=0) (hall:∀ j y,j<k->rest[j]? = some y->¬ y.num<=cH v) (hk:rest.length<=k):dD c rest v=0:=by
 have:(rest.any fun f=>decide (f.num<=cH v))=false:=by
  rw [List.any_eq_false];intro y hy;obtain ⟨j,hj,rfl⟩:=List.getElem_of_mem hy;have:=hall j _ (by omega) (List.getElem?_eq_getElem hj);simpa using this
 rw [dD,h,if_neg (by decide),if_neg (fun hh=>by rcases h1 with h1 | h1; rw [h1] at hh; cases hh.1; exact hh.2 h1),this,if_neg (by decide)]
theorem Cj {c:Command} {v:Int} (h:dD c rest v=e) (h0:¬ e=0):e=e_ c rest v:=by rw [e_,h,if_neg h0]
theorem BP {c:Command} {v:Int} (h:dD c rest v=e) (h0:¬ e=0):[]=fZ c rest v:=by rw [fZ,h,if_neg h0]
theorem aaM {c:Command} {v:Int} (h:dD c rest v=0):cE (dE c v++rest)=e_ c rest v:=by rw [e_,if_pos h]
theorem ab4 {c:Command} {v:Int} (h:dD c rest v=0):lK (dE c v++rest)=fZ c rest v:=by rw [fZ,if_pos h]
theorem Hl {z:Field} (h:∀ j y,j<k->rest[j]? = some y->¬ y.num<=t) (hz:rest[k]? = some z) (hn:¬ z.num<=t):∀ j y,j<k+1->rest[j]? = some y->¬ y.num<=t:=by
 intro j y hj hy;by_cases hjk:j=k
 ·subst hjk; rw [hz] at hy; cases hy; exact hn
 exact h j y aK hy
theorem vH (n:Nat):cJ n=((List.range (aV n)).map (ml n)).set (aV n - 1) (ml n (aV n - 1) &&& 127):=by unfold cJ fg; simp
theorem Nv:∀ m:Fin 128,(UInt8.ofNat m.val ||| 128) &&& 127=UInt8.ofNat m.val:=by decide
theorem YU:∀ m:Fin 256,(UInt8.ofNat m.val ||| 128).toNat=m.val % 128+128:=by decide +kernel
variable {n:Nat}
theorem BH (h:n<128):cJ n=[UInt8.ofNat n]:=by
 rw [vH,jF h];have:=Nv ⟨n,h⟩;simp only [ml,Nat.pow_zero,Nat.div_one,List.range_one,ae9,List.map_nil,Nat.sub_self,List.set_cons_zero] at *;rw [this]
theorem acy (n:Nat):(ml n 0).toNat=n % 128+128:=by
 have e:UInt8.ofNat n=UInt8.ofNat (n % 256):=UInt8.toNat_inj.1 (by simp [UInt8.toNat_ofNat']);have:=YU ⟨n % 256,agh _ (by decide)⟩;simp only [ml,Nat.pow_zero,Nat.div_one];rw [e,this]; simp only; omega
theorem MX (h:¬ n<128):cJ n=ml n 0 :: cJ (n / 128):=by
 have e:∀ i,ml n (i+1)=ml (n / 128) i:=fun i=>by unfold ml; rw [Nat.pow_succ,Nat.mul_comm,<- Nat.div_div_eq_div_mul]
 have hp:=iS (n / 128);obtain ⟨s,hs⟩:∃ s,aV (n / 128)=s+1:=⟨aV (n / 128) - 1,by omega⟩;rw [vH,vH (n / 128),lP h,hs];simp only [Nat.add_sub_cancel];rw [List.range_succ_eq_map,ae9,List.map_map,List.set_cons_succ,e s,show ml n ∘ Nat.succ=ml (n / 128) from funext e]
def bM:Nat->Nat->List UInt8->Nat × Nat × Int
 | k,_,[]=>if 10<=k then (0,0,3) else (0,0,2)
 | k,n,x :: r=>if 10<=k then (0,0,3) else if (0<k/\x.toNat=0)\/(k=9/\1<x.toNat) then (0,0,3) else if x.toNat<128 then (n+(x &&& 127).toNat*2 ^ (7*k),k+1,0) else bM (k+1) (n+(x &&& 127).toNat*2 ^ (7*k)) r
termination_by _ _ l=>l.length
def aj (b:List UInt8):Nat × Nat × Int:=bM 0 0 b
theorem oA (x:UInt8):(x &&& 127).toNat=x.toNat % 128:=by rw [UInt8.toNat_and]; exact Nat.and_two_pow_sub_one_eq_mod x.toNat 7
variable {x:UInt8}
theorem YO (hk:k<=9) (h:k=9->x.toNat<=1):(x &&& 127).toNat*2 ^ (7*k)<18446744073709551616:=by
 rw [oA];by_cases h9:k=9
 ·have:=h h9;subst h9;have:x.toNat % 128*2 ^ (7*9)<=1*2 ^ (7*9):=adk _ (by omega);exact ad5 this (by decide)
 have h1:2 ^ (7*k)<=2 ^ 56:=Nat.pow_le_pow_right (by decide) (by omega);have:x.toNat % 128*2 ^ (7*k)<=127*2 ^ 56:=Nat.mul_le_mul (by omega) h1;exact ad5 this (by decide)
variable {m:Nat}
theorem XI (h:n<2 ^ (7*k)):n ||| m*2 ^ (7*k)=n+m*2 ^ (7*k):=by
 have:=Nat.two_pow_add_eq_or_of_lt h m;rw [Nat.or_comm,Nat.mul_comm m,<- this,Nat.add_comm]
theorem Rq (h:n<2 ^ (7*k)):n+(x &&& 127).toNat*2 ^ (7*k)<2 ^ (7*(k+1)):=by
 rw [oA];have e:2 ^ (7*(k+1))=128*2 ^ (7*k):=by rw [show 7*(k+1)=7*k+7 by omega,Nat.pow_add,Nat.mul_comm]
 have:x.toNat % 128*2 ^ (7*k)<=127*2 ^ (7*k):=adk _ (by omega);rw [e]; omega
theorem XL (hk:k<10) (hb:b.length<=k):bM k n (b.drop k)=(0,0,2):=by
 rw [aeu hb,bM,if_neg (by omega)]
theorem WI (hk:10<=k):bM k n (b.drop k)=(0,0,3):=by
 cases h:b.drop k with
 | nil=>rw [bM,if_pos hk]
 | cons x r=>rw [bM,if_pos hk]
theorem Kz (hk:k<10) (hx:b[k]? = some x):bM k n (b.drop k)=if (0<k/\x.toNat=0)\/(k=9/\1<x.toNat) then (0,0,3) else if x.toNat<128 then (n+(x &&& 127).toNat*2 ^ (7*k),k+1,0) else bM (k+1) (n+(x &&& 127).toNat*2 ^ (7*k)) (b.drop (k+1)):=by
 obtain ⟨hkl,he⟩:=aam.1 hx;rw [adz hkl,he,bM,if_neg (by omega)]
theorem Ph (h:aj b=bM k n (b.drop k)) (hk:k<10) (hx:b[k]? = some x) (h1:¬ (0<k/\x.toNat=0)) (h2:¬ (k=9/\1<x.toNat)) (h3:¬ x.toNat<128):aj b=bM (k+1) (n+(x &&& 127).toNat*2 ^ (7*k)) (b.drop (k+1)):=by
 rw [h,Kz hk hx,if_neg (fun h=>h.elim h1 h2),if_neg h3]
theorem mP:∀ {l:List UInt8} {k n:Nat},k<=10->(bM k n l).2.1<=11/\(bM k n l).2.1<=k+l.length
 | [],k,n,h=>by rw [bM]; split <;> simp
 | x :: r,k,n,h=>by
  rw [bM];split
  ·simp
  split
  ·simp
  split
  ·simp; omega
  have:=mP (l:=r) (k:=k+1) (n:=n+(x &&& 127).toNat*2 ^ (7*k)) (by omega);simp only [List.length_cons]; omega
theorem JT (h:aj b=bM k n (b.drop k)) (hk:k<10) (hx:b[k]? = some x) (h1:(0<k/\x.toNat=0)\/(k=9/\1<x.toNat)):aj b=(0,0,3):=by rw [h,Kz hk hx,if_pos h1]
theorem OY (h:aj b=bM k n (b.drop k)) (hk:k<10) (hx:b[k]? = some x) (h1:¬ (0<k/\x.toNat=0)) (h2:¬ (k=9/\1<x.toNat)) (h3:x.toNat<128):aj b=(n+(x &&& 127).toNat*2 ^ (7*k),k+1,0):=by
 rw [h,Kz hk hx,if_neg (fun h=>h.elim h1 h2),if_pos h3]
theorem Kq:∀ {l:List UInt8} {k n:Nat},1<=k->(bM k n l).2.2=0->2 ^ (7*k)<=(bM k n l).1
 | [],k,n,_,h=>by rw [bM] at h; split at h <;> cases h
 | x :: r,k,n,hk,h=>by
  rw [bM] at h ⊢;split
  ·rename_i h1; rw [if_pos h1] at h; cases h
  rename_i h1;rw [if_neg h1] at h;split
  ·rename_i h2; rw [if_pos h2] at h; cases h
  rename_i h2;rw [if_neg h2] at h;split
  ·rename_i h3;rw [oA];have:1<=x.toNat % 128:=by
    have:¬ x.toNat=0:=fun e=>h2 (.inl ⟨by omega,e⟩);omega
   have:=adk (2 ^ (7*k)) this;show 2 ^ (7*k)<=n+x.toNat % 128*2 ^ (7*k);omega
  rename_i h3;rw [if_neg h3] at h;exact Nat.le_trans (Nat.pow_le_pow_right (by decide) aK) (Kq aK h)
theorem Dl (x:UInt8) (r:List UInt8):aj (x :: r)=if x.toNat<128 then (x.toNat,1,0) else bM 1 (x.toNat % 128) r:=by
 unfold aj;rw [bM,if_neg (by decide),if_neg (by omega),oA];split
 ·rename_i h; rw [Nat.mod_eq_of_lt h]; simp
 simp
theorem xH (hk:k<b.length):(b.drop k).take (b.length - k)=b[k] :: b.drop (k+1):=by
 rw [List.take_of_length_le (by simp),adz hk]
theorem tk1 (hk:k<b.length) (he:(aj ((b.drop k).take (b.length - k))).2.2=0) (hn:¬ (64:Int)<(((aj ((b.drop k).take (b.length - k))).1:Nat):Int)) :
  ∃ x,b[k]? = some x/\aj ((b.drop k).take (b.length - k))=(x.toNat,1,0)/\x.toNat<=64:=by
 rw [xH hk,Dl] at *;by_cases h:b[k].toNat<128
 ·rw [if_pos h] at *; exact ⟨_,List.getElem?_eq_getElem hk,rfl,by simp only at hn; omega⟩
 rw [if_neg h] at *;have:=Kq (ac5 1) he;omega
theorem tk2 (hk:k<b.length) (h:(¬ (aj ((b.drop k).take (b.length - k))).2.2=0)\/(64:Int)<(((aj ((b.drop k).take (b.length - k))).1:Nat):Int)):∃ x,b[k]? = some x/\64<x.toNat:=by
 refine ⟨b[k],List.getElem?_eq_getElem hk,?_⟩;rw [xH hk,Dl] at h;by_cases h1:b[k].toNat<128
 ·rw [if_pos h1] at h; simp only [not_true_eq_false,false_or] at h; omega
 omega
def cu (b:List UInt8):List Int:=b.map fun x=>(x.toNat:Int)
def ky (b:List UInt8):List Int:=if cr (cu b) then cu b else []
def pj (b:List UInt8):Int:=if cr (cu b) then 0 else 6
theorem RQ {p:Nat × Nat × Int} (hx:b[k]? = some x) (hp:p=(x.toNat,1,0)):cu (b.take k)++[((p.1:Nat):Int)]=cu (b.take (k+1)):=by
 subst hp; unfold cu; rw [ai hx,List.map_append]; rfl
theorem Y_ (hk:k<b.length) (h:(¬ (aj ((b.drop k).take (b.length - k))).2.2=0)\/(64:Int)<(((aj ((b.drop k).take (b.length - k))).1:Nat):Int)):cr (cu b)=false:=by
 obtain ⟨x,hx,h64⟩:=tk2 hk h;rw [<- Bool.not_eq_true];intro hr;have:=(vR hr (x.toNat:Int) (aho.2 ⟨x,ada hx,rfl⟩)).2;omega
theorem BR (hk:b.length<=k):cu (b.take k)=cu b:=by rw [List.take_of_length_le hk]
theorem vL (h:cr (cu b)=false):[]=ky b:=by rw [ky,h]; rfl
theorem Nq (h:cr (cu b)=false):6=pj b:=by rw [pj,h]; rfl
theorem Tg (hk:b.length<=k) (h:cr (cu (b.take k))=true):cu (b.take k)=ky b:=by rw [BR hk] at *; rw [ky,h]; rfl
theorem SK (hk:b.length<=k) (h:cr (cu (b.take k))=true):0=pj b:=by rw [BR hk] at *; rw [pj,h]; rfl
theorem BJ (hk:b.length<=k) (h:cr (cu (b.take k))=false):cr (cu b)=false:=by rw [BR hk] at h; exact h
structure TagR where
 num:Int
 wire:Int
 k:Nat
 e:Int
def Bc (n:Nat):Bool:=decide ((n / 8<1\/1000<n / 8)\/(¬ n % 8=0/\¬ n % 8=2))
def aO (b:List UInt8):TagR:=if (aj b).2.2=0 then (if Bc (aj b).1=true then ⟨0,0,0,6⟩ else ⟨(((aj b).1 / 8:Nat):Int),(((aj b).1 % 8:Nat):Int),(aj b).2.1,0⟩) else ⟨0,0,0,(aj b).2.2⟩
theorem IU (h:¬ (aj b).2.2=0):aO b=⟨0,0,0,(aj b).2.2⟩:=by rw [aO,if_neg h]
theorem JP (h:(aj b).2.2=0) (h2:((aj b).1 / 8<1\/1000<(aj b).1 / 8)\/(¬ (aj b).1 % 8=0/\¬ (aj b).1 % 8=2)):aO b=⟨0,0,0,6⟩:=by rw [aO,if_pos h,if_pos (show Bc _=true from decide_eq_true h2)]
theorem MS (h:(aj b).2.2=0) (h2:¬ (((aj b).1 / 8<1\/1000<(aj b).1 / 8)\/(¬ (aj b).1 % 8=0/\¬ (aj b).1 % 8=2))):aO b=⟨(((aj b).1 / 8:Nat):Int),(((aj b).1 % 8:Nat):Int),(aj b).2.1,0⟩:=by
 rw [aO,if_pos h,if_neg (by unfold Bc; simpa using h2)]
theorem pX (b:List UInt8):((aO b).k<=11/\(aO b).k<=b.length)/\(0<=(aO b).num/\(aO b).num<=1000)/\(0<=(aO b).wire/\(aO b).wire<=2):=by
 have hs:(aj b).2.1<=11/\(aj b).2.1<=0+b.length:=mP (l:=b) (k:=0) (n:=0) (by omega);by_cases h:(aj b).2.2=0
 ·by_cases h2:((aj b).1 / 8<1\/1000<(aj b).1 / 8)\/(¬ (aj b).1 % 8=0/\¬ (aj b).1 % 8=2)
  ·rw [JP h h2]; simp
  rw [MS h h2]; dsimp only; omega
 rw [IU h]; simp
theorem LR:∀ {l:List UInt8} {k n:Nat},(bM k n l).2.2=0->1<=(bM k n l).2.1
 | [],k,n,h=>by rw [bM] at h; split at h <;> cases h
 | x :: r,k,n,h=>by
  rw [bM] at h ⊢;split
  ·grind
  rename_i h1;rw [if_neg h1] at h;split
  ·grind
  rename_i h2;rw [if_neg h2] at h;split
  ·simp
  rename_i h3; rw [if_neg h3] at h; exact LR h
def ba (b:List UInt8):Nat × Int:=
  if (aO b).e=0 then
    (if (aj (b.drop (aO b).k)).2.2=0 then
      (if (aO b).wire=0 then ((aO b).k+(aj (b.drop (aO b).k)).2.1,0)
       else if 16384<(aj (b.drop (aO b).k)).1 then (0,4)
       else if ((b.length:Nat):Int) - (((aO b).k+(aj (b.drop (aO b).k)).2.1:Nat):Int)<(((aj (b.drop (aO b).k)).1:Nat):Int) then (0,2)
       else ((aO b).k+(aj (b.drop (aO b).k)).2.1+(aj (b.drop (aO b).k)).1,0))
     else (0,(aj (b.drop (aO b).k)).2.2))
  else (0,(aO b).e)
theorem agW (h:¬ (aO b).e=0):ba b=(0,(aO b).e):=by rw [ba,if_neg h]
theorem ae6 (h:(aO b).e=0) (h2:¬ (aj (b.drop (aO b).k)).2.2=0):ba b=(0,(aj (b.drop (aO b).k)).2.2):=by rw [ba,if_pos h,if_neg h2]
theorem afD (h:(aO b).e=0) (h2:(aj (b.drop (aO b).k)).2.2=0) (h3:(aO b).wire=0):ba b=((aO b).k+(aj (b.drop (aO b).k)).2.1,0):=by rw [ba,if_pos h,if_pos h2,if_pos h3]
theorem agR (h:(aO b).e=0) (h2:(aj (b.drop (aO b).k)).2.2=0) (h3:¬ (aO b).wire=0) (h4:16384<(aj (b.drop (aO b).k)).1):ba b=(0,4):=by rw [ba,if_pos h,if_pos h2,if_neg h3,if_pos h4]
theorem adP (h:(aO b).e=0) (h2:(aj (b.drop (aO b).k)).2.2=0) (h3:¬ (aO b).wire=0) (h4:¬ 16384<(aj (b.drop (aO b).k)).1) (h5:((b.length:Nat):Int) - (((aO b).k+(aj (b.drop (aO b).k)).2.1:Nat):Int)<(((aj (b.drop (aO b).k)).1:Nat):Int)):ba b=(0,2):=by rw [ba,if_pos h,if_pos h2,if_neg h3,if_neg h4,if_pos h5]
theorem ae2 (h:(aO b).e=0) (h2:(aj (b.drop (aO b).k)).2.2=0) (h3:¬ (aO b).wire=0) (h4:¬ 16384<(aj (b.drop (aO b).k)).1) (h5:¬ ((b.length:Nat):Int) - (((aO b).k+(aj (b.drop (aO b).k)).2.1:Nat):Int)<(((aj (b.drop (aO b).k)).1:Nat):Int)):ba b=((aO b).k+(aj (b.drop (aO b).k)).2.1+(aj (b.drop (aO b).k)).1,0):=by rw [ba,if_pos h,if_pos h2,if_neg h3,if_neg h4,if_neg h5]
theorem my (b:List UInt8) (k:Nat):(aj (b.drop k)).2.1<=11/\(aj (b.drop k)).2.1+k<=max b.length k:=by
 have:=mP (l:=b.drop k) (k:=0) (n:=0) (by omega);unfold aj;grind
theorem yn (b:List UInt8):(ba b).1<=b.length:=by
 have h1:=pX b; have h2:=my b (aO b).k;unfold ba;grind
theorem m_ (h:(ba b).2=0):1<=(ba b).1:=by
 unfold ba at h ⊢;split
 ·rename_i h0;rw [if_pos h0] at h;split
  ·rename_i h1;rw [if_pos h1] at h;have:=LR (l:=b.drop (aO b).k) (k:=0) (n:=0) h1;split
   ·dsimp only; unfold aj; omega
   rename_i h2;rw [if_neg h2] at h;split
   ·grind
   rename_i h3;rw [if_neg h3] at h;split
   ·grind
   dsimp only; unfold aj; omega
  grind
 grind
def gU (b:List UInt8):Field:=if (aO b).wire=0 then ⟨(aO b).num,(aO b).wire,⟨(aj (b.drop (aO b).k)).1⟩,[]⟩ else ⟨(aO b).num,(aO b).wire,⟨0⟩,b.drop ((aO b).k+(aj (b.drop (aO b).k)).2.1)⟩
theorem Ds (h:(aO b).wire=0):(⟨(aO b).num,(aO b).wire,⟨(aj (b.drop (aO b).k)).1⟩,[]⟩:Field)=gU b:=by rw [gU,if_pos h]
theorem Dd (h:¬ (aO b).wire=0):(⟨(aO b).num,(aO b).wire,⟨0⟩,b.drop ((aO b).k+(aj (b.drop (aO b).k)).2.1)⟩:Field)=gU b:=by rw [gU,if_neg h]
def fF (acc:List Field) (x:Field):Bool:=match acc[acc.length - 1]? with | none=>true | some y=>fP y x
def y_:Nat->List Field->List UInt8->List Field × Int
 | 0,acc,_=>(acc,0)
 | f+1,acc,b=>if b.length=0 then (acc,0) else if (ba b).2=0 then (if fF acc (gU (b.take (ba b).1))=true then y_ f (acc++[gU (b.take (ba b).1)]) (b.drop (ba b).1) else ([],5)) else ([],(ba b).2)
def bA (b:List UInt8):List Field × Int:=if 16384<b.length then ([],4) else y_ b.length [] b
def iM (b:List UInt8) (i:Nat) (acc:List Field):Prop:=∃ f,b.length - i<=f/\bA b=y_ f acc (b.drop i)
theorem Vt (h:16384<b.length):bA b=([],4):=by rw [bA,if_pos h]
theorem Mm (h:¬ 16384<b.length):iM b 0 []:=⟨b.length,by omega,by rw [bA,if_neg h]; rfl⟩
variable {acc:List Field}
theorem NB (h:iM b i acc) (hi:i<b.length):∃ f,b.length - i<=f+1/\bA b=if (ba (b.drop i)).2=0 then (if fF acc (gU ((b.drop i).take (ba (b.drop i)).1))=true then y_ f (acc++[gU ((b.drop i).take (ba (b.drop i)).1)]) ((b.drop i).drop (ba (b.drop i)).1) else ([],5)) else ([],(ba (b.drop i)).2):=by
 obtain ⟨f,hf,e⟩:=h;cases f with
 | zero=>omega
 | succ f=>exact ⟨f,hf,by rw [e,y_,if_neg (by rw [List.length_drop]; omega)]⟩
theorem RX (h:iM b i acc) (hi:i<b.length) (hs:¬ (ba (b.drop i)).2=0):bA b=([],(ba (b.drop i)).2):=by
 obtain ⟨f,_,e⟩:=NB h hi; rw [e,if_neg hs]
theorem Yq (h:iM b i acc) (hi:b.length<=i):bA b=(acc,0):=by
 obtain ⟨f,_,e⟩:=h;rw [e,aeu hi];cases f <;> rfl
theorem AA:∀ {f:Nat} {acc:List Field} {b:List UInt8},(y_ f acc b).1.length<=acc.length+b.length
 | 0,acc,b=>by simp [y_]
 | f+1,acc,b=>by
  unfold y_;split
  ·simp
  split
  ·rename_i h0 h1;split
   ·have:=AA (f:=f) (acc:=acc++[gU (b.take (ba b).1)]) (b:=b.drop (ba b).1);have h2:=m_ h1;rw [List.length_append,List.length_drop] at this;simp only [List.length_cons,List.length_nil] at this;omega
   simp
  simp
theorem SC (b:List UInt8):(bA b).1.length<=16384:=by
 unfold bA;split
 ·simp
 have:=AA (f:=b.length) (acc:=[]) (b:=b);simp only [List.length_nil] at this;omega
def J_ (x:Field) (s:Spec) (n:Int):Bool:=if ¬ x.wire=s.wire\/(1<n/\s.many=false) then false else if x.wire=0 then !decide ((x.n.n:Int)=0) else decide (0<((x.b.length:Nat):Int))
def ig (l:List Field) (q:Int):Nat:=l.countP fun x=>decide (x.num=q)
theorem QY (q:Int):ig (l.take k) q<=k:=Nat.le_trans List.countP_le_length (by rw [List.length_take]; exact Nat.min_le_left _ _)
variable {x:Field}
theorem JX (hx:l[k]? = some x) (q:Int):ig (l.take (k+1)) q=if q=x.num then ig (l.take k) x.num+1 else ig (l.take k) q:=by
 unfold ig;rw [ai hx,List.countP_append];by_cases h:q=x.num
 ·subst h; simp
 have:¬ x.num=q:=fun e=>h e.symm;simp [h,this]
def tf (l:List Field) (ss:List Spec) (k:Nat):Prop:=∀ j x,j<k->l[j]? = some x->∀ s ∈ ss,s.num=x.num->J_ x s ((ig (l.take (j+1)) x.num:Nat):Int)=true
def HL (l:List Field) (ss:List Spec) (m:Nat):Prop:=∀ j y,j<m->ss[j]? = some y->y.need=true->¬ ig l y.num=0
def LU (ss:List Spec) (x:Field) (n:Int) (m:Nat):Prop:=∀ j y,j<m->ss[j]? = some y->y.num=x.num->J_ x y n=true
variable {ss:List Spec} {n:Int}
theorem abR:LU ss x n 0:=fun j y h=>by omega
theorem ZM:tf l ss 0:=fun j y h=>by omega
theorem aar:HL l ss 0:=fun j y h=>by omega
def AX (l:List Field) (v:Int):Prop:=tf l (aP v) l.length/\HL l (aP v) (aP v).length
open Classical in
noncomputable def gh (l:List Field) (v:Int):Int:=if (aP v).length=0 then 1 else if cE l=0 then (if AX l v then 0 else 6) else cE l
theorem agk {v:Int} (h:(aP v).length=0):1=gh l v:=by rw [gh,if_pos h]
theorem agT {v:Int} (h:¬ (aP v).length=0) (h2:¬ cE l=0):cE l=gh l v:=by rw [gh,if_neg h,if_neg h2]
theorem aa0 {v:Int} (h:¬ (aP v).length=0) (h2:cE l=0) (h3:¬ AX l v):6=gh l v:=by rw [gh,if_neg h,if_pos h2,if_neg h3]
theorem adB {v:Int} (h:¬ (aP v).length=0) (h2:cE l=0) (h3:AX l v):0=gh l v:=by rw [gh,if_neg h,if_pos h2,if_pos h3]
theorem KI {y:Spec} (h:LU ss x n m) (hy:ss[m]? = some y) (hn:y.num=x.num->J_ x y n=true):LU ss x n (m+1):=by
 intro j z hj hz;by_cases hjm:j=m
 ·subst hjm; rw [hy] at hz; cases hz; exact hn
 exact h j z aK hz
theorem L_ (h:tf l ss k) (hx:l[k]? = some x) (hi:LU ss x n m) (hm:ss.length<=m) (e:n=((ig (l.take (k+1)) x.num:Nat):Int)):tf l ss (k+1):=by
 subst e;intro j z hj hz s hs hn;by_cases hjk:j=k
 ·subst hjk; rw [hx] at hz; cases hz;obtain ⟨p,hp,rfl⟩:=List.getElem_of_mem hs;exact hi p _ aK (List.getElem?_eq_getElem hp) hn
 exact h j z aK hz s hs hn
theorem Mb {y:Spec} (h:HL l ss m) (hy:ss[m]? = some y) (hn:y.need=true->¬ ig l y.num=0):HL l ss (m+1):=by
 intro j z hj hz;by_cases hjm:j=m
 ·subst hjm; rw [hy] at hz; cases hz; exact hn
 exact h j z aK hz
theorem Sr {v:Int} {y:Spec} (hx:l[k]? = some x) (hy:(aP v)[m]? = some y) (hn:y.num=x.num/\J_ x y n=false) (e:n=((ig (l.take (k+1)) x.num:Nat):Int)):¬ AX l v:=by
 intro h;have:=h.1 k x (BM hx) hx y (ada hy) hn.1;rw [<- e,hn.2] at this; cases this
variable {n:Nat}
theorem Qj {v:Int} {y:Spec} (hy:(aP v)[m]? = some y) (hn:y.need=true/\((n:Nat):Int)=0) (e:n=ig l y.num):¬ AX l v:=
 fun h=>h.2 m y (BM hy) hy hn.1 (by omega)
theorem OF {v:Int} (h1:tf l (aP v) k) (hk:l.length<=k) (h2:HL l (aP v) m) (hm:(aP v).length<=m):AX l v:=
 ⟨fun j x hj=>h1 j x (by omega),fun j y hj=>h2 j y (by omega)⟩
theorem Ql {v:Int} (hx:l[k]? = some x) (h:x.num<=v):(l.take k).filter (fun f=>decide (f.num<=v))++[x]=(l.take (k+1)).filter (fun f=>decide (f.num<=v)):=by
 rw [ai hx,List.filter_append]; simp [h]
theorem YV {v:Int} (hx:l[k]? = some x) (h:¬ x.num<=v):(l.take k).filter (fun f=>decide (f.num<=v))=(l.take (k+1)).filter (fun f=>decide (f.num<=v)):=by
 rw [ai hx,List.filter_append]; simp [h]
theorem SL {v:Int} (hx:l[k]? = some x) (h:¬ x.num<=v):(l.take k).filter (fun f=>!decide (f.num<=v))++[x]=(l.take (k+1)).filter (fun f=>!decide (f.num<=v)):=by
 rw [ai hx,List.filter_append]; simp [h]
theorem Yl {v:Int} (hx:l[k]? = some x) (h:x.num<=v):(l.take k).filter (fun f=>!decide (f.num<=v))=(l.take (k+1)).filter (fun f=>!decide (f.num<=v)):=by
 rw [ai hx,List.filter_append]; simp [h]
theorem KH (l:List Field) (p:Field->Bool):(l.filter p).length<=l.length:=List.length_filter_le _ _
def dG (l:List Field) (v:Int):List Field:=l.filter fun f=>decide (f.num<=v)
def ek (l:List Field) (v:Int):List Field:=l.filter fun f=>!decide (f.num<=v)
theorem Pk (l:List Field) (v:Int):(dG l v).length<=l.length:=KH _ _
theorem CT (l:List Field) (v:Int):(ek l v).length<=l.length:=KH _ _
theorem Fx {v:Int} (hk:l.length<=k):(l.take k).filter (fun f=>decide (f.num<=v))=dG l v:=by rw [List.take_of_length_le hk]; rfl
theorem HU {v:Int} (hk:l.length<=k):(l.take k).filter (fun f=>!decide (f.num<=v))=ek l v:=by rw [List.take_of_length_le hk]; rfl
def HI (f:Field):Int:=IntKind.i64.wrap ((f.n.n:Nat):Int)
def eW (c:Command) (f:Field):Command:=
 if f.num=1 then ⟨HI f,c.client,c.seq,c.set,c.id,c.n,c.chunks,c.text⟩ else
 if f.num=2 then ⟨c.kind,HI f,c.seq,c.set,c.id,c.n,c.chunks,c.text⟩ else
 if f.num=3 then ⟨c.kind,c.client,HI f,c.set,c.id,c.n,c.chunks,c.text⟩ else
 if f.num=4 then ⟨c.kind,c.client,c.seq,HI f,c.id,c.n,c.chunks,c.text⟩ else
 if f.num=5 then ⟨c.kind,c.client,c.seq,c.set,HI f,c.n,c.chunks,c.text⟩ else
 if f.num=6 then ⟨c.kind,c.client,c.seq,c.set,c.id,HI f,c.chunks,c.text⟩ else
 if f.num=7 then ⟨c.kind,c.client,c.seq,c.set,c.id,c.n,ky f.b,c.text⟩ else
 if f.num=8 then ⟨c.kind,c.client,c.seq,c.set,c.id,c.n,c.chunks,⟨f.b⟩⟩ else c
def cA:Command:=⟨0,0,0,0,0,0,[],⟨[]⟩⟩
def cN (l:List Field):Command:=l.foldl eW cA
theorem dB (hx:l[k]? = some x):cN (l.take (k+1))=eW (cN (l.take k)) x:=by
 unfold cN; rw [ai hx,List.foldl_append]; rfl
theorem agv {c:Command} (h:f.num=1):(⟨HI f,c.client,c.seq,c.set,c.id,c.n,c.chunks,c.text⟩:Command)=eW c f:=by rw [eW,if_pos h]
theorem adK {c:Command} (h:f.num=2):(⟨c.kind,HI f,c.seq,c.set,c.id,c.n,c.chunks,c.text⟩:Command)=eW c f:=by rw [eW,if_neg (by omega),if_pos h]
theorem afc {c:Command} (h:f.num=3):(⟨c.kind,c.client,HI f,c.set,c.id,c.n,c.chunks,c.text⟩:Command)=eW c f:=by rw [eW,if_neg (by omega),if_neg (by omega),if_pos h]
theorem afJ {c:Command} (h:f.num=4):(⟨c.kind,c.client,c.seq,HI f,c.id,c.n,c.chunks,c.text⟩:Command)=eW c f:=by rw [eW,if_neg (by omega),if_neg (by omega),if_neg (by omega),if_pos h]
theorem agS {c:Command} (h:f.num=5):(⟨c.kind,c.client,c.seq,c.set,HI f,c.n,c.chunks,c.text⟩:Command)=eW c f:=by rw [eW,if_neg (by omega),if_neg (by omega),if_neg (by omega),if_neg (by omega),if_pos h]
theorem aev {c:Command} (h:f.num=6):(⟨c.kind,c.client,c.seq,c.set,c.id,HI f,c.chunks,c.text⟩:Command)=eW c f:=by rw [eW,if_neg (by omega),if_neg (by omega),if_neg (by omega),if_neg (by omega),if_neg (by omega),if_pos h]
theorem ad1 {c:Command} (h:f.num=7):(⟨c.kind,c.client,c.seq,c.set,c.id,c.n,ky f.b,c.text⟩:Command)=eW c f:=by rw [eW,if_neg (by omega),if_neg (by omega),if_neg (by omega),if_neg (by omega),if_neg (by omega),if_neg (by omega),if_pos h]
theorem aeJ {c:Command} (h:f.num=8):(⟨c.kind,c.client,c.seq,c.set,c.id,c.n,c.chunks,⟨f.b⟩⟩:Command)=eW c f:=by rw [eW,if_neg (by omega),if_neg (by omega),if_neg (by omega),if_neg (by omega),if_neg (by omega),if_neg (by omega),if_neg (by omega),if_pos h]
theorem afs {c:Command} (h:¬ (1<=f.num/\f.num<=8)):c=eW c f:=by rw [eW,if_neg (by omega),if_neg (by omega),if_neg (by omega),if_neg (by omega),if_neg (by omega),if_neg (by omega),if_neg (by omega),if_neg (by omega)]
noncomputable def lY (b:List UInt8) (v:Int):Int:=if (bA b).2=0 then gh (bA b).1 v else (bA b).2
structure TkR where
 c:Command
 r:List Field
 e:Int
noncomputable def ct (b:List UInt8) (v:Int):TkR:=
 if 1<=v/\v<=3 then (if lY b v=0 then (if e_ (cN (dG (bA b).1 (cH v))) (ek (bA b).1 (cH v)) v=0/\fZ (cN (dG (bA b).1 (cH v))) (ek (bA b).1 (cH v)) v=b then ⟨cN (dG (bA b).1 (cH v)),ek (bA b).1 (cH v),0⟩ else ⟨cA,[],6⟩) else ⟨cA,[],lY b v⟩) else ⟨cA,[],1⟩
theorem aeW {v:Int} (h:¬ (1<=v/\v<=3)):ct b v=⟨cA,[],1⟩:=by rw [ct,if_neg h]
theorem acm {v:Int} (h:1<=v/\v<=3) (h2:¬ lY b v=0):ct b v=⟨cA,[],lY b v⟩:=by rw [ct,if_pos h,if_neg h2]
theorem aeK {v:Int} (h:1<=v/\v<=3) (h2:lY b v=0) (h3:¬ e_ (cN (dG (bA b).1 (cH v))) (ek (bA b).1 (cH v)) v=0\/¬ fZ (cN (dG (bA b).1 (cH v))) (ek (bA b).1 (cH v)) v=b):ct b v=⟨cA,[],6⟩:=by
 rw [ct,if_pos h,if_pos h2,if_neg (fun h=>h3.elim (fun h4=>h4 h.1) (fun h4=>h4 h.2))]
theorem ae5 {v:Int} (h:1<=v/\v<=3) (h2:lY b v=0) (h3:e_ (cN (dG (bA b).1 (cH v))) (ek (bA b).1 (cH v)) v=0/\fZ (cN (dG (bA b).1 (cH v))) (ek (bA b).1 (cH v)) v=b):ct b v=⟨cN (dG (bA b).1 (cH v)),ek (bA b).1 (cH v),0⟩:=by
 rw [ct,if_pos h,if_pos h2,if_pos h3]
theorem Ra {v:Int} (h:lY b v=0):(bA b).2=0/\cE (bA b).1=0:=by
 unfold lY at h;split at h
 ·rename_i h1;refine ⟨h1,?_⟩;unfold gh at h;split at h
  ·cases h
  split at h
  ·assumption
  exact h
 rename_i h1; exact absurd h h1
theorem WB {v:Int} {u:Int} (h:lY b v=0):∀ f ∈ dG (bA b).1 u,f.b.length<=16384:=
 fun _ hf=>xn (Ra h).2 (ahz.1 hf).1
variable {x:UInt8}
theorem G_ (h:x.toNat<128):(x &&& 127).toNat=x.toNat:=by rw [oA]; omega
theorem GM:∀ (n:Nat) {k m:Nat} {r:List UInt8},k<=9->n*2 ^ (7*k)<18446744073709551616->(0<k->n≠0)->bM k m (cJ n++r)=(m+n*2 ^ (7*k),k+(cJ n).length,0):=by
 intro n;induction n using Nat.strongRecOn with
 | _ n ih=>
  intro k m r hk hn h0;by_cases hs:n<128
  ·rw [BH hs];have hx:(UInt8.ofNat n).toNat=n:=by rw [UInt8.toNat_ofNat']; omega
   simp only [List.cons_append,ahp,List.length_cons,List.length_nil];have h9:¬ ((0<k/\(UInt8.ofNat n).toNat=0)\/(k=9/\1<(UInt8.ofNat n).toNat)):=by
    rw [hx];rintro (⟨h1,h2⟩ | ⟨rfl,h2⟩)
    ·exact h0 h1 h2
    have:2*2 ^ (7*9)<=n*2 ^ (7*9):=adk _ (by omega);have e:(2:Nat)*2 ^ (7*9)=18446744073709551616:=by decide
    omega
   rw [bM,if_neg (by omega),if_neg h9,if_pos (by omega),G_ (by omega),hx]
  rw [MX hs];simp only [List.cons_append,List.length_cons];have hx:=acy n;have hk8:k<=8:=by
   rcases Nat.lt_or_ge k 9 with h | h
   ·omega
   have hk9:k=9:=by omega
   subst hk9;have:128*2 ^ (7*9)<=n*2 ^ (7*9):=adk _ (by omega);have e:(128:Nat)*2 ^ (7*9)=1180591620717411303424:=by decide
   omega
  have e7:(2:Nat) ^ (7*(k+1))=128*2 ^ (7*k):=by rw [show 7*(k+1)=7*k+7 by omega,Nat.pow_add,Nat.mul_comm]
  have hd:n / 128*2 ^ (7*(k+1))<=n*2 ^ (7*k):=by
   rw [e7,<- Nat.mul_assoc]; exact adk _ (Nat.div_mul_le_self _ _)
  rw [bM,if_neg (by omega),if_neg (by rw [hx]; rintro (⟨_,h⟩ | ⟨h,_⟩) <;> omega),if_neg (by omega),oA,hx];rw [ih (n / 128) (by omega) (k:=k+1) (by omega) (by omega) (fun _=>by omega)];have e:(n % 128+128) % 128=n % 128:=by omega
  have e2:n % 128*2 ^ (7*k)+n / 128*2 ^ (7*(k+1))=n*2 ^ (7*k):=by
   rw [e7,<- Nat.mul_assoc,<- ahe]; congr 1; omega
  rw [e,Nat.add_assoc,e2];congr 2;omega
theorem uM (h:n<18446744073709551616) (r:List UInt8):aj (cJ n++r)=(n,(cJ n).length,0):=by
 unfold aj;rw [GM n (by omega) (by simpa using h) (fun h=>absurd h (by omega))];simp
theorem tvX (hx:b[k]? = some x):b.getD k (ao .u8)=x:=by rw [List.getD_eq_getElem?_getD,hx]; rfl
theorem tvA (h:aj b=bM k n (b.drop k)) (hk:(k:Int)<10) (hb:(k:Int)=(b.length:Int)):aj b=(0,0,2):=h.trans (XL (by omega) (by omega))
theorem tvD (h:aj b=bM k n (b.drop k)) (hk:10<=(k:Int)):aj b=(0,0,3):=h.trans (WI (by omega))
theorem tvG (h1:k<=b.length) (h2:¬ (k:Int)=(b.length:Int)):∃ x,b[k]? = some x:=⟨_,List.getElem?_eq_getElem (by omega)⟩
theorem tvB (h:aj b=bM k n (b.drop k)) (hk:(k:Int)<10) (hl:k<=b.length) (hb:¬ (k:Int)=(b.length:Int)) (h0:0<(k:Int)) (h1:((b.getD k (ao .u8)).toNat:Int)=((UInt8.ofNat 0).toNat:Int)):aj b=(0,0,3):=by
 obtain ⟨x,hx⟩:=tvG hl hb;rw [tvX hx,show (UInt8.ofNat 0).toNat=0 from rfl] at h1;exact JT h aK hx (.inl ⟨by omega,by omega⟩)
theorem tvC (h:aj b=bM k n (b.drop k)) (_hk:(k:Int)<10) (hl:k<=b.length) (hb:¬ (k:Int)=(b.length:Int)) (h0:(k:Int)=9) (h1:((UInt8.ofNat 1).toNat:Int)<((b.getD k (ao .u8)).toNat:Int)):aj b=(0,0,3):=by
 obtain ⟨x,hx⟩:=tvG hl hb;rw [tvX hx,show (UInt8.ofNat 1).toNat=1 from rfl] at h1;exact JT h aK hx (.inr ⟨by omega,by omega⟩)
def ZA (n k:Nat) (x:UInt8):Nat:=n ||| (x &&& UInt8.ofNat 127).toNat*2 ^ (7*(k:Int)).toNat % 18446744073709551616
theorem tvN (hn:n<2 ^ (7*k)) (hk:k<=9) (h9:k=9->x.toNat<=1):ZA n k x=n+(x &&& 127).toNat*2 ^ (7*k):=by
 unfold ZA;rw [show (UInt8.ofNat 127)=127 from rfl,show (7*(k:Int)).toNat=7*k by omega,Nat.mod_eq_of_lt (YO hk h9)];exact XI hn
theorem tvZ (hx:b[k]? = some x) (h1:(k:Int)<=0\/¬ ((b.getD k (ao .u8)).toNat:Int)=((UInt8.ofNat 0).toNat:Int)) (h2:¬ (k:Int)=9\/((b.getD k (ao .u8)).toNat:Int)<=((UInt8.ofNat 1).toNat:Int)):(¬ (0<k/\x.toNat=0))/\¬ (k=9/\1<x.toNat):=by grind
theorem tvE {y:UInt8} (h:aj b=bM k n (b.drop k)) (hn:n<2 ^ (7*k)) (hk:(k:Int)<10) (hx:b[k]? = some x) (hy:b[k]? = some y) (h1:(k:Int)<=0\/¬ ((b.getD k (ao .u8)).toNat:Int)=((UInt8.ofNat 0).toNat:Int)) (h2:¬ (k:Int)=9\/((b.getD k (ao .u8)).toNat:Int)<=((UInt8.ofNat 1).toNat:Int)) (h3:(y.toNat:Int)<((UInt8.ofNat 128).toNat:Int)):aj b=(ZA n k x,k+1,0):=by
 have hz:=tvZ hx h1 h2;rw [show (UInt8.ofNat 128).toNat=128 from rfl] at h3;rw [hx] at hy; cases hy;rw [tvN hn (by omega) (by omega)];exact OY h aK hx hz.1 hz.2 aK
theorem tvF {y:UInt8} (h:aj b=bM k n (b.drop k)) (hn:n<2 ^ (7*k)) (hn2:n<18446744073709551616) (hk:(k:Int)<10) (hx:b[k]? = some x) (hy:b[k]? = some y) (h1:(k:Int)<=0\/¬ ((b.getD k (ao .u8)).toNat:Int)=((UInt8.ofNat 0).toNat:Int)) (h2:¬ (k:Int)=9\/((b.getD k (ao .u8)).toNat:Int)<=((UInt8.ofNat 1).toNat:Int)) (h3:((UInt8.ofNat 128).toNat:Int)<=(y.toNat:Int)):ZA n k x<2 ^ (7*(k+1))/\ZA n k x<18446744073709551616/\aj b=bM (k+1) (ZA n k x) (b.drop (k+1)):=by
 have hz:=tvZ hx h1 h2;rw [show (UInt8.ofNat 128).toNat=128 from rfl] at h3;rw [hx] at hy; cases hy;have e:=tvN hn (show k<=9 by omega) (show k=9->x.toNat<=1 by omega);refine ⟨by rw [e]; exact Rq hn,?_,by rw [e]; exact Ph h (by omega) hx hz.1 hz.2 (by omega)⟩;exact ahj (n:=64) hn2 (agh _ (by decide))
variable {x:Int}
theorem aa3 {c:Command} {v:Int} (hx:[c.client,c.seq,c.set,c.id,c.n][k]? = some x) (h:x<0\/1048576<x):false=fY c v:=by
 refine Ri ?_;grind
theorem ab5 {c:Command} (h:(k:Int)<5):[c.client,c.seq,c.set,c.id,c.n][k]? = some ([c.client,c.seq,c.set,c.id,c.n].getD k (ao .int)):=by
 rw [List.getD_eq_getElem?_getD,List.getElem?_eq_getElem (by simp only [List.length_cons]; omega)]; rfl
theorem ZP {n:Int} {p:Prop} (h:n<=0\/p):(¬ 0<n)\/p:=h.imp_left (by omega)
theorem af6 {l:List Int} (h:((l.take k).all fun n=>bX n 0 1048576)=true) (hx:l[k]? = some x) (h0:0<=x) (h1:x<=1048576):((l.take (k+1)).all fun n=>bX n 0 1048576)=true:=by
 rw [ai hx,agr,h]; simp [bX]; omega
theorem acQ {c:Command} (h:(([c.client,c.seq,c.set,c.id,c.n].take k).all fun n=>bX n 0 1048576)=true) (hk:5<=(k:Int)):¬ ((c.client<0\/1048576<c.client)\/(c.seq<0\/1048576<c.seq)\/(c.set<0\/1048576<c.set)\/(c.id<0\/1048576<c.id)\/(c.n<0\/1048576<c.n)):=by
 rw [List.take_of_length_le (by simp only [List.length_cons,List.length_nil]; omega)] at h;simp only [agy,bX,Bool.and_eq_true,decide_eq_true_eq] at h;omega
def WH (b:List UInt8):List (Nat × LI):=[(3,{ σ:=Nat × Nat,F:=fun s=>([(0,one (.fz .u8 (b))),(5,one (.u64 s.2)),(6,one (.int 0)),(7,one (.int 3)),(9,one (.int s.1))],[]),J:=fun s=>s.1<=10/\s.2<2 ^ (7*s.1)/\s.2<18446744073709551616/\aj b=bM s.1 s.2 (b.drop s.1)/\s.1<=b.length,μ:=fun s=>10 - s.1 })]
def FI (c:Command) (v:Int):List (Nat × LI):=[(5,{ σ:=Nat,F:=fun k=>([(1,one (.int (v))),(2,one (.ptr 0 0)),(38,.one (.agg [.int c.client,.int c.seq,.int c.set,.int c.id,.int c.n])),(39,one (.int k))],[.box 35 (cellsOf (.nm .command) (c))]),J:=fun k=>k<=5/\([c.client,c.seq,c.set,c.id,c.n].take k).all (fun n=>bX n 0 1048576)=true,μ:=fun k=>5 - k })]
def Dy:Kn:=aJ (ae (kC (cL .u8)) au) aw fun (b,_) _=>⟨[],[.c (.u64 ((U64.mk (aj b).1)).n),.c (.int ((((aj b).2.1:Nat)))),.c (.int (((aj b).2.2)))],none,false⟩
theorem QT:CK 210 Dy:=ah fun (b,_) _ _=>by
 refine av dg (WH b) Tryz.func210 (?_:(fun (q14:UInt8)=>(fun (q13:Nat)=>(fun (q12:Nat)=>(fun (q11:Nat)=>(fun (q10:Int)=>(fun (q9:Nat)=>(fun (q8:Int)=>(fun (q7:Int)=>(fun (q6:Int)=>(fun (q5:Int)=>(fun (q4:Int)=>(fun (q3:Prop)=>(fun (q2:Int)=>(fun (q1:Int)=>(fun (q0:Int)=>(fun (q18:Prop)=>(fun (q17:Prop)=>(fun (q16:Prop)=>(fun (q15:Prop)=>b.length*1<=140737488355328->∃ (s0:Nat × Nat),(b=b/\0=s0.snd/\q17/\q4=q4/\q0=(↑s0.fst:Int))/\(s0.fst<=q12/\s0.snd<q11 ^ (7*s0.fst)/\s0.snd<q13/\aj b=bM s0.fst s0.snd (List.drop s0.fst b)/\s0.fst<=b.length)/\∀ (s:Nat × Nat),(fun (q23:Nat)=>(fun (q22:Int)=>(fun (q21:Prop)=>(fun (q20:Int)=>(fun (q25:Int)=>(fun (q24:Int)=>(fun (q19:Prop)=>q23<=q12/\s.snd<q11 ^ (7*q23)/\s.snd<q13/\aj b=bM q23 s.snd (List.drop q23 b)/\q23<=b.length->(q20<10->(q20=q5->(¬2=q0->q3/\q0=q1/\2=q2)/\(2=q0->s.snd=q9/\q15))/\(¬q20=q5->(q0<q20->q0<=q20/\q20<q5)/\(q0<q20/\q22=q6->(q0<q20/\q22=q6->q21)/\(q20<=q0\/¬q22=q6->q19))/\(q20<=q0\/¬q22=q6->(q20=9->q0<=q20/\q20<q5)/\(q20=9/\(↑(UInt8.ofNat 1).toNat:Int)<q22->q21)/\(¬q20=9\/q22<=(↑(UInt8.ofNat 1).toNat:Int)->q19))))/\(10<=q20->q21)) (q0<=q20/\q20<q5/\∀ (x:UInt8),b[q23]? = some x->I64 q24/\q0<=q24/\q24<64/\q0<=q20/\q20<q5/\∀ (x_1:UInt8),b[q23]? = some x_1->((↑x_1.toNat:Int)<q7->I64 q25/\(¬q17->q3/\q15)/\(q17->s.snd ||| (x &&& q14).toNat*q11 ^ q24.toNat % q13=q9/\q25=q1/\q0=q2))/\(q7<=(↑x_1.toNat:Int)->I64 q25/\∃ (s':Nat × Nat),(b=b/\s.snd ||| (x &&& q14).toNat*q11 ^ q24.toNat % q13=s'.snd/\q17/\q4=q4/\q25=(↑s'.fst:Int))/\(s'.fst<=q12/\s'.snd<q11 ^ (7*s'.fst)/\s'.snd<q13/\aj b=bM s'.fst s'.snd (List.drop s'.fst b)/\s'.fst<=b.length)/\q12 - s'.fst<q12 - q23))) (q8*q20)) (q20+q10)) (↑q23:Int)) ((¬q18->q16)/\(q18->s.snd=q9/\q15))) (↑(UInt8.toNat (b.getD q23 (ao Sh.u8))):Int)) s.fst) (q0=q1/\q0=q2)) (q3/\q0=q1/\q4=q2)) (q0=q0)) (q4=q0)) 0) (↑(aj b).snd.fst:Int)) (aj b).snd.snd) (0=q9)) 3) (↑b.length:Int)) (↑(UInt8.ofNat 0).toNat:Int)) (↑(UInt8.ofNat 128).toNat:Int)) 7) (aj b).fst) 1) 2) 10) 18446744073709551616) (UInt8.ofNat 127));(repeat' with_reducible first|apply bd|refine bf ?_|intro)
 all_goals try (first | exact bq | decide)
 all_goals (refine ⟨(0,0),⟨rfl,rfl,?_,?_,?_⟩,⟨by omega,by decide,by decide,rfl,by omega⟩,?_⟩)
 all_goals try (first | trivial | rfl)
 (repeat' with_reducible first|apply bd|refine bf ?_|intro)
 all_goals try (first | exact bq | (rw [tvA ab ab ab] <;> rfl) | (rw [tvD ab ab] <;> rfl) | (rw [tvB ab ab ab ab ab ab] <;> rfl) | (rw [tvC ab ab ab ab ab ab] <;> rfl) | exact (congrArg Prod.fst (tvE ab ab ab ab ab ab ab ab)).symm | exact (congrArg (fun t=>((t.2.1:Nat):Int)) (tvE ab ab ab ab ab ab ab ab)).symm | exact (congrArg (fun t=>t.2.2) (tvE ab ab ab ab ab ab ab ab)).symm)
 all_goals (refine ⟨(‹Nat × Nat›.1+1,_),⟨rfl,rfl,?_⟩,?_⟩; (repeat' with_reducible first|apply bd|refine bf ?_|intro))
 all_goals (first | exact bq | exact (tvF ab ab ab ab ab ab ab ab ab).1 | exact (tvF ab ab ab ab ab ab ab ab ab).2.1 | exact (tvF ab ab ab ab ab ab ab ab ab).2.2)
def AL:Kn:=aJ (ae (kT (.nm .field)) (ae (kT (.nm .field)) au)) aw fun (x,y,_) _=>⟨[],[.c (.bool (.atom ((fP x y))))],none,false⟩
theorem Ir:CK 256 AL:=ah fun (x,y,_) _ _=>by
 refine av dg [] Tryz.func256 (?_:I64 x.num->I64 x.wire->x.n.n<18446744073709551616->x.b.length*1<=140737488355328->I64 y.num->I64 y.wire->y.n.n<18446744073709551616->y.b.length*1<=140737488355328->(y.num=x.num->(decide (y.wire=2) && decide (x.wire=2))=fP x y)/\(¬y.num=x.num->decide (x.num<y.num)=fP x y));grind [fP]
def At:Kn:=aJ (ae (kT (.nm .field)) au) aw fun (x,_) _=>⟨[],[.c (.bool (.atom ((dV x))))],none,false⟩
theorem Na:CK 255 At:=ah fun (x,_) _ _=>by
 refine av dg [] Tryz.func255 (?_:I64 x.num->I64 x.wire->x.n.n<(18446744073709551616:Nat)->x.b.length*(1:Nat)<=(140737488355328:Nat)->(x.num<(1:Int)\/(1000:Int)<x.num->false=dV x)/\((1:Int)<=x.num/\x.num<=(1000:Int)->(x.wire=(0:Int)->decide ((↑x.b.length:Int)=(0:Int))=dV x)/\(¬x.wire=(0:Int)->(x.wire=(2:Int)->decide ((↑x.n.n:Int)=(↑(0:Nat):Int))=dV x)/\(¬x.wire=(2:Int)->false=dV x))));grind [dV,Kv,Ja]
def yM:Kn:=aJ (ae (kC (cL .u8)) (ae (kC (cL .u8)) au)) aw fun (x,y,_) _=>⟨[],[.c (.bool (.atom ((decide (x=y)))))],none,false⟩
theorem On:CK 146 yM:=ah fun (x,y,_) _ _=>by
 refine av dg [] Tryz.func146 (?_:x.length*1<=140737488355328->y.length*1<=140737488355328->decide (Str.mk x=Str.mk y)=decide (x=y));grind
def xK:Kn:=aJ (ae (kC (cL .u8)) au) aw fun (x,_) _=>⟨[],[.c (.fz .u8 ((x)))],none,false⟩
theorem Lc:CK 332 xK:=ah fun (x,_) _ _=>by
 refine av dg [] Tryz.func332 (?_:(fun q0=>q0->∀ (b:Bool),(b=true->x=[])->(b=true->x=[])/\(b=false->q0/\x=x)) (x.length*1<=140737488355328));grind
def Tv:Kn:=aJ (ae (kC cI) (ae (kC cI) au)) aw fun (k,l,_) _=>⟨[],[.agg (cellsOf (.nm .spec) (⟨k,0,l,false,false⟩))],none,false⟩
theorem acI:CK 271 Tv:=ah fun (k,l,_) _ _=>by
 refine av dg [] Tryz.func271 (?_:I64 k->I64 l->k=k/\(0:Int)=0/\l=l/\false=false/\false=false);grind
def Uk:Kn:=aJ (ae (kC cI) (ae (kC cI) au)) aw fun (k,l,_) _=>⟨[],[.agg (cellsOf (.nm .spec) (⟨k,2,l,false,false⟩))],none,false⟩
theorem abG:CK 272 Uk:=ah fun (k,l,_) _ _=>by
 refine av dg [] Tryz.func272 (?_:I64 k->I64 l->k=k/\(2:Int)=2/\l=l/\false=false/\false=false);grind
def Uz:Kn:=aJ (ae (kT (.nm .spec)) au) aw fun (x,_) _=>⟨[],[.agg (cellsOf (.nm .spec) ({ x with need:=true }))],none,false⟩
theorem abP:CK 273 Uz:=ah fun (x,_) _ _=>by
 refine av dg [] Tryz.func273 (?_:lW x (x.num=x.num/\x.wire=x.wire/\x.since=x.since/\true=true/\x.many=x.many));grind
def TX:Kn:=aJ (ae (kT (.nm .spec)) au) aw fun (x,_) _=>⟨[],[.agg (cellsOf (.nm .spec) ({ x with many:=true }))],none,false⟩
theorem abV:CK 274 TX:=ah fun (x,_) _ _=>by
 refine av dg [] Tryz.func274 (?_:lW x (x.num=x.num/\x.wire=x.wire/\x.since=x.since/\x.need=x.need/\true=true));grind
def KY:Kn:=aJ (ae (kT (.nm .field)) (ae (kT (.nm .spec)) (ae (kC cI) au))) aw fun (x,s,n,_) _=>⟨[],[.c (.bool (.atom ((J_ x s n))))],none,false⟩
theorem VD:CK 331 KY:=ah fun (x,s,n,_) _ _=>by
 refine av dg [] Tryz.func331 (?_:I64 x.num->I64 x.wire->x.n.n<(18446744073709551616:Nat)->x.b.length*(1:Nat)<=(140737488355328:Nat)->lW s (I64 n->(¬x.wire=s.wire\/(1:Int)<n/\s.many=false->false=J_ x s n)/\(x.wire=s.wire/\(n<=(1:Int)\/s.many=true)->(x.wire=(0:Int)->(!decide ((↑x.n.n:Int)=(↑(0:Nat):Int)))=J_ x s n)/\(¬x.wire=(0:Int)->decide ((0:Int)<(↑x.b.length:Int))=J_ x s n))));grind [J_]
def HQ:Kn:=aJ (ae (kC cI) (ae (kC cI) au)) aw fun (num,wire,_) _=>⟨[],[.c (.own 0),.c (.int ((zg num wire)))],some ([.row 5 .u8 ((mH num wire))]),true⟩
theorem Yd:CK 257 HQ:=ah fun (num,wire,_) _ _=>by
 refine dr dg [] Tryz.func257 (?_:(fun q0=>I64 num->I64 wire->((num<1\/1000<num)\/¬wire=0/\¬wire=2->1=zg num wire/\mH num wire=[])/\((1<=num/\num<=1000)/\(wire=0\/wire=2)->I64 (8*num)/\I64 q0/\0<=q0/\0=zg num wire/\cJ q0.toNat=mH num wire)) (8*num+wire));(repeat' with_reducible first|apply bd|refine bf ?_|intro)
 all_goals (first | exact bq | exact (QO aK) | exact (ND aK) | exact (CN aK).symm | exact (CN aK) | exact (Ng aK))
def rS:Kn:=aJ (ae (kT (.nm .command)) (ae (kC cI) au)) aw fun (c,v,_) _=>⟨[],[.c (.bool (.atom ((fY c v))))],none,false⟩
theorem Cs:CK 160 rS:=ah fun (c,v,_) _ _=>by
 refine av dg (FI c v) Tryz.func160 (?_:(fun (q5:Prop)=>(fun (q4:Nat)=>(fun (q3:Int)=>(fun (q2:Int)=>(fun (q1:List Int)=>(fun (q0:List (den Sh.int))=>bI c (I64 v->I64 q3->((c.kind<1\/99<c.kind)\/¬q3=q2/\q3<=v->q5)/\((1<=c.kind/\c.kind<=99)/\(q3=q2\/v<q3)->∃ (s0:Nat),(v=v/\c.client=c.client/\c.seq=c.seq/\c.set=c.set/\c.id=c.id/\c.n=c.n/\q2=(↑s0:Int)/\aT c c)/\(s0<=q4/\((List.take s0 q1).all fun (n:Int)=>bX n q2 1048576)=true)/\∀ (s:Nat),(fun (q6:den Sh.int)=>s<=q4/\((List.take s q1).all fun (n:Int)=>bX n q2 1048576)=true->((↑s:Int)<5->q2<=(↑s:Int)/\(↑s:Int)<(↑q4:Int)/\(I64 q6->(q6<q2\/1048576<q6->q5)/\(q2<=q6/\q6<=1048576->I64 ((↑s:Int)+1)/\∃ (s':Nat),(v=v/\c.client=c.client/\c.seq=c.seq/\c.set=c.set/\c.id=c.id/\c.n=c.n/\(↑s:Int)+1=(↑s':Int)/\aT c c)/\(s' <= q4/\((List.take s' q1).all fun (n:Int)=>bX n q2 1048576)=true)/\q4 - s' < q4 - s)))/\(5<=(↑s:Int)->(q2<(↑c.chunks.length:Int)/\cr c.chunks=false->q5)/\((↑c.chunks.length:Int)<=q2\/cr c.chunks=true->(v<3->decide (c.text=Str.mk [])=fY c v)/\(3<=v->decide ((↑c.text.b.length:Int)<=16)=fY c v)))) (q0.getD s (ao Sh.int))))) [c.client,c.seq,c.set,c.id,c.n]) [c.client,c.seq,c.set,c.id,c.n]) 0) (ck c.kind)) 5) (false=fY c v));iterate 3 ((all_goals (repeat' with_reducible first|apply bd|refine bf ?_|intro)); (all_goals try (first | exact bq | exact rfl | exact (Mj aK) | exact (aa3 (ab5 aK) ab) | exact (af6 ab (ab5 aK) ab ab) | exact (OZ (And.intro ab ab)) | exact (Xe aK (acQ ab aK) (ZP (by assumption)) aK) | exact (VB aK (acQ ab aK) (ZP (by assumption)) aK))); all_goals try first | refine ⟨‹Nat› + 1,?_⟩ | refine ⟨0,?_⟩)
def aaX:bD:=(aL 160 rS (aL 257 HQ (aL 331 KY (aL 274 TX (aL 273 Uz (aL 272 Uk (aL 271 Tv (aL 332 xK (aL 146 yM (aL 255 At (aL 256 AL (aL 210 Dy Ua))))))))))))
theorem mo:ay Tryz.prog (al tyT) aaX:=(ag Cs (ag Yd (ag VD (ag abV (ag abP (ag abG (ag acI (ag Lc (ag On (ag Na (ag Ir (ag QT dg))))))))))))
theorem nA (h:m<9223372036854775808):eE m=(m:Int):=by rw [eE,if_pos h]
theorem CM:(b.drop k).take (b.length - k)=b.drop k:=List.take_of_length_le (by rw [List.length_drop]; exact ac5 _)
theorem uk1 (hk:(k:Int)<(b.length:Int)) (he:(aj (b.drop k)).2.2=0) (hn:(((aj (b.drop k)).1:Nat):Int)<=((64:Nat):Int)):∃ x,b[k]? = some x/\aj (b.drop k)=(x.toNat,1,0)/\x.toNat<=64:=by
 have h:=tk1 (b:=b) (k:=k) (by omega) (by rw [CM]; exact he) (by rw [CM]; omega);rw [CM] at h; exact h
theorem ukS (hk:(k:Int)<(b.length:Int)) (he:(aj (b.drop k)).2.2=0) (hn:(((aj (b.drop k)).1:Nat):Int)<=((64:Nat):Int)):(k:Int)+((aj (b.drop k)).2.1:Nat)=((k+1:Nat):Int)/\cu (b.take k)++[eE (aj (b.drop k)).1]=cu (b.take (k+1)):=by
 obtain ⟨x,hx,hp,h64⟩:=uk1 hk he hn;have h:=RQ hx hp;rw [hp] at h ⊢;exact ⟨rfl,by rw [<- h,nA (by show x.toNat<_; omega)]⟩
theorem ukR (hk:(k:Int)<(b.length:Int)) (h:(¬ (aj (b.drop k)).2.2=0)\/((64:Nat):Int)<(((aj (b.drop k)).1:Nat):Int)):cr (cu b)=false:=Y_ (k:=k) (by omega) (by rw [CM]; exact h)
theorem Wb (h:k<=b.length) (hb:b.length<=100000):((cu (b.take k)).length+1)*8<=140737488355328:=by
 unfold cu; rw [List.length_map,List.length_take]; omega
def ZR (b:List UInt8):List (Nat × LI):=[(3,{ σ:=Nat,F:=fun k=>([(0,one (.fz .u8 (b))),(4,one (.own 0)),(5,one (.int k))],[.row 3 .int ((cu (b.take k)))]),J:=fun k=>k<=b.length,μ:=fun k=>b.length - k })]
def Ll:Kn:=aJ (ae (kC (cL .u8)) au) aw fun (b,_) _=>⟨[],[.c (.int (((aO b).num))),.c (.int (((aO b).wire))),.c (.int ((((aO b).k:Nat)))),.c (.int (((aO b).e)))],none,false⟩
theorem Ym:CK 355 Ll:=ah fun (b,_) _ _=>by
 refine av mo [] Tryz.func355 (?_:(fun (q6:Int)=>(fun (q5:Int)=>(fun (q4:TagR)=>(fun (q3:Int)=>(fun (q2:Prop)=>(fun (q1:Nat)=>(fun (q7:Prop)=>(fun (q0:Int)=>(fun (q8:Prop)=>b.length*(1:Nat)<=(140737488355328:Nat)->(aj b).fst<(18446744073709551616:Nat)->I64 (↑(aj b).snd.fst:Int)->I64 q5->(¬q5=q3->q3=q4.num/\q3=q4.wire/\q3=(↑q4.k:Int)/\q5=q4.e)/\(q5=q3->q2/\(q6<=q0->q2)/\(q8->q2/\(¬q7->q2))/\((q0<q6\/(↑(1000:Nat):Int)<q0)\/¬q7/\¬(↑q1:Int)=(↑(2:Nat):Int)->q3=q4.num/\q3=q4.wire/\q3=(↑q4.k:Int)/\(6:Int)=q4.e)/\(q8/\(q7\/(↑q1:Int)=(↑(2:Nat):Int))->q2/\q2/\eE ((aj b).fst / (8:Nat))=q4.num/\eE q1=q4.wire/\(↑(aj b).snd.fst:Int)=(↑q4.k:Int)/\q3=q4.e))) (q6<=q0/\q0<=(↑(1000:Nat):Int))) (↑((aj b).fst / (8:Nat)):Int)) ((↑q1:Int)=(↑(0:Nat):Int))) ((aj b).fst % (8:Nat))) ((0:Nat)<(8:Nat))) (0:Int)) (aO b)) (aj b).snd.snd) (↑(1:Nat):Int));(repeat' with_reducible first|apply bd|refine bf ?_|intro)
 all_goals (first | exact bq | (rw [IU ab] <;> rfl) | (rw [JP ab aK] <;> rfl) | (rw [MS ab aK] <;> first | rfl | exact nA aK) | (have:=(mP (l:=b) (k:=0) (n:=0) aK).1; change (aj b).2.1<=11 at this; omega))
def JF:Kn:=aJ (ae (kT (.nm .field)) au) aw fun (f,_) _=>⟨[f.b.length<=16384],[.c (.own 0)],some ([.row 5 .u8 ((cj f))]),true⟩
theorem Wp:CK 222 JF:=ah fun (f,_) _ hp=>by
 have h0:=bW hp;refine dr mo [] Tryz.func222 (?_:(fun (q1:Nat)=>(fun (q0:List UInt8)=>I64 f.num->I64 f.wire->f.n.n<18446744073709551616->q1*1<=140737488355328->I64 (zg f.num f.wire)->(f.wire=0->(q0.length+(cJ f.n.n).length)*1<=140737488355328/\q0++cJ f.n.n=cj f)/\(¬f.wire=0->0<=(↑q1:Int)/\(q0.length+(cJ q1).length)*1<=140737488355328/\((q0++cJ q1).length+q1)*1<=140737488355328/\q0++cJ q1++f.b=cj f)) (mH f.num f.wire)) f.b.length);(repeat' with_reducible first|apply bd|refine bf ?_|intro)
 all_goals (first | exact bq | exact (Sf ab) | exact (Qn ab) | (have:=sX f.num f.wire; have:=cK (n:=f.n.n) ab; omega) | (have:=sX f.num f.wire; have:=cK (n:=f.b.length) aK; (try simp only [List.length_append]); omega))
def IC:Kn:=aJ (ae (kC cI) au) aw fun (q,_) _=>⟨[q=1],[.c (.fz (.nm .spec) ((bG)))],none,false⟩
theorem XF:CK 254 IC:=ah fun (q,_) _ hp=>by
 have h0:=bW hp;refine av mo [] Tryz.func254 (?_:(fun q7=>(fun q6=>(fun q5=>(fun q4=>(fun q3=>(fun q8=>(fun q2=>(fun q9=>(fun q1=>(fun q10=>(fun q0=>(fun q14=>(fun q13=>(fun q12=>(fun q11=>I64 q->q11->q10->q11->q11->q10->q11->q9->q10->q11->q8->q10->q11->I64 q4->q10->q11->I64 q5->q10->q11->I64 q6->q10->q11->I64 q7->q9->q11->I64 8->q9->q8->q11->q10->q11->q11->q10->q11->q9->q10->q11->q9->q10->q11->q8->q9->q11->q8->q9->q11->I64 q4->q10->q9->I64 q5->q9->q8->q11->q10->q11->q11->q10->q11->q9->q10->q11->q9->q10->q11->q11->q10->q11->q11->q10->q11->q9->q10->q11->q8->q10->q11->I64 q4->q10->q11->q11->q10->q11->q11->q10->q11->q9->q10->q11->q9->q10->q11->q8->q10->q11->I64 q4->q9->q11->I64 q4->q9->q11->I64 q5->q9->q11->I64 q5->q9->q11->I64 q6->q9->q11->I64 q6->q9->q11->I64 q7->q10->q8->q11->q10->q11->q11->q10->q11->q9->q10->q11->q9->q10->q11->q8->q10->q11->q8->q10->q11->I64 q4->q10->q11->I64 q4->q10->q11->I64 q5->q10->q11->I64 q6->q10->q11->I64 q7->q10->q11->I64 8->q10->q11->I64 9->q10->q11->I64 10->q9->q11->I64 10->q9->q11->q11->q10->q11->q11->q10->q11->q9->q9->q11->(if q=q7 then some [q12,Spec.mk q2 q2 q0 false false] else if q=q6 then some [q12,q13,Spec.mk q3 q1 q0 true false,Spec.mk q4 q1 q0 true false,Spec.mk q5 q1 q0 false false,Spec.mk q6 q1 q0 false false,Spec.mk q7 q1 q0 false false,Spec.mk 8 q1 q0 false false,Spec.mk 9 q1 q0 false false,Spec.mk 10 q2 q0 false true] else if q=q5 then some [q12,q13,q14,Spec.mk q4 q2 q0 false true,Spec.mk q5 q2 q0 false true,Spec.mk q6 q2 q0 false true,Spec.mk q7 q1 q3 false false] else if q=q4 then some [q12,Spec.mk q2 q1 q0 false false,q14,Spec.mk q4 q1 q0 false false] else if q=q3 then some [q12,q13] else if q=q2 then some [q12,q13,Spec.mk q3 q2 q0 true false,Spec.mk q4 q1 q2 false false,Spec.mk q5 q2 q3 false false] else if q=q0 then some [q12,Spec.mk q2 q1 q0 false false,q14,Spec.mk q4 q1 q0 false false,Spec.mk q5 q1 q0 false false,Spec.mk q6 q1 q0 false false,Spec.mk q7 q2 q0 false false,Spec.mk 8 q2 q3 false false] else none).getD (ao (Sh.nm NT.spec).lst)=bG) (I64 q0)) (Spec.mk q0 q1 q0 true false)) (Spec.mk q2 q1 q0 true false)) (Spec.mk q3 q1 q0 false false)) (1:Int)) (I64 q1)) (0:Int)) (I64 q2)) (2:Int)) (I64 q3)) (3:Int)) (4:Int)) (5:Int)) (6:Int)) (7:Int));subst h0; (repeat' with_reducible first|apply bd|refine bf ?_|intro);all_goals (first | exact bq | exact rfl)
def LH:Kn:=aJ (ae (kC (cL .u8)) au) aw fun (b,_) _=>⟨[b.length<=100000],[.c (.fz .int ((ky b))),.c (.int ((pj b)))],none,false⟩
theorem WL:CK 333 LH:=ah fun (b,_) _ hp=>by
 have h0:=bW hp;refine av mo (ZR b) Tryz.func333 (?_:(fun (q0:Prop)=>b.length*(1:Nat)<=(140737488355328:Nat)->∃ (s0:Nat),(b=b/\(0:Int)=(↑s0:Int)/\cu (List.take s0 b)=[])/\s0<=b.length/\∀ (s:Nat),(fun (q2:List Int)=>(fun (q1:Nat × Nat × Int)=>s<=b.length->((↑s:Int)<(↑b.length:Int)->(0:Int)<=(↑s:Int)/\(↑s:Int)<=(↑b.length:Int)/\(q1.fst<(18446744073709551616:Nat)->I64 (↑q1.snd.fst:Int)->I64 q1.snd.snd->(¬q1.snd.snd=(0:Int)\/(↑(64:Nat):Int)<(↑q1.fst:Int)->q0)/\(q1.snd.snd=(0:Int)/\(↑q1.fst:Int)<=(↑(64:Nat):Int)->(q2.length+[eE q1.fst].length)*(8:Nat)<=(140737488355328:Nat)/\I64 ((↑s:Int)+(↑q1.snd.fst:Int))/\∃ (s':Nat),(b=b/\(↑s:Int)+(↑q1.snd.fst:Int)=(↑s':Int)/\q2++[eE q1.fst]=cu (List.take s' b))/\s' <= b.length/\b.length - s' < b.length - s)))/\((↑b.length:Int)<=(↑s:Int)->(cr q2=false->q0)/\(cr q2=true->q2=ky b/\(0:Int)=pj b))) (aj (List.drop s b))) (cu (List.take s b))) (ky b=[]/\(6:Int)=pj b));iterate 3 ((all_goals (repeat' with_reducible first|apply bd|refine bf ?_|intro)); (all_goals try (first | exact bq | exact rfl | exact (vL (ukR ab (by assumption))) | exact (Nq (ukR ab (by assumption))) | exact (vL (ukR ab (by assumption))).symm | exact (vL (BJ (k:=‹Nat›) aK ab)).symm | exact (vL (BJ (k:=‹Nat›) aK ab)) | exact (Nq (BJ (k:=‹Nat›) aK ab)) | exact (Tg aK ab) | exact (SK (k:=‹Nat›) aK ab) | exact (ukS ab ab ab).1 | exact (ukS ab ab ab).2 | exact (Wb aK aK) | (have:=(ukS ab ab ab).1; refine bK ?_ ?_ <;> omega))); all_goals try first | refine ⟨‹Nat› + 1,?_⟩ | refine ⟨0,?_⟩)
def ZG:bD:=(aL 333 LH (aL 254 IC (aL 222 JF (aL 355 Ll aaX))))
theorem jC:ay Tryz.prog (al tyT) ZG:=(ag WL (ag XF (ag Wp (ag Ym mo))))
theorem aal (hk:k<=l.length) (h0:0<(k:Int)):l[k - 1]? = some (l.getD ((k:Int) - 1).toNat (ao (.nm .field))):=by
 rw [show ((k:Int) - 1).toNat=k - 1 by omega,List.getD_eq_getElem?_getD,List.getElem?_eq_getElem (by omega)]; rfl
variable {x:Field}
theorem UH (h:(k:Int)<=0\/fP (l.getD ((k:Int) - 1).toNat (ao (.nm .field))) x=true) (hk:k<=l.length):xc l k x:=by
 by_cases h0:0<(k:Int)
 ·exact .inr ⟨_,aal hk h0,h.resolve_left aK⟩
 exact .inl aK
theorem abq {v:Int}:(((bG.take k).filter (fun s=>decide (s.since<=v))).length+1)*32<=140737488355328:=by
 have:=MZ (v:=v) (k:=k); omega
theorem abf {v:Int} (h1:1<=v) (h3:v<=3) (hk:8<=(k:Int)):(bG.take k).filter (fun s=>decide (s.since<=v))=aP v:=Mc (by omega) (by show 8<=k; omega)
theorem ag3 {v:Int}:dG (l.take 0) v=[]:=rfl
theorem aep {v:Int}:ek (l.take 0) v=[]:=rfl
theorem agB {v:Int} (hx:l[k]? = some x) (h:x.num<=v):dG (l.take k) v++[x]=dG (l.take (k+1)) v:=Ql hx h
theorem agC {v:Int} (hx:l[k]? = some x) (h:¬ x.num<=v):dG (l.take k) v=dG (l.take (k+1)) v:=YV hx h
theorem afT {v:Int} (hx:l[k]? = some x) (h:¬ x.num<=v):ek (l.take k) v++[x]=ek (l.take (k+1)) v:=SL hx h
theorem ad9 {v:Int} (hx:l[k]? = some x) (h:x.num<=v):ek (l.take k) v=ek (l.take (k+1)) v:=Yl hx h
theorem aek {v:Int} (hk:l.length<=k):dG (l.take k) v=dG l v:=Fx hk
theorem afz {v:Int} (hk:l.length<=k):ek (l.take k) v=ek l v:=HU hk
attribute [local irreducible] dG ek
def Wv (l:List Field):List (Nat × LI):=[(3,{ σ:=Nat,F:=fun k=>([(0,one (.fz (.nm .field) (l))),(3,one (.int (gI (l.take k):Nat))),(6,one (.fz (.nm .field) (l))),(7,one (.int (l).length)),(8,one (.int k))],[]),J:=fun k=>k<=l.length/\dT none l=dT (eO l k) (l.drop k)/\gI (l.take k)<=k*16404,μ:=fun k=>(l).length - k })]
def WE (q:Int) (v:Int):List (Nat × LI):=[(5,{ σ:=Nat,F:=fun k=>([(1,one (.int (v))),(5,one (.own 0)),(15,one (.fz (.nm .spec) bG)),(16,one (.int 8)),(17,one (.int k))],[.row 255 (.nm .spec) (((bG.take k).filter (fun (s:Spec)=>decide (s.since<=v))))]),J:=fun k=>k<=8,μ:=fun k=>8 - k })]
def Sb (l:List Field) (v:Int):List (Nat × LI):=[(2,{ σ:=Nat,F:=fun k=>([(1,one (.int (v))),(4,one (.own 0)),(5,one (.own 1)),(8,one (.fz (.nm .field) (l))),(9,one (.int (l).length)),(10,one (.int k))],[.row 219 (.nm .field) ((dG (l.take k) v)),.row 219 (.nm .field) ((ek (l.take k) v))]),J:=fun k=>k<=l.length,μ:=fun k=>(l).length - k })]
def Xf (l:List Field):List (Nat × LI):=[(3,{ σ:=Nat,F:=fun k=>([(2,one (.ptr 0 0)),(3,one (.ptr 1 0)),(6,one (.fz (.nm .field) (l))),(7,one (.int (l).length)),(8,one (.int k))],[.box 35 (cellsOf (.nm .command) (cA)),.box 35 (cellsOf (.nm .command) ((cN (l.take k))))]),J:=fun k=>k<=l.length,μ:=fun k=>(l).length - k })]
def Dr:Kn:=aJ (ae (kC (aW 0 0)) (ae (kC (aW 1 0)) au)) (aB (dx 50 (ax (cL .u8) du)) (aB (dx 3 (ax cI du)) aw)) fun _ ((b,_),(s,_),_)=>⟨[0<=s,s<=(b.length:Int),b.length*1<=140737488355328],[.c (.u64 ((U64.mk (aj (b.drop s.toNat)).1)).n),.c (.int (((aj (b.drop s.toNat)).2.2)))],some ([.box 50 ([.fz .u8 ((b))]),.box 3 ([.int ((s+((aj (b.drop s.toNat)).2.1:Nat)))])]),false⟩
theorem OW:CK 356 Dr:=ah fun _ ((b,_),(s,_),_) hp=>by
 have h0:=bW hp;have h1:=bW (eH hp);have h2:=bW (eH (eH hp));refine bw jC [] Tryz.func356 (?_:(fun q0=>0<=s/\s<=(↑b.length:Int)/\(q0.fst<18446744073709551616->I64 (↑q0.snd.fst:Int)->I64 q0.snd.snd->I64 (s+(↑q0.snd.fst:Int))/\q0.fst=(aj (List.drop s.toNat b)).fst/\q0.snd.snd=(aj (List.drop s.toNat b)).snd.snd/\b=b/\s+(↑q0.snd.fst:Int)=s+(↑(aj (List.drop s.toNat b)).snd.fst:Int))) (aj (List.drop s.toNat b)));(repeat' with_reducible first|apply bd|refine bf ?_|intro)
 all_goals (first | exact bq | (have:=(my b s.toNat).1; refine bK ?_ ?_ <;> omega))
def zh:Kn:=aJ (ae (kC (cL .u8)) au) aw fun (b,_) _=>⟨[],[.agg (cellsOf (.nm .field) (gU b))],none,false⟩
theorem Ms:CK 330 zh:=ah fun (b,_) _ _=>by
 refine av jC [] Tryz.func330 (?_:(fun q1=>(fun q2=>(fun q0=>b.length*1<=140737488355328->I64 q1.num->I64 q1.wire->I64 (↑q1.k:Int)->I64 q1.e->0<=(↑q1.k:Int)/\(↑q1.k:Int)<=(↑b.length:Int)/\(q2.fst<18446744073709551616->I64 (↑q2.snd.fst:Int)->I64 q2.snd.snd->(q1.wire=0->q1.num=(gU b).num/\q1.wire=(gU b).wire/\q2.fst=(gU b).n.n/\(gU b).b=[])/\(¬q1.wire=0->I64 q0/\0<=q0/\q0<=(↑b.length:Int)/\(List.drop q0.toNat b).length*1<=140737488355328/\q1.num=(gU b).num/\q1.wire=(gU b).wire/\0=(gU b).n.n/\List.drop q0.toNat b=(gU b).b))) ((↑q1.k:Int)+(↑q2.snd.fst:Int))) (aj (List.drop q1.k b))) (aO b));(repeat' with_reducible first|apply bd|refine bf ?_|intro)
 all_goals (first | exact bq | exact (congrArg Field.num (Ds ab)) | exact (congrArg Field.wire (Ds ab)) | exact (congrArg (fun f=>f.n.n) (Ds ab)) | exact (congrArg Field.b (Ds ab)).symm | exact (congrArg Field.num (Dd ab)) | exact (congrArg Field.wire (Dd ab)) | exact (congrArg (fun f=>f.n.n) (Dd ab)) | exact (congrArg Field.b (Dd ab)) | (have h1:=pX b; have h2:=my b (aO b).k; first | omega | (refine bK ?_ ?_ <;> omega) | (rw [List.length_drop]; omega)))
def Eo:Kn:=aJ (ae (kC (cL (.nm .field))) au) aw fun (l,_) _=>⟨[],[.c (.int ((cE l)))],none,false⟩
theorem Rg:CK 221 Eo:=ah fun (l,_) _ _=>by
 refine av jC (Wv l) Tryz.func221 (?_:(fun (q3:den (Sh.nm NT.field))=>(fun (q2:Nat)=>(fun (q1:Int)=>(fun (q0:Int)=>l.length*48<=140737488355328->∃ (s0:Nat),(l=l/\q1=(↑(gI (List.take s0 l)):Int)/\l=l/\(↑l.length:Int)=(↑q2:Int)/\q1=(↑s0:Int))/\(s0<=q2/\dT none l=dT (eO l s0) (List.drop s0 l)/\gI (List.take s0 l)<=s0*16404)/\∀ (s:Nat),(fun (q6:Int)=>(fun (q5:Int)=>(fun (q4:den (Sh.nm NT.field))=>s<=q2/\dT none l=dT (eO l s) (List.drop s l)/\gI (List.take s l)<=s*16404->(q5<(↑q2:Int)->q1<=q5/\q5<(↑l.length:Int)/\∀ (x:Field),l[s]? = some x->I64 x.num->I64 x.wire->x.n.n<18446744073709551616->x.b.length*1<=140737488355328->(dV x=false->q0=cE l)/\(dV x=true->(q1<q5->I64 (q5 - q0))/\(q1<q5->q1<=q5 - q0/\q5 - q0<(↑l.length:Int))/\((q1<q5->I64 q4.num/\I64 q4.wire/\q4.n.n<18446744073709551616/\q4.b.length*1<=140737488355328)->(q1<q5/\fP q4 x=false->5=cE l)/\(q5<=q1\/fP q4 x=true->(16384<(↑x.b.length:Int)->4=cE l)/\((↑x.b.length:Int)<=16384->x.b.length<=16384/\I64 (q6+(↑(cj x).length:Int))/\I64 (q5+q0)/\∃ (s':Nat),(l=l/\q6+(↑(cj x).length:Int)=(↑(gI (List.take s' l)):Int)/\l=l/\(↑q2:Int)=(↑q2:Int)/\q5+q0=(↑s':Int))/\(s' <= q2/\dT none l=dT (eO l s') (List.drop s' l)/\gI (List.take s' l)<=s' * 16404)/\q2 - s' < q2 - s)))))/\((↑q2:Int)<=q5->(16384<q6->4=cE l)/\(q6<=16384->q1=cE l))) (l.getD (q5 - q0).toNat q3)) (↑s:Int)) (↑(gI (List.take s l)):Int)) 1) 0) l.length) (ao (Sh.nm NT.field)));iterate 3 ((all_goals (repeat' with_reducible first|apply bd|refine bf ?_|intro)); (all_goals try (first | exact bq | exact rfl | exact (ac5 0) | exact (Vr ab ab ab) | exact (Wy ab ab ab aK (aal aK ab) ab) | exact (WG ab ab ab (UH (by assumption) aK) ab) | exact (Kr ab ab ab (UH (by assumption) aK) aK) | exact (Jk ab aK ab) | exact (KO ab aK aK) | (have h1:=si (f:=‹Field›) aK ab; have h2:=IQ (show l[_]? = some ‹Field› by with_reducible assumption); first | omega | (refine bK ?_ ?_ <;> omega)))); all_goals try first | refine ⟨‹Nat› + 1,?_⟩ | refine ⟨0,?_⟩)
def EA:Kn:=aJ (ae (kC cI) (ae (kC cI) au)) aw fun (q,v,_) _=>⟨[q=1],[.c (.fz (.nm .spec) ((aP v)))],none,false⟩
theorem Rn:CK 220 EA:=ah fun (q,v,_) _ hp=>by
 have h0:=bW hp;refine av jC (WE q v) Tryz.func220 (?_:(fun (q2:Int)=>(fun (q1:Int)=>(fun (q0:Nat)=>I64 q->I64 v->(v<q1\/3<v->aP v=[])/\(q1<=v/\v<=3->q=q1/\(bG.length*32<=140737488355328->∃ (s0:Nat),(v=v/\bG=bG/\(↑bG.length:Int)=q2/\0=(↑s0:Int)/\List.filter (fun (s:Spec)=>decide (s.since<=v)) (List.take s0 bG)=[])/\s0<=q0/\∀ (s:Nat),(fun (q4:Int)=>(fun (q3:List (den (Sh.nm NT.spec)))=>s<=q0->((↑s:Int)<q2->0<=(↑s:Int)/\(↑s:Int)<(↑bG.length:Int)/\∀ (x:Spec),bG[s]? = some x->lW x ((x.since<=v->(q3.length+[x].length)*32<=140737488355328/\I64 q4/\∃ (s':Nat),(v=v/\bG=bG/\q2=q2/\q4=(↑s':Int)/\q3++[x]=List.filter (fun (s:Spec)=>decide (s.since<=v)) (List.take s' bG))/\s' <= q0/\q0 - s' < q0 - s)/\(v<x.since->I64 q4/\∃ (s':Nat),(v=v/\bG=bG/\q2=q2/\q4=(↑s':Int)/\q3=List.filter (fun (s:Spec)=>decide (s.since<=v)) (List.take s' bG))/\s' <= q0/\q0 - s' < q0 - s)))/\(q2<=(↑s:Int)->q3=aP v)) (List.filter (fun (s:Spec)=>decide (s.since<=v)) (List.take s bG))) ((↑s:Int)+q1)))) 8) 1) 8);iterate 3 ((all_goals (repeat' with_reducible first|apply bd|refine bf ?_|intro)); (all_goals try (first | exact bq | exact rfl | exact (Hc ab).symm | exact (No ab ab) | exact (QU ab aK) | exact abq | exact (abf aK aK aK) | (have hl:bG.length=8:=rfl; omega))); all_goals try first | refine ⟨‹Nat› + 1,?_⟩ | refine ⟨0,?_⟩)
def yZ:Kn:=aJ (ae (kC (cL (.nm .field))) (ae (kC cI) au)) aw fun (l,v,_) _=>⟨[],[.c (.fz (.nm .field) ((dG l v))),.c (.fz (.nm .field) ((ek l v)))],none,false⟩
theorem JS:CK 288 yZ:=ah fun (l,v,_) _ _=>by
 refine av jC (Sb l v) Tryz.func288 (?_:(fun (q0:Nat)=>(fun (q1:Int)=>l.length*48<=140737488355328->I64 v->∃ (s0:Nat),(v=v/\l=l/\(↑l.length:Int)=q1/\0=(↑s0:Int)/\dG (List.take s0 l) v=[]/\ek (List.take s0 l) v=[])/\s0<=q0/\∀ (s:Nat),(fun (q3:List Field)=>(fun (q2:Int)=>s<=q0->((↑s:Int)<q1->0<=(↑s:Int)/\(↑s:Int)<(↑l.length:Int)/\∀ (x:Field),(fun (q4:Prop)=>l[s]? = some x->I64 x.num->I64 x.wire->x.n.n<18446744073709551616->q4->q4->(x.num<=v->((dG q3 v).length+[x].length)*48<=140737488355328/\I64 q2/\∃ (s':Nat),(v=v/\l=l/\q1=q1/\q2=(↑s':Int)/\dG q3 v++[x]=dG (List.take s' l) v/\ek q3 v=ek (List.take s' l) v)/\s' <= q0/\q0 - s' < q0 - s)/\(v<x.num->((ek q3 v).length+[x].length)*48<=140737488355328/\I64 q2/\∃ (s':Nat),(v=v/\l=l/\q1=q1/\q2=(↑s':Int)/\dG q3 v=dG (List.take s' l) v/\ek q3 v++[x]=ek (List.take s' l) v)/\s' <= q0/\q0 - s' < q0 - s)) (x.b.length*1<=140737488355328))/\(q1<=(↑s:Int)->dG q3 v=dG l v/\ek q3 v=ek l v)) ((↑s:Int)+1)) (List.take s l)) (↑q0:Int)) l.length);iterate 3 ((all_goals (repeat' with_reducible first|apply bd|refine bf ?_|intro)); (all_goals try (first | exact bq | exact ag3 | exact aep | exact (agB ab ab) | exact (agC ab aK) | exact (afT ab aK) | exact (ad9 ab ab) | exact (aek aK) | exact (afz aK) | (have h1:=Pk (l.take ‹Nat›) v; have h2:=CT (l.take ‹Nat›) v; rw [List.length_take] at h1 h2; simp only [List.length_cons,List.length_nil]; omega))); all_goals try first | refine ⟨‹Nat› + 1,?_⟩ | refine ⟨0,?_⟩)
def Ep:Kn:=aJ (ae (kC (cL (.nm .field))) au) aw fun (l,_) _=>⟨[∀ f ∈ l,f.b.length<=16384],[.agg (cellsOf (.nm .command) (cN l))],none,false⟩
theorem Ss:CK 289 Ep:=ah fun (l,_) _ hp=>by
 have h0:=bW hp;refine av jC (Xf l) Tryz.func289 (?_:(fun (q3:Prop)=>(fun (q2:Int)=>(fun (q1:Int)=>(fun (q0:Nat)=>(fun (q4:Prop)=>l.length*48<=140737488355328->∃ (s0:Nat),(fun (q5:Command)=>(q3/\(↑l.length:Int)=(↑q0:Int)/\q2=(↑s0:Int)/\q2=cA.kind/\q2=cA.client/\q2=cA.seq/\q2=cA.set/\q2=cA.id/\q2=cA.n/\cA.chunks=[]/\Str.mk []=cA.text/\q2=q5.kind/\q2=q5.client/\q2=q5.seq/\q2=q5.set/\q2=q5.id/\q2=q5.n/\q5.chunks=[]/\Str.mk []=q5.text)/\s0<=q0/\∀ (s:Nat),(fun (q8:Nat)=>(fun (q7:Int)=>(fun (q9:Prop)=>(fun (q6:Command)=>(fun (q13:Str)=>(fun (q12:Int)=>(fun (q11:List Int)=>(fun (q10:Int)=>s<=q0->((↑s:Int)<(↑q0:Int)->q2<=(↑s:Int)/\(↑s:Int)<(↑l.length:Int)/\∀ (x:Field),(fun (q15:Int)=>(fun (q14:Int)=>l[s]? = some x->I64 q14->I64 x.wire->x.n.n<18446744073709551616->x.b.length*1<=140737488355328->(q14=q1->q9/\∃ (s':Nat),(q3/\q4/\q7=(↑s':Int)/\bh cA cA (aT (Command.mk q15 q10 q6.seq q6.set q6.id q6.n q11 q13) (cN (List.take s' l))))/\s' <= q0/\q0 - s' < q8)/\(¬q14=q1->(q14=2->q9/\∃ (s':Nat),(q3/\q4/\q7=(↑s':Int)/\bh cA cA (aT (Command.mk q12 q15 q6.seq q6.set q6.id q6.n q11 q13) (cN (List.take s' l))))/\s' <= q0/\q0 - s' < q8)/\(¬q14=2->(q14=3->q9/\∃ (s':Nat),(q3/\q4/\q7=(↑s':Int)/\bh cA cA (aT (Command.mk q12 q10 q15 q6.set q6.id q6.n q11 q13) (cN (List.take s' l))))/\s' <= q0/\q0 - s' < q8)/\(¬q14=3->(q14=4->q9/\∃ (s':Nat),(q3/\q4/\q7=(↑s':Int)/\bh cA cA (aT (Command.mk q12 q10 q6.seq q15 q6.id q6.n q11 q13) (cN (List.take s' l))))/\s' <= q0/\q0 - s' < q8)/\(¬q14=4->(q14=5->q9/\∃ (s':Nat),(q3/\q4/\q7=(↑s':Int)/\bh cA cA (aT (Command.mk q12 q10 q6.seq q6.set q15 q6.n q11 q13) (cN (List.take s' l))))/\s' <= q0/\q0 - s' < q8)/\(¬q14=5->(q14=6->q9/\∃ (s':Nat),(q3/\q4/\q7=(↑s':Int)/\bh cA cA (aT (Command.mk q12 q10 q6.seq q6.set q6.id q15 q11 q13) (cN (List.take s' l))))/\s' <= q0/\q0 - s' < q8)/\(¬q14=6->(q14=7->x.b.length<=100000/\((ky x.b).length*8<=140737488355328->I64 (pj x.b)->q9/\∃ (s':Nat),(q3/\q4/\q7=(↑s':Int)/\bh cA cA (aT (Command.mk q12 q10 q6.seq q6.set q6.id q6.n (ky x.b) q13) (cN (List.take s' l))))/\s' <= q0/\q0 - s' < q8))/\(¬q14=7->(q14=8->q9/\∃ (s':Nat),(q3/\q4/\q7=(↑s':Int)/\bh cA cA (aT (Command.mk q12 q10 q6.seq q6.set q6.id q6.n q11 (Str.mk x.b)) (cN (List.take s' l))))/\s' <= q0/\q0 - s' < q8)/\(¬q14=8->q9/\∃ (s':Nat),(q3/\q4/\q7=(↑s':Int)/\bh cA cA (aT q6 (cN (List.take s' l))))/\s' <= q0/\q0 - s' < q8))))))))) x.num) (eE x.n.n))/\((↑q0:Int)<=(↑s:Int)->aT q6 (cN l))) q6.client) q6.chunks) q6.kind) q6.text) (cN (List.take s l))) (I64 q7)) ((↑s:Int)+q1)) (q0 - s)) (cN (List.take s0 l))) ((↑q0:Int)=(↑q0:Int))) l.length) 1) 0) (l=l));iterate 3 ((all_goals (repeat' with_reducible first|apply bd|refine bf ?_|intro)); (all_goals try (first | exact bq | exact rfl | (have:=h0 _ (ada ab); omega) | (rw [dB ab,<- agv ab] <;> first | rfl | exact (dM ab).symm) | (rw [dB ab,<- adK ab] <;> first | rfl | exact (dM ab).symm) | (rw [dB ab,<- afc ab] <;> first | rfl | exact (dM ab).symm) | (rw [dB ab,<- afJ ab] <;> first | rfl | exact (dM ab).symm) | (rw [dB ab,<- agS ab] <;> first | rfl | exact (dM ab).symm) | (rw [dB ab,<- aev ab] <;> first | rfl | exact (dM ab).symm) | (rw [dB ab,<- ad1 ab] <;> first | rfl | exact (dM ab).symm) | (rw [dB ab,<- aeJ ab] <;> first | rfl | exact (dM ab).symm) | (rw [dB ab,<- afs aK] <;> first | rfl | exact (dM ab).symm) | (rw [List.take_of_length_le aK]))); all_goals try first | refine ⟨‹Nat› + 1,?_⟩ | refine ⟨0,?_⟩)
def abt:bD:=(aL 289 Ep (aL 288 yZ (aL 220 EA (aL 221 Eo (aL 330 zh (aL 356 Dr ZG))))))
theorem mM:ay Tryz.prog (al tyT) abt:=(ag Ss (ag JS (ag Rn (ag Rg (ag Ms (ag OW jC))))))
def Ew:Kn:=aJ (ae (kC cI) (ae (kC cI) (ae (kC (aW 0 0)) au))) (aB (dx 177 (ax (YC true) du)) aw) fun (k,n,_,_) ((_,_),_)=>⟨[0<=n],[],some ([.box 177 ([.own 1]),.row 219 (.nm .field) ((pq k n))]),false⟩
theorem RI:CK 223 Ew:=ah fun (k,n,_,_) ((_,_),_) hp=>by
 have h0:=bW hp;refine bw mM [] Tryz.func223 (?_:I64 k->I64 n->(¬n=0->0<=n/\[Field.mk k 0 (U64.mk n.toNat) []].length*48<=140737488355328/\[Field.mk k 0 (U64.mk n.toNat) []]=pq k n)/\(n=0->pq k n=[]));(repeat' with_reducible first|apply bd|refine bf ?_|intro)
 all_goals (first | exact bq | exact (zM ab) | exact (zo ab) | exact (AE ab) | exact (yt aK) | exact (zM (xs:=[]) ab) | exact (zo (xs:=[]) ab).symm | exact (AE (xs:=[]) ab) | exact (yt (xs:=[]) aK).symm | (simp only [List.length_cons,List.length_nil]; omega) | decide)
def CL:Kn:=aJ (ae (kC cI) (ae (kC cI) (ae (kC (aW 0 0)) au))) (aB (dx 177 (ax (eN 1) du)) (aB (eS 219 (.nm .field)) aw)) fun (k,n,_,_) ((_,_),xs,_)=>⟨[0<=n,xs.length<=1000],[],some ([.box 177 ([.own 1]),.row 219 (.nm .field) ((xs++pq k n))]),false⟩
theorem RU:CK 223 CL:=ah fun (k,n,_,_) ((_,_),xs,_) hp=>by
 have h0:=bW hp;have h1:=bW (eH hp);refine bw mM [] Tryz.func223 (?_:I64 k->I64 n->(¬n=0->0<=n/\(xs.length+[Field.mk k 0 (U64.mk n.toNat) []].length)*48<=140737488355328/\xs++[Field.mk k 0 (U64.mk n.toNat) []]=xs++pq k n)/\(n=0->xs=xs++pq k n));(repeat' with_reducible first|apply bd|refine bf ?_|intro)
 all_goals (first | exact bq | exact (zM ab) | exact (zo ab) | exact (AE ab) | exact (yt aK) | exact (zM (xs:=[]) ab) | exact (zo (xs:=[]) ab).symm | exact (AE (xs:=[]) ab) | exact (yt (xs:=[]) aK).symm | (simp only [List.length_cons,List.length_nil]; omega) | decide)
def DI:Kn:=aJ (ae (kC cI) (ae (kC (cL .u8)) (ae (kC (aW 0 0)) au))) (aB (dx 177 (ax (YC true) du)) aw) fun (k,b,_,_) ((_,_),_)=>⟨[],[],some ([.box 177 ([.own 1]),.row 219 (.nm .field) ((Ba k b))]),false⟩
theorem SG:CK 224 DI:=ah fun (k,b,_,_) ((_,_),_) _=>by
 refine bw mM [] Tryz.func224 (?_:I64 k->b.length*1<=140737488355328->(0<(↑b.length:Int)->[Field.mk k 2 (U64.mk 0) b].length*48<=140737488355328/\[Field.mk k 2 (U64.mk 0) b]=Ba k b)/\((↑b.length:Int)<=0->Ba k b=[]));(repeat' with_reducible first|apply bd|refine bf ?_|intro)
 all_goals (first | exact bq | exact (zM ab) | exact (zo ab) | exact (AE ab) | exact (yt aK) | exact (zM (xs:=[]) ab) | exact (zo (xs:=[]) ab).symm | exact (AE (xs:=[]) ab) | exact (yt (xs:=[]) aK).symm | (simp only [List.length_cons,List.length_nil]; omega) | decide)
def Et:Kn:=aJ (ae (kC cI) (ae (kC (cL .u8)) (ae (kC (aW 0 0)) au))) (aB (dx 177 (ax (eN 1) du)) (aB (eS 219 (.nm .field)) aw)) fun (k,b,_,_) ((_,_),xs,_)=>⟨[xs.length<=1000],[],some ([.box 177 ([.own 1]),.row 219 (.nm .field) ((xs++Ba k b))]),false⟩
theorem Rb:CK 224 Et:=ah fun (k,b,_,_) ((_,_),xs,_) hp=>by
 have h0:=bW hp;refine bw mM [] Tryz.func224 (?_:I64 k->b.length*1<=140737488355328->(0<(↑b.length:Int)->(xs.length+[Field.mk k 2 (U64.mk 0) b].length)*48<=140737488355328/\xs++[Field.mk k 2 (U64.mk 0) b]=xs++Ba k b)/\((↑b.length:Int)<=0->xs=xs++Ba k b));(repeat' with_reducible first|apply bd|refine bf ?_|intro)
 all_goals (first | exact bq | exact (zM ab) | exact (zo ab) | exact (AE ab) | exact (yt aK) | exact (zM (xs:=[]) ab) | exact (zo (xs:=[]) ab).symm | exact (AE (xs:=[]) ab) | exact (yt (xs:=[]) aK).symm | (simp only [List.length_cons,List.length_nil]; omega) | decide)
def Vj:bD:=(aL 224 Et (aL 224 DI (aL 223 CL (aL 223 Ew abt))))
theorem zy:ay Tryz.prog (al tyT) Vj:=(ag Rb (ag SG (ag RU (ag RI mM))))
def tU:Kn:=aJ (ae (kT (.nm .command)) (ae (kC cI) au)) aw fun (c,v,_) _=>⟨[0<=c.kind,0<=c.client,0<=c.seq,0<=c.set,0<=c.id,0<=c.n],[.c (.own 0)],some ([.row 219 (.nm .field) ((dE c v))]),true⟩
theorem FR:CK 163 tU:=ah fun (c,v,_) _ hp=>by
 have h0:=bW hp;have h1:=bW (eH hp);have h2:=bW (eH (eH hp));have h3:=bW (eH (eH (eH hp)));have h4:=bW (eH (eH (eH (eH hp))));have h5:=bW (eH (eH (eH (eH (eH hp)))));refine dr zy [] Tryz.func163 (?_:(fun q6=>(fun q5=>(fun q4=>(fun q3=>(fun q2=>(fun q1=>(fun q0=>bI c (I64 v->q6<=c.kind/\q6<=c.client/\(pq 1 c.kind).length<=q4/\q6<=c.seq/\q5.length<=q4/\q6<=c.set/\q1.length<=q4/\q6<=c.id/\(q1++pq 4 c.set).length<=q4/\q6<=c.n/\q0.length<=q4/\((eA c.chunks).length*1<=140737488355328->I64 (fx c.chunks)->(q0++q3).length<=q4/\(3<=v->(q0++q3++q2).length<=q4/\q0++q3++q2++Ba 8 c.text.b=dE c v)/\(v<3->q0++q3++q2=dE c v)))) (q1++pq 4 c.set++pq 5 c.id)) (q5++pq 3 c.seq)) (Ba 7 (eA c.chunks))) (pq 6 c.n)) (1000:Nat)) (pq 1 c.kind++pq 2 c.client)) (0:Int));(repeat' with_reducible first|apply bd|refine bf ?_|intro)
 all_goals (first | exact bq | (rw [dE,if_pos aK]; rfl) | (rw [dE,if_neg aK]; rfl) | (have h1:=gi 1 c.kind; have h2:=gi 2 c.client; have h3:=gi 3 c.seq; have h4:=gi 4 c.set; have h5:=gi 5 c.id; have h6:=gi 6 c.n; have h7:=Ck 7 (eA c.chunks); (try simp only [List.length_append]); omega))
def TF:bD:=(aL 163 tU Vj)
theorem nF:ay Tryz.prog (al tyT) TF:=(ag FR zy)
end Go.Proofs.YticbaadnibdbkaaGreat
