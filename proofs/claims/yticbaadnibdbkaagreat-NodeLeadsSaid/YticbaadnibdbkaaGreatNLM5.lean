/- What leads to the law, part 5. Conditions: each lemma's own. -/
import Derived.Test.YticbaadnibdbkaaGreatNLM4
set_option linter.unusedVariables false
set_option linter.unusedSimpArgs false
set_option maxHeartbeats 2000000
set_option linter.defProp false
namespace Go.Proofs.YticbaadnibdbkaaGreat
open Go.RowKit
def afX:=@List.take_succ_cons
def ac9:=@Classical.not_not
def dU (s:State) (at_:Nat) (k:Nat):Int:=(((s.snaps.drop (at_+1)).take k).filter fun x=>decide (x.set=(s.snaps.getD at_ (ao (.nm .snap))).set)).length
def lJ (s:State) (at_:Int):Bool:=if at_<0\/(s.snaps.length:Int)<=at_ then false else decide (dU s at_.toNat s.snaps.length<s.keep)
def nch (l:List Snap):Nat:=(l.flatMap Snap.chunks).length
def Bu (c:Int) (l:List Snap):Nat:=(l.flatMap Snap.chunks).count c
def bf (id:Int) (l:List Snap):List Snap:=l.filter fun x=>!decide (x.id=id)
variable {α:Type} {k:Nat}
theorem gd {l:List α} {d:α} (h:(k:Int)<l.length):l[k]? = some (l.getD k d):=by
 have hk:k<l.length:=by omega
 rw [List.getD_eq_getElem?_getD,List.getElem?_eq_getElem hk]; rfl
variable {a:Nat}
theorem XU {s:State}:0=dU s a 0:=by simp [dU]
theorem Qi {s:State}:dU s a k<=(k:Int):=by
 have h1:=List.length_filter_le (fun x:Snap=>decide (x.set=(s.snaps.getD a (ao (.nm .snap))).set)) ((s.snaps.drop (a+1)).take k);have h2:((s.snaps.drop (a+1)).take k).length<=k:=by rw [List.length_take]; omega
 unfold dU; omega
theorem PD {s:State}:0<=dU s a k:=by unfold dU; omega
theorem YR {s:State} (h:a+1+k<=s.snaps.length) (h2:s.snaps.length*64<=140737488355328):I64 (dU s a k+1):=by
 have h1:=Qi (s:=s) (a:=a) (k:=k);have h0:=PD (s:=s) (a:=a) (k:=k);constructor <;> omega
variable {x:Snap}
theorem WI {s:State} (hx:(s.snaps.drop (a+1))[k]? = some x) (h:x.set=(s.snaps.getD a (ao (.nm .snap))).set):dU s a k+1=dU s a (k+1):=by
 unfold dU;rw [ai hx,List.filter_append,List.length_append];simp [h]
theorem WZ {s:State} (hx:(s.snaps.drop (a+1))[k]? = some x) (h:¬ x.set=(s.snaps.getD a (ao (.nm .snap))).set):dU s a k=dU s a (k+1):=by
 unfold dU;rw [ai hx,List.filter_append,List.length_append];rw [show List.filter (fun x:Snap=>decide (x.set=(s.snaps.getD a (ao (.nm .snap))).set)) [x]=[] by simp only [List.filter_cons,h,decide_false,List.filter_nil]; rfl];simp
variable {a:Int}
theorem Oi {s:State} (h0:0<=a) (ha:a<s.snaps.length) (h:(s.snaps.length:Int)<=a+1+k):decide (dU s a.toNat k<s.keep)=lJ s a:=by
 unfold lJ;rw [if_neg (by omega)];have e:∀ m:Nat,(s.snaps.length:Int)<=a+1+m->dU s a.toNat m=dU s a.toNat s.snaps.length:=fun m hm=>by
  unfold dU;rw [List.take_of_length_le (by rw [List.length_drop]; omega),List.take_of_length_le (by rw [List.length_drop]; omega)]
 rw [e k h]
theorem JX {s:State} (h:a<0\/(s.snaps.length:Int)<=a):false=lJ s a:=by unfold lJ; rw [if_pos h]
variable {id:Int} {l:List Snap}
theorem aaH {y:Snap} (h:¬ x.id=id) (hx:l[k]? = some x) (hy:l[k]? = some y):bf id (l.take k)++[y]=bf id (l.take (k+1)):=by
 rw [hx] at hy; cases hy;unfold bf; rw [ai hx,List.filter_append]; simp [h]
theorem acp (hx:l[k]? = some x) (h:x.id=id):bf id (l.take k)=bf id (l.take (k+1)):=by
 unfold bf; rw [ai hx,List.filter_append]; simp [h]
theorem WD (h:(l.length:Int)<=k):bf id (l.take k)=bf id l:=by rw [List.take_of_length_le (by omega)]
theorem XX (h:(k:Int)<l.length) (hl:l.length*64<=140737488355328):((bf id (l.take k)).length+[x].length)*64<=140737488355328:=by
 have h1:=List.length_filter_le (fun x:Snap=>!decide (x.id=id)) (l.take k);rw [List.length_take] at h1;unfold bf;simp only [List.length_cons,List.length_nil];omega
def ZU (st:State) (at_:Int):List (Nat × LI):=[(5,{ σ:=Nat,F:=fun k=>([(1,one (.int (at_))),(2,one (.ptr 0 0)),(5,one (.int (dU st at_.toNat k))),(21,one (.fz (.nm .snap) (st.snaps.drop (at_+1).toNat))),(22,one (.int (st.snaps.drop (at_+1).toNat).length)),(23,one (.int k))],[.box 46 (cellsOf (.nm .state) (st))]),J:=fun k=>at_.toNat+1+k<=st.snaps.length/\0<=at_,μ:=fun k=>st.snaps.length - k })]
def Le:Kn:=aI (ae (kT (.nm .state)) (ae (kC cI) au)) aw fun (st,at_,_) _=>⟨[],[.c (.bool (.atom ((lJ st at_))))],none,false⟩
theorem Yq:CK 347 Le:=ah fun (st,at_,_) _ _=>by
 refine av CR (ZU st at_) Tryz.func347 (?_:(fun q5=>(fun q4=>(fun q3=>(fun q2=>(fun q6=>(fun q1=>(fun q9=>(fun q8=>(fun q7=>(fun q0=>(fun q11=>(fun q10=>fj st (I64 at_->(at_<q5\/q8<=at_->false=lJ st at_)/\(q3/\at_<q8->I64 (at_+q4)/\q5<=at_+q4/\at_+q4<=q8/\∃ s0,(at_=at_/\q5=dU st q2 s0/\q11=q11/\(↑q11.length:Int)=q10/\q5=(↑s0:Int)/\cV st st)/\(q6+s0<=q7/\q3)/\∀ (s:Nat),(fun q13=>(fun q12=>q6+s<=q7/\q3->((↑s:Int)<q10->q5<=(↑s:Int)/\(↑s:Int)<(↑q11.length:Int)/\∀ (x:Snap),q11[s]? = some x->eR x (q3/\at_<q8/\eR q9 ((x.set=q9.set->I64 (q13+q4)/\I64 q12/\∃ s',(at_=at_/\q13+q4=dU st q2 s' /\ q11=q11/\q10=q10/\q12=(↑s':Int)/\cV st st)/\(q6+s' <= q7/\q3)/\q7 - s' < q7 - s)/\(¬x.set=q9.set->I64 q12/\∃ s',(at_=at_/\q13=dU st q2 s' /\ q11=q11/\q10=q10/\q12=(↑s':Int)/\cV st st)/\(q6+s' <= q7/\q3)/\q7 - s' < q7 - s))))/\(q10<=(↑s:Int)->decide (q13<st.keep)=lJ st at_)) ((↑s:Int)+q4)) (dU st q2 s)))) (↑(List.drop q0 q1).length:Int)) (List.drop q0 q1)) (at_+q4).toNat) q1.length) (↑q1.length:Int)) (q1.getD q2 (ao (Sh.nm NT.snap)))) st.snaps) (q2+1)) at_.toNat) (q5<=at_)) (1:Int)) (0:Int));iterate 3 ((all_goals (repeat' with_reducible first|apply bd|refine ba ?_|intro)); (all_goals try (first | exact bq | exact XU | exact (JX (by assumption)) | exact (YR aJ aJ) | exact (Oi aJ aJ (by rw [List.length_drop] at *; omega)) | exact (WI (by rw [show (at_+1).toNat=at_.toNat+1 by omega] at *; assumption) ab) | exact (by have:=‹_<((List.length (List.drop _ _):Nat):Int)›; rw [List.length_drop] at this; omega) | exact (WZ (by rw [show (at_+1).toNat=at_.toNat+1 by omega] at *; assumption) ab))); all_goals try first | refine ⟨‹Nat› + 1,?_⟩ | refine ⟨0,?_⟩)
def aaW:bE:=(aK 347 Le aai)
theorem qc:ay Tryz.prog (al tyT) aaW:=(ag Yq CR)
theorem Zf {l:List α} {d:α} (h:(k:Int)<l.length):l.set k (l.getD k d)=l:=by simp_all
def Ju (l:List Snap) (k:Nat):Nat:=((List.range k).filter fun (i:Nat)=>decide (0<Bu ((i:Int)+1) l)).length
def jV (l:List Snap):Nat:=Ju l 64
def Zm (st:State):List (Nat × LI):=[(5,{ σ:=Nat,F:=fun k=>([(1,one (.ptr 0 0)),(2,one (.ptr 1 0)),(18,one (.int st.snaps.length)),(19,one (.int k))],[.box 46 ([.int ((st.version)),.int ((st.next)),.int ((st.keep)),.int ((st.quota)),.own 2,.own 3,.own 4]),.box 46 ([.int ((0)),.int ((0)),.int ((0)),.int ((0)),.em true,.em true,.em true]),.row 137 (.nm .sess) ((st.sess)),.row 139 (.nm .opn) ((st.opens)),.row 172 (.nm .snap) ((st.snaps))]),J:=fun k=>k<=st.snaps.length,μ:=fun k=>st.snaps.length - k })]
def JP:Kn:=aI (ae (kT (.nm .state)) (ae (kC cI) au)) aw fun (st,v,_) _=>⟨[],[.c (.int ((dY st v)))],none,false⟩
theorem XA:CK 276 JP:=ah fun (st,v,_) _ _=>by
 refine av qc [] Tryz.func276 (?_:(fun q11=>(fun q10=>(fun q9=>(fun q8=>(fun q7=>(fun q6=>(fun q12=>(fun q5=>(fun q4=>(fun q16=>(fun q15=>(fun q14=>(fun q13=>(fun q3=>(fun q2=>(fun q1=>(fun q0=>(fun q18=>(fun q17=>fj st (I64 v->(bX v q6 q8=false->q6=q11)/\(bX v q6 q8=true->(v<q8->q5<=q7/\q5<=q7/\(q17->q12)/\((((q3\/q16=false)\/q13)\/q14)\/fw st v=false->6=q11)/\(q17/\fw st v=true->q4=q11))/\(q8<=v->q5<=q7/\q5<=q7/\(q18->q12)/\((((q3\/q15=false)\/q13)\/q14)\/fw st v=false->6=q11)/\(q18/\fw st v=true->q4=q11))))) (((q0/\q16=true)/\q1)/\q2)) (((q0/\q15=true)/\q1)/\q2)) ((bX st.version q6 q8=true/\bX st.next q6 q7=true)/\bX st.keep q4 q5=true)) (az Sess.client q5 q4 st.sess=true/\q10=true)) (az Opn.set q5 q4 st.opens=true/\q9=true)) ((bX st.version q6 q8=false\/bX st.next q6 q7=false)\/bX st.keep q4 q5=false)) (az Sess.client q5 q4 st.sess=false\/q10=false)) (az Opn.set q5 q4 st.opens=false\/q9=false)) (bX st.quota q4 64)) (bX st.quota q4 q4)) (0:Int)) (8:Int)) (q6<=st.next/\st.next<=q7)) (1:Int)) (1048576:Int)) (3:Int)) (st.opens.all ef)) (st.sess.all dN)) (dY st v));(repeat' with_reducible first|apply bd|refine ba ?_|intro)
 all_goals (first | exact bq | exact (HD (a:=1) (b:=1048576) ab).1 | exact (HD (a:=1) (b:=1048576) ab).2 | (simp only [dY,jR,yk,vK]; grind))
def Fc:Kn:=aI (ae (kT (.nm .command)) (ae (kC cI) au)) aw fun (c,v,_) _=>⟨[],[.c (.int ((bB c v)))],none,false⟩
theorem Qp:CK 52 Fc:=ah fun (c,v,_) _ _=>by
 refine av qc [] Tryz.func52 (?_:(fun q0=>bH c (I64 v->I64 q0->(cn v=false\/q0=0->1=bB c v)/\(cn v=true/\¬q0=0->(v<q0->10=bB c v)/\(q0<=v->(lB c=false->1=bB c v)/\(lB c=true->0=bB c v))))) (cm c.kind));rw [show cn v=bX v 1 3 from rfl];(repeat' with_reducible first|apply bd|refine ba ?_|intro)
 all_goals (first | exact bq | (simp only [bB]; grind))
def CL:Kn:=aI (ae (kT (.nm .state)) au) aw fun (st,_) _=>⟨[],[.agg ([.int ((st.version)),.int ((st.next)),.int ((st.keep)),.int ((st.quota)),.own 0,.own 1,.own 2])],some ([.row 137 (.nm .sess) ((st.sess)),.row 139 (.nm .opn) ((st.opens)),.row 172 (.nm .snap) ((st.snaps))]),true⟩
theorem SV:CK 61 CL:=ah fun (st,_) _ _=>by
 refine dj qc (Zm st) Tryz.func61 (?_:(fun (q2:List Snap)=>(fun (q1:Nat)=>(fun (q0:Prop)=>fj st (∃ (s0:Nat),((↑q2.length:Int)=(↑q1:Int)/\0=(↑s0:Int)/\st.version=st.version/\st.next=st.next/\st.keep=st.keep/\st.quota=st.quota/\q0/\q0/\q0/\q0/\st.sess=st.sess/\st.opens=st.opens/\q2=q2)/\s0<=q1/\∀ (s:Nat),(fun (q3:den (Sh.nm NT.snap))=>s<=q1->((↑s:Int)<(↑q1:Int)->0<=(↑s:Int)/\(↑s:Int)<(↑q2.length:Int)/\0<=(↑s:Int)/\(↑s:Int)<(↑q2.length:Int)/\eR q3 (q3.chunks.length*8<=140737488355328->eR q3 (I64 ((↑s:Int)+1)/\∃ (s':Nat),((↑q1:Int)=(↑q1:Int)/\(↑s:Int)+1=(↑s':Int)/\st.version=st.version/\st.next=st.next/\st.keep=st.keep/\st.quota=st.quota/\q0/\q0/\q0/\q0/\st.sess=st.sess/\st.opens=st.opens/\q2.set s q3=q2)/\s' <= q1/\q1 - s' < q1 - s)))/\((↑q1:Int)<=(↑s:Int)->cV st st)) (q2.getD s (ao (Sh.nm NT.snap))))) ((0:Int)=0)) q2.length) st.snaps);iterate 3 ((all_goals (repeat' with_reducible first|apply bd|refine ba ?_|intro)); (all_goals try (first | exact bq | exact rfl | exact (Zf aJ))); all_goals try first | refine ⟨‹Nat› + 1,?_⟩ | refine ⟨0,?_⟩)
def Va:bE:=(aK 61 CL (aK 52 Fc (aK 276 JP aaW)))
theorem qI:ay Tryz.prog (al tyT) Va:=(ag SV (ag Qp (ag XA qc)))
def Dh (l:List Snap) (id:Int) (k:Nat):List Int:=((List.range k).filter fun (i:Nat)=>decide (0<Bu ((i:Int)+1) l) && decide (Bu ((i:Int)+1) (bf id l)=0)).map fun (i:Nat)=>(i:Int)+1
def dW (xs:List Int) (l:List Int):List Int:=l.foldl (fun xs n=>if 1<=n/\n<=64 then xs.set n.toNat (xs.getD n.toNat 0+1) else xs) xs
theorem Zl (h:nch l<=1048576):nch (bf id l)<=1048576:=by
 refine Nat.le_trans ?_ h;unfold nch bf;induction l with
 | nil=>exact acY _
 | cons x l ih=>
  have hl:(l.flatMap Snap.chunks).length<=1048576:=by unfold nch at h; rw [List.flatMap_cons,List.length_append] at h; omega
  have:=ih hl;grind
def lW (l:List Snap) (id:Int):List Int:=Dh l id 64
def EP (xs l:List Int):Prop:=∀ i,0<=xs.getD i 0/\xs.getD i 0+l.length<=4611686018427387904
variable {i:Nat} {xs:List Int}
theorem NB {j:Nat} {v:Int}:(xs.set j v).getD i 0=if j=i/\j<xs.length then v else xs.getD i 0:=by grind
theorem BF:∀ (l xs:List Int) (i:Nat),xs.getD i 0<=(dW xs l).getD i 0/\(dW xs l).getD i 0<=xs.getD i 0+l.length
 | [],xs,i=>by simp [dW]
 | n :: l,xs,i=>by
  have h:=BF l (if 1<=n/\n<=64 then xs.set n.toNat (xs.getD n.toNat 0+1) else xs) i;have e:dW xs (n :: l)=dW (if 1<=n/\n<=64 then xs.set n.toNat (xs.getD n.toNat 0+1) else xs) l:=rfl;have h2:xs.getD i 0<=(if 1<=n/\n<=64 then xs.set n.toNat (xs.getD n.toNat 0+1) else xs).getD i 0/\(if 1<=n/\n<=64 then xs.set n.toNat (xs.getD n.toNat 0+1) else xs).getD i 0<=xs.getD i 0+1:=by
   split
   ·rw [NB]; split
    ·grind
    omega
   omega
  grind
variable {n:Int} {l:List Int}
theorem Ah (hx:l[k]? = some n):dW xs (l.take (k+1))=if 1<=n/\n<=64 then (dW xs (l.take k)).set n.toNat ((dW xs (l.take k)).getD n.toNat 0+1) else dW xs (l.take k):=by
 rw [ai hx,dW,List.foldl_append]; rfl
theorem acw (hx:l[k]? = some n) (h:1<=n/\n<=64):(dW xs (l.take k)).set n.toNat ((dW xs (l.take k)).getD n.toNat (ao .int)+1)=dW xs (l.take (k+1)):=by rw [Ah hx,if_pos h]; rfl
theorem acP (hx:l[k]? = some n) (h:¬ (1<=n/\n<=64)):dW xs (l.take k)=dW xs (l.take (k+1)):=by rw [Ah hx,if_neg h]
theorem aac (h:EP xs l):I64 ((dW xs (l.take k)).getD n.toNat (ao .int)+1):=by
 have h1:=BF (l.take k) xs n.toNat;have h2:=h n.toNat;rw [List.length_take] at h1;show I64 ((dW xs (l.take k)).getD n.toNat 0+1);constructor <;> omega
def ae2 (l:List Int) (xs:List Int):List (Nat × LI):=[(1,{ σ:=Nat,F:=fun k=>([(0,one (.ptr 0 0)),(6,one (.fz .int (l))),(7,one (.int (l).length)),(8,one (.int k))],[.arr 338 .int 65 ((dW xs (l.take k)))]),J:=fun k=>k<=l.length,μ:=fun k=>(l).length - k })]
def HK:Kn:=aI (ae (kT (.nm .state)) (ae (kT (.nm .command)) au)) aw fun (st,c,_) _=>⟨[],[.c (.int ((if dY st st.version=0 then bB c st.version else 1)))],none,false⟩
theorem XP:CK 260 HK:=ah fun (st,c,_) _ _=>by
 refine av qI [] Tryz.func260 (?_:(fun q1=>(fun q0=>(fun q2=>fj st (bH c (I64 q0->(¬q0=0->1=q2)/\(q0=0->I64 q1->q1=q2)))) (if q0=0 then q1 else 1)) (dY st st.version)) (bB c st.version));grind
def Tp:Kn:=aI (ae (kC (aW 0 0)) (ae (kC (cL .int)) au)) (aA (BZ 338 .int 65) aw) fun (_,l,_) (xs,_)=>⟨[EP xs l],[],some ([.arr 338 .int 65 ((dW xs l))]),false⟩
theorem aaE:CK 360 Tp:=ah fun (_,l,_) (xs,_) hp=>by
 have h0:=bV hp;refine bu qI (ae2 l xs) Tryz.func360 (?_:(fun (q1:Int)=>(fun (q0:Nat)=>(fun (q2:Int)=>l.length*(8:Nat)<=(140737488355328:Nat)->∃ (s0:Nat),(l=l/\(↑l.length:Int)=q2/\(0:Int)=(↑s0:Int)/\xs=dW xs (List.take s0 l))/\s0<=q0/\∀ (s:Nat),(fun (q4:Int)=>(fun (q3:List Int)=>s<=q0->((↑s:Int)<q2->(0:Int)<=(↑s:Int)/\(↑s:Int)<(↑l.length:Int)/\∀ (x:Int),(fun (q5:den Sh.int)=>l[s]? = some x->I64 x->(q1<=x/\x<=(64:Int)->(0:Int)<=x/\x<(↑(65:Nat):Int)/\x.toNat<(65:Nat)/\I64 (q5+q1)/\(0:Int)<=x/\x<(↑(65:Nat):Int)/\(I64 q5->x.toNat<(65:Nat)/\I64 q4/\∃ (s':Nat),(l=l/\q2=q2/\q4=(↑s':Int)/\q3.set x.toNat (q5+q1)=dW xs (List.take s' l))/\s' <= q0/\q0 - s' < q0 - s))/\(x<q1\/(64:Int)<x->I64 q4/\∃ (s':Nat),(l=l/\q2=q2/\q4=(↑s':Int)/\q3=dW xs (List.take s' l))/\s' <= q0/\q0 - s' < q0 - s)) (q3.getD x.toNat (ao Sh.int)))/\(q2<=(↑s:Int)->q3=dW xs l)) (dW xs (List.take s l))) ((↑s:Int)+q1)) (↑q0:Int)) l.length) (1:Int));iterate 3 ((all_goals (repeat' with_reducible first|apply bd|refine ba ?_|intro)); (all_goals try (first | exact bq | exact rfl | exact (acw ab (by constructor <;> omega)) | exact (acP ab aJ) | exact (by rw [List.take_of_length_le aJ]) | exact (aac ab))); all_goals try first | refine ⟨‹Nat› + 1,?_⟩ | refine ⟨0,?_⟩)
def T_:bE:=(aK 360 Tp (aK 260 HK Va))
theorem Nk:ay Tryz.prog (al tyT) T_:=(ag aaE (ag XP qI))
section
variable {B:Bool} {k:Nat}
variable {st:State} {v:Int}
end
def Uk:bE:=T_
theorem KT:ay Tryz.prog (al tyT) Uk:=Nk
def Ut:bE:=Uk
theorem kM:ay Tryz.prog (al tyT) Ut:=KT
def fg (xs:List Int) (c:Int):Bool:=decide (0<xs.getD c.toNat (ao .int))
def fk (xs ys:List Int) (c:Int):Bool:=decide (0<xs.getD c.toNat (ao .int)) && decide (ys.getD c.toNat (ao .int)=0)
def ke (p:Int->Bool) (k:Nat):List Int:=((List.range k).map fun (i:Nat)=>(i:Int)+1).filter p
theorem acs {p:Int->Bool} (h:p ((k:Int)+1)=true):ke p k++[(k:Int)+1]=ke p (k+1):=by
 unfold ke; rw [List.range_succ,List.map_append,List.filter_append]; simp [h]
theorem abC {p:Int->Bool} (h:p ((k:Int)+1)=false):ke p k=ke p (k+1):=by
 unfold ke; rw [List.range_succ,List.map_append,List.filter_append]; simp [h]
theorem ZG {p:Int->Bool} (h:k<=64) (h2:64<(k:Int)+1):ke p k=ke p 64:=by rw [show k=64 by omega]
theorem JF {p:Int->Bool} (h:k<=64):((ke p k).length+[n].length)*8<=140737488355328:=by
 have:=List.length_filter_le p ((List.range k).map fun (i:Nat)=>(i:Int)+1);rw [List.length_map,ahs] at this;unfold ke; simp only [List.length_cons,List.length_nil]; omega
def bT (l:List Snap):List Int:=l.foldl (fun t x=>dW t x.chunks) (List.replicate 65 0)
theorem rX:∀ (l xs:List Int),(dW xs l).length=xs.length
 | [],_=>rfl
 | n :: l,xs=>by
  show (dW (if 1<=n/\n<=64 then xs.set n.toNat (xs.getD n.toNat 0+1) else xs) l).length=_;rw [rX l]; split
  ·grind
  rfl
variable {l:List Snap}
theorem kx:bT (l++[x])=dW (bT l) x.chunks:=by unfold bT; rw [List.foldl_append]; rfl
theorem XL (hx:l[k]? = some x):dW (bT (l.take k)) x.chunks=bT (l.take (k+1)):=by rw [ai hx,kx]
theorem wN {p:List Snap->Prop} (h0:p []) (hs:∀ l x,p l->p (l++[x])) (l:List Snap):p l:=by
 have:∀ r:List Snap,p r.reverse:=fun r=>by
  induction r with
  | nil=>exact h0
  | cons x r ih=>rw [List.reverse_cons]; exact hs _ _ ih
 have h:=this l.reverse;grind
theorem jt (l:List Snap):(bT l).length=65:=by
 refine wN (p:=fun l=>(bT l).length=65) rfl (fun l x h=>?_) l;rw [kx,rX,h]
theorem zU:nch (l++[x])=nch l+x.chunks.length:=by unfold nch; simp
theorem Ns (l:List Snap) (i:Nat):0<=(bT l).getD i 0/\(bT l).getD i 0<=nch l:=by
 refine wN (p:=fun l=>0<=(bT l).getD i 0/\(bT l).getD i 0<=nch l) ?_ (fun l x h=>?_) l
 ·show 0<=(List.replicate 65 (0:Int)).getD i 0/\(List.replicate 65 (0:Int)).getD i 0<=_;grind
 have:=BF x.chunks (bT l) i;rw [kx,zU]; omega
theorem EJ (hx:l[k]? = some x) (h:nch l<=1048576):EP (bT (l.take k)) x.chunks:=fun i=>by
 have h1:=Ns (l.take k) i;have h2:nch (l.take (k+1))<=nch l:=by
  unfold nch; rw [<- List.take_append_drop (k+1) l,List.flatMap_append,List.length_append,List.take_append_drop]; omega
 rw [ai hx,zU] at h2;omega
theorem EY {m:List Int} {s:Sh} (h:nch l<=1048576) (hm:m.length*8<=140737488355328):EP (xm .int (bT l) 0 65) m:=fun i=>by
 rw [iG (jt l)];have h1:=Ns l i;omega
theorem Cv:∀ (l xs:List Int) (c:Int),1<=c->c<=64->xs.length=65->(dW xs l).getD c.toNat 0=xs.getD c.toNat 0+(l.count c:Nat)
 | [],_,_,_,_,_=>by simp [dW]
 | n :: l,xs,c,h1,h2,h3=>by
  show (dW (if 1<=n/\n<=64 then xs.set n.toNat (xs.getD n.toNat 0+1) else xs) l).getD c.toNat 0=_;rw [Cv l _ c h1 h2 (by split; rw [adg,h3]; exact h3),List.count_cons];split
  ·grind
  grind
theorem Bi (l:List Snap) (c:Int) (h1:1<=c) (h2:c<=64):(bT l).getD c.toNat 0=(Bu c l:Nat):=by
 refine wN (p:=fun l=>(bT l).getD c.toNat 0=(Bu c l:Nat)) ?_ (fun l x h=>?_) l
 ·show (List.replicate 65 (0:Int)).getD c.toNat 0=_;rw [List.getD_eq_getElem?_getD,List.getElem?_replicate]; split <;> simp [Bu]
 rw [kx,Cv _ _ _ h1 h2 (jt l),h];unfold Bu; simp
theorem Dr (l:List Snap):((ke (fg (bT l)) 64).length:Int)=(jV l:Int):=by
 unfold ke jV Ju;rw [List.filter_map,List.length_map];congr 2;apply List.filter_congr;intro i hi;rw [List.mem_range] at hi;have:=Bi l ((i:Int)+1) (by omega) (by omega);simp only [Function.comp,fg];rw [show (ao .int)=(0:Int) from rfl,this];grind
theorem JG (l m:List Snap) (id:Int) (e:m=bf id l):ke (fk (bT l) (bT m)) 64=lW l id:=by
 subst e;unfold ke lW Dh;rw [List.filter_map];congr 1;apply List.filter_congr;intro i hi;rw [List.mem_range] at hi;have h1:=Bi l ((i:Int)+1) (by omega) (by omega);have h2:=Bi (bf id l) ((i:Int)+1) (by omega) (by omega);simp only [Function.comp,fk];rw [show (ao .int)=(0:Int) from rfl,h1,h2];grind
def Xy (l:List Snap):List (Nat × LI):=[(3,{ σ:=Nat,F:=fun k=>([(2,one (.ptr 0 0)),(3,one (.ptr 1 0)),(6,one (.fz (.nm .snap) (l))),(7,one (.int (l).length)),(8,one (.int k))],[.arr 338 .int 65 ((List.replicate 65 0)),.arr 338 .int 65 ((bT (l.take k)))]),J:=fun k=>k<=l.length,μ:=fun k=>l.length - k })]
def Lg (l:List Snap) (id:Int):List (Nat × LI):=[(3,{ σ:=Nat,F:=fun k=>([(1,one (.int (id))),(5,one (.own 0)),(8,one (.fz (.nm .snap) (l))),(9,one (.int (l).length)),(10,one (.int k))],[.row 172 (.nm .snap) ((bf id (l.take k)))]),J:=fun k=>k<=l.length,μ:=fun k=>l.length - k })]
def EH:Kn:=aI (ae (kC cI) (ae (kC (aW 0 0)) au)) (aA (BZ 338 .int 65) aw) fun (n,_,_) (xs,_)=>⟨[0<=n/\n<65],[.c (.bool (.atom ((fg xs n))))],none,false⟩
theorem OT:CK 362 EH:=ah fun (n,_,_) (xs,_) hp=>by
 have h0:=bV hp;refine av kM [] Tryz.func362 (?_:I64 n->(0:Int)<=n/\n<(↑(65:Nat):Int)/\n.toNat<(65:Nat)/\(I64 (xs.getD n.toNat (ao Sh.int))->decide ((0:Int)<xs.getD n.toNat (ao Sh.int))=fg xs n));(repeat' with_reducible first|apply bd|refine ba ?_|intro) <;> first | (first | with_reducible rfl | with_reducible assumption | omega | (refine bI ?_ ?_ <;> omega)) | rfl
def Aj:Kn:=aI (ae (kC cI) (ae (kC (aW 0 0)) (ae (kC (aW 1 0)) au))) (aA (BZ 338 .int 65) (aA (BZ 338 .int 65) aw)) fun (n,_,_,_) (xs,ys,_)=>⟨[0<=n/\n<65],[.c (.bool (.atom ((fk xs ys n))))],none,false⟩
theorem KH:CK 363 Aj:=ah fun (n,_,_,_) (xs,ys,_) hp=>by
 have h0:=bV hp;refine av kM [] Tryz.func363 (?_:(fun q1=>(fun q0=>I64 n->q1<=n/\n<(↑(65:Nat):Int)/\n.toNat<(65:Nat)/\(I64 q0->(q1<q0->q1<=n/\n<(↑(65:Nat):Int)/\n.toNat<(65:Nat))/\((q1<q0->I64 (ys.getD n.toNat (ao Sh.int)))->(decide (q1<q0) && decide (ys.getD n.toNat (ao Sh.int)=q1))=fk xs ys n))) (xs.getD n.toNat (ao Sh.int))) (0:Int));(repeat' with_reducible first|apply bd|refine ba ?_|intro) <;> first | (first | with_reducible rfl | with_reducible assumption | omega | (refine bI ?_ ?_ <;> omega)) | rfl
def Fb:Kn:=aI (ae (kC (cL (.nm .snap))) au) aw fun (l,_) _=>⟨[nch l<=1048576],[.agg (qN .int ((bT l)) 0 65)],none,false⟩
theorem Rl:CK 346 Fb:=ah fun (l,_) _ hp=>by
 have h0:=bV hp;refine av kM (Xy l) Tryz.func346 (?_:(fun (q6:Nat)=>(fun (q5:List Int)=>(fun (q4:Nat)=>(fun (q3:Nat)=>(fun (q2:Int)=>(fun (q1:den Sh.int)=>(fun (q0:List (den Sh.int))=>l.length*64<=140737488355328->∃ (s0:Nat),(l=l/\(↑l.length:Int)=(↑q6:Int)/\q2=(↑s0:Int)/\q0=List.replicate q3 (0:den Sh.int)/\q0=bT (List.take s0 l))/\s0<=q6/\∀ (s:Nat),(fun (q8:List Int)=>(fun (q7:List (den Sh.int))=>s<=q6->((↑s:Int)<(↑q6:Int)->q2<=(↑s:Int)/\(↑s:Int)<(↑l.length:Int)/\∀ (x:Snap),l[s]? = some x->eR x ((∀ (i:Nat),q2<=q8.getD i q2/\q8.getD i q2+(↑x.chunks.length:Int)<=4611686018427387904)/\I64 ((↑s:Int)+1)/\∃ (s':Nat),(l=l/\(↑q6:Int)=(↑q6:Int)/\(↑s:Int)+1=(↑s':Int)/\List.replicate q3 (0:den Sh.int)=List.replicate q3 (0:den Sh.int)/\dW q8 x.chunks=bT (List.take s' l))/\s' <= q6/\q6 - s' < q6 - s))/\((↑q6:Int)<=(↑s:Int)->q7.getD q4 q1=q5.getD q4 q1/\q7.getD 1 q1=q5.getD 1 q1/\q7.getD 2 q1=q5.getD 2 q1/\q7.getD 3 q1=q5.getD 3 q1/\q7.getD 4 q1=q5.getD 4 q1/\q7.getD 5 q1=q5.getD 5 q1/\q7.getD 6 q1=q5.getD 6 q1/\q7.getD 7 q1=q5.getD 7 q1/\q7.getD 8 q1=q5.getD 8 q1/\q7.getD 9 q1=q5.getD 9 q1/\q7.getD 10 q1=q5.getD 10 q1/\q7.getD 11 q1=q5.getD 11 q1/\q7.getD 12 q1=q5.getD 12 q1/\q7.getD 13 q1=q5.getD 13 q1/\q7.getD 14 q1=q5.getD 14 q1/\q7.getD 15 q1=q5.getD 15 q1/\q7.getD 16 q1=q5.getD 16 q1/\q7.getD 17 q1=q5.getD 17 q1/\q7.getD 18 q1=q5.getD 18 q1/\q7.getD 19 q1=q5.getD 19 q1/\q7.getD 20 q1=q5.getD 20 q1/\q7.getD 21 q1=q5.getD 21 q1/\q7.getD 22 q1=q5.getD 22 q1/\q7.getD 23 q1=q5.getD 23 q1/\q7.getD 24 q1=q5.getD 24 q1/\q7.getD 25 q1=q5.getD 25 q1/\q7.getD 26 q1=q5.getD 26 q1/\q7.getD 27 q1=q5.getD 27 q1/\q7.getD 28 q1=q5.getD 28 q1/\q7.getD 29 q1=q5.getD 29 q1/\q7.getD 30 q1=q5.getD 30 q1/\q7.getD 31 q1=q5.getD 31 q1/\q7.getD 32 q1=q5.getD 32 q1/\q7.getD 33 q1=q5.getD 33 q1/\q7.getD 34 q1=q5.getD 34 q1/\q7.getD 35 q1=q5.getD 35 q1/\q7.getD 36 q1=q5.getD 36 q1/\q7.getD 37 q1=q5.getD 37 q1/\q7.getD 38 q1=q5.getD 38 q1/\q7.getD 39 q1=q5.getD 39 q1/\q7.getD 40 q1=q5.getD 40 q1/\q7.getD 41 q1=q5.getD 41 q1/\q7.getD 42 q1=q5.getD 42 q1/\q7.getD 43 q1=q5.getD 43 q1/\q7.getD 44 q1=q5.getD 44 q1/\q7.getD 45 q1=q5.getD 45 q1/\q7.getD 46 q1=q5.getD 46 q1/\q7.getD 47 q1=q5.getD 47 q1/\q7.getD 48 q1=q5.getD 48 q1/\q7.getD 49 q1=q5.getD 49 q1/\q7.getD 50 q1=q5.getD 50 q1/\q7.getD 51 q1=q5.getD 51 q1/\q7.getD 52 q1=q5.getD 52 q1/\q7.getD 53 q1=q5.getD 53 q1/\q7.getD 54 q1=q5.getD 54 q1/\q7.getD 55 q1=q5.getD 55 q1/\q7.getD 56 q1=q5.getD 56 q1/\q7.getD 57 q1=q5.getD 57 q1/\q7.getD 58 q1=q5.getD 58 q1/\q7.getD 59 q1=q5.getD 59 q1/\q7.getD 60 q1=q5.getD 60 q1/\q7.getD 61 q1=q5.getD 61 q1/\q7.getD 62 q1=q5.getD 62 q1/\q7.getD 63 q1=q5.getD 63 q1/\q7.getD 64 q1=q5.getD 64 q1)) (xm Sh.int q8 q4 q3)) (bT (List.take s l))) [q2,q2,q2,q2,q2,q2,q2,q2,q2,q2,q2,q2,q2,q2,q2,q2,q2,q2,q2,q2,q2,q2,q2,q2,q2,q2,q2,q2,q2,q2,q2,q2,q2,q2,q2,q2,q2,q2,q2,q2,q2,q2,q2,q2,q2,q2,q2,q2,q2,q2,q2,q2,q2,q2,q2,q2,q2,q2,q2,q2,q2,q2,q2,q2,q2]) (ao Sh.int)) 0) 65) 0) (bT l)) l.length);iterate 3 ((all_goals (repeat' with_reducible first|apply bd|refine ba ?_|intro)); (all_goals try (first | exact bq | exact rfl | exact (XL ab) | exact (EJ ab ab _).1 | exact (EJ ab ab _).2 | exact (by rw [iG (jt _),List.take_of_length_le aJ]))); all_goals try first | refine ⟨‹Nat› + 1,?_⟩ | refine ⟨0,?_⟩)
def vp:Kn:=aI (ae (kC (cL (.nm .snap))) (ae (kC cI) au)) aw fun (l,id,_) _=>⟨[],[.c (.own 0)],some ([.row 172 (.nm .snap) ((bf id l))]),true⟩
theorem He:CK 349 vp:=ah fun (l,id,_) _ _=>by
 refine dj kM (Lg l id) Tryz.func349 (?_:(fun (q0:Nat)=>(fun (q1:Int)=>l.length*64<=140737488355328->I64 id->∃ (s0:Nat),(id=id/\l=l/\(↑l.length:Int)=q1/\0=(↑s0:Int)/\bf id (List.take s0 l)=[])/\s0<=q0/\∀ (s:Nat),(fun (q3:List Snap)=>(fun (q2:Int)=>s<=q0->((↑s:Int)<q1->0<=(↑s:Int)/\(↑s:Int)<(↑l.length:Int)/\∀ (x:Snap),l[s]? = some x->eR x ((¬x.id=id->x.chunks.length*8<=140737488355328->(q3.length+[x].length)*64<=140737488355328/\I64 q2/\∃ (s':Nat),(id=id/\l=l/\q1=q1/\q2=(↑s':Int)/\q3++[x]=bf id (List.take s' l))/\s' <= q0/\q0 - s' < q0 - s)/\(x.id=id->I64 q2/\∃ (s':Nat),(id=id/\l=l/\q1=q1/\q2=(↑s':Int)/\q3=bf id (List.take s' l))/\s' <= q0/\q0 - s' < q0 - s)))/\(q1<=(↑s:Int)->q3=bf id l)) ((↑s:Int)+1)) (bf id (List.take s l))) (↑q0:Int)) l.length);iterate 3 ((all_goals (repeat' with_reducible first|apply bd|refine ba ?_|intro)); (all_goals try (first | exact bq | exact rfl | exact (aaH ab ab ab) | exact (acp ab ab) | exact (WD aJ) | exact (XX aJ aJ))); all_goals try first | refine ⟨‹Nat› + 1,?_⟩ | refine ⟨0,?_⟩)
def TN:bE:=(aK 349 vp (aK 346 Fb (aK 363 Aj (aK 362 EH Ut))))
theorem rZ:ay Tryz.prog (al tyT) TN:=(ag He (ag Rl (ag KH (ag OT kM))))
def Io (xs:List Int):List (Nat × LI):=[(3,{ σ:=Nat,F:=fun k=>([(0,one (.fn 362 [] [(0,0)])),(3,one (.own 1)),(4,one (.int (k+1)))],[.arr 338 .int 65 ((xs)),.row 3 .int ((ke (fg xs) k))]),J:=fun k=>k<=64,μ:=fun k=>64 - k })]
def L_ (xs:List Int) (ys:List Int):List (Nat × LI):=[(3,{ σ:=Nat,F:=fun k=>([(0,one (.fn 363 [] [(0,0),(1,0)])),(3,one (.own 2)),(4,one (.int (k+1)))],[.arr 338 .int 65 ((xs)),.arr 338 .int 65 ((ys)),.row 3 .int ((ke (fk xs ys) k))]),J:=fun k=>k<=64,μ:=fun k=>64 - k })]
def tK:Kn:=aI (ae (kC (pX 362 [] [(0,0)])) au) (aA (BZ 338 .int 65) aw) fun _ (xs,_)=>⟨[],[.c (.fz .int ((ke (fg xs) 64)))],none,false⟩
theorem HC:CK 361 tK:=ah fun _ (xs,_) _=>by
 refine av rZ (Io xs) Tryz.func361 (?_:(fun (q1:Nat)=>(fun (q0:Int)=>∃ (s0:Nat),(q0=(↑s0:Int)+q0/\xs=xs/\ke (fg xs) s0=[])/\s0<=q1/\∀ (s:Nat),(fun (q3:List Int)=>(fun (q2:Int)=>s<=q1->(q2<=64->(0<=q2/\q2<65)/\(fg xs q2=true->(q3.length+[q2].length)*8<=140737488355328/\I64 (q2+q0)/\∃ (s':Nat),(q2+q0=(↑s':Int)+q0/\xs=xs/\q3++[q2]=ke (fg xs) s')/\s' <= q1/\q1 - s' < q1 - s)/\(fg xs q2=false->I64 (q2+q0)/\∃ (s':Nat),(q2+q0=(↑s':Int)+q0/\xs=xs/\q3=ke (fg xs) s')/\s' <= q1/\q1 - s' < q1 - s))/\(64<q2->q3=ke (fg xs) q1)) ((↑s:Int)+q0)) (ke (fg xs) s)) 1) 64);iterate 3 ((all_goals (repeat' with_reducible first|apply bd|refine ba ?_|intro)); (all_goals try (first | exact bq | exact rfl | exact (acs ab) | exact (abC ab) | exact (ZG aJ aJ) | exact (JF aJ) | exact (And.intro aJ aJ))); all_goals try first | refine ⟨‹Nat› + 1,?_⟩ | refine ⟨0,?_⟩)
def uA:Kn:=aI (ae (kC (pX 363 [] [(0,0),(1,0)])) au) (aA (BZ 338 .int 65) (aA (BZ 338 .int 65) aw)) fun _ (xs,ys,_)=>⟨[],[.c (.fz .int ((ke (fk xs ys) 64)))],none,false⟩
theorem HA:CK 361 uA:=ah fun _ (xs,ys,_) _=>by
 refine av rZ (L_ xs ys) Tryz.func361 (?_:(fun (q1:Nat)=>(fun (q0:Int)=>∃ (s0:Nat),(q0=(↑s0:Int)+q0/\xs=xs/\ys=ys/\ke (fk xs ys) s0=[])/\s0<=q1/\∀ (s:Nat),(fun (q3:List Int)=>(fun (q2:Int)=>s<=q1->(q2<=64->(0<=q2/\q2<65)/\(fk xs ys q2=true->(q3.length+[q2].length)*8<=140737488355328/\I64 (q2+q0)/\∃ (s':Nat),(q2+q0=(↑s':Int)+q0/\xs=xs/\ys=ys/\q3++[q2]=ke (fk xs ys) s')/\s' <= q1/\q1 - s' < q1 - s)/\(fk xs ys q2=false->I64 (q2+q0)/\∃ (s':Nat),(q2+q0=(↑s':Int)+q0/\xs=xs/\ys=ys/\q3=ke (fk xs ys) s')/\s' <= q1/\q1 - s' < q1 - s))/\(64<q2->q3=ke (fk xs ys) q1)) ((↑s:Int)+q0)) (ke (fk xs ys) s)) 1) 64);iterate 3 ((all_goals (repeat' with_reducible first|apply bd|refine ba ?_|intro)); (all_goals try (first | exact bq | exact rfl | exact (acs ab) | exact (abC ab) | exact (ZG aJ aJ) | exact (JF aJ) | exact (And.intro aJ aJ))); all_goals try first | refine ⟨‹Nat› + 1,?_⟩ | refine ⟨0,?_⟩)
def Tz:bE:=(aK 361 uA (aK 361 tK TN))
theorem sw:ay Tryz.prog (al tyT) Tz:=(ag HA (ag HC rZ))
def Mn:Kn:=aI (ae (kA .int 65) au) aw fun (xs,_) _=>⟨[xs.length=65],[.c (.fz .int ((ke (fg xs) 64)))],none,false⟩
theorem YA:CK 345 Mn:=ah fun (xs,_) _ hp=>by
 have h0:=bV hp;refine av sw [] Tryz.func345 (?_:(fun q1=>(fun q0=>I64 (xs.getD 0 q0)->I64 (xs.getD 1 q0)->I64 (xs.getD 2 q0)->I64 (xs.getD 3 q0)->I64 (xs.getD 4 q0)->I64 (xs.getD 5 q0)->I64 (xs.getD 6 q0)->I64 (xs.getD 7 q0)->I64 (xs.getD 8 q0)->I64 (xs.getD 9 q0)->I64 (xs.getD 10 q0)->I64 (xs.getD 11 q0)->I64 (xs.getD 12 q0)->I64 (xs.getD 13 q0)->I64 (xs.getD 14 q0)->I64 (xs.getD 15 q0)->I64 (xs.getD 16 q0)->I64 (xs.getD 17 q0)->I64 (xs.getD 18 q0)->I64 (xs.getD 19 q0)->I64 (xs.getD 20 q0)->I64 (xs.getD 21 q0)->I64 (xs.getD 22 q0)->I64 (xs.getD 23 q0)->I64 (xs.getD 24 q0)->I64 (xs.getD 25 q0)->I64 (xs.getD 26 q0)->I64 (xs.getD 27 q0)->I64 (xs.getD 28 q0)->I64 (xs.getD 29 q0)->I64 (xs.getD 30 q0)->I64 (xs.getD 31 q0)->I64 (xs.getD 32 q0)->I64 (xs.getD 33 q0)->I64 (xs.getD 34 q0)->I64 (xs.getD 35 q0)->I64 (xs.getD 36 q0)->I64 (xs.getD 37 q0)->I64 (xs.getD 38 q0)->I64 (xs.getD 39 q0)->I64 (xs.getD 40 q0)->I64 (xs.getD 41 q0)->I64 (xs.getD 42 q0)->I64 (xs.getD 43 q0)->I64 (xs.getD 44 q0)->I64 (xs.getD 45 q0)->I64 (xs.getD 46 q0)->I64 (xs.getD 47 q0)->I64 (xs.getD 48 q0)->I64 (xs.getD 49 q0)->I64 (xs.getD 50 q0)->I64 (xs.getD 51 q0)->I64 (xs.getD 52 q0)->I64 (xs.getD 53 q0)->I64 (xs.getD 54 q0)->I64 (xs.getD 55 q0)->I64 (xs.getD 56 q0)->I64 (xs.getD 57 q0)->I64 (xs.getD 58 q0)->I64 (xs.getD 59 q0)->I64 (xs.getD 60 q0)->I64 (xs.getD 61 q0)->I64 (xs.getD 62 q0)->I64 (xs.getD 63 q0)->I64 (xs.getD 64 q0)->q1.length*8<=140737488355328->q1=ke (fg xs) 64) (ao Sh.int)) (ke (fg (xm Sh.int xs 0 65)) 64));(repeat' with_reducible first|apply bd|refine ba ?_|intro)
 all_goals (first | exact bq | exact (by rw [iG h0]) | exact (by rw [iG h0]; assumption))
def xE:Kn:=aI (ae (kC (cL (.nm .snap))) (ae (kC cI) au)) aw fun (l,id,_) _=>⟨[nch l<=1048576],[.c (.fz .int ((lW l id)))],none,false⟩
theorem Jv:CK 348 xE:=ah fun (l,id,_) _ hp=>by
 have h0:=bV hp;refine av sw [] Tryz.func348 (?_:(fun q3=>(fun q2=>(fun q1=>(fun q0=>(fun q4=>l.length*64<=140737488355328->I64 id->nch l<=1048576/\(I64 (q2.getD q3 q1)->I64 (q2.getD 1 q1)->I64 (q2.getD 2 q1)->I64 (q2.getD 3 q1)->I64 (q2.getD 4 q1)->I64 (q2.getD 5 q1)->I64 (q2.getD 6 q1)->I64 (q2.getD 7 q1)->I64 (q2.getD 8 q1)->I64 (q2.getD 9 q1)->I64 (q2.getD 10 q1)->I64 (q2.getD 11 q1)->I64 (q2.getD 12 q1)->I64 (q2.getD 13 q1)->I64 (q2.getD 14 q1)->I64 (q2.getD 15 q1)->I64 (q2.getD 16 q1)->I64 (q2.getD 17 q1)->I64 (q2.getD 18 q1)->I64 (q2.getD 19 q1)->I64 (q2.getD 20 q1)->I64 (q2.getD 21 q1)->I64 (q2.getD 22 q1)->I64 (q2.getD 23 q1)->I64 (q2.getD 24 q1)->I64 (q2.getD 25 q1)->I64 (q2.getD 26 q1)->I64 (q2.getD 27 q1)->I64 (q2.getD 28 q1)->I64 (q2.getD 29 q1)->I64 (q2.getD 30 q1)->I64 (q2.getD 31 q1)->I64 (q2.getD 32 q1)->I64 (q2.getD 33 q1)->I64 (q2.getD 34 q1)->I64 (q2.getD 35 q1)->I64 (q2.getD 36 q1)->I64 (q2.getD 37 q1)->I64 (q2.getD 38 q1)->I64 (q2.getD 39 q1)->I64 (q2.getD 40 q1)->I64 (q2.getD 41 q1)->I64 (q2.getD 42 q1)->I64 (q2.getD 43 q1)->I64 (q2.getD 44 q1)->I64 (q2.getD 45 q1)->I64 (q2.getD 46 q1)->I64 (q2.getD 47 q1)->I64 (q2.getD 48 q1)->I64 (q2.getD 49 q1)->I64 (q2.getD 50 q1)->I64 (q2.getD 51 q1)->I64 (q2.getD 52 q1)->I64 (q2.getD 53 q1)->I64 (q2.getD 54 q1)->I64 (q2.getD 55 q1)->I64 (q2.getD 56 q1)->I64 (q2.getD 57 q1)->I64 (q2.getD 58 q1)->I64 (q2.getD 59 q1)->I64 (q2.getD 60 q1)->I64 (q2.getD 61 q1)->I64 (q2.getD 62 q1)->I64 (q2.getD 63 q1)->I64 (q2.getD 64 q1)->nch (bf id l)<=1048576/\(I64 (q0.getD q3 q1)->I64 (q0.getD 1 q1)->I64 (q0.getD 2 q1)->I64 (q0.getD 3 q1)->I64 (q0.getD 4 q1)->I64 (q0.getD 5 q1)->I64 (q0.getD 6 q1)->I64 (q0.getD 7 q1)->I64 (q0.getD 8 q1)->I64 (q0.getD 9 q1)->I64 (q0.getD 10 q1)->I64 (q0.getD 11 q1)->I64 (q0.getD 12 q1)->I64 (q0.getD 13 q1)->I64 (q0.getD 14 q1)->I64 (q0.getD 15 q1)->I64 (q0.getD 16 q1)->I64 (q0.getD 17 q1)->I64 (q0.getD 18 q1)->I64 (q0.getD 19 q1)->I64 (q0.getD 20 q1)->I64 (q0.getD 21 q1)->I64 (q0.getD 22 q1)->I64 (q0.getD 23 q1)->I64 (q0.getD 24 q1)->I64 (q0.getD 25 q1)->I64 (q0.getD 26 q1)->I64 (q0.getD 27 q1)->I64 (q0.getD 28 q1)->I64 (q0.getD 29 q1)->I64 (q0.getD 30 q1)->I64 (q0.getD 31 q1)->I64 (q0.getD 32 q1)->I64 (q0.getD 33 q1)->I64 (q0.getD 34 q1)->I64 (q0.getD 35 q1)->I64 (q0.getD 36 q1)->I64 (q0.getD 37 q1)->I64 (q0.getD 38 q1)->I64 (q0.getD 39 q1)->I64 (q0.getD 40 q1)->I64 (q0.getD 41 q1)->I64 (q0.getD 42 q1)->I64 (q0.getD 43 q1)->I64 (q0.getD 44 q1)->I64 (q0.getD 45 q1)->I64 (q0.getD 46 q1)->I64 (q0.getD 47 q1)->I64 (q0.getD 48 q1)->I64 (q0.getD 49 q1)->I64 (q0.getD 50 q1)->I64 (q0.getD 51 q1)->I64 (q0.getD 52 q1)->I64 (q0.getD 53 q1)->I64 (q0.getD 54 q1)->I64 (q0.getD 55 q1)->I64 (q0.getD 56 q1)->I64 (q0.getD 57 q1)->I64 (q0.getD 58 q1)->I64 (q0.getD 59 q1)->I64 (q0.getD 60 q1)->I64 (q0.getD 61 q1)->I64 (q0.getD 62 q1)->I64 (q0.getD 63 q1)->I64 (q0.getD 64 q1)->q4.length*8<=140737488355328->q4=lW l id))) (ke (fk (xm Sh.int q2 q3 65) (xm Sh.int q0 q3 65)) 64)) (bT (bf id l))) (ao Sh.int)) (bT l)) (0:Nat))
 (repeat' with_reducible first|apply bd|refine ba ?_|intro)
 all_goals (first | exact bq | exact (Zl (by assumption)) | exact (by rw [iG (jt _),iG (jt _)]; exact JG _ _ _ rfl))
def Tw:bE:=(aK 348 xE (aK 345 Mn Tz))
theorem qw:ay Tryz.prog (al tyT) Tw:=(ag Jv (ag YA sw))
def po:Kn:=aI (ae (kC (cL (.nm .snap))) au) aw fun (l,_) _=>⟨[nch l<=1048576],[.c (.int (((jV l:Int))))],none,false⟩
theorem ym:CK 313 po:=ah fun (l,_) _ hp=>by
 have h0:=bV hp;refine av qw [] Tryz.func313 (?_:(fun (q1:den Sh.int)=>(fun (q0:List Int)=>(fun (q2:Nat)=>l.length*64<=140737488355328->nch l<=1048576/\(I64 (q0.getD 0 q1)->I64 (q0.getD 1 q1)->I64 (q0.getD 2 q1)->I64 (q0.getD 3 q1)->I64 (q0.getD 4 q1)->I64 (q0.getD 5 q1)->I64 (q0.getD 6 q1)->I64 (q0.getD 7 q1)->I64 (q0.getD 8 q1)->I64 (q0.getD 9 q1)->I64 (q0.getD 10 q1)->I64 (q0.getD 11 q1)->I64 (q0.getD 12 q1)->I64 (q0.getD 13 q1)->I64 (q0.getD 14 q1)->I64 (q0.getD 15 q1)->I64 (q0.getD 16 q1)->I64 (q0.getD 17 q1)->I64 (q0.getD 18 q1)->I64 (q0.getD 19 q1)->I64 (q0.getD 20 q1)->I64 (q0.getD 21 q1)->I64 (q0.getD 22 q1)->I64 (q0.getD 23 q1)->I64 (q0.getD 24 q1)->I64 (q0.getD 25 q1)->I64 (q0.getD 26 q1)->I64 (q0.getD 27 q1)->I64 (q0.getD 28 q1)->I64 (q0.getD 29 q1)->I64 (q0.getD 30 q1)->I64 (q0.getD 31 q1)->I64 (q0.getD 32 q1)->I64 (q0.getD 33 q1)->I64 (q0.getD 34 q1)->I64 (q0.getD 35 q1)->I64 (q0.getD 36 q1)->I64 (q0.getD 37 q1)->I64 (q0.getD 38 q1)->I64 (q0.getD 39 q1)->I64 (q0.getD 40 q1)->I64 (q0.getD 41 q1)->I64 (q0.getD 42 q1)->I64 (q0.getD 43 q1)->I64 (q0.getD 44 q1)->I64 (q0.getD 45 q1)->I64 (q0.getD 46 q1)->I64 (q0.getD 47 q1)->I64 (q0.getD 48 q1)->I64 (q0.getD 49 q1)->I64 (q0.getD 50 q1)->I64 (q0.getD 51 q1)->I64 (q0.getD 52 q1)->I64 (q0.getD 53 q1)->I64 (q0.getD 54 q1)->I64 (q0.getD 55 q1)->I64 (q0.getD 56 q1)->I64 (q0.getD 57 q1)->I64 (q0.getD 58 q1)->I64 (q0.getD 59 q1)->I64 (q0.getD 60 q1)->I64 (q0.getD 61 q1)->I64 (q0.getD 62 q1)->I64 (q0.getD 63 q1)->I64 (q0.getD 64 q1)->(xm Sh.int q0 0 65).length=65/\(q2*8<=140737488355328->(↑q2:Int)=(↑(jV l):Int)))) (ke (fg (xm Sh.int q0 0 65)) 64).length) (bT l)) (ao Sh.int));(repeat' with_reducible first|apply bd|refine ba ?_|intro)
 all_goals (first | exact bq | exact (qf 65 0) | exact (by rw [iG (jt _)]; exact Dr _))
def Cy:Kn:=aI (ae (kC (cL (.nm .snap))) (ae (kC (cL .int)) au)) aw fun (l,m,_) _=>⟨[nch l<=1048576],[.c (.int (((jV (l++[⟨0,0,m,false,⟨[]⟩⟩]):Int))))],none,false⟩
theorem OZ:CK 343 Cy:=ah fun (l,m,_) _ hp=>by
 have h0:=bV hp;refine av qw [] Tryz.func343 (?_:(fun q3=>(fun q2=>(fun q1=>(fun q0=>(fun q4=>l.length*64<=140737488355328->m.length*8<=140737488355328->nch l<=1048576/\(I64 (q0.getD q2 q1)->I64 (q0.getD 1 q1)->I64 (q0.getD 2 q1)->I64 (q0.getD 3 q1)->I64 (q0.getD 4 q1)->I64 (q0.getD 5 q1)->I64 (q0.getD 6 q1)->I64 (q0.getD 7 q1)->I64 (q0.getD 8 q1)->I64 (q0.getD 9 q1)->I64 (q0.getD 10 q1)->I64 (q0.getD 11 q1)->I64 (q0.getD 12 q1)->I64 (q0.getD 13 q1)->I64 (q0.getD 14 q1)->I64 (q0.getD 15 q1)->I64 (q0.getD 16 q1)->I64 (q0.getD 17 q1)->I64 (q0.getD 18 q1)->I64 (q0.getD 19 q1)->I64 (q0.getD 20 q1)->I64 (q0.getD 21 q1)->I64 (q0.getD 22 q1)->I64 (q0.getD 23 q1)->I64 (q0.getD 24 q1)->I64 (q0.getD 25 q1)->I64 (q0.getD 26 q1)->I64 (q0.getD 27 q1)->I64 (q0.getD 28 q1)->I64 (q0.getD 29 q1)->I64 (q0.getD 30 q1)->I64 (q0.getD 31 q1)->I64 (q0.getD 32 q1)->I64 (q0.getD 33 q1)->I64 (q0.getD 34 q1)->I64 (q0.getD 35 q1)->I64 (q0.getD 36 q1)->I64 (q0.getD 37 q1)->I64 (q0.getD 38 q1)->I64 (q0.getD 39 q1)->I64 (q0.getD 40 q1)->I64 (q0.getD 41 q1)->I64 (q0.getD 42 q1)->I64 (q0.getD 43 q1)->I64 (q0.getD 44 q1)->I64 (q0.getD 45 q1)->I64 (q0.getD 46 q1)->I64 (q0.getD 47 q1)->I64 (q0.getD 48 q1)->I64 (q0.getD 49 q1)->I64 (q0.getD 50 q1)->I64 (q0.getD 51 q1)->I64 (q0.getD 52 q1)->I64 (q0.getD 53 q1)->I64 (q0.getD 54 q1)->I64 (q0.getD 55 q1)->I64 (q0.getD 56 q1)->I64 (q0.getD 57 q1)->I64 (q0.getD 58 q1)->I64 (q0.getD 59 q1)->I64 (q0.getD 60 q1)->I64 (q0.getD 61 q1)->I64 (q0.getD 62 q1)->I64 (q0.getD 63 q1)->I64 (q0.getD 64 q1)->(∀ (i:Nat),(fun q5=>0<=q5/\q5+(↑m.length:Int)<=4611686018427387904) ((xm Sh.int q0 q2 q3).getD i 0))/\q4.length=q3/\((ke (fg q4) 64).length*8<=140737488355328->(↑(ke (fg q4) 64).length:Int)=(↑(jV (l++[Snap.mk 0 0 m false (Str.mk [])])):Int)))) (xm Sh.int (dW (xm Sh.int q0 q2 q3) m) q2 q3)) (bT l)) (ao Sh.int)) (0:Nat)) (65:Nat));(repeat' with_reducible first|apply bd|refine ba ?_|intro)
 all_goals (first | exact bq | exact (qf 65 0) | exact (EY (s:=.int) (by assumption) (by assumption) _).1 | exact (EY (s:=.int) (by assumption) (by assumption) _).2 | exact (by rw [iG (s:=.int) (xs:=dW _ _) (by rw [rX,qf]),iG (jt l)]; have:=Dr (l++[Snap.mk 0 0 m false ⟨[]⟩]); rw [kx] at this; exact this))
def Un:bE:=(aK 343 Cy (aK 313 po Tw))
theorem fS:ay Tryz.prog (al tyT) Un:=(ag OZ (ag ym qw))
def yo {α:Type} (l:List α) (i:Nat) (x:α):List α:=l.take i++x :: l.drop i
def Qo {α:Type} (l:List α) (i:Int):List α:=l.take i.toNat++l.drop (i+1).toNat
def cd (s:State) (c:Command):Int:=if 0<=ak Opn.set c.set s.opens/\¬ (s.opens.getD (ak Opn.set c.set s.opens).toNat (ao (.nm .opn))).client=c.client then -1 else ak Opn.set c.set s.opens
def eD (s:State) (c:Command):State × Reply:=if 0<=ak Opn.set c.set s.opens then (s,⟨16,(s.opens.getD (ak Opn.set c.set s.opens).toNat (ao (.nm .opn))).client⟩)
 else ({ s with opens:=yo s.opens (s.opens.takeWhile fun y=>decide (y.set<c.set)).length ⟨c.set,c.client⟩ },⟨0,0⟩)
def eF (s:State) (c:Command):State × Reply:=if cd s c<0 then (s,⟨15,0⟩) else ({ s with opens:=Qo s.opens (cd s c) },⟨0,0⟩)
def ek (s:State) (c:Command):State × Reply:=
 if cd s c<0 then (s,⟨15,0⟩)
 else if 16<=(s.snaps.length:Int)\/1048576<=s.next then (s,⟨20,0⟩)
 else if ¬ s.quota=0/\s.quota<(jV (s.snaps++[⟨0,0,c.chunks,false,⟨[]⟩⟩]):Int) then (s,⟨19,0⟩)
 else ({ s with next:=s.next+1,opens:=Qo s.opens (cd s c),snaps:=s.snaps++[⟨s.next,c.set,c.chunks,false,⟨[]⟩⟩] },⟨0,s.next⟩)
def dT (s:State) (at_:Nat):State × Reply:=
 if (s.snaps.getD at_ (ao (.nm .snap))).held=true then (s,⟨17,0⟩)
 else if lJ s at_=true then (s,⟨18,0⟩)
 else ({ s with snaps:=bf (s.snaps.getD at_ (ao (.nm .snap))).id s.snaps },⟨0,(lW s.snaps (s.snaps.getD at_ (ao (.nm .snap))).id).length⟩)
def fB (s:State) (at_:Nat):State × Reply:=(s,⟨0,(s.snaps.getD at_ (ao (.nm .snap))).chunks.length⟩)
def gi (b:Bool) (s:State) (at_:Nat):State × Reply:=
 if (s.snaps.getD at_ (ao (.nm .snap))).held=b then (s,⟨0,0⟩)
 else ({ s with snaps:=s.snaps.set at_ { s.snaps.getD at_ (ao (.nm .snap)) with held:=b } },⟨0,1⟩)
def qu (c:Command) (s:State) (at_:Nat):State × Reply:=({ s with snaps:=s.snaps.set at_ { s.snaps.getD at_ (ao (.nm .snap)) with tag:=c.text } },⟨0,0⟩)
def sd (c:Command) (s:State):State × Reply:=({ s with keep:=c.n },⟨0,0⟩)
def nL (c:Command) (s:State):State × Reply:=({ s with quota:=c.n },⟨0,jV s.snaps⟩)
theorem dL {key:α->Int} {want:Int} {l:List α} (h:0<=ak key want l):ak key want l<(l.length:Int):=by
 unfold ak at *;split
 ·rename_i i hi;have:=(aeW.1 hi).1;omega
 omega
theorem LC {s:State} {c:Command} (h:0<=cd s c):cd s c+1<=(s.opens.length:Int):=by
 unfold cd at *;split
 ·grind
 rename_i h1; rw [if_neg h1] at h;have:=dL h;omega
theorem Gk (i:Int) (m:List Opn) (l:List Opn) (h0:0<=i/\i<=(l.length:Int)) (h1:l.length<1048576) (h2:m.length=1):Sat Tryz.prog (al tyT) 341 [.c (.own 0),.c (.int (i)),.c (.fz (.nm .opn) (m))] [.row 139 (.nm .opn) (l)] ⟨[0<=i/\i<=(l.length:Int),l.length<1048576,m.length=1],[.c (.own 0)],some ([.row 139 (.nm .opn) ((l.take i.toNat++m++l.drop i.toNat))]),false⟩:=wj i l m h0 h1 h2
def uh:Kn:=aI (ae (kC (eN 0)) (ae (kC cI) (ae (kC (cL (.nm .opn))) au))) (aA (eO 139 (.nm .opn)) aw) fun (_,i,m,_) (l,_)=>⟨[0<=i/\i<=(l.length:Int),l.length<1048576,m.length=1],[.c (.own 0)],some ([.row 139 (.nm .opn) ((l.take i.toNat++m++l.drop i.toNat))]),false⟩
theorem FV:CK 341 uh:=ah fun (_,i,m,_) (l,_) hp=>Gk i m l (bV hp) (bV (eG hp)) (bV (eG (eG hp)))
theorem BG (i:Int) (l:List Sess) (m:List Sess) (h0:0<=i/\i<=(l.length:Int)) (h1:l.length<1048576) (h2:m.length=1):Sat Tryz.prog (al tyT) 263 [.c (.own 0),.c (.int (i)),.c (.own 1)] [.row 137 (.nm .sess) (l),.row 137 (.nm .sess) (m)] ⟨[0<=i/\i<=(l.length:Int),l.length<1048576,m.length=1],[.c (.own 0)],some ([.row 137 (.nm .sess) ((l.take i.toNat++m++l.drop i.toNat)),.row 137 (.nm .sess) ((m))]),false⟩:=wy i l m h0 h1 h2
def qK:Kn:=aI (ae (kC (eN 0)) (ae (kC cI) (ae (kC (eN 1)) au))) (aA (eO 137 (.nm .sess)) (aA (eO 137 (.nm .sess)) aw)) fun (_,i,_,_) (l,m,_)=>⟨[0<=i/\i<=(l.length:Int),l.length<1048576,m.length=1],[.c (.own 0)],some ([.row 137 (.nm .sess) ((l.take i.toNat++m++l.drop i.toNat)),.row 137 (.nm .sess) ((m))]),false⟩
theorem BN:CK 263 qK:=ah fun (_,i,_,_) (l,m,_) hp=>BG i l m (bV hp) (bV (eG hp)) (bV (eG (eG hp)))
theorem GM (i:Int) (j:Int) (l:List Opn) (h0:0<=i/\i<(l.length:Int)/\j=i+1):Sat Tryz.prog (al tyT) 344 [.c (.own 0),.c (.int (i)),.c (.int (j))] [.row 139 (.nm .opn) (l)] ⟨[0<=i/\i<(l.length:Int)/\j=i+1],[.c (.own 0)],some ([.row 139 (.nm .opn) ((l.take i.toNat++l.drop j.toNat))]),false⟩:=xW i j l h0
def ua:Kn:=aI (ae (kC (eN 0)) (ae (kC cI) (ae (kC cI) au))) (aA (eO 139 (.nm .opn)) aw) fun (_,i,j,_) (l,_)=>⟨[0<=i/\i<(l.length:Int)/\j=i+1],[.c (.own 0)],some ([.row 139 (.nm .opn) ((l.take i.toNat++l.drop j.toNat))]),false⟩
theorem Hb:CK 344 ua:=ah fun (_,i,j,_) (l,_) hp=>GM i j l (bV hp)
def tZ:Kn:=aI (ae (kC (aW 0 0)) (ae (kT (.nm .command)) au)) (pz 0 aw) fun (_,c,_) (z,_)=>⟨[],[.c (.int ((cd z c)))],none,false⟩
theorem Gh:CK 342 tZ:=ah fun (_,c,_) (z,_) _=>by
 obtain ⟨v,nx,kp,qt,se,op,sn⟩:=z;refine av fS [] Tryz.func342 (?_:(fun q1=>(fun q0=>(fun q3=>(fun q2=>bH c (I64 q0->(q3->q3/\q0<(↑op.length:Int))/\((q3->I64 q2.set/\I64 q2.client)->(q3/\¬q2.client=c.client -> -1=q1)/\(q0<0\/q2.client=c.client->q0=q1)))) (op.getD q0.toNat (ao (Sh.nm NT.opn)))) (0<=q0)) (ak Opn.set c.set op)) (cd (State.mk v nx kp qt se op sn) c));(repeat' with_reducible first|apply bd|refine ba ?_|intro)
 all_goals (first | exact bq | exact dL ab | (unfold cd; grind))
def Jm:Kn:=aI (ae (kC (aW 0 0)) (ae (kC (aW 1 0)) au)) (aA (xn 35 (.nm .command)) (pz 1 aw)) fun _ (c,z,_)=>⟨[],[.agg (cellsOf (.nm .reply) ((sd c z).2))],some (([.box 35 (cellsOf (.nm .command) (c))]++rM 1 ((sd c z).1))),false⟩
theorem YS:CK 311 Jm:=ah fun _ (c,z,_) _=>by
 obtain ⟨v,nx,kp,qt,se,op,sn⟩:=z;refine bu fS [] Tryz.func311 (?_:(fun q0=>0=q0.snd.code/\0=q0.snd.n/\bg c c (cV (State.mk v nx c.n qt se op sn) q0.fst)) (sd c (State.mk v nx kp qt se op sn)));(repeat' with_reducible first|apply bd|refine ba ?_|intro)
 all_goals (first | exact bq | exact rfl)
def Kb:Kn:=aI (ae (kC (aW 0 0)) (ae (kC (aW 1 0)) au)) (aA (xn 35 (.nm .command)) (pz 1 aw)) fun _ (c,z,_)=>⟨[nch z.snaps<=1048576],[.agg (cellsOf (.nm .reply) ((nL c z).2))],some (([.box 35 (cellsOf (.nm .command) (c))]++rM 1 ((nL c z).1))),false⟩
theorem Xm:CK 312 Kb:=ah fun _ (c,z,_) hp=>by
 obtain ⟨v,nx,kp,qt,se,op,sn⟩:=z;have h0:nch sn<=1048576:=bV hp;refine bu fS [] Tryz.func312 (?_:(fun q0=>nch sn<=1048576/\(I64 (↑(jV sn):Int)->0=q0.snd.code/\(↑(jV sn):Int)=q0.snd.n/\bg c c (cV (State.mk v nx kp c.n se op sn) q0.fst))) (nL c (State.mk v nx kp qt se op sn)));(repeat' with_reducible first|apply bd|refine ba ?_|intro)
 all_goals (first | exact bq | exact rfl)
def DX:Kn:=aI (ae (kC (aW 0 0)) (ae (kC cI) au)) (pz 0 aw) fun (_,i,_) (z,_)=>⟨[0<=i/\i<(z.snaps.length:Int),nch z.snaps<=1048576],[.agg (cellsOf (.nm .reply) ((dT z i.toNat).2))],some ((rM 0 ((dT z i.toNat).1))),false⟩
theorem SF:CK 315 DX:=ah fun (_,i,_) (z,_) hp=>by
 obtain ⟨v,nx,kp,qt,se,op,sn⟩:=z;have h0:0<=i/\i<(sn.length:Int):=bV hp;have h1:nch sn<=1048576:=bV (eG hp);refine bu fS [] Tryz.func315 (?_:(fun q3=>(fun q2=>(fun q1=>(fun q0=>(fun q4=>I64 i->q3<=i/\i<(↑sn.length:Int)/\eR q1 ((q1.held=true->I64 17->I64 q3->17=q0.snd.code/\q4)/\(q1.held=false->(lJ q2 i=true->I64 18->I64 q3->18=q0.snd.code/\q4)/\(lJ q2 i=false->nch sn<=1048576/\((lW sn q1.id).length*8<=140737488355328->q3=q0.snd.code/\(↑(lW sn q1.id).length:Int)=q0.snd.n/\cV (State.mk v nx kp qt se op (bf q1.id sn)) q0.fst))))) (q3=q0.snd.n/\cV q2 q0.fst)) (dT q2 i.toNat)) (sn.getD i.toNat (ao (Sh.nm NT.snap)))) (State.mk v nx kp qt se op sn)) (0:Int));have hi:((i.toNat:Nat):Int)=i:=by omega
 (repeat' with_reducible first|apply bd|refine ba ?_|intro)
 all_goals (first | exact bq | ((simp only [dT,hi]; simp_all) <;> (intros; omega)) | (simp only [dT,hi]; grind))
def Nz:Kn:=aI (ae (kC cI) (ae (kC (aW 0 0)) au)) (pz 0 aw) fun (i,_,_) (z,_)=>⟨[0<=i/\i<(z.snaps.length:Int)],[.agg (cellsOf (.nm .reply) ((fB z i.toNat).2))],some ((rM 0 ((fB z i.toNat).1))),false⟩
theorem YY:CK 316 Nz:=ah fun (i,_,_) (z,_) hp=>by
 obtain ⟨v,nx,kp,qt,se,op,sn⟩:=z;have h0:0<=i/\i<(sn.length:Int):=bV hp;refine bu fS [] Tryz.func316 (?_:(fun q0=>I64 i->0<=i/\i<(↑sn.length:Int)/\eR (sn.getD i.toNat (ao (Sh.nm NT.snap))) (0=(fB q0 i.toNat).snd.code/\(↑(sn.getD i.toNat (ao (Sh.nm NT.snap))).chunks.length:Int)=(fB q0 i.toNat).snd.n/\cV q0 (fB q0 i.toNat).fst)) (State.mk v nx kp qt se op sn));(repeat' with_reducible first|apply bd|refine ba ?_|intro)
 all_goals (first | exact bq | rfl)
def DA:Kn:=aI (ae (kC cI) (ae (kC (aW 0 0)) (ae (kC (aW 1 0)) au))) (aA (xn 35 (.nm .command)) (pz 1 aw)) fun (i,_,_,_) (c,z,_)=>⟨[0<=i/\i<(z.snaps.length:Int)],[.agg (cellsOf (.nm .reply) ((qu c z i.toNat).2))],some (([.box 35 (cellsOf (.nm .command) (c))]++rM 1 ((qu c z i.toNat).1))),false⟩
theorem Qq:CK 317 DA:=ah fun (i,_,_,_) (c,z,_) hp=>by
 obtain ⟨v,nx,kp,qt,se,op,sn⟩:=z;have h0:0<=i/\i<(sn.length:Int):=bV hp;refine bu fS [] Tryz.func317 (?_:(fun q1=>(fun q0=>I64 i->0<=i/\i<(↑sn.length:Int)/\eR q0 (0=q1.snd.code/\0=q1.snd.n/\bg c c (cV (State.mk v nx kp qt se op (sn.set i.toNat (Snap.mk q0.id q0.set q0.chunks q0.held c.text))) q1.fst))) (sn.getD i.toNat (ao (Sh.nm NT.snap)))) (qu c (State.mk v nx kp qt se op sn) i.toNat));(repeat' with_reducible first|apply bd|refine ba ?_|intro)
 all_goals (first | exact bq | exact rfl)
def Af:Kn:=aI (ae (kC cI) (ae (kC (aW 0 0)) (ae (kC (aW 4 0)) au))) (pz 0 (aA (dB 4 (ax cB dt)) aw)) fun (i,_,_,_) (z,(b,_),_)=>⟨[0<=i/\i<(z.snaps.length:Int)],[.agg (cellsOf (.nm .reply) ((gi b z i.toNat).2))],some ((rM 0 ((gi b z i.toNat).1)++[.box 4 ([.bool (.atom ((b)))])])),false⟩
theorem Ij:CK 304 Af:=ah fun (i,_,_,_) (z,(b,_),_) hp=>by
 obtain ⟨v,nx,kp,qt,se,op,sn⟩:=z;have h0:0<=i/\i<(sn.length:Int):=bV hp;refine bu fS [] Tryz.func304 (?_:(fun q1=>(fun q0=>I64 i->0<=i/\i<(↑sn.length:Int)/\eR q1 (((q1.held == b)=true->0=q0.snd.code/\0=q0.snd.n/\bM (State.mk v nx kp qt se op sn) q0.fst (b=b))/\((q1.held == b)=false->0=q0.snd.code/\1=q0.snd.n/\bM (State.mk v nx kp qt se op (sn.set i.toNat (Snap.mk q1.id q1.set q1.chunks b q1.tag))) q0.fst (b=b)))) (gi b (State.mk v nx kp qt se op sn) i.toNat)) (sn.getD i.toNat (ao (Sh.nm NT.snap))));(repeat' with_reducible first|apply bd|refine ba ?_|intro)
 all_goals (first | exact bq | ((simp only [gi]; simp_all) <;> (intros; omega)) | (simp only [gi]; grind))
def Ux:bE:=(aK 304 Af (aK 317 DA (aK 316 Nz (aK 315 DX (aK 312 Kb (aK 311 Jm (aK 342 tZ (aK 344 ua (aK 263 qK (aK 341 uh Un))))))))))
theorem ky:ay Tryz.prog (al tyT) Ux:=(ag Ij (ag Qq (ag YY (ag SF (ag Xm (ag YS (ag Gh (ag Hb (ag BN (ag FV fS))))))))))
theorem HQ {p:α->Bool} {l:List α} (h:(l.take k).all p=true) (hk:k<=l.length) (h2:(l.length:Int)<=k\/(k:Int)<l.length/\∃ x,l[k]? = some x/\p x=false):k=(l.takeWhile p).length:=by
 induction l generalizing k with
 | nil=>simp at hk; simp [hk]
 | cons a l ih=>
  cases k with
  | zero=>
   rcases h2 with h2 | ⟨_,x,hx,hp⟩
   ·grind
   simp_all
  | succ k=>
   simp only [afX,ahh,Bool.and_eq_true] at h;rw [List.takeWhile_cons,h.1,if_pos rfl,List.length_cons];congr 1;refine ih h.2 (by simpa using hk) ?_;rcases h2 with h2 | ⟨h3,x,hx,hp⟩
   ·grind
   grind
variable {op:List Opn}
theorem abi {v nx kp qt:Int} {se:List Sess} {sn:List Snap} {c:Command} {s:Nat} (h:ak Opn.set c.set op<0) (hs:s<=op.length) (ha:(op.take s).all (fun y=>decide (y.set<c.set))=true) (hb:(op.length:Int)<=s\/c.set<=(op.getD s (ao (.nm .opn))).set):op.take s++[Opn.mk c.set c.client]++op.drop s=(eD (State.mk v nx kp qt se op sn) c).1.opens:=by
 have h1:¬ 0<=ak Opn.set c.set op:=by omega
 simp only [eD,if_neg h1];have:s=(op.takeWhile fun y=>decide (y.set<c.set)).length:=by
  refine HQ ha hs ?_;grind
 rw [<- this]; simp [yo]
theorem abz {c:Command} {s:Nat} (ha:(op.take s).all (fun y=>decide (y.set<c.set))=true) (h:(s:Int)<op.length) (hb:(op.getD s (ao (.nm .opn))).set<c.set):(op.take (s+1)).all (fun y=>decide (y.set<c.set))=true:=by
 rw [ai (gd (d:=ao (.nm .opn)) h),ahf,ha]; simp only [ahh,decide_eq_true hb]; rfl
section
variable {v nx kp qt:Int} {se:List Sess} {op:List Opn} {sn:List Snap} {c:Command}
theorem bgN (h:ak Opn.set c.set op<0):eD (State.mk v nx kp qt se op sn) c=(State.mk v nx kp qt se (yo op (op.takeWhile fun y=>decide (y.set<c.set)).length ⟨c.set,c.client⟩) sn,⟨0,0⟩):=by
 have h1:¬ 0<=ak Opn.set c.set op:=by omega
 simp only [eD,if_neg h1]
theorem bgY (h:0<=ak Opn.set c.set op):eD (State.mk v nx kp qt se op sn) c=(State.mk v nx kp qt se op sn,⟨16,(op.getD (ak Opn.set c.set op).toNat (ao (.nm .opn))).client⟩):=by
 simp only [eD,if_pos h]
theorem abY (h:cd (State.mk v nx kp qt se op sn) c<0):eF (State.mk v nx kp qt se op sn) c=(State.mk v nx kp qt se op sn,⟨15,0⟩):=by
 simp only [eF,if_pos h]
theorem abN (h:0<=cd (State.mk v nx kp qt se op sn) c):eF (State.mk v nx kp qt se op sn) c=(State.mk v nx kp qt se (op.take (cd (State.mk v nx kp qt se op sn) c).toNat++op.drop (cd (State.mk v nx kp qt se op sn) c+1).toNat) sn,⟨0,0⟩):=by
 have h1:¬ cd (State.mk v nx kp qt se op sn) c<0:=by omega
 simp only [eF,if_neg h1,Qo]
end
def OO (c:Command) (v:Int) (nx:Int) (kp:Int) (qt:Int) (se:List Sess) (op:List Opn) (sn:List Snap):List (Nat × LI):=[(5,{ σ:=Nat,F:=fun k=>([(0,one (.ptr 0 0)),(3,one (.ptr 4 0)),(4,one (.ptr 5 0)),(6,one (.int k))],(rM 0 (State.mk v nx kp qt se op sn)++[.box 35 (cellsOf (.nm .command) (c)),.box 78 ([.int ((0)),.int ((0))])])),J:=fun k=>k<=op.length/\(op.take k).all (fun y=>decide (y.set<c.set))=true,μ:=fun k=>op.length - k })]
def zE:Kn:=aI (ae (kC (aW 0 0)) (ae (kT (.nm .command)) au)) (pz 0 aw) fun (_,c,_) (z,_)=>⟨[z.opens.length<1048576],[.agg (cellsOf (.nm .reply) ((eD z c).2))],some ((rM 0 ((eD z c).1))),false⟩
theorem IM:CK 306 zE:=ah fun (_,c,_) (z,_) hp=>by
 obtain ⟨v,nx,kp,qt,se,op,sn⟩:=z;have h0:op.length<1048576:=bV hp;refine bu ky (OO c v nx kp qt se op sn) Tryz.func306 (?_:(fun (q5:den (Sh.nm NT.opn))=>(fun (q4:Int)=>(fun (q3:Int)=>(fun (q2:Int)=>(fun (q1:State × Reply)=>(fun (q0:Prop)=>bH c (I64 q2->(q3<=q2->q3<=q2/\q2<q4/\(I64 (op.getD q2.toNat q5).set->I64 (op.getD q2.toNat q5).client->16=q1.snd.code/\(op.getD q2.toNat q5).client=q1.snd.n/\cV (State.mk v nx kp qt se op sn) q1.fst))/\(q2<q3->∃ (s0:Nat),(q3=(↑s0:Int)/\q0)/\(s0<=op.length/\((List.take s0 op).all fun (y:Opn)=>decide (y.set<c.set))=true)/\∀ (s:Nat),(fun (q7:Int)=>(fun (q6:Int)=>s<=op.length/\((List.take s op).all fun (y:Opn)=>decide (y.set<c.set))=true->(q6<q4->q3<=q6/\q6<q4)/\((q6<q4->I64 q7/\I64 (op.getD s q5).client)->(q6<q4/\q7<c.set->I64 (q6+1)/\∃ (s':Nat),(q6+1=(↑s':Int)/\q0)/\(s' <= op.length/\((List.take s' op).all fun (y:Opn)=>decide (y.set<c.set))=true)/\op.length - s' < op.length - s)/\(q4<=q6\/c.set<=q7->((q3<=q6/\q6<=q4)/\op.length<1048576/\[Opn.mk c.set c.client].length=1)/\q3=q1.snd.code/\q3=q1.snd.n/\cV (State.mk v nx kp qt se (List.take s op++[Opn.mk c.set c.client]++List.drop s op) sn) q1.fst))) (↑s:Int)) (op.getD s q5).set))) (v=v/\nx=nx/\kp=kp/\qt=qt/\se=se/\op=op/\sn=sn/\bg c c (q3=q3/\q3=q3))) (eD (State.mk v nx kp qt se op sn) c)) (ak Opn.set c.set op)) 0) (↑op.length:Int)) (ao (Sh.nm NT.opn)));iterate 3 ((all_goals (repeat' with_reducible first|apply bd|refine ba ?_|intro)); (all_goals try (first | exact bq | exact rfl | exact dL ab | exact (abz ab ab ab) | exact (abi ab aJ ab (by assumption)) | (rw [bgN]; omega) | (rw [bgY]; omega))); all_goals try first | refine ⟨‹Nat› + 1,?_⟩ | refine ⟨0,?_⟩)
def xS:Kn:=aI (ae (kC (aW 0 0)) (ae (kT (.nm .command)) au)) (pz 0 aw) fun (_,c,_) (z,_)=>⟨[z.opens.length<1048576],[.agg (cellsOf (.nm .reply) ((eF z c).2))],some ((rM 0 ((eF z c).1))),false⟩
theorem On:CK 310 xS:=ah fun (_,c,_) (z,_) hp=>by
 obtain ⟨v,nx,kp,qt,se,op,sn⟩:=z;have h0:op.length<1048576:=bV hp;refine bu ky [] Tryz.func310 (?_:(fun q1=>(fun q0=>(fun q3=>(fun q2=>(fun q4=>bH c (I64 q2->(q2<q1->I64 15->I64 q1->15=q3.code/\q1=q3.n/\cV q0 (eF q0 c).fst)/\(q1<=q2->I64 q4/\(q1<=q2/\q2<(↑op.length:Int)/\q4=q4)/\q1=q3.code/\q1=q3.n/\cV (State.mk v nx kp qt se (List.take q2.toNat op++List.drop q4.toNat op) sn) (eF q0 c).fst))) (q2+1)) (cd q0 c)) (eF q0 c).snd) (State.mk v nx kp qt se op sn)) (0:Int));have hl:0<=cd (State.mk v nx kp qt se op sn) c->cd (State.mk v nx kp qt se op sn) c+1<=(op.length:Int):=fun h=>LC h;(repeat' with_reducible first|apply bd|refine ba ?_|intro)
 all_goals (first | exact bq | (rw [abN]; omega) | (rw [abY]; omega))
def um:Kn:=aI (ae (kC (aW 0 0)) (ae (kT (.nm .command)) au)) (pz 0 aw) fun (_,c,_) (z,_)=>⟨[nch z.snaps<=1048576,z.snaps.length<1048576,z.opens.length<1048576,0<=z.next],[.agg (cellsOf (.nm .reply) ((ek z c).2))],some ((rM 0 ((ek z c).1))),false⟩
theorem GV:CK 308 um:=ah fun (_,c,_) (z,_) hp=>by
 obtain ⟨v,nx,kp,qt,se,op,sn⟩:=z;have h0:nch sn<=1048576:=bV hp;have h1:sn.length<1048576:=bV (eG hp);have h2:op.length<1048576:=bV (eG (eG hp));have h3:0<=nx:=bV (eG (eG (eG hp)));refine bu ky [] Tryz.func308 (?_:(fun q4=>(fun q3=>(fun q2=>(fun q1=>(fun q0=>(fun q7=>(fun q6=>(fun q5=>bH c (I64 q6->(q6<q2->I64 15->I64 q2->15=q7.code/\q5)/\(q2<=q6->(16<=(↑sn.length:Int)\/1048576<=nx->I64 20->I64 q2->20=q7.code/\q5)/\((↑sn.length:Int)<16/\nx<1048576->(¬qt=q2->nch sn<=1048576)/\((¬qt=q2->I64 q1)->(¬qt=q2/\qt<q1->I64 19->I64 q2->19=q7.code/\q5)/\(qt=q2\/q1<=qt->c.chunks.length*8<=140737488355328->(sn.length+[q4].length)*64<=140737488355328/\I64 (nx+q3)/\I64 (q6+q3)/\(q2<=q6/\q6<(↑op.length:Int)/\q6+q3=q6+q3)/\q2=q7.code/\nx=q7.n/\cV (State.mk v (nx+q3) kp qt se (List.take q6.toNat op++List.drop (q6+q3).toNat op) (sn++[q4])) (ek q0 c).fst)))))) (q2=q7.n/\cV q0 (ek q0 c).fst)) (cd q0 c)) (ek q0 c).snd) (State.mk v nx kp qt se op sn)) (↑(jV (sn++[Snap.mk q2 q2 c.chunks false (Str.mk [])])):Int)) (0:Int)) (1:Int)) (Snap.mk nx c.set c.chunks false (Str.mk [])));have hl:0<=cd (State.mk v nx kp qt se op sn) c->cd (State.mk v nx kp qt se op sn) c+1<=(op.length:Int):=fun h=>LC h;(repeat' with_reducible first|apply bd|refine ba ?_|intro)
 all_goals (first | exact bq | (simp only [ek,Qo]; grind) | (simp only [List.length_cons,List.length_nil]; omega))
def MQ:Kn:=aI (ae (kC cI) (ae (kC (aW 0 0)) au)) (pz 0 aw) fun (i,_,_) (z,_)=>⟨[0<=i/\i<(z.snaps.length:Int),nch z.snaps<=1048576],[.agg (cellsOf (.nm .reply) ((dT z i.toNat).2))],some ((rM 0 ((dT z i.toNat).1))),false⟩
theorem YV:CK 314 MQ:=ah fun (i,_,_) (z,_) hp=>by
 obtain ⟨v,nx,kp,qt,se,op,sn⟩:=z;have h0:0<=i/\i<(sn.length:Int):=bV hp;have h1:nch sn<=1048576:=bV (eG hp);refine bu ky [] Tryz.func314 (?_:(fun q0=>I64 i->(0<=i/\i<(↑sn.length:Int))/\nch sn<=1048576/\(I64 q0.snd.code->I64 q0.snd.n->q0.snd.code=q0.snd.code/\q0.snd.n=q0.snd.n/\cV q0.fst q0.fst)) (dT (State.mk v nx kp qt se op sn) i.toNat));(repeat' with_reducible first|apply bd|refine ba ?_|intro)
 all_goals (first | exact bq | exact rfl)
def To:bE:=(aK 314 MQ (aK 308 um (aK 310 xS (aK 306 zE Ux))))
theorem fX:ay Tryz.prog (al tyT) To:=(ag YV (ag GV (ag On (ag IM ky))))
def bm (f:State->Nat->State × Reply) (c:Command) (s:State):State × Reply:=if ak Snap.id c.id s.snaps<0 then (s,⟨15,0⟩) else f s (ak Snap.id c.id s.snaps).toNat
section
variable {v nx kp qt:Int} {se:List Sess} {op:List Opn} {sn:List Snap} {c:Command} {f:State->Nat->State × Reply}
theorem sdY (h:ak Snap.id c.id sn<0):bm f c (State.mk v nx kp qt se op sn)=(State.mk v nx kp qt se op sn,⟨15,0⟩):=by
 simp only [bm,if_pos h]
theorem sdN (h:0<=ak Snap.id c.id sn):bm f c (State.mk v nx kp qt se op sn)=f (State.mk v nx kp qt se op sn) (ak Snap.id c.id sn).toNat:=by
 have h1:¬ ak Snap.id c.id sn<0:=by omega
 simp only [bm,if_neg h1]
end
def MD:Kn:=aI (ae (kC (aW 0 0)) (ae (kC (aW 4 0)) au)) (pz 0 (aA (xn 35 (.nm .command)) aw)) fun _ (z,c,_)=>⟨[z.opens.length<1048576],[.agg (cellsOf (.nm .reply) ((eD z c).2))],some ((rM 0 ((eD z c).1)++[.box 35 (cellsOf (.nm .command) (c))])),false⟩
theorem Yg:CK 305 MD:=ah fun _ (z,c,_) hp=>by
 obtain ⟨v,nx,kp,qt,se,op,sn⟩:=z;have h0:op.length<1048576:=bV hp;refine bu fX [] Tryz.func305 (?_:(fun q0=>op.length<1048576/\(I64 q0.snd.code->I64 q0.snd.n->q0.snd.code=q0.snd.code/\q0.snd.n=q0.snd.n/\bM q0.fst q0.fst (aT c c))) (eD (State.mk v nx kp qt se op sn) c));(repeat' with_reducible first|apply bd|refine ba ?_|intro)
 all_goals (first | exact bq | exact rfl)
def Ot:Kn:=aI (ae (kC (aW 0 0)) (ae (kC (aW 4 0)) au)) (pz 0 (aA (xn 35 (.nm .command)) aw)) fun _ (z,c,_)=>⟨[nch z.snaps<=1048576,z.snaps.length<1048576,z.opens.length<1048576,0<=z.next],[.agg (cellsOf (.nm .reply) ((ek z c).2))],some ((rM 0 ((ek z c).1)++[.box 35 (cellsOf (.nm .command) (c))])),false⟩
theorem Xj:CK 307 Ot:=ah fun _ (z,c,_) hp=>by
 obtain ⟨v,nx,kp,qt,se,op,sn⟩:=z;have h0:nch sn<=1048576:=bV hp;have h1:sn.length<1048576:=bV (eG hp);have h2:op.length<1048576:=bV (eG (eG hp));have h3:0<=nx:=bV (eG (eG (eG hp)));refine bu fX [] Tryz.func307 (?_:(fun q0=>nch sn<=1048576/\sn.length<1048576/\op.length<1048576/\0<=nx/\(I64 q0.snd.code->I64 q0.snd.n->q0.snd.code=q0.snd.code/\q0.snd.n=q0.snd.n/\bM q0.fst q0.fst (aT c c))) (ek (State.mk v nx kp qt se op sn) c));(repeat' with_reducible first|apply bd|refine ba ?_|intro)
 all_goals (first | exact bq | exact rfl)
def Ik:Kn:=aI (ae (kC (aW 0 0)) (ae (kC (aW 4 0)) au)) (pz 0 (aA (xn 35 (.nm .command)) aw)) fun _ (z,c,_)=>⟨[z.opens.length<1048576],[.agg (cellsOf (.nm .reply) ((eF z c).2))],some ((rM 0 ((eF z c).1)++[.box 35 (cellsOf (.nm .command) (c))])),false⟩
theorem WH:CK 309 Ik:=ah fun _ (z,c,_) hp=>by
 obtain ⟨v,nx,kp,qt,se,op,sn⟩:=z;have h0:op.length<1048576:=bV hp;refine bu fX [] Tryz.func309 (?_:(fun q0=>op.length<1048576/\(I64 q0.snd.code->I64 q0.snd.n->q0.snd.code=q0.snd.code/\q0.snd.n=q0.snd.n/\bM q0.fst q0.fst (aT c c))) (eF (State.mk v nx kp qt se op sn) c));(repeat' with_reducible first|apply bd|refine ba ?_|intro)
 all_goals (first | exact bq | exact rfl)
def ns:Kn:=aI (ae (kC (pX 314 [] [(0,0)])) (ae (kC (aW 0 0)) (ae (kC (aW 4 0)) au))) (pz 0 (aA (xn 35 (.nm .command)) aw)) fun _ (z,c,_)=>⟨[],[.c (.fn 301 [] [(0,0),(4,0),(5,0)])],some ((rM 0 z++[.box 35 (cellsOf (.nm .command) (c)),.box 306 ([.fn 314 [] [(0,0)]])])),true⟩
theorem vN:CK 300 ns:=ah fun _ (z,c,_) _=>by
 obtain ⟨v,nx,kp,qt,se,op,sn⟩:=z;refine dj fX [] Tryz.func300 (?_:v=v/\nx=nx/\kp=kp/\qt=qt/\se=se/\op=op/\sn=sn/\aT c c);(repeat' with_reducible first|apply bd|refine ba ?_|intro)
 all_goals (first | exact bq | exact rfl)
def oZ:Kn:=aI (ae (kC (pX 316 [] [(0,0)])) (ae (kC (aW 0 0)) (ae (kC (aW 4 0)) au))) (pz 0 (aA (xn 35 (.nm .command)) aw)) fun _ (z,c,_)=>⟨[],[.c (.fn 301 [] [(0,0),(4,0),(5,0)])],some ((rM 0 z++[.box 35 (cellsOf (.nm .command) (c)),.box 306 ([.fn 316 [] [(0,0)]])])),true⟩
theorem yY:CK 300 oZ:=ah fun _ (z,c,_) _=>by
 obtain ⟨v,nx,kp,qt,se,op,sn⟩:=z;refine dj fX [] Tryz.func300 (?_:v=v/\nx=nx/\kp=kp/\qt=qt/\se=se/\op=op/\sn=sn/\aT c c);(repeat' with_reducible first|apply bd|refine ba ?_|intro)
 all_goals (first | exact bq | exact rfl)
def sg:Kn:=aI (ae (kC (pX 317 [] [(0,0),(1,0)])) (ae (kC (aW 1 0)) (ae (kC (aW 0 0)) au))) (aA (xn 35 (.nm .command)) (pz 1 aw)) fun _ (c,z,_)=>⟨[],[.c (.fn 301 [] [(1,0),(0,0),(5,0)])],some (([.box 35 (cellsOf (.nm .command) (c))]++rM 1 z++[.box 306 ([.fn 317 [] [(0,0),(1,0)]])])),true⟩
theorem Ce:CK 300 sg:=ah fun _ (c,z,_) _=>by
 obtain ⟨v,nx,kp,qt,se,op,sn⟩:=z;refine dj fX [] Tryz.func300 (?_:bg c c (v=v/\nx=nx/\kp=kp/\qt=qt/\se=se/\op=op/\sn=sn));(repeat' with_reducible first|apply bd|refine ba ?_|intro)
 all_goals (first | exact bq | exact rfl)
def oV:Kn:=aI (ae (kC (pX 304 [] [(0,0),(4,0)])) (ae (kC (aW 0 0)) (ae (kC (aW 5 0)) au))) (pz 0 (aA (dB 4 (ax cB dt)) (aA (xn 35 (.nm .command)) aw))) fun _ (z,(b,_),c,_)=>⟨[],[.c (.fn 301 [] [(0,0),(5,0),(6,0)])],some ((rM 0 z++[.box 4 ([.bool (.atom ((b)))]),.box 35 (cellsOf (.nm .command) (c)),.box 306 ([.fn 304 [] [(0,0),(4,0)]])])),true⟩
theorem xU:CK 300 oV:=ah fun _ (z,(b,_),c,_) _=>by
 obtain ⟨v,nx,kp,qt,se,op,sn⟩:=z;refine dj fX [] Tryz.func300 (?_:v=v/\nx=nx/\kp=kp/\qt=qt/\se=se/\op=op/\sn=sn/\b=b/\aT c c);(repeat' with_reducible first|apply bd|refine ba ?_|intro)
 all_goals (first | exact bq | exact rfl)
def TL:bE:=(aK 300 oV (aK 300 sg (aK 300 oZ (aK 300 ns (aK 309 Ik (aK 307 Ot (aK 305 MD To)))))))
theorem iU:ay Tryz.prog (al tyT) TL:=(ag xU (ag Ce (ag yY (ag vN (ag WH (ag Xj (ag Yg fX)))))))
def NN:Kn:=aI (ae (kC cB) (ae (kC (aW 0 0)) (ae (kC (aW 1 0)) au))) (aA (dB 308 (ax (pX 300 [] [(1,0),(5,0)]) dt)) (pz 1 (aA (xn 35 (.nm .command)) aw))) fun (b,_,_,_) ((_,_),z,c,_)=>⟨[],[.c (.fn 301 [] [(1,0),(5,0),(7,0)])],some (([.box 308 ([.fn 300 [] [(1,0),(5,0)]])]++rM 1 z++[.box 35 (cellsOf (.nm .command) (c)),.box 4 ([.bool (.atom ((b)))]),.box 306 ([.fn 304 [] [(1,0),(6,0)]])])),true⟩
theorem Zp:CK 303 NN:=ah fun (b,_,_,_) ((_,_),z,c,_) _=>by
 obtain ⟨v,nx,kp,qt,se,op,sn⟩:=z;refine dj iU [] Tryz.func303 (?_:v=v/\nx=nx/\kp=kp/\qt=qt/\se=se/\op=op/\sn=sn/\bg c c (b=b));(repeat' with_reducible first|apply bd|refine ba ?_|intro)
 all_goals (first | exact bq | exact rfl)
def rA:Kn:=aI (ae (kC (aW 0 0)) (ae (kC (aW 4 0)) (ae (kC (aW 5 0)) au))) (pz 0 (aA (xn 35 (.nm .command)) (aA (dB 306 (ax (pX 314 [] [(0,0)]) dt)) aw))) fun _ (z,c,(_,_),_)=>⟨[nch z.snaps<=1048576],[.agg (cellsOf (.nm .reply) ((bm dT c z).2))],some ((rM 0 ((bm dT c z).1)++[.box 35 (cellsOf (.nm .command) (c)),.box 306 ([.fn 314 [] [(0,0)]])])),false⟩
theorem BC:CK 301 rA:=ah fun _ (z,c,(_,_),_) hp=>by
 obtain ⟨v,nx,kp,qt,se,op,sn⟩:=z;have h0:nch sn<=1048576:=bV hp;refine bu iU [] Tryz.func301 (?_:(fun q1=>(fun q0=>(fun q3=>(fun q2=>I64 q1->(q1<0->I64 15->I64 0->15=q2.snd.code/\0=q2.snd.n/\bM q0 q2.fst (aT c c))/\(0<=q1->(0<=q1/\q1<(↑sn.length:Int))/\nch sn<=1048576/\(I64 q3.code->I64 q3.n->q3.code=q2.snd.code/\q3.n=q2.snd.n/\bM (dT q0 q1.toNat).fst q2.fst (aT c c)))) (bm dT c q0)) (dT q0 q1.toNat).snd) (State.mk v nx kp qt se op sn)) (ak Snap.id c.id sn));(repeat' with_reducible first|apply bd|refine ba ?_|intro)
 all_goals (first | exact bq | exact dL ab | (rw [sdY] <;> first | rfl | omega) | (rw [sdN] <;> first | rfl | omega))
def uU:Kn:=aI (ae (kC (aW 0 0)) (ae (kC (aW 4 0)) (ae (kC (aW 5 0)) au))) (pz 0 (aA (xn 35 (.nm .command)) (aA (dB 306 (ax (pX 316 [] [(0,0)]) dt)) aw))) fun _ (z,c,(_,_),_)=>⟨[],[.agg (cellsOf (.nm .reply) ((bm fB c z).2))],some ((rM 0 ((bm fB c z).1)++[.box 35 (cellsOf (.nm .command) (c)),.box 306 ([.fn 316 [] [(0,0)]])])),false⟩
theorem Hf:CK 301 uU:=ah fun _ (z,c,(_,_),_) _=>by
 obtain ⟨v,nx,kp,qt,se,op,sn⟩:=z;refine bu iU [] Tryz.func301 (?_:(fun q1=>(fun q0=>(fun q3=>(fun q2=>I64 q1->(q1<0->I64 15->I64 0->15=q2.snd.code/\0=q2.snd.n/\bM q0 q2.fst (aT c c))/\(0<=q1->(0<=q1/\q1<(↑sn.length:Int))/\(I64 q3.code->I64 q3.n->q3.code=q2.snd.code/\q3.n=q2.snd.n/\bM (fB q0 q1.toNat).fst q2.fst (aT c c)))) (bm fB c q0)) (fB q0 q1.toNat).snd) (State.mk v nx kp qt se op sn)) (ak Snap.id c.id sn));(repeat' with_reducible first|apply bd|refine ba ?_|intro)
 all_goals (first | exact bq | exact dL ab | (rw [sdY] <;> first | rfl | omega) | (rw [sdN] <;> first | rfl | omega))
def Ab:Kn:=aI (ae (kC (aW 0 0)) (ae (kC (aW 4 0)) (ae (kC (aW 5 0)) au))) (pz 0 (aA (xn 35 (.nm .command)) (aA (dB 306 (ax (pX 317 [] [(4,0),(0,0)]) dt)) aw))) fun _ (z,c,(_,_),_)=>⟨[],[.agg (cellsOf (.nm .reply) ((bm (qu c) c z).2))],some ((rM 0 ((bm (qu c) c z).1)++[.box 35 (cellsOf (.nm .command) (c)),.box 306 ([.fn 317 [] [(4,0),(0,0)]])])),false⟩
theorem LO:CK 301 Ab:=ah fun _ (z,c,(_,_),_) _=>by
 obtain ⟨v,nx,kp,qt,se,op,sn⟩:=z;refine bu iU [] Tryz.func301 (?_:(fun q1=>(fun q0=>(fun q3=>(fun q2=>I64 q1->(q1<0->I64 15->I64 0->15=q2.snd.code/\0=q2.snd.n/\bM q0 q2.fst (aT c c))/\(0<=q1->(0<=q1/\q1<(↑sn.length:Int))/\(I64 q3.code->I64 q3.n->q3.code=q2.snd.code/\q3.n=q2.snd.n/\bM (qu c q0 q1.toNat).fst q2.fst (aT c c)))) (bm (qu c) c q0)) (qu c q0 q1.toNat).snd) (State.mk v nx kp qt se op sn)) (ak Snap.id c.id sn));(repeat' with_reducible first|apply bd|refine ba ?_|intro)
 all_goals (first | exact bq | exact dL ab | (rw [sdY] <;> first | rfl | omega) | (rw [sdN] <;> first | rfl | omega))
def uJ:Kn:=aI (ae (kC (aW 0 0)) (ae (kC (aW 4 0)) (ae (kC (aW 5 0)) au))) (pz 0 (aA (xn 35 (.nm .command)) (aA (dB 306 (ax (pX 304 [] [(0,0),(6,0)]) dt)) (aA (dB 4 (ax cB dt)) aw)))) fun _ (z,c,(_,_),(b,_),_)=>⟨[],[.agg (cellsOf (.nm .reply) ((bm (gi b) c z).2))],some ((rM 0 ((bm (gi b) c z).1)++[.box 35 (cellsOf (.nm .command) (c)),.box 306 ([.fn 304 [] [(0,0),(6,0)]]),.box 4 ([.bool (.atom ((b)))])])),false⟩
theorem Hw:CK 301 uJ:=ah fun _ (z,c,(_,_),(b,_),_) _=>by
 obtain ⟨v,nx,kp,qt,se,op,sn⟩:=z;refine bu iU [] Tryz.func301 (?_:(fun q1=>(fun q0=>(fun q3=>(fun q2=>I64 q1->(q1<0->I64 15->I64 0->15=q2.snd.code/\0=q2.snd.n/\bM q0 q2.fst (bg c c (b=b)))/\(0<=q1->(0<=q1/\q1<(↑sn.length:Int))/\(I64 q3.code->I64 q3.n->q3.code=q2.snd.code/\q3.n=q2.snd.n/\bM (gi b q0 q1.toNat).fst q2.fst (bg c c (b=b))))) (bm (gi b) c q0)) (gi b q0 q1.toNat).snd) (State.mk v nx kp qt se op sn)) (ak Snap.id c.id sn));(repeat' with_reducible first|apply bd|refine ba ?_|intro)
 all_goals (first | exact bq | exact dL ab | (rw [sdY] <;> first | rfl | omega) | (rw [sdN] <;> first | rfl | omega))
def Uy:bE:=(aK 301 uJ (aK 301 Ab (aK 301 uU (aK 301 rA (aK 303 NN TL)))))
theorem yA:ay Tryz.prog (al tyT) Uy:=(ag Hw (ag LO (ag Hf (ag BC (ag Zp iU)))))
def fh (s:State) (c:Command):Int:=if dY s s.version=0 then bB c s.version else 1
def Oq (s:State) (c:Command):State × Reply:=
 if c.kind=11 then bm (qu c) c s
 else if c.kind=10 then bm (gi false) c s
 else if c.kind=9 then bm (gi true) c s
 else if c.kind=7 then bm fB c s
 else if c.kind=5 then bm dT c s
 else if c.kind=12 then nL c s
 else if c.kind=6 then sd c s
 else if c.kind=4 then eF s c
 else if c.kind=3 then ek s c
 else if c.kind=2 then eD s c
 else (s,⟨1,0⟩)
def eI (s:State) (c:Command):State × Reply:=if ¬ fh s c=0 then (s,⟨fh s c,0⟩) else Oq s c
theorem xg {α:Type} {key:α->Int} {most:Int}:∀ {l:List α} {a:Int},az key most a l=true->l=[]\/a+(l.length:Int)<=most
 | [],_,_=>.inl rfl
 | x :: l,a,h=>by
  simp only [az,Bool.and_eq_true] at h;have h1:=HD h.1;rcases xg h.2 with h2 | h2
  ·grind
  grind
theorem gv {s:State} {v:Int} (h:dY s v=0):bX v 1 3=true/\jR s v=true/\yk s=true/\vK s=true/\fw s v=true:=by
 unfold dY at h;grind
theorem XG {s:State} {v:Int} (h:dY s v=0):s.opens.length<=8:=by
 have h1:=(gv h).2.2.2.1;simp only [vK,Bool.and_eq_true] at h1;rcases xg h1.1 with h2 | h2
 ·grind
 omega
theorem Yi {s:State} {v:Int} (h:dY s v=0):s.sess.length<=8:=by
 have h1:=(gv h).2.2.1;simp only [yk,Bool.and_eq_true] at h1;rcases xg h1.1 with h2 | h2
 ·grind
 omega
theorem LF {s:State} {v:Int} (h:dY s v=0):s.snaps.length<=16/\az Snap.id (s.next - 1) 0 s.snaps=true/\∀ x ∈ s.snaps,dg v (wu v) x=true:=by
 have h1:=(gv h).2.2.2.2;simp only [fw] at h1;grind
variable {t:Int}
theorem YL {v:Int} (h:dg v t x=true):cr x.chunks=true:=by
 simp only [dg,Bool.and_eq_true,decide_eq_true_eq] at h;cases hr:cr x.chunks with
 | true=>rfl
 | false=>have:=sm (l:=x.chunks) hr; omega
theorem HO:∀ {l:List Snap},(∀ x ∈ l,cr x.chunks=true)->nch l<=8*l.length
 | [],_=>acY _
 | x :: l,h=>by
  have h1:=HO (l:=l) fun y hy=>h y (abQ _ hy);have h2:=(Et (h x (ac0))).2;have e:nch (x :: l)=x.chunks.length+nch l:=by simp [nch]
  grind
theorem PW {s:State} {v:Int} (h:dY s v=0):nch s.snaps<=128:=by
 have h1:=LF h;have:=HO (l:=s.snaps) fun x hx=>YL (h1.2.2 x hx);omega
theorem XZ {s:State} {v:Int} (h:dY s v=0):1<=s.next/\s.next<=1048576:=by
 have h1:=(gv h).2.1;simp only [jR,Bool.and_eq_true] at h1;exact HD h1.1.1.2
theorem BR {s:State} {c:Command} (h:(if dY s s.version=0 then bB c s.version else 1)=0):dY s s.version=0:=by grind
theorem Zc {s:State} {c:Command} (h:(if dY s s.version=0 then bB c s.version else 1)=0):nch s.snaps<=1048576:=by have:=PW (BR h); omega
theorem abp {s:State} {c:Command} (h:(if dY s s.version=0 then bB c s.version else 1)=0):s.opens.length<1048576:=by have:=XG (BR h); omega
theorem UP {s:State} {c:Command} (h:(if dY s s.version=0 then bB c s.version else 1)=0):s.sess.length<1048576:=by have:=Yi (BR h); omega
theorem ab7 {s:State} {c:Command} (h:(if dY s s.version=0 then bB c s.version else 1)=0):s.snaps.length<1048576:=by have:=(LF (BR h)).1; omega
theorem ZF {s:State} {c:Command} (h:(if dY s s.version=0 then bB c s.version else 1)=0):0<=s.next:=by have:=XZ (BR h); omega
theorem aby {s:State} {c:Command} (h:(if dY s s.version=0 then bB c s.version else 1)=0):eI s c=Oq s c:=by
 have h:fh s c=0:=h;rw [eI,h]; rfl
theorem ago {s:State} {c:Command} (h:¬ (if dY s s.version=0 then bB c s.version else 1)=0):eI s c=(s,⟨(if dY s s.version=0 then bB c s.version else 1),0⟩):=by
 have h:¬ fh s c=0:=h;rw [eI,if_pos h]; rfl
def Iu:Kn:=aI (ae (kT (.nm .state)) (ae (kT (.nm .command)) au)) aw fun (st,c,_) _=>⟨[],[.agg ([.int (((eI st c).1.version)),.int (((eI st c).1.next)),.int (((eI st c).1.keep)),.int (((eI st c).1.quota)),.own 0,.own 1,.own 2]),.agg (cellsOf (.nm .reply) ((eI st c).2))],some ([.row 137 (.nm .sess) (((eI st c).1.sess)),.row 139 (.nm .opn) (((eI st c).1.opens)),.row 172 (.nm .snap) (((eI st c).1.snaps))]),true⟩
theorem Vq:CK 281 Iu:=ah fun (st,c,_) _ _=>by
 refine dj yA [] Tryz.func281 (?_:(fun q18=>(fun q17=>(fun q16=>(fun q15=>(fun q14=>(fun q13=>(fun q12=>(fun q11=>(fun q10=>(fun q9=>(fun q8=>(fun q7=>(fun q6=>(fun q5=>(fun q4=>(fun q3=>(fun q2=>(fun q1=>(fun q19=>(fun q0=>(fun q27=>(fun q26=>(fun q25=>(fun q24=>(fun q23=>(fun q22=>(fun q21=>(fun q20=>fj st (bH c (I64 q18->I64 st.next->I64 st.keep->I64 st.quota->I64 q2->(¬q2=q15->I64 q2->I64 q15->q18=q21/\st.next=q24/\st.keep=q23/\st.quota=q22/\q2=q19/\q20)/\(q2=q15->(q9=11->I64 q5.snd.code->I64 q5.snd.n->q5.fst.version=q21/\q5.fst.next=q24/\q5.fst.keep=q23/\q5.fst.quota=q22/\q5.snd.code=q19/\q5.snd.n=q1.n/\q5.fst.sess=q27/\q5.fst.opens=q25/\q5.fst.snaps=q26)/\(¬q9=11->(q9=10->I64 q3.snd.code->I64 q3.snd.n->q3.fst.version=q21/\q3.fst.next=q24/\q3.fst.keep=q23/\q3.fst.quota=q22/\q3.snd.code=q19/\q3.snd.n=q1.n/\q3.fst.sess=q27/\q3.fst.opens=q25/\q3.fst.snaps=q26)/\(¬q9=10->(q9=9->I64 q4.snd.code->I64 q4.snd.n->q4.fst.version=q21/\q4.fst.next=q24/\q4.fst.keep=q23/\q4.fst.quota=q22/\q4.snd.code=q19/\q4.snd.n=q1.n/\q4.fst.sess=q27/\q4.fst.opens=q25/\q4.fst.snaps=q26)/\(¬q9=9->(q9=7->I64 q6.snd.code->I64 q6.snd.n->q6.fst.version=q21/\q6.fst.next=q24/\q6.fst.keep=q23/\q6.fst.quota=q22/\q6.snd.code=q19/\q6.snd.n=q1.n/\q6.fst.sess=q27/\q6.fst.opens=q25/\q6.fst.snaps=q26)/\(¬q9=7->(q9=5->q16/\(I64 q7.snd.code->I64 q7.snd.n->q7.fst.version=q21/\q7.fst.next=q24/\q7.fst.keep=q23/\q7.fst.quota=q22/\q7.snd.code=q19/\q7.snd.n=q1.n/\q7.fst.sess=q27/\q7.fst.opens=q25/\q7.fst.snaps=q26))/\(¬q9=5->(q9=12->q16/\(I64 q12.snd.code->I64 q12.snd.n->q12.fst.version=q21/\q12.fst.next=q24/\q12.fst.keep=q23/\q12.fst.quota=q22/\q12.snd.code=q19/\q12.snd.n=q1.n/\q12.fst.sess=q27/\q12.fst.opens=q25/\q12.fst.snaps=q26))/\(¬q9=12->(q9=6->I64 q17.code->I64 q17.n->q13.version=q21/\q13.next=q24/\q13.keep=q23/\q13.quota=q22/\q17.code=q19/\q17.n=q1.n/\q13.sess=q27/\q13.opens=q25/\q13.snaps=q26)/\(¬q9=6->(q9=4->q14/\(I64 q10.snd.code->I64 q10.snd.n->q10.fst.version=q21/\q10.fst.next=q24/\q10.fst.keep=q23/\q10.fst.quota=q22/\q10.snd.code=q19/\q10.snd.n=q1.n/\q10.fst.sess=q27/\q10.fst.opens=q25/\q10.fst.snaps=q26))/\(¬q9=4->(q9=3->q16/\st.snaps.length<1048576/\q14/\q15<=st.next/\(I64 q8.snd.code->I64 q8.snd.n->q8.fst.version=q21/\q8.fst.next=q24/\q8.fst.keep=q23/\q8.fst.quota=q22/\q8.snd.code=q19/\q8.snd.n=q1.n/\q8.fst.sess=q27/\q8.fst.opens=q25/\q8.fst.snaps=q26))/\(¬q9=3->(q9=2->q14/\(I64 q11.snd.code->I64 q11.snd.n->q11.fst.version=q21/\q11.fst.next=q24/\q11.fst.keep=q23/\q11.fst.quota=q22/\q11.snd.code=q19/\q11.snd.n=q1.n/\q11.fst.sess=q27/\q11.fst.opens=q25/\q11.fst.snaps=q26))/\(¬q9=2->I64 1->I64 q15->q18=q21/\st.next=q24/\st.keep=q23/\st.quota=q22/\1=q19/\q20)))))))))))))) (q15=q1.n/\st.sess=q27/\st.opens=q25/\st.snaps=q26)) q0.version) q0.quota) q0.keep) q0.next) q0.opens) q0.snaps) q0.sess) (eI st c).fst) q1.code) (eI st c).snd) (if dY st q18=q15 then bB c q18 else 1)) (bm (gi false) c st)) (bm (gi true) c st)) (bm (qu c) c st)) (bm fB c st)) (bm dT c st)) (ek st c)) c.kind) (eF st c)) (eD st c)) (nL c st)) (sd c st).fst) (st.opens.length<1048576)) (0:Int)) (nch st.snaps<=1048576)) (sd c st).snd) st.version)
 (repeat' with_reducible first|apply bd|refine ba ?_|intro)
 all_goals (first | exact bq | exact (Zc ab) | exact (abp ab) | exact (UP ab) | exact (ab7 ab) | exact (ZF ab) | (rw [ago ab]; done) | (rw [aby ab]; simp only [Oq, *]; done) | (rw [aby ab]; simp [Oq, *]; done))
def UZ:bE:=(aK 281 Iu Uy)
theorem xv:ay Tryz.prog (al tyT) UZ:=(ag Vq yA)
def cu (s:State) (c:Command):State × Reply:=
 if ak Sess.client c.client s.sess<0 then (s,⟨11,0⟩)
 else if c.seq=(s.sess.getD (ak Sess.client c.client s.sess).toNat (ao (.nm .sess))).seq then (s,(s.sess.getD (ak Sess.client c.client s.sess).toNat (ao (.nm .sess))).last)
 else if c.seq<(s.sess.getD (ak Sess.client c.client s.sess).toNat (ao (.nm .sess))).seq then (s,⟨13,0⟩)
 else if (s.sess.getD (ak Sess.client c.client s.sess).toNat (ao (.nm .sess))).seq+1<c.seq then (s,⟨14,0⟩)
 else ({ (eI s c).1 with sess:=(eI s c).1.sess.set (ak Sess.client c.client s.sess).toNat { (eI s c).1.sess.getD (ak Sess.client c.client s.sess).toNat (ao (.nm .sess)) with seq:=c.seq,last:=(eI s c).2 } },(eI s c).2)
def pK (s:State) (c:Command):State × Reply:=
 if ¬ fh s c=0 then (s,⟨fh s c,0⟩)
 else if c.kind=8 then (if ¬ c.n=s.version+1 then (s,⟨1,0⟩) else ({ s with version:=c.n },⟨0,c.n⟩))
 else if c.kind=1 then (if 0<=ak Sess.client c.client s.sess then (s,⟨12,0⟩) else ({ s with sess:=yo s.sess (s.sess.takeWhile fun y=>decide (y.client<c.client)).length ⟨c.client,0,⟨0,0⟩⟩ },⟨0,0⟩))
 else cu s c
variable {Q:State × Reply->Prop}
theorem Rh {s:State} {c:Command} (h0:∀ e:Int,¬ e=0->Q (s,⟨e,0⟩))
  (hs:∀ f:State->Nat->State × Reply,fh s c=0->(f=qu c\/(∃ b,f=gi b)\/f=fB\/f=dT)->Q (bm f c s))
  (hq:fh s c=0->Q (nL c s)) (hk:fh s c=0->Q (sd c s)) (ha:fh s c=0->Q (eF s c)) (hc:fh s c=0->Q (ek s c)) (hb:fh s c=0->Q (eD s c)):Q (eI s c):=by
 unfold eI;split
 ·exact h0 _ (by assumption)
 rename_i h;have h:fh s c=0:=ac9.1 h;unfold Oq;split
 ·exact hs _ h (.inl rfl)
 split
 ·exact hs _ h (.inr (.inl ⟨_,rfl⟩))
 split
 ·exact hs _ h (.inr (.inl ⟨_,rfl⟩))
 split
 ·exact hs _ h (.inr (.inr (.inl rfl)))
 split
 ·exact hs _ h (.inr (.inr (.inr rfl)))
 split
 ·exact hq h
 split
 ·exact hk h
 split
 ·exact ha h
 split
 ·exact hc h
 split
 ·exact hb h
 exact h0 1 (by decide)
theorem Hx {f:State->Nat->State × Reply} {s:State} {c:Command} (h0:∀ e:Int,¬ e=0->Q (s,⟨e,0⟩)) (h:∀ n:Nat,(n:Int)=ak Snap.id c.id s.snaps->Q (f s n)):Q (bm f c s):=by
 unfold bm;grind
theorem GB {s:State} {c:Command}:(eI s c).1.sess=s.sess:=by
 refine Rh (Q:=fun r=>r.1.sess=s.sess) (fun _ _=>rfl) (fun f _ hf=>?_) (fun _=>rfl) (fun _=>rfl) (fun _=>?_) (fun _=>?_) (fun _=>?_)
 ·refine Hx (Q:=fun r=>r.1.sess=s.sess) (fun _ _=>rfl) fun n _=>?_;rcases hf with rfl | ⟨b,rfl⟩ | rfl | rfl
  ·rfl
  ·unfold gi; split <;> rfl
  ·rfl
  unfold dT; split; rfl; split <;> rfl
 ·unfold eF; split <;> rfl
 ·unfold ek; split; rfl; split; rfl; split <;> rfl
 unfold eD; split <;> rfl
theorem yH {l:List Sess} {q:Int} {R:Reply} (h:k<l.length):(l.set k (Sess.mk (l.getD k (ao (.nm .sess))).client q (l.getD k (ao (.nm .sess))).last)).set k (Sess.mk ((l.set k (Sess.mk (l.getD k (ao (.nm .sess))).client q (l.getD k (ao (.nm .sess))).last)).getD k (ao (.nm .sess))).client ((l.set k (Sess.mk (l.getD k (ao (.nm .sess))).client q (l.getD k (ao (.nm .sess))).last)).getD k (ao (.nm .sess))).seq R)=l.set k { l.getD k (ao (.nm .sess)) with seq:=q,last:=R }:=by simp_all
section
variable {v nx kp qt:Int} {se:List Sess} {op:List Opn} {sn:List Snap} {c:Command}
theorem as1 (h:ak Sess.client c.client se<0):cu (State.mk v nx kp qt se op sn) c=(State.mk v nx kp qt se op sn,⟨11,0⟩):=by
 simp only [cu,if_pos h]
theorem as2 (h:0<=ak Sess.client c.client se) (e:c.seq=(se.getD (ak Sess.client c.client se).toNat (ao (.nm .sess))).seq):cu (State.mk v nx kp qt se op sn) c=(State.mk v nx kp qt se op sn,(se.getD (ak Sess.client c.client se).toNat (ao (.nm .sess))).last):=by
 have h1:¬ ak Sess.client c.client se<0:=by omega
 simp only [cu,if_neg h1,if_pos e]
theorem as3 (h:0<=ak Sess.client c.client se) (e:¬ c.seq=(se.getD (ak Sess.client c.client se).toNat (ao (.nm .sess))).seq) (l:c.seq<(se.getD (ak Sess.client c.client se).toNat (ao (.nm .sess))).seq):cu (State.mk v nx kp qt se op sn) c=(State.mk v nx kp qt se op sn,⟨13,0⟩):=by
 have h1:¬ ak Sess.client c.client se<0:=by omega
 simp only [cu,if_neg h1,if_neg e,if_pos l]
theorem as4 (h:0<=ak Sess.client c.client se) (e:¬ c.seq=(se.getD (ak Sess.client c.client se).toNat (ao (.nm .sess))).seq) (l:(se.getD (ak Sess.client c.client se).toNat (ao (.nm .sess))).seq<=c.seq) (g:(se.getD (ak Sess.client c.client se).toNat (ao (.nm .sess))).seq+1<c.seq):cu (State.mk v nx kp qt se op sn) c=(State.mk v nx kp qt se op sn,⟨14,0⟩):=by
 have h1:¬ ak Sess.client c.client se<0:=by omega
 have h2:¬ c.seq<(se.getD (ak Sess.client c.client se).toNat (ao (.nm .sess))).seq:=by omega
 simp only [cu,if_neg h1,if_neg e,if_neg h2,if_pos g]
theorem as5 (h:0<=ak Sess.client c.client se) (e:¬ c.seq=(se.getD (ak Sess.client c.client se).toNat (ao (.nm .sess))).seq) (l:(se.getD (ak Sess.client c.client se).toNat (ao (.nm .sess))).seq<=c.seq) (g:c.seq<=(se.getD (ak Sess.client c.client se).toNat (ao (.nm .sess))).seq+1):cu (State.mk v nx kp qt se op sn) c=({ (eI (State.mk v nx kp qt se op sn) c).1 with sess:=(eI (State.mk v nx kp qt se op sn) c).1.sess.set (ak Sess.client c.client se).toNat { (eI (State.mk v nx kp qt se op sn) c).1.sess.getD (ak Sess.client c.client se).toNat (ao (.nm .sess)) with seq:=c.seq,last:=(eI (State.mk v nx kp qt se op sn) c).2 } },(eI (State.mk v nx kp qt se op sn) c).2):=by
 have h1:¬ ak Sess.client c.client se<0:=by omega
 have h2:¬ c.seq<(se.getD (ak Sess.client c.client se).toNat (ao (.nm .sess))).seq:=by omega
 have h3:¬ (se.getD (ak Sess.client c.client se).toNat (ao (.nm .sess))).seq+1<c.seq:=by omega
 simp only [cu,if_neg h1,if_neg e,if_neg h2,if_neg h3]
theorem Kz (h:0<=ak Sess.client c.client se):ak Sess.client c.client se<((eI (State.mk v nx kp qt se op sn) c).1.sess.length:Int):=by rw [GB]; exact dL h
theorem xX (h:0<=ak Sess.client c.client se):(ak Sess.client c.client se).toNat<(eI (State.mk v nx kp qt se op sn) c).1.sess.length:=by have:=Kz (v:=v) (nx:=nx) (kp:=kp) (qt:=qt) (op:=op) (sn:=sn) h; omega
theorem ab3 {x:Sess} (h:0<=ak Sess.client c.client se):ak Sess.client c.client se<(((eI (State.mk v nx kp qt se op sn) c).1.sess.set (ak Sess.client c.client se).toNat x).length:Int):=by rw [adg]; exact Kz h
theorem af_ (h:fh (State.mk v nx kp qt se op sn) c=0) (h0:0<=ak Sess.client c.client se):I64 ((se.getD (ak Sess.client c.client se).toNat (ao (.nm .sess))).seq+1):=by
 have h1:=(gv (BR h)).2.2.1;simp only [yk,Bool.and_eq_true,afw] at h1;have h2:=h1.2 _ (ac4 (gd (d:=ao (.nm .sess)) (k:=(ak Sess.client c.client se).toNat) (l:=se) (by have:=dL h0; omega)));simp only [dN,Bool.and_eq_true] at h2;have h3:=HD h2.1.1;constructor <;> omega
end
def xC:Kn:=aI (ae (kG (ax cI (ax cI (ax cI (ax cI (ax (eN 0) (ax (eN 1) (ax (eN 2) dt)))))))) (ae (kT (.nm .command)) au)) (aA (eO 137 (.nm .sess)) (aA (eO 139 (.nm .opn)) (aA (eO 172 (.nm .snap)) aw))) fun ((v,nx,kp,qt,_,_,_,_),c,_) (se,op,sn,_)=>⟨[fh (State.mk v nx kp qt se op sn) c=0],[.agg ([.int (((cu (State.mk v nx kp qt se op sn) c).1.version)),.int (((cu (State.mk v nx kp qt se op sn) c).1.next)),.int (((cu (State.mk v nx kp qt se op sn) c).1.keep)),.int (((cu (State.mk v nx kp qt se op sn) c).1.quota)),.own 0,.own 1,.own 2]),.agg (cellsOf (.nm .reply) ((cu (State.mk v nx kp qt se op sn) c).2))],some ([.row 137 (.nm .sess) (((cu (State.mk v nx kp qt se op sn) c).1.sess)),.row 139 (.nm .opn) (((cu (State.mk v nx kp qt se op sn) c).1.opens)),.row 172 (.nm .snap) (((cu (State.mk v nx kp qt se op sn) c).1.snaps))]),false⟩
theorem Jx:CK 264 xC:=ah fun ((v,nx,kp,qt,_,_,_,_),c,_) (se,op,sn,_) hp=>by
 have h0:=bV hp;refine bu xv [] Tryz.func264 (?_:(fun q4=>(fun q3=>(fun q2=>(fun q1=>(fun q5=>(fun q6=>(fun q7=>(fun q0=>(fun q12=>(fun q11=>(fun q10=>(fun q13=>(fun q9=>(fun q8=>(fun q18=>(fun q17=>(fun q16=>(fun q15=>(fun q14=>(fun q19=>I64 v->I64 nx->I64 kp->I64 qt->bH c (I64 q1->(q1<q3->I64 11->I64 q3->q15/\q17/\q18/\q16/\11=q11.code/\q19)/\(q3<=q1->q3<=q1/\q1<(↑se.length:Int)/\jz q6 ((q4=q6.seq->q15/\q17/\q18/\q16/\q6.last.code=q11.code/\q6.last.n=q11.n/\q14)/\(¬q4=q6.seq->(q4<q6.seq->I64 13->I64 q3->q15/\q17/\q18/\q16/\13=q11.code/\q19)/\(q6.seq<=q4->I64 q7/\(q7<q4->I64 14->I64 q3->q15/\q17/\q18/\q16/\14=q11.code/\q19)/\(q4<=q7->I64 q10.version->I64 q10.next->I64 q10.keep->I64 q10.quota->I64 q12.code->I64 q12.n->(q3<=q1/\q1<(↑q10.sess.length:Int))/\jz q13 (q3<=q1/\q1<(↑q9.length:Int))/\jz q13 (jz (q9.getD q5 q2) (q10.version=q8.version/\q10.next=q8.next/\q10.keep=q8.keep/\q10.quota=q8.quota/\q12.code=q11.code/\q12.n=q11.n/\q9.set q5 (Sess.mk (q9.getD q5 q2).client (q9.getD q5 q2).seq q12)=q8.sess/\q10.opens=q8.opens/\q10.snaps=q8.snaps))))))))) (q3=q11.n/\q14)) (se=q8.sess/\op=q8.opens/\sn=q8.snaps)) (v=q8.version)) (qt=q8.quota)) (nx=q8.next)) (kp=q8.keep)) (cu q0 c).fst) (q10.sess.set q5 (Sess.mk q13.client q4 q13.last))) (q10.sess.getD q5 q2)) (eI q0 c).fst) (cu q0 c).snd) (eI q0 c).snd) (State.mk v nx kp qt se op sn)) (q6.seq+1)) (se.getD q5 q2)) q1.toNat) (ak Sess.client c.client se)) (ao (Sh.nm NT.sess))) (0:Int)) c.seq);(repeat' with_reducible first|apply bd|refine ba ?_|intro)
 all_goals (first | exact bq | exact dL ab | exact Kz ab | exact ab3 ab | exact af_ ab ab | (rw [as1] <;> first | rfl | with_reducible assumption | exact yH (xX ab)) | (rw [as2] <;> first | rfl | with_reducible assumption | exact yH (xX ab)) | (rw [as3] <;> first | rfl | with_reducible assumption | exact yH (xX ab)) | (rw [as4] <;> first | rfl | with_reducible assumption | exact yH (xX ab)) | (rw [as5] <;> first | rfl | with_reducible assumption | exact yH (xX ab)))
def UQ:bE:=(aK 264 xC UZ)
theorem zV:ay Tryz.prog (al tyT) UQ:=(ag Jx xv)
section
variable {s:State} {c:Command}
theorem aeZ (h:(if dY s s.version=0 then bB c s.version else 1)=0):fh s c=0:=h
theorem ae1 (h:(if dY s s.version=0 then bB c s.version else 1)=0):I64 (s.version+1):=by
 have h1:=(gv (BR h)).2.1;simp only [jR,Bool.and_eq_true] at h1;have:=HD h1.1.1.1;constructor <;> omega
theorem doE (h:¬ (if dY s s.version=0 then bB c s.version else 1)=0):pK s c=(s,⟨(if dY s s.version=0 then bB c s.version else 1),0⟩):=by
 have h:¬ fh s c=0:=h;rw [pK,if_pos h]; rfl
theorem doM (h:(if dY s s.version=0 then bB c s.version else 1)=0):pK s c=if c.kind=8 then (if ¬ c.n=s.version+1 then (s,⟨1,0⟩) else ({ s with version:=c.n },⟨0,c.n⟩))
 else if c.kind=1 then (if 0<=ak Sess.client c.client s.sess then (s,⟨12,0⟩) else ({ s with sess:=yo s.sess (s.sess.takeWhile fun y=>decide (y.client<c.client)).length ⟨c.client,0,⟨0,0⟩⟩ },⟨0,0⟩))
 else cu s c:=by
 have h:¬ ¬ fh s c=0:=fun k=>k h;rw [pK,if_neg h]
theorem afP (h:(if dY s s.version=0 then bB c s.version else 1)=0) (k:c.kind=8) (n:¬ c.n=s.version+1):pK s c=(s,⟨1,0⟩):=by rw [doM h,if_pos k,if_pos n]
theorem aev (h:(if dY s s.version=0 then bB c s.version else 1)=0) (k:c.kind=8) (n:c.n=s.version+1):pK s c=({ s with version:=c.n },⟨0,c.n⟩):=by rw [doM h,if_pos k,if_neg (fun h=>h n)]
theorem afQ (h:(if dY s s.version=0 then bB c s.version else 1)=0) (k:c.kind=1) (n:0<=ak Sess.client c.client s.sess):pK s c=(s,⟨12,0⟩):=by rw [doM h,if_neg (by omega),if_pos k,if_pos n]
theorem adE (h:(if dY s s.version=0 then bB c s.version else 1)=0) (k:c.kind=1) (n:ak Sess.client c.client s.sess<0):pK s c=({ s with sess:=yo s.sess (s.sess.takeWhile fun y=>decide (y.client<c.client)).length ⟨c.client,0,⟨0,0⟩⟩ },⟨0,0⟩):=by rw [doM h,if_neg (by omega),if_pos k,if_neg (by omega)]
theorem doX (h:(if dY s s.version=0 then bB c s.version else 1)=0) (k:¬ c.kind=8) (n:¬ c.kind=1):pK s c=cu s c:=by rw [doM h,if_neg k,if_neg n]
variable {l:List Sess}
theorem nK {x:Sess} (hs:k<=l.length) (ha:(l.take k).all (fun y=>decide (y.client<c.client))=true) (hb:(l.length:Int)<=k\/c.client<=(l.getD k (ao (.nm .sess))).client):l.take k++[x]++l.drop k=yo l (l.takeWhile fun y=>decide (y.client<c.client)).length x:=by
 have:k=(l.takeWhile fun y=>decide (y.client<c.client)).length:=by
  refine HQ ha hs ?_;grind
 rw [<- this]; simp [yo]
theorem aco (ha:(l.take k).all (fun y=>decide (y.client<c.client))=true) (h:(k:Int)<l.length) (hb:(l.getD k (ao (.nm .sess))).client<c.client):(l.take (k+1)).all (fun y=>decide (y.client<c.client))=true:=by
 rw [ai (gd (d:=ao (.nm .sess)) h),ahf,ha]; simp only [ahh,decide_eq_true hb]; rfl
end
def adH (st:State) (c:Command):List (Nat × LI):=[(15,{ σ:=Nat,F:=fun k=>([(2,one (.ptr 0 0)),(3,one (.ptr 1 0)),(4,one (.ptr 2 0)),(5,one (.ptr 3 0)),(7,one (.int k))],[.box 46 ([.int ((st.version)),.int ((st.next)),.int ((st.keep)),.int ((st.quota)),.own 4,.own 5,.own 6]),.box 35 (cellsOf (.nm .command) (c)),.box 46 ([.int ((0)),.int ((0)),.int ((0)),.int ((0)),.em true,.em true,.em true]),.box 78 ([.int ((0)),.int ((0))]),.row 137 (.nm .sess) ((st.sess)),.row 139 (.nm .opn) ((st.opens)),.row 172 (.nm .snap) ((st.snaps))]),J:=fun k=>k<=st.sess.length/\(st.sess.take k).all (fun y=>decide (y.client<c.client))=true,μ:=fun k=>st.sess.length - k })]
def TQ:Kn:=aI (ae (kT (.nm .state)) (ae (kT (.nm .command)) au)) aw fun (st,c,_) _=>⟨[],[.agg ([.int (((pK st c).1.version)),.int (((pK st c).1.next)),.int (((pK st c).1.keep)),.int (((pK st c).1.quota)),.own 0,.own 1,.own 2]),.agg (cellsOf (.nm .reply) ((pK st c).2))],some ([.row 137 (.nm .sess) (((pK st c).1.sess)),.row 139 (.nm .opn) (((pK st c).1.opens)),.row 172 (.nm .snap) (((pK st c).1.snaps))]),true⟩
theorem ab8:CK 227 TQ:=ah fun (st,c,_) _ _=>by
 refine dj zV (adH st c) Tryz.func227 (?_:(fun (q14:List Opn)=>(fun (q13:Int)=>(fun (q12:Int)=>(fun (q11:Reply)=>(fun (q10:Int)=>(fun (q9:den (Sh.nm NT.sess))=>(fun (q8:Int)=>(fun (q7:Int)=>(fun (q6:Reply)=>(fun (q5:State)=>(fun (q4:Int)=>(fun (q16:Int)=>(fun (q15:Int)=>(fun (q3:List Sess)=>(fun (q18:Int)=>(fun (q17:Int)=>(fun (q2:Int)=>(fun (q20:Prop)=>(fun (q19:Int)=>(fun (q1:Prop)=>(fun (q0:State)=>(fun (q26:Prop)=>(fun (q25:Prop)=>(fun (q24:Prop)=>(fun (q23:Prop)=>(fun (q22:Prop)=>(fun (q21:Prop)=>(fun (q27:Prop)=>fj st (bH c (I64 q4->I64 q13->I64 q12->I64 q10->I64 q19->(¬q19=q2->I64 q19->I64 q2->q25/\q23/\q24/\q22/\q19=q6.code/\q27)/\(q19=q2->(c.kind=8->I64 (q4+q7)/\(¬c.n=q4+q7->I64 q7->I64 q2->q25/\q23/\q24/\q22/\q7=q6.code/\q27)/\(c.n=q4+q7->c.n=q0.version/\q23/\q24/\q22/\q2=q6.code/\c.n=q6.n/\q21))/\(¬c.kind=8->(c.kind=q7->I64 q18->(q2<=q18->I64 12->I64 q2->q25/\q23/\q24/\q22/\12=q6.code/\q27)/\(q18<q2->∃ (s0:Nat),(q2=(↑s0:Int)/\q1)/\(s0<=q3.length/\((List.take s0 q3).all fun (y:Sess)=>decide (y.client<q8))=true)/\∀ (s:Nat),(fun (q29:Int)=>(fun (q28:den (Sh.nm NT.sess))=>s<=q3.length/\((List.take s q3).all fun (y:Sess)=>decide (y.client<q8))=true->(q29<q17->q2<=q29/\q29<q17)/\((q29<q17->I64 q28.client/\I64 q28.seq/\I64 q28.last.code/\I64 q28.last.n)->(q29<q17/\q28.client<q8->I64 (q29+q7)/\∃ (s':Nat),(q29+q7=(↑s':Int)/\q1)/\(s' <= q3.length/\((List.take s' q3).all fun (y:Sess)=>decide (y.client<q8))=true)/\q3.length - s' < q3.length - s)/\(q17<=q29\/q8<=q28.client->(q2<=q29/\q29<=q17)/\q3.length<1048576/\[Sess.mk q8 q2 (Reply.mk q2 q2)].length=1/\q25/\q23/\q24/\q22/\q2=q6.code/\q2=q6.n/\List.take s q3++[Sess.mk q8 q2 (Reply.mk q2 q2)]++List.drop s q3=q0.sess/\q26))) (q3.getD s q9)) (↑s:Int)))/\(¬c.kind=q7->fh st c=q2/\(I64 q5.version->I64 q5.next->I64 q5.keep->I64 q5.quota->I64 q11.code->I64 q11.n->q5.version=q0.version/\q5.next=q0.next/\q5.keep=q0.keep/\q5.quota=q0.quota/\q11.code=q6.code/\q11.n=q6.n/\q5.sess=q0.sess/\q5.opens=q0.opens/\q5.snaps=q0.snaps))))))) (q2=q6.n/\q21)) (q3=q0.sess/\q26)) (q10=q0.quota)) (q13=q0.next)) (q12=q0.keep)) (q4=q0.version)) (q14=q0.opens/\st.snaps=q0.snaps)) (pK st c).fst) (q4=q4/\q13=q13/\q12=q12/\q10=q10/\bg c c (q20/\q20/\q20/\q20/\q20/\q20/\q3=q3/\q14=q14/\st.snaps=st.snaps))) (if q15=q2 then q16 else q7)) (q2=q2)) 0) (↑q3.length:Int)) (ak Sess.client q8 q3)) st.sess) (dY st q4)) (bB c q4)) st.version) (cu st c).fst) (pK st c).snd) 1) c.client) (ao (Sh.nm NT.sess))) st.quota) (cu st c).snd) st.keep) st.next) st.opens);iterate 3 ((all_goals (repeat' with_reducible first|apply bd|refine ba ?_|intro)); (all_goals try (first | exact bq | exact rfl | exact aeZ ab | exact ae1 ab | exact UP ab | exact aco ab ab ab | (rw [doE] <;> first | rfl | with_reducible assumption | exact nK aJ ab (by assumption)) | (rw [afP] <;> first | rfl | with_reducible assumption | exact nK aJ ab (by assumption)) | (rw [aev] <;> first | rfl | with_reducible assumption | exact nK aJ ab (by assumption)) | (rw [afQ] <;> first | rfl | with_reducible assumption | exact nK aJ ab (by assumption)) | (rw [adE] <;> first | rfl | with_reducible assumption | exact nK aJ ab (by assumption)) | (rw [doX] <;> first | rfl | with_reducible assumption | exact nK aJ ab (by assumption)))); all_goals try first | refine ⟨‹Nat› + 1,?_⟩ | refine ⟨0,?_⟩)
def TM:bE:=(aK 227 TQ UQ)
theorem LU:ay Tryz.prog (al tyT) TM:=(ag ab8 zV)
def Vf:bE:=TM
theorem ML:ay Tryz.prog (al tyT) Vf:=LU
def TZ:bE:=Vf
theorem JR:ay Tryz.prog (al tyT) TZ:=ML
section
variable {s:State} {c:Command}
end
theorem Rq {c:Command} {v:Int} (h:bB c v=0):(1<=v/\v<=3)/\¬ cm c.kind=0/\cm c.kind<=v/\lB c=true:=by
 unfold bB at h;split at h
 ·cases h
 rename_i h1;rw [Bool.or_eq_true,not_or] at h1;simp only [adz,Bool.not_eq_false,decide_eq_true_eq] at h1;split at h
 ·cases h
 split at h
 ·cases h
 rename_i h2 h3;exact ⟨HD h1.1,h1.2,by omega,by simpa using h3⟩
section
variable {α:Type} {key:α->Int} {most:Int}
end
section
variable {α:Type} {key:α->Int} {most:Int}
end
section
variable {s:State} {c:Command}
end
section
variable {α:Type} {key:α->Int} {most:Int}
end
section
variable {s:State} {x:Snap} {i:Nat}
end
section
variable {s:State} {x:Snap} {i:Nat}
end
section
variable {s:State} {x:Snap} {i:Nat}
end
section
variable {s:State} {c:Command} {k:Nat}
end
section
variable {α:Type} {key:α->Int} {most:Int}
end
section
variable {s:State} {c:Command}
end
section
variable {α:Type} {key:α->Int} {x y d:α}
variable {l:List α} {k:Nat}
end
def UC:bE:=TZ
theorem NR:ay Tryz.prog (al tyT) UC:=JR
section
variable {st:State} {c:Command}
variable {i:Int} {x:Snap}
end
def UH:bE:=UC
theorem MH:ay Tryz.prog (al tyT) UH:=NR
section
variable {st:State} {c:Command}
end
def UY:bE:=UH
theorem Ki:ay Tryz.prog (al tyT) UY:=MH
section
variable {st:State} {c:Command}
end
def TW:bE:=UY
theorem xJ:ay Tryz.prog (al tyT) TW:=Ki
def vd (l:List Int):Int:=match l.findIdx? (fun x=>!bF x) with
 | some i=>(i:Int)
 | none=>-1
section
variable {l:List Int} {k:Nat} {x:Int}
theorem tL:vd l=ak (fun x=>if bF x=true then 0 else 1) 1 l:=by
 have e:(fun x=>!bF x)=fun x:Int=>decide ((if bF x=true then (0:Int) else 1)=1):=by
  funext x;cases bF x <;> rfl
 unfold vd ak; rw [e]; rfl
theorem Zn (h:vd (l.take k) = -1) (hx:l[k]? = some x) (hn:(!bF x)=false):vd (l.take (k+1)) = -1:=by
 rw [Bool.not_eq_false'] at hn;rw [tL] at h ⊢;exact nb h hx (by rw [if_pos hn]; decide)
theorem RA (h:vd (l.take k) = -1) (hx:l[k]? = some x) (hn:(!bF x)=true):(k:Int)=vd l:=by
 rw [adz] at hn;rw [tL] at h ⊢;exact kY h hx (by rw [hn]; rfl)
theorem Vt (h:vd (l.take k) = -1) (hk:l.length<=k):-1=vd l:=by rw [List.take_of_length_le hk] at h; exact h.symm
theorem QH:decide (0<=vd l) = !l.all bF:=by
 cases e:l.findIdx? (fun x=>!bF x) with
 | none=>
  have h:=List.findIdx?_eq_none_iff.1 e;have:l.all bF=true:=afw.2 fun x hx=>by simpa using h x hx
  unfold vd; rw [e,this]; rfl
 | some i=>
  obtain ⟨hi,hp,_⟩:=aeW.1 e;have:l.all bF=false:=by
   rw [List.all_eq_false];exact ⟨l[i],aee hi,by simpa using hp⟩
  unfold vd; rw [e,this];show decide (0<=(i:Int))=true;rw [decide_eq_true_eq]; omega
end
def yg:Kn:=aI (ae (kC cI) au) aw fun (k,_) _=>⟨[],[.c (.bool (.atom ((bF k))))],none,false⟩
theorem Lm:CK 86 yg:=ah fun (k,_) _ _=>by
 refine av xJ [] Tryz.func86 (?_:I64 k->(decide (1<=k) && decide (k<=3))=bF k);grind [bF]
def Ul:bE:=(aK 86 yg TW)
theorem rv:ay Tryz.prog (al tyT) Ul:=(ag Lm xJ)
section
variable {st:State} {v:Int}
end
def uC:Kn:=aI (ae (kC cI) (ae (kC cI) au)) aw fun (a,b,_) _=>⟨[],[.c (.int ((bR a b)))],none,false⟩
theorem Gy:CK 43 uC:=ah fun (a,b,_) _ _=>by
 refine av rv [] Tryz.func43 (?_:I64 a->I64 b->(bF a=false\/bF b=false->1=bR a b)/\(bF a=true/\bF b=true->(a<b->32=bR a b)/\(b<=a->0=bR a b)));grind [bR,bF]
def Ak:Kn:=aI (ae (kC cI) au) aw fun (n,_) _=>⟨[],[.c (.bool (.atom ((!bF n))))],none,false⟩
theorem LW:CK 157 Ak:=ah fun (n,_) _ _=>by
 refine av rv [] Tryz.func157 (?_:I64 n->(!bF n) = !bF n);grind
def Uh:bE:=(aK 157 Ak (aK 43 uC Ul))
theorem sR:ay Tryz.prog (al tyT) Uh:=(ag LW (ag Gy rv))
variable {l:List Int}
theorem QB {s:Nat} {x:Int} (hx:l[((s:Int)+1).toNat]? = some x):min (ir l (s+1)) x=ir l (s+1+1):=Cm (by omega) (by rwa [show ((s:Int)+1).toNat=s+1 by omega] at hx)
def QI (l:List Int):List (Nat × LI):=[(2,{ σ:=Nat,F:=fun k=>([(0,one (.fz .int (l))),(1,one (.fn 157 [] [])),(7,one (.int (l).length)),(8,one (.int k))],[]),J:=fun k=>k<=l.length/\vd (l.take k) = -1,μ:=fun k=>(l).length - k })]
def aa9 (l:List Int):List (Nat × LI):=[(5,{ σ:=Nat,F:=fun k=>([(0,one (.fz .int (l))),(3,one (.int (ir l (k+1)))),(4,one (.int (k+1)))],[]),J:=fun k=>k+1<=l.length,μ:=fun k=>l.length - k })]
def z_:Kn:=aI (ae (kC (cL .int)) (ae (kC (pX 157 [] [])) au)) aw fun (l,_,_) _=>⟨[],[.c (.int ((vd l)))],none,false⟩
theorem Ni:CK 219 z_:=ah fun (l,_,_) _ _=>by
 refine av sR (QI l) Tryz.func219 (?_:(fun (q1:Int)=>(fun (q0:Nat)=>l.length*8<=140737488355328->∃ (s0:Nat),(l=l/\(↑l.length:Int)=(↑q0:Int)/\0=(↑s0:Int))/\(s0<=q0/\vd (List.take s0 l) = -q1)/\∀ (s:Nat),s<=q0/\vd (List.take s l) = -q1->((↑s:Int)<(↑q0:Int)->0<=(↑s:Int)/\(↑s:Int)<(↑l.length:Int)/\∀ (x:Int),l[s]? = some x->I64 x->((!bF x)=true->(↑s:Int)=vd l)/\((!bF x)=false->I64 ((↑s:Int)+q1)/\∃ (s':Nat),(l=l/\(↑q0:Int)=(↑q0:Int)/\(↑s:Int)+q1=(↑s':Int))/\(s' <= q0/\vd (List.take s' l) = -q1)/\q0 - s' < q0 - s))/\((↑q0:Int)<=(↑s:Int) -> -q1=vd l)) l.length) 1);iterate 3 ((all_goals (repeat' with_reducible first|apply bd|refine ba ?_|intro)); (all_goals try (first | exact bq | exact rfl | exact (Zn ab ab ab) | exact (RA ab ab ab) | exact (Vt ab aJ))); all_goals try first | refine ⟨‹Nat› + 1,?_⟩ | refine ⟨0,?_⟩)
def Nc:Kn:=aI (ae (kC (cL .int)) au) aw fun (l,_) _=>⟨[0<l.length],[.c (.int ((xp l)))],none,false⟩
theorem Wi:CK 159 Nc:=ah fun (l,_) _ hp=>by
 have h0:=bV hp;refine av sR (aa9 l) Tryz.func159 (?_:(fun q2=>(fun q1=>(fun q0=>l.length*(8:Nat)<=(140737488355328:Nat)->(q1<q0->False)/\(q0<=q1->(0:Int)<=(0:Int)/\(0:Int)<q1/\∀ (x:Int),l[(0:Nat)]? = some x->I64 x->∃ s0,(l=l/\x=ir l (s0+q2)/\q0=(↑s0:Int)+q0)/\s0+q2<=l.length/\∀ (s:Nat),(fun q3=>s+q2<=l.length->(q3<q1->(0:Int)<=q3/\q3<q1/\∀ (x:Int),l[q3.toNat]? = some x->I64 x->I64 (q3+q0)/\∃ s',(l=l/\min (ir l (s+q2)) x=ir l (s' + q2)/\q3+q0=(↑s':Int)+q0)/\s' + q2<=l.length/\l.length - s' < l.length - s)/\(q1<=q3->ir l (s+q2)=xp l)) ((↑s:Int)+q0))) (1:Int)) (↑l.length:Int)) (1:Nat));iterate 3 ((all_goals (repeat' with_reducible first|apply bd|refine ba ?_|intro)); (all_goals try (first | exact bq | exact (Fu ab) | exact (QB ab) | exact (Fj aJ))); all_goals try first | refine ⟨‹Nat› + 1,?_⟩ | refine ⟨0,?_⟩)
def Uf:bE:=(aK 159 Nc (aK 219 z_ Uh))
theorem yK:ay Tryz.prog (al tyT) Uf:=(ag Wi (ag Ni sR))
def DB:Kn:=aI (ae (kC (cL .int)) (ae (kC (pX 157 [] [])) au)) aw fun (l,_,_) _=>⟨[],[.c (.bool (.atom ((!l.all bF))))],none,false⟩
theorem OH:CK 158 DB:=ah fun (l,_,_) _ _=>by
 refine av yK [] Tryz.func158 (?_:l.length*8<=140737488355328->I64 (vd l)->decide (0<=vd l) = !l.all bF);(repeat' with_reducible first|apply bd|refine ba ?_|intro)
 all_goals (first | exact bq | exact (QH))
def Ud:bE:=(aK 158 DB Uf)
theorem yt:ay Tryz.prog (al tyT) Ud:=(ag OH yK)
theorem afu (o:(l.length:Int)=0\/(!l.all bF)=true):0=iH l:=by
 have h:(decide (l.length=0) || !l.all bF)=true:=by
  rcases o with o | o
  ·rw [decide_eq_true (by omega)]; rfl
  rw [o,Bool.or_true]
 unfold iH; rw [if_pos h]
theorem aeY (o:¬ (l.length:Int)=0) (h:(!l.all bF)=false):xp l=iH l:=by
 have h:¬ (decide (l.length=0) || !l.all bF)=true:=by
  rw [h,decide_eq_false (by omega)]; decide
 unfold iH; rw [if_neg h]
def yN:Kn:=aI (ae (kC (cL .int)) au) aw fun (l,_) _=>⟨[],[.c (.int ((iH l)))],none,false⟩
theorem IC:CK 92 yN:=ah fun (l,_) _ _=>by
 refine av yt [] Tryz.func92 (?_:l.length*8<=140737488355328->((↑l.length:Int)=0\/(!l.all bF)=true->0=iH l)/\(¬(↑l.length:Int)=0/\(!l.all bF)=false->0<l.length/\(I64 (xp l)->xp l=iH l)));(repeat' with_reducible first|apply bd|refine ba ?_|intro)
 all_goals (first | exact bq | exact (afu (by assumption)) | exact (aeY ab ab))
def Uc:bE:=(aK 92 yN Ud)
theorem yf:ay Tryz.prog (al tyT) Uc:=(ag IC yt)
def xQ:Kn:=aI (ae (kC cI) (ae (kC (cL .int)) au)) aw fun (v,l,_) _=>⟨[],[.c (.bool (.atom ((kg v l))))],none,false⟩
theorem JI:CK 53 xQ:=ah fun (v,l,_) _ _=>by
 refine av yf [] Tryz.func53 (?_:I64 v->l.length*8<=140737488355328->(1<=v/\v<3->I64 (iH l))->(decide (1<=v) && decide (v<3) && decide (v<iH l))=kg v l);(repeat' with_reducible first|apply bd|refine ba ?_|intro)
 all_goals (first | exact bq | rfl | grind [kg])
def TT:bE:=(aK 53 xQ Uc)
theorem IJ:ay Tryz.prog (al tyT) TT:=(ag JI yf)
def Vd:bE:=TT
theorem NX:ay Tryz.prog (al tyT) Vd:=IJ
section
variable {s:State} {l:List Command} {x:Command} {k:Nat}
end
section
variable {s:State} {l:List Command} {x:Command} {k:Nat} {d:Command}
end
def Uo:bE:=Vd
theorem IP:ay Tryz.prog (al tyT) Uo:=NX
def Us:bE:=Uo
theorem dk:ay Tryz.prog (al tyT) Us:=IP
def dV (f:Field):Bool:=(decide (1<=f.num) && decide (f.num<=1000)) && (if f.wire=0 then decide (((f.b.length:Nat):Int)=0) else if f.wire=2 then decide ((f.n.n:Int)=0) else false)
def fE (a f:Field):Bool:=if f.num=a.num then (decide (f.wire=2) && decide (a.wire=2)) else decide (a.num<f.num)
def pw (num wire:Int):Bool:=(decide (1<=num) && decide (num<=1000)) && (decide (wire=0) || decide (wire=2))
def mL (num wire:Int):List UInt8:=if pw num wire then cK ((8*num)+wire).toNat else []
def xA (num wire:Int):Int:=if pw num wire then 0 else 1
def cq (f:Field):List UInt8:=if f.wire=0 then mL f.num f.wire++cK f.n.n else (mL f.num f.wire++cK f.b.length)++f.b
def okP:Option Field->Field->Bool
 | none,_=>true
 | some q,f=>fE q f
def stepT (p:Option Field) (f:Field):Int:=if dV f=false then 1 else if okP p f=false then 5 else if (16384:Int)<((f.b.length:Nat):Int) then 4 else 0
def dR:Option Field->List Field->Int
 | _,[]=>0
 | p,f :: r=>if stepT p f=0 then dR (some f) r else stepT p f
def gX (l:List Field):Nat:=(l.map fun f=>(cq f).length).sum
def cE (l:List Field):Int:=if dR none l=0 then (if (16384:Int)<((gX l:Nat):Int) then 4 else 0) else dR none l
def lA (l:List Field):List UInt8:=if cE l=0 then (l.map cq).flatten else []
def eH (l:List Field) (k:Nat):Option Field:=if k=0 then none else l[k - 1]?
def wz (l:List Field) (k:Nat) (x:Field):Prop:=(¬ 0<k)\/∃ y,l[k - 1]? = some y/\fE y x=true
variable {wire num:Int}
theorem Mq (h:(num<1\/1000<num)\/(¬ wire=0/\¬ wire=2)):pw num wire=false:=by
 rw [<- Bool.not_eq_true]; unfold pw; simp only [Bool.and_eq_true,Bool.or_eq_true,decide_eq_true_eq]; omega
theorem Ed (h:¬ ((num<1\/1000<num)\/(¬ wire=0/\¬ wire=2))):pw num wire=true:=by
 unfold pw; simp only [Bool.and_eq_true,Bool.or_eq_true,decide_eq_true_eq]; omega
theorem Dy (h:(num<1\/1000<num)\/(¬ wire=0/\¬ wire=2)):[]=mL num wire:=by rw [mL,Mq h]; rfl
theorem Ph (h:(num<1\/1000<num)\/(¬ wire=0/\¬ wire=2)):1=xA num wire:=by rw [xA,Mq h]; rfl
theorem Kt (h:¬ ((num<1\/1000<num)\/(¬ wire=0/\¬ wire=2))):cK ((8*num)+wire).toNat=mL num wire:=by rw [mL,Ed h]; rfl
theorem Mg (h:¬ ((num<1\/1000<num)\/(¬ wire=0/\¬ wire=2))):0=xA num wire:=by rw [xA,Ed h]; rfl
theorem sF (num wire:Int):(mL num wire).length<=10:=by
 unfold mL;cases h:pw num wire with
 | false=>simp
 | true=>
  unfold pw at h; simp only [Bool.and_eq_true,Bool.or_eq_true,decide_eq_true_eq] at h;exact cH aJ
variable {f:Field}
theorem qC (hb:f.b.length<=16384) (hn:f.n.n<18446744073709551616):(cq f).length<=16404:=by
 have h1:=sF f.num f.wire;unfold cq;split
 ·have:=cH hn; rw [List.length_append]; omega
 have:=cH (n:=f.b.length) (by omega); rw [List.length_append,List.length_append]; omega
theorem QM (h:f.wire=0):mL f.num f.wire++cK f.n.n=cq f:=by rw [cq,if_pos h]
theorem Sr (h:¬ f.wire=0):(mL f.num f.wire++cK f.b.length)++f.b=cq f:=by rw [cq,if_neg h]
variable {x:Field} {l:List Field}
theorem Kd (hx:l[k]? = some x):gX (l.take k)+(cq x).length=gX (l.take (k+1)):=by
 unfold gX; rw [ai hx,List.map_append,List.sum_append]; simp
theorem Dm (hp:wz l k x):okP (eH l k) x=true:=by
 unfold eH;rcases hp with h | ⟨y,hy,hr⟩
 ·rw [if_pos (by omega)]; rfl
 by_cases hk:k=0
 ·rw [if_pos hk]; rfl
 rw [if_neg hk,hy]; exact hr
theorem Ix (hx:l[k]? = some x):dR (eH l k) (l.drop k)=if stepT (eH l k) x=0 then dR (some x) (l.drop (k+1)) else stepT (eH l k) x:=by
 obtain ⟨hk,he⟩:=aaT.1 hx;rw [adU hk,he]; rfl
variable {e:Int}
theorem JJ (hc:dR none l=dR (eH l k) (l.drop k)) (hx:l[k]? = some x) (he:stepT (eH l k) x=e) (h0:e≠0):e=cE l:=by
 have h1:dR none l=e:=by rw [hc,Ix hx,he,if_neg h0]
 rw [cE,h1,if_neg h0]
theorem XO (hc:dR none l=dR (eH l k) (l.drop k)) (hx:l[k]? = some x) (ha:dV x=false):1=cE l:=JJ hc hx (by rw [stepT,if_pos ha]) (by decide)
theorem Zj {y:Field} (hc:dR none l=dR (eH l k) (l.drop k)) (hx:l[k]? = some x) (ha:dV x=true) (h0:0<k) (hy:l[k - 1]? = some y) (hr:fE y x=false):5=cE l:=
 JJ hc hx (by rw [stepT,if_neg (by rw [ha]; decide),if_pos]; unfold eH; rw [if_neg (by omega),hy]; exact hr) (by decide)
theorem WT (hc:dR none l=dR (eH l k) (l.drop k)) (hx:l[k]? = some x) (ha:dV x=true) (hp:wz l k x) (hb:(16384:Int)<((x.b.length:Nat):Int)):4=cE l:=
 JJ hc hx (by rw [stepT,if_neg (by rw [ha]; decide),if_neg (by rw [Dm hp]; decide),if_pos hb]) (by decide)
theorem Js (hc:dR none l=dR (eH l k) (l.drop k)) (hx:l[k]? = some x) (ha:dV x=true) (hp:wz l k x) (hb:¬ (16384:Int)<((x.b.length:Nat):Int)):dR none l=dR (eH l (k+1)) (l.drop (k+1)):=by
 rw [hc,Ix hx,if_pos (by rw [stepT,if_neg (by rw [ha]; decide),if_neg (by rw [Dm hp]; decide),if_neg hb])];unfold eH; rw [if_neg (by omega),Nat.add_sub_cancel,hx]
theorem EK (hc:dR none l=dR (eH l k) (l.drop k)) (hk:l.length<=k):dR none l=0:=by
 rw [hc,aeR hk]; rfl
theorem Lu (hc:dR none l=dR (eH l k) (l.drop k)) (hk:l.length<=k) (hs:(16384:Int)<((gX (l.take k):Nat):Int)):4=cE l:=by
 rw [List.take_of_length_le hk] at hs; rw [cE,if_pos (EK hc hk),if_pos hs]
theorem Ke (hc:dR none l=dR (eH l k) (l.drop k)) (hk:l.length<=k) (hs:¬ (16384:Int)<((gX (l.take k):Nat):Int)):0=cE l:=by
 rw [List.take_of_length_le hk] at hs; rw [cE,if_pos (EK hc hk),if_neg hs]
theorem SS (h:cE l=0):gX l<=16384:=by
 unfold cE at h;grind
theorem QQ (h:cE l=0):dR none l=0:=by
 unfold cE at h;grind
theorem C_:∀ {l:List Field} {p:Option Field},dR p l=0->∀ x ∈ l,x.b.length<=16384
 | f :: r,p,h,x,hx=>by
  unfold dR at h;split at h
  ·rename_i hs;rcases acX.1 hx with rfl | hx
   ·unfold stepT at hs;grind
   exact C_ h x hx
  grind
theorem vT (h:cE l=0) (hx:x ∈ l):x.b.length<=16384:=C_ (QQ h) x hx
theorem FN (hx:l[k]? = some x):((l.take k).map cq).flatten++cq x=((l.take (k+1)).map cq).flatten:=by
 rw [ai hx,List.map_append,List.flatten_append]; simp
theorem NI (l:List Field):((l.map cq).flatten).length=gX l:=by
 unfold gX; rw [List.length_flatten,List.map_map]; rfl
theorem Nl:gX (l.take k)<=gX l:=by
 have:gX l=gX (l.take k)+gX (l.drop k):=by unfold gX; rw [<- List.sum_append,<- List.map_append,List.take_append_drop]
 omega
theorem Nt (h:cE l=0):((l.take k).map cq).flatten.length<=16384:=by
 have:=SS h; have:=Nl (l:=l) (k:=k); rw [NI]; omega
theorem Sq (h:cE l=0) (hk:l.length<=k):((l.take k).map cq).flatten=lA l:=by rw [lA,if_pos h,List.take_of_length_le hk]
theorem VK (h:¬ cE l=0):[]=lA l:=by rw [lA,if_neg h]
theorem Ls (h:f.num<1\/1000<f.num):false=dV f:=by
 have:(decide (1<=f.num) && decide (f.num<=1000))=false:=by rw [<- Bool.not_eq_true]; simp only [Bool.and_eq_true,decide_eq_true_eq]; omega
 unfold dV; rw [this]; rfl
theorem HZ (h:¬ (f.num<1\/1000<f.num)):dV f=(if f.wire=0 then decide (((f.b.length:Nat):Int)=0) else if f.wire=2 then decide ((f.n.n:Int)=0) else false):=by
 have:(decide (1<=f.num) && decide (f.num<=1000))=true:=by simp only [Bool.and_eq_true,decide_eq_true_eq]; omega
 unfold dV; rw [this]; rfl
def bD:List Spec:=([⟨1,0,1,true,false⟩,⟨2,0,1,false,false⟩,⟨3,0,1,false,false⟩,⟨4,0,1,false,false⟩,⟨5,0,1,false,false⟩,⟨6,0,1,false,false⟩,⟨7,2,1,false,false⟩,⟨8,2,3,false,false⟩]:List Spec)
def aP (v:Int):List Spec:=if v<1\/3<v then [] else bD.filter fun s=>decide (s.since<=v)
def cG (v:Int):Int:=(aP v).foldl (fun t s=>max t s.num) 0
variable {x:Spec}
theorem IF {v:Int} (hx:bD[k]? = some x) (h:x.since<=v):(bD.take k).filter (fun s=>decide (s.since<=v))++[x]=(bD.take (k+1)).filter (fun s=>decide (s.since<=v)):=by
 rw [ai hx,List.filter_append]; simp [h]
theorem Q_ {v:Int} (hx:bD[k]? = some x) (h:¬ x.since<=v):(bD.take k).filter (fun s=>decide (s.since<=v))=(bD.take (k+1)).filter (fun s=>decide (s.since<=v)):=by
 rw [ai hx,List.filter_append]; simp [h]
theorem FR {v:Int} (h:v<1\/3<v):[]=aP v:=by rw [aP,if_pos h]
theorem Mi {v:Int} (h:¬ (v<1\/3<v)) (hk:bD.length<=k):(bD.take k).filter (fun s=>decide (s.since<=v))=aP v:=by rw [aP,if_neg h,List.take_of_length_le hk]
theorem Ie {v:Int}:((bD.take k).filter (fun s=>decide (s.since<=v))).length<=8:=by
 have h1:=List.length_filter_le (fun s:Spec=>decide (s.since<=v)) (bD.take k);have h2:(bD.take k).length<=8:=by rw [List.length_take]; exact Nat.le_trans (Nat.min_le_right _ _) (by decide)
 omega
theorem JZ {v:Int} (hx:(aP v)[k]? = some x):max (((aP v).take k).foldl (fun t s=>max t s.num) 0) x.num=((aP v).take (k+1)).foldl (fun t s=>max t s.num) 0:=by
 rw [ai hx,List.foldl_append]; rfl
def pc (num n:Int):List Field:=if n=0 then [] else [⟨num,0,⟨n.toNat⟩,[]⟩]
def AW (num:Int) (b:List UInt8):List Field:=if 0<((b.length:Nat):Int) then [⟨num,2,⟨0⟩,b⟩] else []
def vQ (c:Command):List Field:=(((((([]++pc 1 c.kind)++pc 2 c.client)++pc 3 c.seq)++pc 4 c.set)++pc 5 c.id)++pc 6 c.n)++AW 7 (ew c.chunks)
def dE (c:Command) (v:Int):List Field:=if 3<=v then vQ c++AW 8 c.text.b else vQ c
theorem gf (num n:Int):(pc num n).length<=1:=by unfold pc; split <;> simp
theorem Bg (num:Int) (b:List UInt8):(AW num b).length<=1:=by unfold AW; split <;> simp
variable {xs:List Field}
theorem Ay (h:¬ n=0):xs++[⟨num,0,⟨n.toNat⟩,[]⟩]=xs++pc num n:=by rw [pc,if_neg h]
theorem AQ (h:n=0):xs=xs++pc num n:=by rw [pc,if_pos h,adb]
variable {b:List UInt8}
theorem Ao (h:0<((b.length:Nat):Int)):xs++[⟨num,2,⟨0⟩,b⟩]=xs++AW num b:=by rw [AW,if_pos h]
theorem yw (h:¬ 0<((b.length:Nat):Int)):xs=xs++AW num b:=by rw [AW,if_neg h,adb]
theorem BV (c:Command) (v:Int):(dE c v).length<=8:=by
 have h1:=gf 1 c.kind; have h2:=gf 2 c.client; have h3:=gf 3 c.seq; have h4:=gf 4 c.set; have h5:=gf 5 c.id; have h6:=gf 6 c.n;have h7:=Bg 7 (ew c.chunks); have h8:=Bg 8 c.text.b;unfold dE vQ;split <;> simp only [List.length_append,List.length_nil] <;> omega
def dD (c:Command) (rest:List Field) (v:Int):Int:=if !(bX v 1 3) then 1 else if (fT c v=false/\¬ bB c v=0) then bB c v else if rest.any (fun f=>decide (f.num<=cG v)) then 6 else 0
def eT (c:Command) (rest:List Field) (v:Int):Int:=if dD c rest v=0 then cE (dE c v++rest) else dD c rest v
def fY (c:Command) (rest:List Field) (v:Int):List UInt8:=if dD c rest v=0 then lA (dE c v++rest) else []
theorem BJ {k:Int} (h:¬ cm k=0):1<=k/\k<=12:=Decidable.byContradiction fun h2=>h (Pj h2)
theorem XI {c:Command} {v:Int} (h:fT c v=true):0<=c.kind/\0<=c.client/\0<=c.seq/\0<=c.set/\0<=c.id/\0<=c.n:=by
 unfold fT vq bX at h;simp only [Bool.and_eq_true,decide_eq_true_eq] at h;omega
theorem vO {m:Int} {b:Bool} (h:nk n m b=true):0<=n:=by
 unfold nk at h; cases b <;> simp at h <;> omega
theorem QF {k:Int} (h:1<=k/\k<=12):0<=(uZ k).1:=by
 have:k=1\/k=2\/k=3\/k=4\/k=5\/k=6\/k=7\/k=8\/k=9\/k=10\/k=11\/k=12:=by omega
 rcases this with rfl | rfl | rfl | rfl | rfl | rfl | rfl | rfl | rfl | rfl | rfl | rfl <;> decide
theorem NV {c:Command} {v:Int} (h:bB c v=0):(1<=v/\v<=3)/\¬ cm c.kind=0/\cm c.kind<=v/\lB c=true:=by
 unfold bB at h;split at h
 ·cases h
 rename_i h1;rw [Bool.or_eq_true,not_or] at h1;simp only [adz,Bool.not_eq_false,decide_eq_true_eq] at h1;split at h
 ·cases h
 split at h
 ·cases h
 rename_i h2 h3;exact ⟨HD h1.1,h1.2,by omega,by simpa using h3⟩
theorem VL {c:Command} {v:Int} (h:bB c v=0):0<=c.kind/\0<=c.client/\0<=c.seq/\0<=c.set/\0<=c.id/\0<=c.n:=by
 obtain ⟨_,hn,_,hf⟩:=NV h;have hr:=BJ hn;have hs:=QF hr;unfold lB at hf;simp only [Bool.and_eq_true,decide_eq_true_eq] at hf;obtain ⟨⟨⟨⟨⟨⟨⟨h1,h2⟩,_⟩,_⟩,h3⟩,h4⟩,h5⟩,h6⟩:=hf;exact ⟨by omega,vO h3,vO h4,vO h5,vO h6,by omega⟩
variable {rest:List Field}
theorem aeK {c:Command} {v:Int} (h:(!(bX v 1 3))=true):dD c rest v=1:=by rw [dD,if_pos h]
theorem agc {c:Command} {v:Int} (h:(!(bX v 1 3))=false) (h1:fT c v=false) (h2:¬ bB c v=0):dD c rest v=bB c v:=by rw [dD,h,if_neg (by decide),if_pos ⟨h1,h2⟩]
theorem agC {c:Command} {v:Int} {x:Field} (h:(!(bX v 1 3))=false) (h1:fT c v=true\/bB c v=0) (hx:rest[k]? = some x) (hn:x.num<=cG v):dD c rest v=6:=by
 have:(rest.any fun f=>decide (f.num<=cG v))=true:=List.any_eq_true.2 ⟨x,ac4 hx,decide_eq_true hn⟩;rw [dD,h,if_neg (by decide),if_neg (fun hh=>by rcases h1 with h1 | h1; rw [h1] at hh; cases hh.1; exact hh.2 h1),if_pos this]
theorem afe {c:Command} {v:Int} (h:(!(bX v 1 3))=false) (h1:fT c v=true\/bB c v=0) (hall:∀ j y,j<k->rest[j]? = some y->¬ y.num<=cG v) (hk:rest.length<=k):dD c rest v=0:=by
 have:(rest.any fun f=>decide (f.num<=cG v))=false:=by
  rw [List.any_eq_false];intro y hy;obtain ⟨j,hj,rfl⟩:=List.getElem_of_mem hy;have:=hall j _ (by omega) (List.getElem?_eq_getElem hj);simpa using this
 rw [dD,h,if_neg (by decide),if_neg (fun hh=>by rcases h1 with h1 | h1; rw [h1] at hh; cases hh.1; exact hh.2 h1),this,if_neg (by decide)]
theorem BS {c:Command} {v:Int} (h:dD c rest v=e) (h0:¬ e=0):e=eT c rest v:=by rw [eT,h,if_neg h0]
theorem AY {c:Command} {v:Int} (h:dD c rest v=e) (h0:¬ e=0):[]=fY c rest v:=by rw [fY,h,if_neg h0]
theorem aaX {c:Command} {v:Int} (h:dD c rest v=0):cE (dE c v++rest)=eT c rest v:=by rw [eT,if_pos h]
theorem aaF {c:Command} {v:Int} (h:dD c rest v=0):lA (dE c v++rest)=fY c rest v:=by rw [fY,if_pos h]
theorem Fw {z:Field} (h:∀ j y,j<k->rest[j]? = some y->¬ y.num<=t) (hz:rest[k]? = some z) (hn:¬ z.num<=t):∀ j y,j<k+1->rest[j]? = some y->¬ y.num<=t:=by
 intro j y hj hy;by_cases hjk:j=k
 ·subst hjk; rw [hz] at hy; cases hy; exact hn
 exact h j y aJ hy
theorem vS (n:Nat):cK n=((List.range (aV n)).map (lN n)).set (aV n - 1) (lN n (aV n - 1) &&& 127):=by unfold cK eY; simp
theorem Kr:∀ m:Fin 128,(UInt8.ofNat m.val ||| 128) &&& 127=UInt8.ofNat m.val:=by decide
theorem VT:∀ m:Fin 256,(UInt8.ofNat m.val ||| 128).toNat=m.val % 128+128:=by decide +kernel
variable {n:Nat}
theorem Cj (h:n<128):cK n=[UInt8.ofNat n]:=by
 rw [vS,jf h];have:=Kr ⟨n,h⟩;simp only [lN,Nat.pow_zero,Nat.div_one,List.range_one,afc,List.map_nil,Nat.sub_self,List.set_cons_zero] at *;rw [this]
theorem ZS (n:Nat):(lN n 0).toNat=n % 128+128:=by
 have e:UInt8.ofNat n=UInt8.ofNat (n % 256):=UInt8.toNat_inj.1 (by simp [UInt8.toNat_ofNat']);have:=VT ⟨n % 256,afv _ (by decide)⟩;simp only [lN,Nat.pow_zero,Nat.div_one];rw [e,this]; simp only; omega
theorem NS (h:¬ n<128):cK n=lN n 0 :: cK (n / 128):=by
 have e:∀ i,lN n (i+1)=lN (n / 128) i:=fun i=>by unfold lN; rw [Nat.pow_succ,Nat.mul_comm,<- Nat.div_div_eq_div_mul]
 have hp:=iQ (n / 128);obtain ⟨s,hs⟩:∃ s,aV (n / 128)=s+1:=⟨aV (n / 128) - 1,by omega⟩;rw [vS,vS (n / 128),lX h,hs];simp only [Nat.add_sub_cancel];rw [List.range_succ_eq_map,afc,List.map_map,List.set_cons_succ,e s,show lN n ∘ Nat.succ=lN (n / 128) from funext e]
def bJ:Nat->Nat->List UInt8->Nat × Nat × Int
 | k,_,[]=>if 10<=k then (0,0,3) else (0,0,2)
 | k,n,x :: r=>if 10<=k then (0,0,3) else if (0<k/\x.toNat=0)\/(k=9/\1<x.toNat) then (0,0,3) else if x.toNat<128 then (n+(x &&& 127).toNat*2 ^ (7*k),k+1,0) else bJ (k+1) (n+(x &&& 127).toNat*2 ^ (7*k)) r
termination_by _ _ l=>l.length
def aj (b:List UInt8):Nat × Nat × Int:=bJ 0 0 b
theorem oa (x:UInt8):(x &&& 127).toNat=x.toNat % 128:=by rw [UInt8.toNat_and]; exact Nat.and_two_pow_sub_one_eq_mod x.toNat 7
variable {x:UInt8}
theorem XD (hk:k<=9) (h:k=9->x.toNat<=1):(x &&& 127).toNat*2 ^ (7*k)<18446744073709551616:=by
 rw [oa];by_cases h9:k=9
 ·have:=h h9;subst h9;have:x.toNat % 128*2 ^ (7*9)<=1*2 ^ (7*9):=ada _ (by omega);exact aeH this (by decide)
 have h1:2 ^ (7*k)<=2 ^ 56:=Nat.pow_le_pow_right (by decide) (by omega);have:x.toNat % 128*2 ^ (7*k)<=127*2 ^ 56:=Nat.mul_le_mul (by omega) h1;exact aeH this (by decide)
variable {m:Nat}
theorem XC (h:n<2 ^ (7*k)):n ||| m*2 ^ (7*k)=n+m*2 ^ (7*k):=by
 have:=Nat.two_pow_add_eq_or_of_lt h m;rw [Nat.or_comm,Nat.mul_comm m,<- this,Nat.add_comm]
theorem Pl (h:n<2 ^ (7*k)):n+(x &&& 127).toNat*2 ^ (7*k)<2 ^ (7*(k+1)):=by
 rw [oa];have e:2 ^ (7*(k+1))=128*2 ^ (7*k):=by rw [show 7*(k+1)=7*k+7 by omega,Nat.pow_add,Nat.mul_comm]
 have:x.toNat % 128*2 ^ (7*k)<=127*2 ^ (7*k):=ada _ (by omega);rw [e]; omega
theorem Vp (hk:k<10) (hb:b.length<=k):bJ k n (b.drop k)=(0,0,2):=by
 rw [aeR hb,bJ,if_neg (by omega)]
theorem WV (hk:10<=k):bJ k n (b.drop k)=(0,0,3):=by
 cases h:b.drop k with
 | nil=>rw [bJ,if_pos hk]
 | cons x r=>rw [bJ,if_pos hk]
theorem NK (hk:k<10) (hx:b[k]? = some x):bJ k n (b.drop k)=if (0<k/\x.toNat=0)\/(k=9/\1<x.toNat) then (0,0,3) else if x.toNat<128 then (n+(x &&& 127).toNat*2 ^ (7*k),k+1,0) else bJ (k+1) (n+(x &&& 127).toNat*2 ^ (7*k)) (b.drop (k+1)):=by
 obtain ⟨hkl,he⟩:=aaT.1 hx;rw [adU hkl,he,bJ,if_neg (by omega)]
theorem Qy (h:aj b=bJ k n (b.drop k)) (hk:k<10) (hx:b[k]? = some x) (h1:¬ (0<k/\x.toNat=0)) (h2:¬ (k=9/\1<x.toNat)) (h3:¬ x.toNat<128):aj b=bJ (k+1) (n+(x &&& 127).toNat*2 ^ (7*k)) (b.drop (k+1)):=by
 rw [h,NK hk hx,if_neg (fun h=>h.elim h1 h2),if_neg h3]
theorem mE:∀ {l:List UInt8} {k n:Nat},k<=10->(bJ k n l).2.1<=11/\(bJ k n l).2.1<=k+l.length
 | [],k,n,h=>by rw [bJ]; split <;> simp
 | x :: r,k,n,h=>by
  rw [bJ];split
  ·simp
  split
  ·simp
  split
  ·simp; omega
  have:=mE (l:=r) (k:=k+1) (n:=n+(x &&& 127).toNat*2 ^ (7*k)) (by omega);simp only [List.length_cons]; omega
theorem MK (h:aj b=bJ k n (b.drop k)) (hk:k<10) (hx:b[k]? = some x) (h1:(0<k/\x.toNat=0)\/(k=9/\1<x.toNat)):aj b=(0,0,3):=by rw [h,NK hk hx,if_pos h1]
theorem SG (h:aj b=bJ k n (b.drop k)) (hk:k<10) (hx:b[k]? = some x) (h1:¬ (0<k/\x.toNat=0)) (h2:¬ (k=9/\1<x.toNat)) (h3:x.toNat<128):aj b=(n+(x &&& 127).toNat*2 ^ (7*k),k+1,0):=by
 rw [h,NK hk hx,if_neg (fun h=>h.elim h1 h2),if_pos h3]
theorem HL:∀ {l:List UInt8} {k n:Nat},1<=k->(bJ k n l).2.2=0->2 ^ (7*k)<=(bJ k n l).1
 | [],k,n,_,h=>by rw [bJ] at h; split at h <;> cases h
 | x :: r,k,n,hk,h=>by
  rw [bJ] at h ⊢;split
  ·rename_i h1; rw [if_pos h1] at h; cases h
  rename_i h1;rw [if_neg h1] at h;split
  ·rename_i h2; rw [if_pos h2] at h; cases h
  rename_i h2;rw [if_neg h2] at h;split
  ·rename_i h3;rw [oa];have:1<=x.toNat % 128:=by
    have:¬ x.toNat=0:=fun e=>h2 (.inl ⟨by omega,e⟩);omega
   have:=ada (2 ^ (7*k)) this;show 2 ^ (7*k)<=n+x.toNat % 128*2 ^ (7*k);omega
  rename_i h3;rw [if_neg h3] at h;exact Nat.le_trans (Nat.pow_le_pow_right (by decide) aJ) (HL aJ h)
theorem En (x:UInt8) (r:List UInt8):aj (x :: r)=if x.toNat<128 then (x.toNat,1,0) else bJ 1 (x.toNat % 128) r:=by
 unfold aj;rw [bJ,if_neg (by decide),if_neg (by omega),oa];split
 ·rename_i h; rw [Nat.mod_eq_of_lt h]; simp
 simp
theorem zZ (hk:k<b.length):(b.drop k).take (b.length - k)=b[k] :: b.drop (k+1):=by
 rw [List.take_of_length_le (by simp),adU hk]
theorem tk1 (hk:k<b.length) (he:(aj ((b.drop k).take (b.length - k))).2.2=0) (hn:¬ (64:Int)<(((aj ((b.drop k).take (b.length - k))).1:Nat):Int)) :
  ∃ x,b[k]? = some x/\aj ((b.drop k).take (b.length - k))=(x.toNat,1,0)/\x.toNat<=64:=by
 rw [zZ hk,En] at *;by_cases h:b[k].toNat<128
 ·rw [if_pos h] at *; exact ⟨_,List.getElem?_eq_getElem hk,rfl,by simp only at hn; omega⟩
 rw [if_neg h] at *;have:=HL (acY 1) he;omega
theorem tk2 (hk:k<b.length) (h:(¬ (aj ((b.drop k).take (b.length - k))).2.2=0)\/(64:Int)<(((aj ((b.drop k).take (b.length - k))).1:Nat):Int)):∃ x,b[k]? = some x/\64<x.toNat:=by
 refine ⟨b[k],List.getElem?_eq_getElem hk,?_⟩;rw [zZ hk,En] at h;by_cases h1:b[k].toNat<128
 ·rw [if_pos h1] at h; simp only [not_true_eq_false,false_or] at h; omega
 omega
def cw (b:List UInt8):List Int:=b.map fun x=>(x.toNat:Int)
def kD (b:List UInt8):List Int:=if cr (cw b) then cw b else []
def oP (b:List UInt8):Int:=if cr (cw b) then 0 else 6
theorem QE {p:Nat × Nat × Int} (hx:b[k]? = some x) (hp:p=(x.toNat,1,0)):cw (b.take k)++[((p.1:Nat):Int)]=cw (b.take (k+1)):=by
 subst hp; unfold cw; rw [ai hx,List.map_append]; rfl
theorem VZ (hk:k<b.length) (h:(¬ (aj ((b.drop k).take (b.length - k))).2.2=0)\/(64:Int)<(((aj ((b.drop k).take (b.length - k))).1:Nat):Int)):cr (cw b)=false:=by
 obtain ⟨x,hx,h64⟩:=tk2 hk h;rw [<- Bool.not_eq_true];intro hr;have:=(vP hr (x.toNat:Int) (ahd.2 ⟨x,ac4 hx,rfl⟩)).2;omega
theorem Bf (hk:b.length<=k):cw (b.take k)=cw b:=by rw [List.take_of_length_le hk]
theorem vX (h:cr (cw b)=false):[]=kD b:=by rw [kD,h]; rfl
theorem Ms (h:cr (cw b)=false):6=oP b:=by rw [oP,h]; rfl
theorem RD (hk:b.length<=k) (h:cr (cw (b.take k))=true):cw (b.take k)=kD b:=by rw [Bf hk] at *; rw [kD,h]; rfl
theorem Oz (hk:b.length<=k) (h:cr (cw (b.take k))=true):0=oP b:=by rw [Bf hk] at *; rw [oP,h]; rfl
theorem BI (hk:b.length<=k) (h:cr (cw (b.take k))=false):cr (cw b)=false:=by rw [Bf hk] at h; exact h
structure TagR where
 num:Int
 wire:Int
 k:Nat
 e:Int
def Bh (n:Nat):Bool:=decide ((n / 8<1\/1000<n / 8)\/(¬ n % 8=0/\¬ n % 8=2))
def aN (b:List UInt8):TagR:=if (aj b).2.2=0 then (if Bh (aj b).1=true then ⟨0,0,0,6⟩ else ⟨(((aj b).1 / 8:Nat):Int),(((aj b).1 % 8:Nat):Int),(aj b).2.1,0⟩) else ⟨0,0,0,(aj b).2.2⟩
theorem NA (h:¬ (aj b).2.2=0):aN b=⟨0,0,0,(aj b).2.2⟩:=by rw [aN,if_neg h]
theorem KV (h:(aj b).2.2=0) (h2:((aj b).1 / 8<1\/1000<(aj b).1 / 8)\/(¬ (aj b).1 % 8=0/\¬ (aj b).1 % 8=2)):aN b=⟨0,0,0,6⟩:=by rw [aN,if_pos h,if_pos (show Bh _=true from decide_eq_true h2)]
theorem Om (h:(aj b).2.2=0) (h2:¬ (((aj b).1 / 8<1\/1000<(aj b).1 / 8)\/(¬ (aj b).1 % 8=0/\¬ (aj b).1 % 8=2))):aN b=⟨(((aj b).1 / 8:Nat):Int),(((aj b).1 % 8:Nat):Int),(aj b).2.1,0⟩:=by
 rw [aN,if_pos h,if_neg (by unfold Bh; simpa using h2)]
theorem qg (b:List UInt8):((aN b).k<=11/\(aN b).k<=b.length)/\(0<=(aN b).num/\(aN b).num<=1000)/\(0<=(aN b).wire/\(aN b).wire<=2):=by
 have hs:(aj b).2.1<=11/\(aj b).2.1<=0+b.length:=mE (l:=b) (k:=0) (n:=0) (by omega);by_cases h:(aj b).2.2=0
 ·by_cases h2:((aj b).1 / 8<1\/1000<(aj b).1 / 8)\/(¬ (aj b).1 % 8=0/\¬ (aj b).1 % 8=2)
  ·rw [KV h h2]; simp
  rw [Om h h2]; dsimp only; omega
 rw [NA h]; simp
theorem LZ:∀ {l:List UInt8} {k n:Nat},(bJ k n l).2.2=0->1<=(bJ k n l).2.1
 | [],k,n,h=>by rw [bJ] at h; split at h <;> cases h
 | x :: r,k,n,h=>by
  rw [bJ] at h ⊢;split
  ·grind
  rename_i h1;rw [if_neg h1] at h;split
  ·grind
  rename_i h2;rw [if_neg h2] at h;split
  ·simp
  rename_i h3; rw [if_neg h3] at h; exact LZ h
def a_ (b:List UInt8):Nat × Int:=
  if (aN b).e=0 then
    (if (aj (b.drop (aN b).k)).2.2=0 then
      (if (aN b).wire=0 then ((aN b).k+(aj (b.drop (aN b).k)).2.1,0)
       else if 16384<(aj (b.drop (aN b).k)).1 then (0,4)
       else if ((b.length:Nat):Int) - (((aN b).k+(aj (b.drop (aN b).k)).2.1:Nat):Int)<(((aj (b.drop (aN b).k)).1:Nat):Int) then (0,2)
       else ((aN b).k+(aj (b.drop (aN b).k)).2.1+(aj (b.drop (aN b).k)).1,0))
     else (0,(aj (b.drop (aN b).k)).2.2))
  else (0,(aN b).e)
theorem aeI (h:¬ (aN b).e=0):a_ b=(0,(aN b).e):=by rw [a_,if_neg h]
theorem adr (h:(aN b).e=0) (h2:¬ (aj (b.drop (aN b).k)).2.2=0):a_ b=(0,(aj (b.drop (aN b).k)).2.2):=by rw [a_,if_pos h,if_neg h2]
theorem afb (h:(aN b).e=0) (h2:(aj (b.drop (aN b).k)).2.2=0) (h3:(aN b).wire=0):a_ b=((aN b).k+(aj (b.drop (aN b).k)).2.1,0):=by rw [a_,if_pos h,if_pos h2,if_pos h3]
theorem ae0 (h:(aN b).e=0) (h2:(aj (b.drop (aN b).k)).2.2=0) (h3:¬ (aN b).wire=0) (h4:16384<(aj (b.drop (aN b).k)).1):a_ b=(0,4):=by rw [a_,if_pos h,if_pos h2,if_neg h3,if_pos h4]
theorem aer (h:(aN b).e=0) (h2:(aj (b.drop (aN b).k)).2.2=0) (h3:¬ (aN b).wire=0) (h4:¬ 16384<(aj (b.drop (aN b).k)).1) (h5:((b.length:Nat):Int) - (((aN b).k+(aj (b.drop (aN b).k)).2.1:Nat):Int)<(((aj (b.drop (aN b).k)).1:Nat):Int)):a_ b=(0,2):=by rw [a_,if_pos h,if_pos h2,if_neg h3,if_neg h4,if_pos h5]
theorem aga (h:(aN b).e=0) (h2:(aj (b.drop (aN b).k)).2.2=0) (h3:¬ (aN b).wire=0) (h4:¬ 16384<(aj (b.drop (aN b).k)).1) (h5:¬ ((b.length:Nat):Int) - (((aN b).k+(aj (b.drop (aN b).k)).2.1:Nat):Int)<(((aj (b.drop (aN b).k)).1:Nat):Int)):a_ b=((aN b).k+(aj (b.drop (aN b).k)).2.1+(aj (b.drop (aN b).k)).1,0):=by rw [a_,if_pos h,if_pos h2,if_neg h3,if_neg h4,if_neg h5]
theorem mY (b:List UInt8) (k:Nat):(aj (b.drop k)).2.1<=11/\(aj (b.drop k)).2.1+k<=max b.length k:=by
 have:=mE (l:=b.drop k) (k:=0) (n:=0) (by omega);unfold aj;grind
theorem zP (b:List UInt8):(a_ b).1<=b.length:=by
 have h1:=qg b; have h2:=mY b (aN b).k;unfold a_;grind
theorem mo (h:(a_ b).2=0):1<=(a_ b).1:=by
 unfold a_ at h ⊢;split
 ·rename_i h0;rw [if_pos h0] at h;split
  ·rename_i h1;rw [if_pos h1] at h;have:=LZ (l:=b.drop (aN b).k) (k:=0) (n:=0) h1;split
   ·dsimp only; unfold aj; omega
   rename_i h2;rw [if_neg h2] at h;split
   ·grind
   rename_i h3;rw [if_neg h3] at h;split
   ·grind
   dsimp only; unfold aj; omega
  grind
 grind
def gH (b:List UInt8):Field:=if (aN b).wire=0 then ⟨(aN b).num,(aN b).wire,⟨(aj (b.drop (aN b).k)).1⟩,[]⟩ else ⟨(aN b).num,(aN b).wire,⟨0⟩,b.drop ((aN b).k+(aj (b.drop (aN b).k)).2.1)⟩
theorem Ei (h:(aN b).wire=0):(⟨(aN b).num,(aN b).wire,⟨(aj (b.drop (aN b).k)).1⟩,[]⟩:Field)=gH b:=by rw [gH,if_pos h]
theorem Dp (h:¬ (aN b).wire=0):(⟨(aN b).num,(aN b).wire,⟨0⟩,b.drop ((aN b).k+(aj (b.drop (aN b).k)).2.1)⟩:Field)=gH b:=by rw [gH,if_neg h]
def fG (acc:List Field) (x:Field):Bool:=match acc[acc.length - 1]? with | none=>true | some y=>fE y x
def AN:Nat->List Field->List UInt8->List Field × Int
 | 0,acc,_=>(acc,0)
 | f+1,acc,b=>if b.length=0 then (acc,0) else if (a_ b).2=0 then (if fG acc (gH (b.take (a_ b).1))=true then AN f (acc++[gH (b.take (a_ b).1)]) (b.drop (a_ b).1) else ([],5)) else ([],(a_ b).2)
def bA (b:List UInt8):List Field × Int:=if 16384<b.length then ([],4) else AN b.length [] b
def iP (b:List UInt8) (i:Nat) (acc:List Field):Prop:=∃ f,b.length - i<=f/\bA b=AN f acc (b.drop i)
theorem XT (h:16384<b.length):bA b=([],4):=by rw [bA,if_pos h]
theorem Ng (h:¬ 16384<b.length):iP b 0 []:=⟨b.length,by omega,by rw [bA,if_neg h]; rfl⟩
variable {acc:List Field}
theorem Jj (h:iP b i acc) (hi:i<b.length):∃ f,b.length - i<=f+1/\bA b=if (a_ (b.drop i)).2=0 then (if fG acc (gH ((b.drop i).take (a_ (b.drop i)).1))=true then AN f (acc++[gH ((b.drop i).take (a_ (b.drop i)).1)]) ((b.drop i).drop (a_ (b.drop i)).1) else ([],5)) else ([],(a_ (b.drop i)).2):=by
 obtain ⟨f,hf,e⟩:=h;cases f with
 | zero=>omega
 | succ f=>exact ⟨f,hf,by rw [e,AN,if_neg (by rw [List.length_drop]; omega)]⟩
theorem SZ (h:iP b i acc) (hi:i<b.length) (hs:¬ (a_ (b.drop i)).2=0):bA b=([],(a_ (b.drop i)).2):=by
 obtain ⟨f,_,e⟩:=Jj h hi; rw [e,if_neg hs]
theorem Vy (h:iP b i acc) (hi:b.length<=i):bA b=(acc,0):=by
 obtain ⟨f,_,e⟩:=h;rw [e,aeR hi];cases f <;> rfl
theorem zC:∀ {f:Nat} {acc:List Field} {b:List UInt8},(AN f acc b).1.length<=acc.length+b.length
 | 0,acc,b=>by simp [AN]
 | f+1,acc,b=>by
  unfold AN;split
  ·simp
  split
  ·rename_i h0 h1;split
   ·have:=zC (f:=f) (acc:=acc++[gH (b.take (a_ b).1)]) (b:=b.drop (a_ b).1);have h2:=mo h1;rw [List.length_append,List.length_drop] at this;simp only [List.length_cons,List.length_nil] at this;omega
   simp
  simp
theorem Sn (b:List UInt8):(bA b).1.length<=16384:=by
 unfold bA;split
 ·simp
 have:=zC (f:=b.length) (acc:=[]) (b:=b);simp only [List.length_nil] at this;omega
def KE (x:Field) (s:Spec) (n:Int):Bool:=if ¬ x.wire=s.wire\/(1<n/\s.many=false) then false else if x.wire=0 then !decide ((x.n.n:Int)=0) else decide (0<((x.b.length:Nat):Int))
def h_ (l:List Field) (q:Int):Nat:=l.countP fun x=>decide (x.num=q)
theorem Px (q:Int):h_ (l.take k) q<=k:=Nat.le_trans List.countP_le_length (by rw [List.length_take]; exact Nat.min_le_left _ _)
variable {x:Field}
theorem HM (hx:l[k]? = some x) (q:Int):h_ (l.take (k+1)) q=if q=x.num then h_ (l.take k) x.num+1 else h_ (l.take k) q:=by
 unfold h_;rw [ai hx,List.countP_append];by_cases h:q=x.num
 ·subst h; simp
 have:¬ x.num=q:=fun e=>h e.symm;simp [h,this]
def s_ (l:List Field) (ss:List Spec) (k:Nat):Prop:=∀ j x,j<k->l[j]? = some x->∀ s ∈ ss,s.num=x.num->KE x s ((h_ (l.take (j+1)) x.num:Nat):Int)=true
def HH (l:List Field) (ss:List Spec) (m:Nat):Prop:=∀ j y,j<m->ss[j]? = some y->y.need=true->¬ h_ l y.num=0
def MC (ss:List Spec) (x:Field) (n:Int) (m:Nat):Prop:=∀ j y,j<m->ss[j]? = some y->y.num=x.num->KE x y n=true
variable {n:Int} {ss:List Spec}
theorem acJ:MC ss x n 0:=fun j y h=>by omega
theorem ZW:s_ l ss 0:=fun j y h=>by omega
theorem ZB:HH l ss 0:=fun j y h=>by omega
def Ag (l:List Field) (v:Int):Prop:=s_ l (aP v) l.length/\HH l (aP v) (aP v).length
open Classical in
noncomputable def fZ (l:List Field) (v:Int):Int:=if (aP v).length=0 then 1 else if cE l=0 then (if Ag l v then 0 else 6) else cE l
theorem aeE {v:Int} (h:(aP v).length=0):1=fZ l v:=by rw [fZ,if_pos h]
theorem agJ {v:Int} (h:¬ (aP v).length=0) (h2:¬ cE l=0):cE l=fZ l v:=by rw [fZ,if_neg h,if_neg h2]
theorem acq {v:Int} (h:¬ (aP v).length=0) (h2:cE l=0) (h3:¬ Ag l v):6=fZ l v:=by rw [fZ,if_neg h,if_pos h2,if_neg h3]
theorem agS {v:Int} (h:¬ (aP v).length=0) (h2:cE l=0) (h3:Ag l v):0=fZ l v:=by rw [fZ,if_neg h,if_pos h2,if_pos h3]
theorem KD {y:Spec} (h:MC ss x n m) (hy:ss[m]? = some y) (hn:y.num=x.num->KE x y n=true):MC ss x n (m+1):=by
 intro j z hj hz;by_cases hjm:j=m
 ·subst hjm; rw [hy] at hz; cases hz; exact hn
 exact h j z aJ hz
theorem Lw (h:s_ l ss k) (hx:l[k]? = some x) (hi:MC ss x n m) (hm:ss.length<=m) (e:n=((h_ (l.take (k+1)) x.num:Nat):Int)):s_ l ss (k+1):=by
 subst e;intro j z hj hz s hs hn;by_cases hjk:j=k
 ·subst hjk; rw [hx] at hz; cases hz;obtain ⟨p,hp,rfl⟩:=List.getElem_of_mem hs;exact hi p _ aJ (List.getElem?_eq_getElem hp) hn
 exact h j z aJ hz s hs hn
theorem Lz {y:Spec} (h:HH l ss m) (hy:ss[m]? = some y) (hn:y.need=true->¬ h_ l y.num=0):HH l ss (m+1):=by
 intro j z hj hz;by_cases hjm:j=m
 ·subst hjm; rw [hy] at hz; cases hz; exact hn
 exact h j z aJ hz
theorem R_ {v:Int} {y:Spec} (hx:l[k]? = some x) (hy:(aP v)[m]? = some y) (hn:y.num=x.num/\KE x y n=false) (e:n=((h_ (l.take (k+1)) x.num:Nat):Int)):¬ Ag l v:=by
 intro h;have:=h.1 k x (Cr hx) hx y (ac4 hy) hn.1;rw [<- e,hn.2] at this; cases this
variable {n:Nat}
theorem SW {v:Int} {y:Spec} (hy:(aP v)[m]? = some y) (hn:y.need=true/\((n:Nat):Int)=0) (e:n=h_ l y.num):¬ Ag l v:=
 fun h=>h.2 m y (Cr hy) hy hn.1 (by omega)
theorem Rr {v:Int} (h1:s_ l (aP v) k) (hk:l.length<=k) (h2:HH l (aP v) m) (hm:(aP v).length<=m):Ag l v:=
 ⟨fun j x hj=>h1 j x (by omega),fun j y hj=>h2 j y (by omega)⟩
theorem Pa {v:Int} (hx:l[k]? = some x) (h:x.num<=v):(l.take k).filter (fun f=>decide (f.num<=v))++[x]=(l.take (k+1)).filter (fun f=>decide (f.num<=v)):=by
 rw [ai hx,List.filter_append]; simp [h]
theorem Zo {v:Int} (hx:l[k]? = some x) (h:¬ x.num<=v):(l.take k).filter (fun f=>decide (f.num<=v))=(l.take (k+1)).filter (fun f=>decide (f.num<=v)):=by
 rw [ai hx,List.filter_append]; simp [h]
theorem Rc {v:Int} (hx:l[k]? = some x) (h:¬ x.num<=v):(l.take k).filter (fun f=>!decide (f.num<=v))++[x]=(l.take (k+1)).filter (fun f=>!decide (f.num<=v)):=by
 rw [ai hx,List.filter_append]; simp [h]
theorem VM {v:Int} (hx:l[k]? = some x) (h:x.num<=v):(l.take k).filter (fun f=>!decide (f.num<=v))=(l.take (k+1)).filter (fun f=>!decide (f.num<=v)):=by
 rw [ai hx,List.filter_append]; simp [h]
theorem KJ (l:List Field) (p:Field->Bool):(l.filter p).length<=l.length:=List.length_filter_le _ _
def dG (l:List Field) (v:Int):List Field:=l.filter fun f=>decide (f.num<=v)
def eh (l:List Field) (v:Int):List Field:=l.filter fun f=>!decide (f.num<=v)
theorem Pc (l:List Field) (v:Int):(dG l v).length<=l.length:=KJ _ _
theorem Ey (l:List Field) (v:Int):(eh l v).length<=l.length:=KJ _ _
theorem Hy {v:Int} (hk:l.length<=k):(l.take k).filter (fun f=>decide (f.num<=v))=dG l v:=by rw [List.take_of_length_le hk]; rfl
theorem ND {v:Int} (hk:l.length<=k):(l.take k).filter (fun f=>!decide (f.num<=v))=eh l v:=by rw [List.take_of_length_le hk]; rfl
def HI (f:Field):Int:=IntKind.i64.wrap ((f.n.n:Nat):Int)
def eZ (c:Command) (f:Field):Command:=
 if f.num=1 then ⟨HI f,c.client,c.seq,c.set,c.id,c.n,c.chunks,c.text⟩ else
 if f.num=2 then ⟨c.kind,HI f,c.seq,c.set,c.id,c.n,c.chunks,c.text⟩ else
 if f.num=3 then ⟨c.kind,c.client,HI f,c.set,c.id,c.n,c.chunks,c.text⟩ else
 if f.num=4 then ⟨c.kind,c.client,c.seq,HI f,c.id,c.n,c.chunks,c.text⟩ else
 if f.num=5 then ⟨c.kind,c.client,c.seq,c.set,HI f,c.n,c.chunks,c.text⟩ else
 if f.num=6 then ⟨c.kind,c.client,c.seq,c.set,c.id,HI f,c.chunks,c.text⟩ else
 if f.num=7 then ⟨c.kind,c.client,c.seq,c.set,c.id,c.n,kD f.b,c.text⟩ else
 if f.num=8 then ⟨c.kind,c.client,c.seq,c.set,c.id,c.n,c.chunks,⟨f.b⟩⟩ else c
def cA:Command:=⟨0,0,0,0,0,0,[],⟨[]⟩⟩
def cM (l:List Field):Command:=l.foldl eZ cA
theorem dy (hx:l[k]? = some x):cM (l.take (k+1))=eZ (cM (l.take k)) x:=by
 unfold cM; rw [ai hx,List.foldl_append]; rfl
theorem ae8 {c:Command} (h:f.num=1):(⟨HI f,c.client,c.seq,c.set,c.id,c.n,c.chunks,c.text⟩:Command)=eZ c f:=by rw [eZ,if_pos h]
theorem adA {c:Command} (h:f.num=2):(⟨c.kind,HI f,c.seq,c.set,c.id,c.n,c.chunks,c.text⟩:Command)=eZ c f:=by rw [eZ,if_neg (by omega),if_pos h]
theorem aek {c:Command} (h:f.num=3):(⟨c.kind,c.client,HI f,c.set,c.id,c.n,c.chunks,c.text⟩:Command)=eZ c f:=by rw [eZ,if_neg (by omega),if_neg (by omega),if_pos h]
theorem ae7 {c:Command} (h:f.num=4):(⟨c.kind,c.client,c.seq,HI f,c.id,c.n,c.chunks,c.text⟩:Command)=eZ c f:=by rw [eZ,if_neg (by omega),if_neg (by omega),if_neg (by omega),if_pos h]
theorem aef {c:Command} (h:f.num=5):(⟨c.kind,c.client,c.seq,c.set,HI f,c.n,c.chunks,c.text⟩:Command)=eZ c f:=by rw [eZ,if_neg (by omega),if_neg (by omega),if_neg (by omega),if_neg (by omega),if_pos h]
theorem ae3 {c:Command} (h:f.num=6):(⟨c.kind,c.client,c.seq,c.set,c.id,HI f,c.chunks,c.text⟩:Command)=eZ c f:=by rw [eZ,if_neg (by omega),if_neg (by omega),if_neg (by omega),if_neg (by omega),if_neg (by omega),if_pos h]
theorem agY {c:Command} (h:f.num=7):(⟨c.kind,c.client,c.seq,c.set,c.id,c.n,kD f.b,c.text⟩:Command)=eZ c f:=by rw [eZ,if_neg (by omega),if_neg (by omega),if_neg (by omega),if_neg (by omega),if_neg (by omega),if_neg (by omega),if_pos h]
theorem aeg {c:Command} (h:f.num=8):(⟨c.kind,c.client,c.seq,c.set,c.id,c.n,c.chunks,⟨f.b⟩⟩:Command)=eZ c f:=by rw [eZ,if_neg (by omega),if_neg (by omega),if_neg (by omega),if_neg (by omega),if_neg (by omega),if_neg (by omega),if_neg (by omega),if_pos h]
theorem adQ {c:Command} (h:¬ (1<=f.num/\f.num<=8)):c=eZ c f:=by rw [eZ,if_neg (by omega),if_neg (by omega),if_neg (by omega),if_neg (by omega),if_neg (by omega),if_neg (by omega),if_neg (by omega),if_neg (by omega)]
noncomputable def lM (b:List UInt8) (v:Int):Int:=if (bA b).2=0 then fZ (bA b).1 v else (bA b).2
structure TkR where
 c:Command
 r:List Field
 e:Int
noncomputable def ct (b:List UInt8) (v:Int):TkR:=
 if 1<=v/\v<=3 then (if lM b v=0 then (if eT (cM (dG (bA b).1 (cG v))) (eh (bA b).1 (cG v)) v=0/\fY (cM (dG (bA b).1 (cG v))) (eh (bA b).1 (cG v)) v=b then ⟨cM (dG (bA b).1 (cG v)),eh (bA b).1 (cG v),0⟩ else ⟨cA,[],6⟩) else ⟨cA,[],lM b v⟩) else ⟨cA,[],1⟩
theorem ags {v:Int} (h:¬ (1<=v/\v<=3)):ct b v=⟨cA,[],1⟩:=by rw [ct,if_neg h]
theorem aat {v:Int} (h:1<=v/\v<=3) (h2:¬ lM b v=0):ct b v=⟨cA,[],lM b v⟩:=by rw [ct,if_pos h,if_neg h2]
theorem aep {v:Int} (h:1<=v/\v<=3) (h2:lM b v=0) (h3:¬ eT (cM (dG (bA b).1 (cG v))) (eh (bA b).1 (cG v)) v=0\/¬ fY (cM (dG (bA b).1 (cG v))) (eh (bA b).1 (cG v)) v=b):ct b v=⟨cA,[],6⟩:=by
 rw [ct,if_pos h,if_pos h2,if_neg (fun h=>h3.elim (fun h4=>h4 h.1) (fun h4=>h4 h.2))]
theorem afK {v:Int} (h:1<=v/\v<=3) (h2:lM b v=0) (h3:eT (cM (dG (bA b).1 (cG v))) (eh (bA b).1 (cG v)) v=0/\fY (cM (dG (bA b).1 (cG v))) (eh (bA b).1 (cG v)) v=b):ct b v=⟨cM (dG (bA b).1 (cG v)),eh (bA b).1 (cG v),0⟩:=by
 rw [ct,if_pos h,if_pos h2,if_pos h3]
theorem Ql {v:Int} (h:lM b v=0):(bA b).2=0/\cE (bA b).1=0:=by
 unfold lM at h;split at h
 ·rename_i h1;refine ⟨h1,?_⟩;unfold fZ at h;split at h
  ·cases h
  split at h
  ·assumption
  exact h
 rename_i h1; exact absurd h h1
theorem XF {v:Int} {u:Int} (h:lM b v=0):∀ f ∈ dG (bA b).1 u,f.b.length<=16384:=
 fun _ hf=>vT (Ql h).2 (ahp.1 hf).1
variable {x:UInt8}
theorem Fv (h:x.toNat<128):(x &&& 127).toNat=x.toNat:=by rw [oa]; omega
theorem GJ:∀ (n:Nat) {k m:Nat} {r:List UInt8},k<=9->n*2 ^ (7*k)<18446744073709551616->(0<k->n≠0)->bJ k m (cK n++r)=(m+n*2 ^ (7*k),k+(cK n).length,0):=by
 intro n;induction n using Nat.strongRecOn with
 | _ n ih=>
  intro k m r hk hn h0;by_cases hs:n<128
  ·rw [Cj hs];have hx:(UInt8.ofNat n).toNat=n:=by rw [UInt8.toNat_ofNat']; omega
   simp only [List.cons_append,ahe,List.length_cons,List.length_nil];have h9:¬ ((0<k/\(UInt8.ofNat n).toNat=0)\/(k=9/\1<(UInt8.ofNat n).toNat)):=by
    rw [hx];rintro (⟨h1,h2⟩ | ⟨rfl,h2⟩)
    ·exact h0 h1 h2
    have:2*2 ^ (7*9)<=n*2 ^ (7*9):=ada _ (by omega);have e:(2:Nat)*2 ^ (7*9)=18446744073709551616:=by decide
    omega
   rw [bJ,if_neg (by omega),if_neg h9,if_pos (by omega),Fv (by omega),hx]
  rw [NS hs];simp only [List.cons_append,List.length_cons];have hx:=ZS n;have hk8:k<=8:=by
   rcases Nat.lt_or_ge k 9 with h | h
   ·omega
   have hk9:k=9:=by omega
   subst hk9;have:128*2 ^ (7*9)<=n*2 ^ (7*9):=ada _ (by omega);have e:(128:Nat)*2 ^ (7*9)=1180591620717411303424:=by decide
   omega
  have e7:(2:Nat) ^ (7*(k+1))=128*2 ^ (7*k):=by rw [show 7*(k+1)=7*k+7 by omega,Nat.pow_add,Nat.mul_comm]
  have hd:n / 128*2 ^ (7*(k+1))<=n*2 ^ (7*k):=by
   rw [e7,<- Nat.mul_assoc]; exact ada _ (Nat.div_mul_le_self _ _)
  rw [bJ,if_neg (by omega),if_neg (by rw [hx]; rintro (⟨_,h⟩ | ⟨h,_⟩) <;> omega),if_neg (by omega),oa,hx];rw [ih (n / 128) (by omega) (k:=k+1) (by omega) (by omega) (fun _=>by omega)];have e:(n % 128+128) % 128=n % 128:=by omega
  have e2:n % 128*2 ^ (7*k)+n / 128*2 ^ (7*(k+1))=n*2 ^ (7*k):=by
   rw [e7,<- Nat.mul_assoc,<- ag4]; congr 1; omega
  rw [e,Nat.add_assoc,e2];congr 2;omega
theorem tX (h:n<18446744073709551616) (r:List UInt8):aj (cK n++r)=(n,(cK n).length,0):=by
 unfold aj;rw [GJ n (by omega) (by simpa using h) (fun h=>absurd h (by omega))];simp
theorem tvX (hx:b[k]? = some x):b.getD k (ao .u8)=x:=by rw [List.getD_eq_getElem?_getD,hx]; rfl
theorem tvA (h:aj b=bJ k n (b.drop k)) (hk:(k:Int)<10) (hb:(k:Int)=(b.length:Int)):aj b=(0,0,2):=h.trans (Vp (by omega) (by omega))
theorem tvD (h:aj b=bJ k n (b.drop k)) (hk:10<=(k:Int)):aj b=(0,0,3):=h.trans (WV (by omega))
theorem tvG (h1:k<=b.length) (h2:¬ (k:Int)=(b.length:Int)):∃ x,b[k]? = some x:=⟨_,List.getElem?_eq_getElem (by omega)⟩
theorem tvB (h:aj b=bJ k n (b.drop k)) (hk:(k:Int)<10) (hl:k<=b.length) (hb:¬ (k:Int)=(b.length:Int)) (h0:0<(k:Int)) (h1:((b.getD k (ao .u8)).toNat:Int)=((UInt8.ofNat 0).toNat:Int)):aj b=(0,0,3):=by
 obtain ⟨x,hx⟩:=tvG hl hb;rw [tvX hx,show (UInt8.ofNat 0).toNat=0 from rfl] at h1;exact MK h aJ hx (.inl ⟨by omega,by omega⟩)
theorem tvC (h:aj b=bJ k n (b.drop k)) (_hk:(k:Int)<10) (hl:k<=b.length) (hb:¬ (k:Int)=(b.length:Int)) (h0:(k:Int)=9) (h1:((UInt8.ofNat 1).toNat:Int)<((b.getD k (ao .u8)).toNat:Int)):aj b=(0,0,3):=by
 obtain ⟨x,hx⟩:=tvG hl hb;rw [tvX hx,show (UInt8.ofNat 1).toNat=1 from rfl] at h1;exact MK h aJ hx (.inr ⟨by omega,by omega⟩)
def Zx (n k:Nat) (x:UInt8):Nat:=n ||| (x &&& UInt8.ofNat 127).toNat*2 ^ (7*(k:Int)).toNat % 18446744073709551616
theorem tvN (hn:n<2 ^ (7*k)) (hk:k<=9) (h9:k=9->x.toNat<=1):Zx n k x=n+(x &&& 127).toNat*2 ^ (7*k):=by
 unfold Zx;rw [show (UInt8.ofNat 127)=127 from rfl,show (7*(k:Int)).toNat=7*k by omega,Nat.mod_eq_of_lt (XD hk h9)];exact XC hn
theorem tvZ (hx:b[k]? = some x) (h1:(k:Int)<=0\/¬ ((b.getD k (ao .u8)).toNat:Int)=((UInt8.ofNat 0).toNat:Int)) (h2:¬ (k:Int)=9\/((b.getD k (ao .u8)).toNat:Int)<=((UInt8.ofNat 1).toNat:Int)):(¬ (0<k/\x.toNat=0))/\¬ (k=9/\1<x.toNat):=by grind
theorem tvE {y:UInt8} (h:aj b=bJ k n (b.drop k)) (hn:n<2 ^ (7*k)) (hk:(k:Int)<10) (hx:b[k]? = some x) (hy:b[k]? = some y) (h1:(k:Int)<=0\/¬ ((b.getD k (ao .u8)).toNat:Int)=((UInt8.ofNat 0).toNat:Int)) (h2:¬ (k:Int)=9\/((b.getD k (ao .u8)).toNat:Int)<=((UInt8.ofNat 1).toNat:Int)) (h3:(y.toNat:Int)<((UInt8.ofNat 128).toNat:Int)):aj b=(Zx n k x,k+1,0):=by
 have hz:=tvZ hx h1 h2;rw [show (UInt8.ofNat 128).toNat=128 from rfl] at h3;rw [hx] at hy; cases hy;rw [tvN hn (by omega) (by omega)];exact SG h aJ hx hz.1 hz.2 aJ
theorem tvF {y:UInt8} (h:aj b=bJ k n (b.drop k)) (hn:n<2 ^ (7*k)) (hn2:n<18446744073709551616) (hk:(k:Int)<10) (hx:b[k]? = some x) (hy:b[k]? = some y) (h1:(k:Int)<=0\/¬ ((b.getD k (ao .u8)).toNat:Int)=((UInt8.ofNat 0).toNat:Int)) (h2:¬ (k:Int)=9\/((b.getD k (ao .u8)).toNat:Int)<=((UInt8.ofNat 1).toNat:Int)) (h3:((UInt8.ofNat 128).toNat:Int)<=(y.toNat:Int)):Zx n k x<2 ^ (7*(k+1))/\Zx n k x<18446744073709551616/\aj b=bJ (k+1) (Zx n k x) (b.drop (k+1)):=by
 have hz:=tvZ hx h1 h2;rw [show (UInt8.ofNat 128).toNat=128 from rfl] at h3;rw [hx] at hy; cases hy;have e:=tvN hn (show k<=9 by omega) (show k=9->x.toNat<=1 by omega);refine ⟨by rw [e]; exact Pl hn,?_,by rw [e]; exact Qy h (by omega) hx hz.1 hz.2 (by omega)⟩;exact ag9 (n:=64) hn2 (afv _ (by decide))
variable {x:Int}
theorem ZE {c:Command} {v:Int} (hx:[c.client,c.seq,c.set,c.id,c.n][k]? = some x) (h:x<0\/1048576<x):false=fT c v:=by
 refine PA ?_;grind
theorem ZJ {c:Command} (h:(k:Int)<5):[c.client,c.seq,c.set,c.id,c.n][k]? = some ([c.client,c.seq,c.set,c.id,c.n].getD k (ao .int)):=by
 rw [List.getD_eq_getElem?_getD,List.getElem?_eq_getElem (by simp only [List.length_cons]; omega)]; rfl
theorem aak {n:Int} {p:Prop} (h:n<=0\/p):(¬ 0<n)\/p:=h.imp_left (by omega)
theorem afi {l:List Int} (h:((l.take k).all fun n=>bX n 0 1048576)=true) (hx:l[k]? = some x) (h0:0<=x) (h1:x<=1048576):((l.take (k+1)).all fun n=>bX n 0 1048576)=true:=by
 rw [ai hx,ahf,h]; simp [bX]; omega
theorem aaI {c:Command} (h:(([c.client,c.seq,c.set,c.id,c.n].take k).all fun n=>bX n 0 1048576)=true) (hk:5<=(k:Int)):¬ ((c.client<0\/1048576<c.client)\/(c.seq<0\/1048576<c.seq)\/(c.set<0\/1048576<c.set)\/(c.id<0\/1048576<c.id)\/(c.n<0\/1048576<c.n)):=by
 rw [List.take_of_length_le (by simp only [List.length_cons,List.length_nil]; omega)] at h;simp only [ahh,bX,Bool.and_eq_true,decide_eq_true_eq] at h;omega
def Yo (b:List UInt8):List (Nat × LI):=[(3,{ σ:=Nat × Nat,F:=fun s=>([(0,one (.fz .u8 (b))),(5,one (.u64 s.2)),(6,one (.int 0)),(7,one (.int 3)),(9,one (.int s.1))],[]),J:=fun s=>s.1<=10/\s.2<2 ^ (7*s.1)/\s.2<18446744073709551616/\aj b=bJ s.1 s.2 (b.drop s.1)/\s.1<=b.length,μ:=fun s=>10 - s.1 })]
def Hh (c:Command) (v:Int):List (Nat × LI):=[(5,{ σ:=Nat,F:=fun k=>([(1,one (.int (v))),(2,one (.ptr 0 0)),(38,.one (.agg [.int c.client,.int c.seq,.int c.set,.int c.id,.int c.n])),(39,one (.int k))],[.box 35 (cellsOf (.nm .command) (c))]),J:=fun k=>k<=5/\([c.client,c.seq,c.set,c.id,c.n].take k).all (fun n=>bX n 0 1048576)=true,μ:=fun k=>5 - k })]
def CP:Kn:=aI (ae (kC (cL .u8)) au) aw fun (b,_) _=>⟨[],[.c (.u64 ((U64.mk (aj b).1)).n),.c (.int ((((aj b).2.1:Nat)))),.c (.int (((aj b).2.2)))],none,false⟩
theorem Ox:CK 210 CP:=ah fun (b,_) _ _=>by
 refine av dk (Yo b) Tryz.func210 (?_:(fun (q14:UInt8)=>(fun (q13:Nat)=>(fun (q12:Nat)=>(fun (q11:Nat)=>(fun (q10:Int)=>(fun (q9:Nat)=>(fun (q8:Int)=>(fun (q7:Int)=>(fun (q6:Int)=>(fun (q5:Int)=>(fun (q4:Int)=>(fun (q3:Prop)=>(fun (q2:Int)=>(fun (q1:Int)=>(fun (q0:Int)=>(fun (q18:Prop)=>(fun (q17:Prop)=>(fun (q16:Prop)=>(fun (q15:Prop)=>b.length*1<=140737488355328->∃ (s0:Nat × Nat),(b=b/\0=s0.snd/\q17/\q4=q4/\q0=(↑s0.fst:Int))/\(s0.fst<=q12/\s0.snd<q11 ^ (7*s0.fst)/\s0.snd<q13/\aj b=bJ s0.fst s0.snd (List.drop s0.fst b)/\s0.fst<=b.length)/\∀ (s:Nat × Nat),(fun (q23:Nat)=>(fun (q22:Int)=>(fun (q21:Prop)=>(fun (q20:Int)=>(fun (q25:Int)=>(fun (q24:Int)=>(fun (q19:Prop)=>q23<=q12/\s.snd<q11 ^ (7*q23)/\s.snd<q13/\aj b=bJ q23 s.snd (List.drop q23 b)/\q23<=b.length->(q20<10->(q20=q5->(¬2=q0->q3/\q0=q1/\2=q2)/\(2=q0->s.snd=q9/\q15))/\(¬q20=q5->(q0<q20->q0<=q20/\q20<q5)/\(q0<q20/\q22=q6->(q0<q20/\q22=q6->q21)/\(q20<=q0\/¬q22=q6->q19))/\(q20<=q0\/¬q22=q6->(q20=9->q0<=q20/\q20<q5)/\(q20=9/\(↑(UInt8.ofNat 1).toNat:Int)<q22->q21)/\(¬q20=9\/q22<=(↑(UInt8.ofNat 1).toNat:Int)->q19))))/\(10<=q20->q21)) (q0<=q20/\q20<q5/\∀ (x:UInt8),b[q23]? = some x->I64 q24/\q0<=q24/\q24<64/\q0<=q20/\q20<q5/\∀ (x_1:UInt8),b[q23]? = some x_1->((↑x_1.toNat:Int)<q7->I64 q25/\(¬q17->q3/\q15)/\(q17->s.snd ||| (x &&& q14).toNat*q11 ^ q24.toNat % q13=q9/\q25=q1/\q0=q2))/\(q7<=(↑x_1.toNat:Int)->I64 q25/\∃ (s':Nat × Nat),(b=b/\s.snd ||| (x &&& q14).toNat*q11 ^ q24.toNat % q13=s'.snd/\q17/\q4=q4/\q25=(↑s'.fst:Int))/\(s'.fst<=q12/\s'.snd<q11 ^ (7*s'.fst)/\s'.snd<q13/\aj b=bJ s'.fst s'.snd (List.drop s'.fst b)/\s'.fst<=b.length)/\q12 - s'.fst<q12 - q23))) (q8*q20)) (q20+q10)) (↑q23:Int)) ((¬q18->q16)/\(q18->s.snd=q9/\q15))) (↑(UInt8.toNat (b.getD q23 (ao Sh.u8))):Int)) s.fst) (q0=q1/\q0=q2)) (q3/\q0=q1/\q4=q2)) (q0=q0)) (q4=q0)) 0) (↑(aj b).snd.fst:Int)) (aj b).snd.snd) (0=q9)) 3) (↑b.length:Int)) (↑(UInt8.ofNat 0).toNat:Int)) (↑(UInt8.ofNat 128).toNat:Int)) 7) (aj b).fst) 1) 2) 10) 18446744073709551616) (UInt8.ofNat 127));(repeat' with_reducible first|apply bd|refine ba ?_|intro)
 all_goals try (first | exact bq | decide)
 all_goals (refine ⟨(0,0),⟨rfl,rfl,?_,?_,?_⟩,⟨by omega,by decide,by decide,rfl,by omega⟩,?_⟩)
 all_goals try (first | trivial | rfl)
 (repeat' with_reducible first|apply bd|refine ba ?_|intro)
 all_goals try (first | exact bq | (rw [tvA ab ab ab] <;> rfl) | (rw [tvD ab ab] <;> rfl) | (rw [tvB ab ab ab ab ab ab] <;> rfl) | (rw [tvC ab ab ab ab ab ab] <;> rfl) | exact (congrArg Prod.fst (tvE ab ab ab ab ab ab ab ab)).symm | exact (congrArg (fun t=>((t.2.1:Nat):Int)) (tvE ab ab ab ab ab ab ab ab)).symm | exact (congrArg (fun t=>t.2.2) (tvE ab ab ab ab ab ab ab ab)).symm)
 all_goals (refine ⟨(‹Nat × Nat›.1+1,_),⟨rfl,rfl,?_⟩,?_⟩; (repeat' with_reducible first|apply bd|refine ba ?_|intro))
 all_goals (first | exact bq | exact (tvF ab ab ab ab ab ab ab ab ab).1 | exact (tvF ab ab ab ab ab ab ab ab ab).2.1 | exact (tvF ab ab ab ab ab ab ab ab ab).2.2)
def zu:Kn:=aI (ae (kT (.nm .field)) (ae (kT (.nm .field)) au)) aw fun (x,y,_) _=>⟨[],[.c (.bool (.atom ((fE x y))))],none,false⟩
theorem IK:CK 256 zu:=ah fun (x,y,_) _ _=>by
 refine av dk [] Tryz.func256 (?_:I64 x.num->I64 x.wire->x.n.n<18446744073709551616->x.b.length*1<=140737488355328->I64 y.num->I64 y.wire->y.n.n<18446744073709551616->y.b.length*1<=140737488355328->(y.num=x.num->(decide (y.wire=2) && decide (x.wire=2))=fE x y)/\(¬y.num=x.num->decide (x.num<y.num)=fE x y));grind [fE]
def zx:Kn:=aI (ae (kT (.nm .field)) au) aw fun (x,_) _=>⟨[],[.c (.bool (.atom ((dV x))))],none,false⟩
theorem IG:CK 255 zx:=ah fun (x,_) _ _=>by
 refine av dk [] Tryz.func255 (?_:I64 x.num->I64 x.wire->x.n.n<(18446744073709551616:Nat)->x.b.length*(1:Nat)<=(140737488355328:Nat)->(x.num<(1:Int)\/(1000:Int)<x.num->false=dV x)/\((1:Int)<=x.num/\x.num<=(1000:Int)->(x.wire=(0:Int)->decide ((↑x.b.length:Int)=(0:Int))=dV x)/\(¬x.wire=(0:Int)->(x.wire=(2:Int)->decide ((↑x.n.n:Int)=(↑(0:Nat):Int))=dV x)/\(¬x.wire=(2:Int)->false=dV x))));grind [dV,Ls,HZ]
def zf:Kn:=aI (ae (kC (cL .u8)) (ae (kC (cL .u8)) au)) aw fun (x,y,_) _=>⟨[],[.c (.bool (.atom ((decide (x=y)))))],none,false⟩
theorem NL:CK 146 zf:=ah fun (x,y,_) _ _=>by
 refine av dk [] Tryz.func146 (?_:x.length*1<=140737488355328->y.length*1<=140737488355328->decide (Str.mk x=Str.mk y)=decide (x=y));grind
def AP:Kn:=aI (ae (kC (cL .u8)) au) aw fun (x,_) _=>⟨[],[.c (.fz .u8 ((x)))],none,false⟩
theorem KI:CK 332 AP:=ah fun (x,_) _ _=>by
 refine av dk [] Tryz.func332 (?_:(fun q0=>q0->∀ (b:Bool),(b=true->x=[])->(b=true->x=[])/\(b=false->q0/\x=x)) (x.length*1<=140737488355328));grind
def Tm:Kn:=aI (ae (kC cI) (ae (kC cI) au)) aw fun (k,l,_) _=>⟨[],[.agg (cellsOf (.nm .spec) (⟨k,0,l,false,false⟩))],none,false⟩
theorem abW:CK 271 Tm:=ah fun (k,l,_) _ _=>by
 refine av dk [] Tryz.func271 (?_:I64 k->I64 l->k=k/\(0:Int)=0/\l=l/\false=false/\false=false);grind
def TY:Kn:=aI (ae (kC cI) (ae (kC cI) au)) aw fun (k,l,_) _=>⟨[],[.agg (cellsOf (.nm .spec) (⟨k,2,l,false,false⟩))],none,false⟩
theorem aao:CK 272 TY:=ah fun (k,l,_) _ _=>by
 refine av dk [] Tryz.func272 (?_:I64 k->I64 l->k=k/\(2:Int)=2/\l=l/\false=false/\false=false);grind
def Ub:Kn:=aI (ae (kT (.nm .spec)) au) aw fun (x,_) _=>⟨[],[.agg (cellsOf (.nm .spec) ({ x with need:=true }))],none,false⟩
theorem abU:CK 273 Ub:=ah fun (x,_) _ _=>by
 refine av dk [] Tryz.func273 (?_:lO x (x.num=x.num/\x.wire=x.wire/\x.since=x.since/\true=true/\x.many=x.many));grind
def UG:Kn:=aI (ae (kT (.nm .spec)) au) aw fun (x,_) _=>⟨[],[.agg (cellsOf (.nm .spec) ({ x with many:=true }))],none,false⟩
theorem aas:CK 274 UG:=ah fun (x,_) _ _=>by
 refine av dk [] Tryz.func274 (?_:lO x (x.num=x.num/\x.wire=x.wire/\x.since=x.since/\x.need=x.need/\true=true));grind
def JL:Kn:=aI (ae (kT (.nm .field)) (ae (kT (.nm .spec)) (ae (kC cI) au))) aw fun (x,s,n,_) _=>⟨[],[.c (.bool (.atom ((KE x s n))))],none,false⟩
theorem Yb:CK 331 JL:=ah fun (x,s,n,_) _ _=>by
 refine av dk [] Tryz.func331 (?_:I64 x.num->I64 x.wire->x.n.n<(18446744073709551616:Nat)->x.b.length*(1:Nat)<=(140737488355328:Nat)->lO s (I64 n->(¬x.wire=s.wire\/(1:Int)<n/\s.many=false->false=KE x s n)/\(x.wire=s.wire/\(n<=(1:Int)\/s.many=true)->(x.wire=(0:Int)->(!decide ((↑x.n.n:Int)=(↑(0:Nat):Int)))=KE x s n)/\(¬x.wire=(0:Int)->decide ((0:Int)<(↑x.b.length:Int))=KE x s n))));grind [KE]
def KQ:Kn:=aI (ae (kC cI) (ae (kC cI) au)) aw fun (num,wire,_) _=>⟨[],[.c (.own 0),.c (.int ((xA num wire)))],some ([.row 5 .u8 ((mL num wire))]),true⟩
theorem VI:CK 257 KQ:=ah fun (num,wire,_) _ _=>by
 refine dj dk [] Tryz.func257 (?_:(fun q0=>I64 num->I64 wire->((num<1\/1000<num)\/¬wire=0/\¬wire=2->1=xA num wire/\mL num wire=[])/\((1<=num/\num<=1000)/\(wire=0\/wire=2)->I64 (8*num)/\I64 q0/\0<=q0/\0=xA num wire/\cK q0.toNat=mL num wire)) (8*num+wire));(repeat' with_reducible first|apply bd|refine ba ?_|intro)
 all_goals (first | exact bq | exact (Ph aJ) | exact (Mg aJ) | exact (Dy aJ).symm | exact (Dy aJ) | exact (Kt aJ))
def rh:Kn:=aI (ae (kT (.nm .command)) (ae (kC cI) au)) aw fun (c,v,_) _=>⟨[],[.c (.bool (.atom ((fT c v))))],none,false⟩
theorem BB:CK 160 rh:=ah fun (c,v,_) _ _=>by
 refine av dk (Hh c v) Tryz.func160 (?_:(fun (q5:Prop)=>(fun (q4:Nat)=>(fun (q3:Int)=>(fun (q2:Int)=>(fun (q1:List Int)=>(fun (q0:List (den Sh.int))=>bH c (I64 v->I64 q3->((c.kind<1\/99<c.kind)\/¬q3=q2/\q3<=v->q5)/\((1<=c.kind/\c.kind<=99)/\(q3=q2\/v<q3)->∃ (s0:Nat),(v=v/\c.client=c.client/\c.seq=c.seq/\c.set=c.set/\c.id=c.id/\c.n=c.n/\q2=(↑s0:Int)/\aT c c)/\(s0<=q4/\((List.take s0 q1).all fun (n:Int)=>bX n q2 1048576)=true)/\∀ (s:Nat),(fun (q6:den Sh.int)=>s<=q4/\((List.take s q1).all fun (n:Int)=>bX n q2 1048576)=true->((↑s:Int)<5->q2<=(↑s:Int)/\(↑s:Int)<(↑q4:Int)/\(I64 q6->(q6<q2\/1048576<q6->q5)/\(q2<=q6/\q6<=1048576->I64 ((↑s:Int)+1)/\∃ (s':Nat),(v=v/\c.client=c.client/\c.seq=c.seq/\c.set=c.set/\c.id=c.id/\c.n=c.n/\(↑s:Int)+1=(↑s':Int)/\aT c c)/\(s' <= q4/\((List.take s' q1).all fun (n:Int)=>bX n q2 1048576)=true)/\q4 - s' < q4 - s)))/\(5<=(↑s:Int)->(q2<(↑c.chunks.length:Int)/\cr c.chunks=false->q5)/\((↑c.chunks.length:Int)<=q2\/cr c.chunks=true->(v<3->decide (c.text=Str.mk [])=fT c v)/\(3<=v->decide ((↑c.text.b.length:Int)<=16)=fT c v)))) (q0.getD s (ao Sh.int))))) [c.client,c.seq,c.set,c.id,c.n]) [c.client,c.seq,c.set,c.id,c.n]) 0) (cm c.kind)) 5) (false=fT c v));iterate 3 ((all_goals (repeat' with_reducible first|apply bd|refine ba ?_|intro)); (all_goals try (first | exact bq | exact rfl | exact (MY aJ) | exact (ZE (ZJ aJ) ab) | exact (afi ab (ZJ aJ) ab ab) | exact (Sx (And.intro ab ab)) | exact (Yj aJ (aaI ab aJ) (aak (by assumption)) aJ) | exact (WK aJ (aaI ab aJ) (aak (by assumption)) aJ))); all_goals try first | refine ⟨‹Nat› + 1,?_⟩ | refine ⟨0,?_⟩)
def abP:bE:=(aK 160 rh (aK 257 KQ (aK 331 JL (aK 274 UG (aK 273 Ub (aK 272 TY (aK 271 Tm (aK 332 AP (aK 146 zf (aK 255 zx (aK 256 zu (aK 210 CP Us))))))))))))
theorem nq:ay Tryz.prog (al tyT) abP:=(ag BB (ag VI (ag Yb (ag aas (ag abU (ag aao (ag abW (ag KI (ag NL (ag IG (ag IK (ag Ox dk))))))))))))
theorem ni (h:m<9223372036854775808):eE m=(m:Int):=by rw [eE,if_pos h]
theorem EN:(b.drop k).take (b.length - k)=b.drop k:=List.take_of_length_le (by rw [List.length_drop]; exact acY _)
theorem uk1 (hk:(k:Int)<(b.length:Int)) (he:(aj (b.drop k)).2.2=0) (hn:(((aj (b.drop k)).1:Nat):Int)<=((64:Nat):Int)):∃ x,b[k]? = some x/\aj (b.drop k)=(x.toNat,1,0)/\x.toNat<=64:=by
 have h:=tk1 (b:=b) (k:=k) (by omega) (by rw [EN]; exact he) (by rw [EN]; omega);rw [EN] at h; exact h
theorem ukS (hk:(k:Int)<(b.length:Int)) (he:(aj (b.drop k)).2.2=0) (hn:(((aj (b.drop k)).1:Nat):Int)<=((64:Nat):Int)):(k:Int)+((aj (b.drop k)).2.1:Nat)=((k+1:Nat):Int)/\cw (b.take k)++[eE (aj (b.drop k)).1]=cw (b.take (k+1)):=by
 obtain ⟨x,hx,hp,h64⟩:=uk1 hk he hn;have h:=QE hx hp;rw [hp] at h ⊢;exact ⟨rfl,by rw [<- h,ni (by show x.toNat<_; omega)]⟩
theorem ukR (hk:(k:Int)<(b.length:Int)) (h:(¬ (aj (b.drop k)).2.2=0)\/((64:Nat):Int)<(((aj (b.drop k)).1:Nat):Int)):cr (cw b)=false:=VZ (k:=k) (by omega) (by rw [EN]; exact h)
theorem VX (h:k<=b.length) (hb:b.length<=100000):((cw (b.take k)).length+1)*8<=140737488355328:=by
 unfold cw; rw [List.length_map,List.length_take]; omega
def aa7 (b:List UInt8):List (Nat × LI):=[(3,{ σ:=Nat,F:=fun k=>([(0,one (.fz .u8 (b))),(4,one (.own 0)),(5,one (.int k))],[.row 3 .int ((cw (b.take k)))]),J:=fun k=>k<=b.length,μ:=fun k=>b.length - k })]
def MF:Kn:=aI (ae (kC (cL .u8)) au) aw fun (b,_) _=>⟨[],[.c (.int (((aN b).num))),.c (.int (((aN b).wire))),.c (.int ((((aN b).k:Nat)))),.c (.int (((aN b).e)))],none,false⟩
theorem Wb:CK 355 MF:=ah fun (b,_) _ _=>by
 refine av nq [] Tryz.func355 (?_:(fun (q6:Int)=>(fun (q5:Int)=>(fun (q4:TagR)=>(fun (q3:Int)=>(fun (q2:Prop)=>(fun (q1:Nat)=>(fun (q7:Prop)=>(fun (q0:Int)=>(fun (q8:Prop)=>b.length*(1:Nat)<=(140737488355328:Nat)->(aj b).fst<(18446744073709551616:Nat)->I64 (↑(aj b).snd.fst:Int)->I64 q5->(¬q5=q3->q3=q4.num/\q3=q4.wire/\q3=(↑q4.k:Int)/\q5=q4.e)/\(q5=q3->q2/\(q6<=q0->q2)/\(q8->q2/\(¬q7->q2))/\((q0<q6\/(↑(1000:Nat):Int)<q0)\/¬q7/\¬(↑q1:Int)=(↑(2:Nat):Int)->q3=q4.num/\q3=q4.wire/\q3=(↑q4.k:Int)/\(6:Int)=q4.e)/\(q8/\(q7\/(↑q1:Int)=(↑(2:Nat):Int))->q2/\q2/\eE ((aj b).fst / (8:Nat))=q4.num/\eE q1=q4.wire/\(↑(aj b).snd.fst:Int)=(↑q4.k:Int)/\q3=q4.e))) (q6<=q0/\q0<=(↑(1000:Nat):Int))) (↑((aj b).fst / (8:Nat)):Int)) ((↑q1:Int)=(↑(0:Nat):Int))) ((aj b).fst % (8:Nat))) ((0:Nat)<(8:Nat))) (0:Int)) (aN b)) (aj b).snd.snd) (↑(1:Nat):Int));(repeat' with_reducible first|apply bd|refine ba ?_|intro)
 all_goals (first | exact bq | (rw [NA ab] <;> rfl) | (rw [KV ab aJ] <;> rfl) | (rw [Om ab aJ] <;> first | rfl | exact ni aJ) | (have:=(mE (l:=b) (k:=0) (n:=0) aJ).1; change (aj b).2.1<=11 at this; omega))
def Jp:Kn:=aI (ae (kT (.nm .field)) au) aw fun (f,_) _=>⟨[f.b.length<=16384],[.c (.own 0)],some ([.row 5 .u8 ((cq f))]),true⟩
theorem WG:CK 222 Jp:=ah fun (f,_) _ hp=>by
 have h0:=bV hp;refine dj nq [] Tryz.func222 (?_:(fun (q1:Nat)=>(fun (q0:List UInt8)=>I64 f.num->I64 f.wire->f.n.n<18446744073709551616->q1*1<=140737488355328->I64 (xA f.num f.wire)->(f.wire=0->(q0.length+(cK f.n.n).length)*1<=140737488355328/\q0++cK f.n.n=cq f)/\(¬f.wire=0->0<=(↑q1:Int)/\(q0.length+(cK q1).length)*1<=140737488355328/\((q0++cK q1).length+q1)*1<=140737488355328/\q0++cK q1++f.b=cq f)) (mL f.num f.wire)) f.b.length);(repeat' with_reducible first|apply bd|refine ba ?_|intro)
 all_goals (first | exact bq | exact (QM ab) | exact (Sr ab) | (have:=sF f.num f.wire; have:=cH (n:=f.n.n) ab; omega) | (have:=sF f.num f.wire; have:=cH (n:=f.b.length) aJ; (try simp only [List.length_append]); omega))
def JY:Kn:=aI (ae (kC cI) au) aw fun (q,_) _=>⟨[q=1],[.c (.fz (.nm .spec) ((bD)))],none,false⟩
theorem Wz:CK 254 JY:=ah fun (q,_) _ hp=>by
 have h0:=bV hp;refine av nq [] Tryz.func254 (?_:(fun q7=>(fun q6=>(fun q5=>(fun q4=>(fun q3=>(fun q8=>(fun q2=>(fun q9=>(fun q1=>(fun q10=>(fun q0=>(fun q14=>(fun q13=>(fun q12=>(fun q11=>I64 q->q11->q10->q11->q11->q10->q11->q9->q10->q11->q8->q10->q11->I64 q4->q10->q11->I64 q5->q10->q11->I64 q6->q10->q11->I64 q7->q9->q11->I64 8->q9->q8->q11->q10->q11->q11->q10->q11->q9->q10->q11->q9->q10->q11->q8->q9->q11->q8->q9->q11->I64 q4->q10->q9->I64 q5->q9->q8->q11->q10->q11->q11->q10->q11->q9->q10->q11->q9->q10->q11->q11->q10->q11->q11->q10->q11->q9->q10->q11->q8->q10->q11->I64 q4->q10->q11->q11->q10->q11->q11->q10->q11->q9->q10->q11->q9->q10->q11->q8->q10->q11->I64 q4->q9->q11->I64 q4->q9->q11->I64 q5->q9->q11->I64 q5->q9->q11->I64 q6->q9->q11->I64 q6->q9->q11->I64 q7->q10->q8->q11->q10->q11->q11->q10->q11->q9->q10->q11->q9->q10->q11->q8->q10->q11->q8->q10->q11->I64 q4->q10->q11->I64 q4->q10->q11->I64 q5->q10->q11->I64 q6->q10->q11->I64 q7->q10->q11->I64 8->q10->q11->I64 9->q10->q11->I64 10->q9->q11->I64 10->q9->q11->q11->q10->q11->q11->q10->q11->q9->q9->q11->(if q=q7 then some [q12,Spec.mk q2 q2 q0 false false] else if q=q6 then some [q12,q13,Spec.mk q3 q1 q0 true false,Spec.mk q4 q1 q0 true false,Spec.mk q5 q1 q0 false false,Spec.mk q6 q1 q0 false false,Spec.mk q7 q1 q0 false false,Spec.mk 8 q1 q0 false false,Spec.mk 9 q1 q0 false false,Spec.mk 10 q2 q0 false true] else if q=q5 then some [q12,q13,q14,Spec.mk q4 q2 q0 false true,Spec.mk q5 q2 q0 false true,Spec.mk q6 q2 q0 false true,Spec.mk q7 q1 q3 false false] else if q=q4 then some [q12,Spec.mk q2 q1 q0 false false,q14,Spec.mk q4 q1 q0 false false] else if q=q3 then some [q12,q13] else if q=q2 then some [q12,q13,Spec.mk q3 q2 q0 true false,Spec.mk q4 q1 q2 false false,Spec.mk q5 q2 q3 false false] else if q=q0 then some [q12,Spec.mk q2 q1 q0 false false,q14,Spec.mk q4 q1 q0 false false,Spec.mk q5 q1 q0 false false,Spec.mk q6 q1 q0 false false,Spec.mk q7 q2 q0 false false,Spec.mk 8 q2 q3 false false] else none).getD (ao (Sh.nm NT.spec).lst)=bD) (I64 q0)) (Spec.mk q0 q1 q0 true false)) (Spec.mk q2 q1 q0 true false)) (Spec.mk q3 q1 q0 false false)) (1:Int)) (I64 q1)) (0:Int)) (I64 q2)) (2:Int)) (I64 q3)) (3:Int)) (4:Int)) (5:Int)) (6:Int)) (7:Int));subst h0; (repeat' with_reducible first|apply bd|refine ba ?_|intro);all_goals (first | exact bq | exact rfl)
def Ld:Kn:=aI (ae (kC (cL .u8)) au) aw fun (b,_) _=>⟨[b.length<=100000],[.c (.fz .int ((kD b))),.c (.int ((oP b)))],none,false⟩
theorem Ws:CK 333 Ld:=ah fun (b,_) _ hp=>by
 have h0:=bV hp;refine av nq (aa7 b) Tryz.func333 (?_:(fun (q0:Prop)=>b.length*(1:Nat)<=(140737488355328:Nat)->∃ (s0:Nat),(b=b/\(0:Int)=(↑s0:Int)/\cw (List.take s0 b)=[])/\s0<=b.length/\∀ (s:Nat),(fun (q2:List Int)=>(fun (q1:Nat × Nat × Int)=>s<=b.length->((↑s:Int)<(↑b.length:Int)->(0:Int)<=(↑s:Int)/\(↑s:Int)<=(↑b.length:Int)/\(q1.fst<(18446744073709551616:Nat)->I64 (↑q1.snd.fst:Int)->I64 q1.snd.snd->(¬q1.snd.snd=(0:Int)\/(↑(64:Nat):Int)<(↑q1.fst:Int)->q0)/\(q1.snd.snd=(0:Int)/\(↑q1.fst:Int)<=(↑(64:Nat):Int)->(q2.length+[eE q1.fst].length)*(8:Nat)<=(140737488355328:Nat)/\I64 ((↑s:Int)+(↑q1.snd.fst:Int))/\∃ (s':Nat),(b=b/\(↑s:Int)+(↑q1.snd.fst:Int)=(↑s':Int)/\q2++[eE q1.fst]=cw (List.take s' b))/\s' <= b.length/\b.length - s' < b.length - s)))/\((↑b.length:Int)<=(↑s:Int)->(cr q2=false->q0)/\(cr q2=true->q2=kD b/\(0:Int)=oP b))) (aj (List.drop s b))) (cw (List.take s b))) (kD b=[]/\(6:Int)=oP b));iterate 3 ((all_goals (repeat' with_reducible first|apply bd|refine ba ?_|intro)); (all_goals try (first | exact bq | exact rfl | exact (vX (ukR ab (by assumption))) | exact (Ms (ukR ab (by assumption))) | exact (vX (ukR ab (by assumption))).symm | exact (vX (BI (k:=‹Nat›) aJ ab)).symm | exact (vX (BI (k:=‹Nat›) aJ ab)) | exact (Ms (BI (k:=‹Nat›) aJ ab)) | exact (RD aJ ab) | exact (Oz (k:=‹Nat›) aJ ab) | exact (ukS ab ab ab).1 | exact (ukS ab ab ab).2 | exact (VX aJ aJ) | (have:=(ukS ab ab ab).1; refine bI ?_ ?_ <;> omega))); all_goals try first | refine ⟨‹Nat› + 1,?_⟩ | refine ⟨0,?_⟩)
def ZX:bE:=(aK 333 Ld (aK 254 JY (aK 222 Jp (aK 355 MF abP))))
theorem jl:ay Tryz.prog (al tyT) ZX:=(ag Ws (ag Wz (ag WG (ag Wb nq))))
theorem aa4 (hk:k<=l.length) (h0:0<(k:Int)):l[k - 1]? = some (l.getD ((k:Int) - 1).toNat (ao (.nm .field))):=by
 rw [show ((k:Int) - 1).toNat=k - 1 by omega,List.getD_eq_getElem?_getD,List.getElem?_eq_getElem (by omega)]; rfl
variable {x:Field}
theorem TP (h:(k:Int)<=0\/fE (l.getD ((k:Int) - 1).toNat (ao (.nm .field))) x=true) (hk:k<=l.length):wz l k x:=by
 by_cases h0:0<(k:Int)
 ·exact .inr ⟨_,aa4 hk h0,h.resolve_left aJ⟩
 exact .inl aJ
theorem acS {v:Int}:(((bD.take k).filter (fun s=>decide (s.since<=v))).length+1)*32<=140737488355328:=by
 have:=Ie (v:=v) (k:=k); omega
theorem ab2 {v:Int} (h1:1<=v) (h3:v<=3) (hk:8<=(k:Int)):(bD.take k).filter (fun s=>decide (s.since<=v))=aP v:=Mi (by omega) (by show 8<=k; omega)
theorem af7 {v:Int}:dG (l.take 0) v=[]:=rfl
theorem agU {v:Int}:eh (l.take 0) v=[]:=rfl
theorem afY {v:Int} (hx:l[k]? = some x) (h:x.num<=v):dG (l.take k) v++[x]=dG (l.take (k+1)) v:=Pa hx h
theorem agB {v:Int} (hx:l[k]? = some x) (h:¬ x.num<=v):dG (l.take k) v=dG (l.take (k+1)) v:=Zo hx h
theorem afG {v:Int} (hx:l[k]? = some x) (h:¬ x.num<=v):eh (l.take k) v++[x]=eh (l.take (k+1)) v:=Rc hx h
theorem adx {v:Int} (hx:l[k]? = some x) (h:x.num<=v):eh (l.take k) v=eh (l.take (k+1)) v:=VM hx h
theorem adp {v:Int} (hk:l.length<=k):dG (l.take k) v=dG l v:=Hy hk
theorem adZ {v:Int} (hk:l.length<=k):eh (l.take k) v=eh l v:=ND hk
attribute [local irreducible] dG eh
def YT (l:List Field):List (Nat × LI):=[(3,{ σ:=Nat,F:=fun k=>([(0,one (.fz (.nm .field) (l))),(3,one (.int (gX (l.take k):Nat))),(6,one (.fz (.nm .field) (l))),(7,one (.int (l).length)),(8,one (.int k))],[]),J:=fun k=>k<=l.length/\dR none l=dR (eH l k) (l.drop k)/\gX (l.take k)<=k*16404,μ:=fun k=>(l).length - k })]
def Vs (q:Int) (v:Int):List (Nat × LI):=[(5,{ σ:=Nat,F:=fun k=>([(1,one (.int (v))),(5,one (.own 0)),(15,one (.fz (.nm .spec) bD)),(16,one (.int 8)),(17,one (.int k))],[.row 255 (.nm .spec) (((bD.take k).filter (fun (s:Spec)=>decide (s.since<=v))))]),J:=fun k=>k<=8,μ:=fun k=>8 - k })]
def Pw (l:List Field) (v:Int):List (Nat × LI):=[(2,{ σ:=Nat,F:=fun k=>([(1,one (.int (v))),(4,one (.own 0)),(5,one (.own 1)),(8,one (.fz (.nm .field) (l))),(9,one (.int (l).length)),(10,one (.int k))],[.row 219 (.nm .field) ((dG (l.take k) v)),.row 219 (.nm .field) ((eh (l.take k) v))]),J:=fun k=>k<=l.length,μ:=fun k=>(l).length - k })]
def Wd (l:List Field):List (Nat × LI):=[(3,{ σ:=Nat,F:=fun k=>([(2,one (.ptr 0 0)),(3,one (.ptr 1 0)),(6,one (.fz (.nm .field) (l))),(7,one (.int (l).length)),(8,one (.int k))],[.box 35 (cellsOf (.nm .command) (cA)),.box 35 (cellsOf (.nm .command) ((cM (l.take k))))]),J:=fun k=>k<=l.length,μ:=fun k=>(l).length - k })]
def DQ:Kn:=aI (ae (kC (aW 0 0)) (ae (kC (aW 1 0)) au)) (aA (dB 50 (ax (cL .u8) dt)) (aA (dB 3 (ax cI dt)) aw)) fun _ ((b,_),(s,_),_)=>⟨[0<=s,s<=(b.length:Int),b.length*1<=140737488355328],[.c (.u64 ((U64.mk (aj (b.drop s.toNat)).1)).n),.c (.int (((aj (b.drop s.toNat)).2.2)))],some ([.box 50 ([.fz .u8 ((b))]),.box 3 ([.int ((s+((aj (b.drop s.toNat)).2.1:Nat)))])]),false⟩
theorem RF:CK 356 DQ:=ah fun _ ((b,_),(s,_),_) hp=>by
 have h0:=bV hp;have h1:=bV (eG hp);have h2:=bV (eG (eG hp));refine bu jl [] Tryz.func356 (?_:(fun q0=>0<=s/\s<=(↑b.length:Int)/\(q0.fst<18446744073709551616->I64 (↑q0.snd.fst:Int)->I64 q0.snd.snd->I64 (s+(↑q0.snd.fst:Int))/\q0.fst=(aj (List.drop s.toNat b)).fst/\q0.snd.snd=(aj (List.drop s.toNat b)).snd.snd/\b=b/\s+(↑q0.snd.fst:Int)=s+(↑(aj (List.drop s.toNat b)).snd.fst:Int))) (aj (List.drop s.toNat b)));(repeat' with_reducible first|apply bd|refine ba ?_|intro)
 all_goals (first | exact bq | (have:=(mY b s.toNat).1; refine bI ?_ ?_ <;> omega))
def xT:Kn:=aI (ae (kC (cL .u8)) au) aw fun (b,_) _=>⟨[],[.agg (cellsOf (.nm .field) (gH b))],none,false⟩
theorem HY:CK 330 xT:=ah fun (b,_) _ _=>by
 refine av jl [] Tryz.func330 (?_:(fun q1=>(fun q2=>(fun q0=>b.length*1<=140737488355328->I64 q1.num->I64 q1.wire->I64 (↑q1.k:Int)->I64 q1.e->0<=(↑q1.k:Int)/\(↑q1.k:Int)<=(↑b.length:Int)/\(q2.fst<18446744073709551616->I64 (↑q2.snd.fst:Int)->I64 q2.snd.snd->(q1.wire=0->q1.num=(gH b).num/\q1.wire=(gH b).wire/\q2.fst=(gH b).n.n/\(gH b).b=[])/\(¬q1.wire=0->I64 q0/\0<=q0/\q0<=(↑b.length:Int)/\(List.drop q0.toNat b).length*1<=140737488355328/\q1.num=(gH b).num/\q1.wire=(gH b).wire/\0=(gH b).n.n/\List.drop q0.toNat b=(gH b).b))) ((↑q1.k:Int)+(↑q2.snd.fst:Int))) (aj (List.drop q1.k b))) (aN b));(repeat' with_reducible first|apply bd|refine ba ?_|intro)
 all_goals (first | exact bq | exact (congrArg Field.num (Ei ab)) | exact (congrArg Field.wire (Ei ab)) | exact (congrArg (fun f=>f.n.n) (Ei ab)) | exact (congrArg Field.b (Ei ab)).symm | exact (congrArg Field.num (Dp ab)) | exact (congrArg Field.wire (Dp ab)) | exact (congrArg (fun f=>f.n.n) (Dp ab)) | exact (congrArg Field.b (Dp ab)) | (have h1:=qg b; have h2:=mY b (aN b).k; first | omega | (refine bI ?_ ?_ <;> omega) | (rw [List.length_drop]; omega)))
def Ee:Kn:=aI (ae (kC (cL (.nm .field))) au) aw fun (l,_) _=>⟨[],[.c (.int ((cE l)))],none,false⟩
theorem RB:CK 221 Ee:=ah fun (l,_) _ _=>by
 refine av jl (YT l) Tryz.func221 (?_:(fun (q3:den (Sh.nm NT.field))=>(fun (q2:Nat)=>(fun (q1:Int)=>(fun (q0:Int)=>l.length*48<=140737488355328->∃ (s0:Nat),(l=l/\q1=(↑(gX (List.take s0 l)):Int)/\l=l/\(↑l.length:Int)=(↑q2:Int)/\q1=(↑s0:Int))/\(s0<=q2/\dR none l=dR (eH l s0) (List.drop s0 l)/\gX (List.take s0 l)<=s0*16404)/\∀ (s:Nat),(fun (q6:Int)=>(fun (q5:Int)=>(fun (q4:den (Sh.nm NT.field))=>s<=q2/\dR none l=dR (eH l s) (List.drop s l)/\gX (List.take s l)<=s*16404->(q5<(↑q2:Int)->q1<=q5/\q5<(↑l.length:Int)/\∀ (x:Field),l[s]? = some x->I64 x.num->I64 x.wire->x.n.n<18446744073709551616->x.b.length*1<=140737488355328->(dV x=false->q0=cE l)/\(dV x=true->(q1<q5->I64 (q5 - q0))/\(q1<q5->q1<=q5 - q0/\q5 - q0<(↑l.length:Int))/\((q1<q5->I64 q4.num/\I64 q4.wire/\q4.n.n<18446744073709551616/\q4.b.length*1<=140737488355328)->(q1<q5/\fE q4 x=false->5=cE l)/\(q5<=q1\/fE q4 x=true->(16384<(↑x.b.length:Int)->4=cE l)/\((↑x.b.length:Int)<=16384->x.b.length<=16384/\I64 (q6+(↑(cq x).length:Int))/\I64 (q5+q0)/\∃ (s':Nat),(l=l/\q6+(↑(cq x).length:Int)=(↑(gX (List.take s' l)):Int)/\l=l/\(↑q2:Int)=(↑q2:Int)/\q5+q0=(↑s':Int))/\(s' <= q2/\dR none l=dR (eH l s') (List.drop s' l)/\gX (List.take s' l)<=s' * 16404)/\q2 - s' < q2 - s)))))/\((↑q2:Int)<=q5->(16384<q6->4=cE l)/\(q6<=16384->q1=cE l))) (l.getD (q5 - q0).toNat q3)) (↑s:Int)) (↑(gX (List.take s l)):Int)) 1) 0) l.length) (ao (Sh.nm NT.field)));iterate 3 ((all_goals (repeat' with_reducible first|apply bd|refine ba ?_|intro)); (all_goals try (first | exact bq | exact rfl | exact (acY 0) | exact (XO ab ab ab) | exact (Zj ab ab ab aJ (aa4 aJ ab) ab) | exact (WT ab ab ab (TP (by assumption) aJ) ab) | exact (Js ab ab ab (TP (by assumption) aJ) aJ) | exact (Lu ab aJ ab) | exact (Ke ab aJ aJ) | (have h1:=qC (f:=‹Field›) aJ ab; have h2:=Kd (show l[_]? = some ‹Field› by with_reducible assumption); first | omega | (refine bI ?_ ?_ <;> omega)))); all_goals try first | refine ⟨‹Nat› + 1,?_⟩ | refine ⟨0,?_⟩)
def EE:Kn:=aI (ae (kC cI) (ae (kC cI) au)) aw fun (q,v,_) _=>⟨[q=1],[.c (.fz (.nm .spec) ((aP v)))],none,false⟩
theorem Ri:CK 220 EE:=ah fun (q,v,_) _ hp=>by
 have h0:=bV hp;refine av jl (Vs q v) Tryz.func220 (?_:(fun (q2:Int)=>(fun (q1:Int)=>(fun (q0:Nat)=>I64 q->I64 v->(v<q1\/3<v->aP v=[])/\(q1<=v/\v<=3->q=q1/\(bD.length*32<=140737488355328->∃ (s0:Nat),(v=v/\bD=bD/\(↑bD.length:Int)=q2/\0=(↑s0:Int)/\List.filter (fun (s:Spec)=>decide (s.since<=v)) (List.take s0 bD)=[])/\s0<=q0/\∀ (s:Nat),(fun (q4:Int)=>(fun (q3:List (den (Sh.nm NT.spec)))=>s<=q0->((↑s:Int)<q2->0<=(↑s:Int)/\(↑s:Int)<(↑bD.length:Int)/\∀ (x:Spec),bD[s]? = some x->lO x ((x.since<=v->(q3.length+[x].length)*32<=140737488355328/\I64 q4/\∃ (s':Nat),(v=v/\bD=bD/\q2=q2/\q4=(↑s':Int)/\q3++[x]=List.filter (fun (s:Spec)=>decide (s.since<=v)) (List.take s' bD))/\s' <= q0/\q0 - s' < q0 - s)/\(v<x.since->I64 q4/\∃ (s':Nat),(v=v/\bD=bD/\q2=q2/\q4=(↑s':Int)/\q3=List.filter (fun (s:Spec)=>decide (s.since<=v)) (List.take s' bD))/\s' <= q0/\q0 - s' < q0 - s)))/\(q2<=(↑s:Int)->q3=aP v)) (List.filter (fun (s:Spec)=>decide (s.since<=v)) (List.take s bD))) ((↑s:Int)+q1)))) 8) 1) 8);iterate 3 ((all_goals (repeat' with_reducible first|apply bd|refine ba ?_|intro)); (all_goals try (first | exact bq | exact rfl | exact (FR ab).symm | exact (IF ab ab) | exact (Q_ ab aJ) | exact acS | exact (ab2 aJ aJ aJ) | (have hl:bD.length=8:=rfl; omega))); all_goals try first | refine ⟨‹Nat› + 1,?_⟩ | refine ⟨0,?_⟩)
def yD:Kn:=aI (ae (kC (cL (.nm .field))) (ae (kC cI) au)) aw fun (l,v,_) _=>⟨[],[.c (.fz (.nm .field) ((dG l v))),.c (.fz (.nm .field) ((eh l v)))],none,false⟩
theorem Ny:CK 288 yD:=ah fun (l,v,_) _ _=>by
 refine av jl (Pw l v) Tryz.func288 (?_:(fun (q0:Nat)=>(fun (q1:Int)=>l.length*48<=140737488355328->I64 v->∃ (s0:Nat),(v=v/\l=l/\(↑l.length:Int)=q1/\0=(↑s0:Int)/\dG (List.take s0 l) v=[]/\eh (List.take s0 l) v=[])/\s0<=q0/\∀ (s:Nat),(fun (q3:List Field)=>(fun (q2:Int)=>s<=q0->((↑s:Int)<q1->0<=(↑s:Int)/\(↑s:Int)<(↑l.length:Int)/\∀ (x:Field),(fun (q4:Prop)=>l[s]? = some x->I64 x.num->I64 x.wire->x.n.n<18446744073709551616->q4->q4->(x.num<=v->((dG q3 v).length+[x].length)*48<=140737488355328/\I64 q2/\∃ (s':Nat),(v=v/\l=l/\q1=q1/\q2=(↑s':Int)/\dG q3 v++[x]=dG (List.take s' l) v/\eh q3 v=eh (List.take s' l) v)/\s' <= q0/\q0 - s' < q0 - s)/\(v<x.num->((eh q3 v).length+[x].length)*48<=140737488355328/\I64 q2/\∃ (s':Nat),(v=v/\l=l/\q1=q1/\q2=(↑s':Int)/\dG q3 v=dG (List.take s' l) v/\eh q3 v++[x]=eh (List.take s' l) v)/\s' <= q0/\q0 - s' < q0 - s)) (x.b.length*1<=140737488355328))/\(q1<=(↑s:Int)->dG q3 v=dG l v/\eh q3 v=eh l v)) ((↑s:Int)+1)) (List.take s l)) (↑q0:Int)) l.length);iterate 3 ((all_goals (repeat' with_reducible first|apply bd|refine ba ?_|intro)); (all_goals try (first | exact bq | exact af7 | exact agU | exact (afY ab ab) | exact (agB ab aJ) | exact (afG ab aJ) | exact (adx ab ab) | exact (adp aJ) | exact (adZ aJ) | (have h1:=Pc (l.take ‹Nat›) v; have h2:=Ey (l.take ‹Nat›) v; rw [List.length_take] at h1 h2; simp only [List.length_cons,List.length_nil]; omega))); all_goals try first | refine ⟨‹Nat› + 1,?_⟩ | refine ⟨0,?_⟩)
def Da:Kn:=aI (ae (kC (cL (.nm .field))) au) aw fun (l,_) _=>⟨[∀ f ∈ l,f.b.length<=16384],[.agg (cellsOf (.nm .command) (cM l))],none,false⟩
theorem Qs:CK 289 Da:=ah fun (l,_) _ hp=>by
 have h0:=bV hp;refine av jl (Wd l) Tryz.func289 (?_:(fun (q3:Prop)=>(fun (q2:Int)=>(fun (q1:Int)=>(fun (q0:Nat)=>(fun (q4:Prop)=>l.length*48<=140737488355328->∃ (s0:Nat),(fun (q5:Command)=>(q3/\(↑l.length:Int)=(↑q0:Int)/\q2=(↑s0:Int)/\q2=cA.kind/\q2=cA.client/\q2=cA.seq/\q2=cA.set/\q2=cA.id/\q2=cA.n/\cA.chunks=[]/\Str.mk []=cA.text/\q2=q5.kind/\q2=q5.client/\q2=q5.seq/\q2=q5.set/\q2=q5.id/\q2=q5.n/\q5.chunks=[]/\Str.mk []=q5.text)/\s0<=q0/\∀ (s:Nat),(fun (q8:Nat)=>(fun (q7:Int)=>(fun (q9:Prop)=>(fun (q6:Command)=>(fun (q13:Str)=>(fun (q12:Int)=>(fun (q11:List Int)=>(fun (q10:Int)=>s<=q0->((↑s:Int)<(↑q0:Int)->q2<=(↑s:Int)/\(↑s:Int)<(↑l.length:Int)/\∀ (x:Field),(fun (q15:Int)=>(fun (q14:Int)=>l[s]? = some x->I64 q14->I64 x.wire->x.n.n<18446744073709551616->x.b.length*1<=140737488355328->(q14=q1->q9/\∃ (s':Nat),(q3/\q4/\q7=(↑s':Int)/\bg cA cA (aT (Command.mk q15 q10 q6.seq q6.set q6.id q6.n q11 q13) (cM (List.take s' l))))/\s' <= q0/\q0 - s' < q8)/\(¬q14=q1->(q14=2->q9/\∃ (s':Nat),(q3/\q4/\q7=(↑s':Int)/\bg cA cA (aT (Command.mk q12 q15 q6.seq q6.set q6.id q6.n q11 q13) (cM (List.take s' l))))/\s' <= q0/\q0 - s' < q8)/\(¬q14=2->(q14=3->q9/\∃ (s':Nat),(q3/\q4/\q7=(↑s':Int)/\bg cA cA (aT (Command.mk q12 q10 q15 q6.set q6.id q6.n q11 q13) (cM (List.take s' l))))/\s' <= q0/\q0 - s' < q8)/\(¬q14=3->(q14=4->q9/\∃ (s':Nat),(q3/\q4/\q7=(↑s':Int)/\bg cA cA (aT (Command.mk q12 q10 q6.seq q15 q6.id q6.n q11 q13) (cM (List.take s' l))))/\s' <= q0/\q0 - s' < q8)/\(¬q14=4->(q14=5->q9/\∃ (s':Nat),(q3/\q4/\q7=(↑s':Int)/\bg cA cA (aT (Command.mk q12 q10 q6.seq q6.set q15 q6.n q11 q13) (cM (List.take s' l))))/\s' <= q0/\q0 - s' < q8)/\(¬q14=5->(q14=6->q9/\∃ (s':Nat),(q3/\q4/\q7=(↑s':Int)/\bg cA cA (aT (Command.mk q12 q10 q6.seq q6.set q6.id q15 q11 q13) (cM (List.take s' l))))/\s' <= q0/\q0 - s' < q8)/\(¬q14=6->(q14=7->x.b.length<=100000/\((kD x.b).length*8<=140737488355328->I64 (oP x.b)->q9/\∃ (s':Nat),(q3/\q4/\q7=(↑s':Int)/\bg cA cA (aT (Command.mk q12 q10 q6.seq q6.set q6.id q6.n (kD x.b) q13) (cM (List.take s' l))))/\s' <= q0/\q0 - s' < q8))/\(¬q14=7->(q14=8->q9/\∃ (s':Nat),(q3/\q4/\q7=(↑s':Int)/\bg cA cA (aT (Command.mk q12 q10 q6.seq q6.set q6.id q6.n q11 (Str.mk x.b)) (cM (List.take s' l))))/\s' <= q0/\q0 - s' < q8)/\(¬q14=8->q9/\∃ (s':Nat),(q3/\q4/\q7=(↑s':Int)/\bg cA cA (aT q6 (cM (List.take s' l))))/\s' <= q0/\q0 - s' < q8))))))))) x.num) (eE x.n.n))/\((↑q0:Int)<=(↑s:Int)->aT q6 (cM l))) q6.client) q6.chunks) q6.kind) q6.text) (cM (List.take s l))) (I64 q7)) ((↑s:Int)+q1)) (q0 - s)) (cM (List.take s0 l))) ((↑q0:Int)=(↑q0:Int))) l.length) 1) 0) (l=l));iterate 3 ((all_goals (repeat' with_reducible first|apply bd|refine ba ?_|intro)); (all_goals try (first | exact bq | exact rfl | (have:=h0 _ (ac4 ab); omega) | (rw [dy ab,<- ae8 ab] <;> first | rfl | exact (dK ab).symm) | (rw [dy ab,<- adA ab] <;> first | rfl | exact (dK ab).symm) | (rw [dy ab,<- aek ab] <;> first | rfl | exact (dK ab).symm) | (rw [dy ab,<- ae7 ab] <;> first | rfl | exact (dK ab).symm) | (rw [dy ab,<- aef ab] <;> first | rfl | exact (dK ab).symm) | (rw [dy ab,<- ae3 ab] <;> first | rfl | exact (dK ab).symm) | (rw [dy ab,<- agY ab] <;> first | rfl | exact (dK ab).symm) | (rw [dy ab,<- aeg ab] <;> first | rfl | exact (dK ab).symm) | (rw [dy ab,<- adQ aJ] <;> first | rfl | exact (dK ab).symm) | (rw [List.take_of_length_le aJ]))); all_goals try first | refine ⟨‹Nat› + 1,?_⟩ | refine ⟨0,?_⟩)
def abu:bE:=(aK 289 Da (aK 288 yD (aK 220 EE (aK 221 Ee (aK 330 xT (aK 356 DQ ZX))))))
theorem mH:ay Tryz.prog (al tyT) abu:=(ag Qs (ag Ny (ag Ri (ag RB (ag HY (ag RF jl))))))
def Eb:Kn:=aI (ae (kC cI) (ae (kC cI) (ae (kC (aW 0 0)) au))) (aA (dB 177 (ax (Wa true) dt)) aw) fun (k,n,_,_) ((_,_),_)=>⟨[0<=n],[],some ([.box 177 ([.own 1]),.row 219 (.nm .field) ((pc k n))]),false⟩
theorem Pp:CK 223 Eb:=ah fun (k,n,_,_) ((_,_),_) hp=>by
 have h0:=bV hp;refine bu mH [] Tryz.func223 (?_:I64 k->I64 n->(¬n=0->0<=n/\[Field.mk k 0 (U64.mk n.toNat) []].length*48<=140737488355328/\[Field.mk k 0 (U64.mk n.toNat) []]=pc k n)/\(n=0->pc k n=[]));(repeat' with_reducible first|apply bd|refine ba ?_|intro)
 all_goals (first | exact bq | exact (Ay ab) | exact (AQ ab) | exact (Ao ab) | exact (yw aJ) | exact (Ay (xs:=[]) ab) | exact (AQ (xs:=[]) ab).symm | exact (Ao (xs:=[]) ab) | exact (yw (xs:=[]) aJ).symm | (simp only [List.length_cons,List.length_nil]; omega) | decide)
def CO:Kn:=aI (ae (kC cI) (ae (kC cI) (ae (kC (aW 0 0)) au))) (aA (dB 177 (ax (eN 1) dt)) (aA (eO 219 (.nm .field)) aw)) fun (k,n,_,_) ((_,_),xs,_)=>⟨[0<=n,xs.length<=1000],[],some ([.box 177 ([.own 1]),.row 219 (.nm .field) ((xs++pc k n))]),false⟩
theorem PV:CK 223 CO:=ah fun (k,n,_,_) ((_,_),xs,_) hp=>by
 have h0:=bV hp;have h1:=bV (eG hp);refine bu mH [] Tryz.func223 (?_:I64 k->I64 n->(¬n=0->0<=n/\(xs.length+[Field.mk k 0 (U64.mk n.toNat) []].length)*48<=140737488355328/\xs++[Field.mk k 0 (U64.mk n.toNat) []]=xs++pc k n)/\(n=0->xs=xs++pc k n));(repeat' with_reducible first|apply bd|refine ba ?_|intro)
 all_goals (first | exact bq | exact (Ay ab) | exact (AQ ab) | exact (Ao ab) | exact (yw aJ) | exact (Ay (xs:=[]) ab) | exact (AQ (xs:=[]) ab).symm | exact (Ao (xs:=[]) ab) | exact (yw (xs:=[]) aJ).symm | (simp only [List.length_cons,List.length_nil]; omega) | decide)
def CG:Kn:=aI (ae (kC cI) (ae (kC (cL .u8)) (ae (kC (aW 0 0)) au))) (aA (dB 177 (ax (Wa true) dt)) aw) fun (k,b,_,_) ((_,_),_)=>⟨[],[],some ([.box 177 ([.own 1]),.row 219 (.nm .field) ((AW k b))]),false⟩
theorem RG:CK 224 CG:=ah fun (k,b,_,_) ((_,_),_) _=>by
 refine bu mH [] Tryz.func224 (?_:I64 k->b.length*1<=140737488355328->(0<(↑b.length:Int)->[Field.mk k 2 (U64.mk 0) b].length*48<=140737488355328/\[Field.mk k 2 (U64.mk 0) b]=AW k b)/\((↑b.length:Int)<=0->AW k b=[]));(repeat' with_reducible first|apply bd|refine ba ?_|intro)
 all_goals (first | exact bq | exact (Ay ab) | exact (AQ ab) | exact (Ao ab) | exact (yw aJ) | exact (Ay (xs:=[]) ab) | exact (AQ (xs:=[]) ab).symm | exact (Ao (xs:=[]) ab) | exact (yw (xs:=[]) aJ).symm | (simp only [List.length_cons,List.length_nil]; omega) | decide)
def Dg:Kn:=aI (ae (kC cI) (ae (kC (cL .u8)) (ae (kC (aW 0 0)) au))) (aA (dB 177 (ax (eN 1) dt)) (aA (eO 219 (.nm .field)) aw)) fun (k,b,_,_) ((_,_),xs,_)=>⟨[xs.length<=1000],[],some ([.box 177 ([.own 1]),.row 219 (.nm .field) ((xs++AW k b))]),false⟩
theorem SP:CK 224 Dg:=ah fun (k,b,_,_) ((_,_),xs,_) hp=>by
 have h0:=bV hp;refine bu mH [] Tryz.func224 (?_:I64 k->b.length*1<=140737488355328->(0<(↑b.length:Int)->(xs.length+[Field.mk k 2 (U64.mk 0) b].length)*48<=140737488355328/\xs++[Field.mk k 2 (U64.mk 0) b]=xs++AW k b)/\((↑b.length:Int)<=0->xs=xs++AW k b));(repeat' with_reducible first|apply bd|refine ba ?_|intro)
 all_goals (first | exact bq | exact (Ay ab) | exact (AQ ab) | exact (Ao ab) | exact (yw aJ) | exact (Ay (xs:=[]) ab) | exact (AQ (xs:=[]) ab).symm | exact (Ao (xs:=[]) ab) | exact (yw (xs:=[]) aJ).symm | (simp only [List.length_cons,List.length_nil]; omega) | decide)
def TA:bE:=(aK 224 Dg (aK 224 CG (aK 223 CO (aK 223 Eb abu))))
theorem xI:ay Tryz.prog (al tyT) TA:=(ag SP (ag RG (ag PV (ag Pp mH))))
def uG:Kn:=aI (ae (kT (.nm .command)) (ae (kC cI) au)) aw fun (c,v,_) _=>⟨[0<=c.kind,0<=c.client,0<=c.seq,0<=c.set,0<=c.id,0<=c.n],[.c (.own 0)],some ([.row 219 (.nm .field) ((dE c v))]),true⟩
theorem FU:CK 163 uG:=ah fun (c,v,_) _ hp=>by
 have h0:=bV hp;have h1:=bV (eG hp);have h2:=bV (eG (eG hp));have h3:=bV (eG (eG (eG hp)));have h4:=bV (eG (eG (eG (eG hp))));have h5:=bV (eG (eG (eG (eG (eG hp)))));refine dj xI [] Tryz.func163 (?_:(fun q6=>(fun q5=>(fun q4=>(fun q3=>(fun q2=>(fun q1=>(fun q0=>bH c (I64 v->q6<=c.kind/\q6<=c.client/\(pc 1 c.kind).length<=q4/\q6<=c.seq/\q5.length<=q4/\q6<=c.set/\q1.length<=q4/\q6<=c.id/\(q1++pc 4 c.set).length<=q4/\q6<=c.n/\q0.length<=q4/\((ew c.chunks).length*1<=140737488355328->I64 (fo c.chunks)->(q0++q3).length<=q4/\(3<=v->(q0++q3++q2).length<=q4/\q0++q3++q2++AW 8 c.text.b=dE c v)/\(v<3->q0++q3++q2=dE c v)))) (q1++pc 4 c.set++pc 5 c.id)) (q5++pc 3 c.seq)) (AW 7 (ew c.chunks))) (pc 6 c.n)) (1000:Nat)) (pc 1 c.kind++pc 2 c.client)) (0:Int));(repeat' with_reducible first|apply bd|refine ba ?_|intro)
 all_goals (first | exact bq | (rw [dE,if_pos aJ]; rfl) | (rw [dE,if_neg aJ]; rfl) | (have h1:=gf 1 c.kind; have h2:=gf 2 c.client; have h3:=gf 3 c.seq; have h4:=gf 4 c.set; have h5:=gf 5 c.id; have h6:=gf 6 c.n; have h7:=Bg 7 (ew c.chunks); (try simp only [List.length_append]); omega))
def Te:bE:=(aK 163 uG TA)
theorem nn:ay Tryz.prog (al tyT) Te:=(ag FU xI)
end Go.Proofs.YticbaadnibdbkaaGreat
