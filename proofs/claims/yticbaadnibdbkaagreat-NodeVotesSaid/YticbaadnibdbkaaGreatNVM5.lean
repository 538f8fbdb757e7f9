/- What leads to the law, part 5. Conditions: each lemma's own. -/
import Derived.Test.YticbaadnibdbkaaGreatNVM4
set_option linter.unusedVariables false
set_option linter.unusedSimpArgs false
set_option maxHeartbeats 2000000
set_option linter.defProp false
namespace Go.Proofs.YticbaadnibdbkaaGreat
open Go.RowKit
def agJ:=@List.take_succ_cons
def acs:=@Classical.not_not
theorem ad4 (k:Int):(if k=12 then some (Span.mk 0 64) else if k=8 then some (Span.mk 2 3) else if k=6 then some (Span.mk 0 8) else none).getD (au (.nm .span))=⟨(uA k).1,(uA k).2⟩:=by
 by_cases h1:k=12
 ·subst h1; rfl
 by_cases h2:k=8
 ·subst h2; rfl
 by_cases h3:k=6
 ·subst h3; rfl
 simp [uA,uH,h1,h2,h3,au]; rfl
def Mh:Kn:=aK (ae (kT (.nm .command)) ao) aw fun (c,_) _=>⟨[],[.c (.bool (.atom ((mu c))))],none,false⟩
theorem YK:CK 91 Mh:=ag fun (c,_) _ _=>by
 refine av xC [] Tryz.func91 (?_:(fun q10=>(fun q9=>(fun q8=>(fun q7=>(fun q6=>(fun q5=>(fun q4=>(fun q3=>(fun q2=>(fun q1=>(fun q11=>(fun q0=>bB c ((q9=3->(q0=true->(cA c.chunks=true->q11)/\(cA c.chunks=false->q3))/\(q0=false->q3))/\(¬q9=3->(q9=11->(q0=true->(q4->((↑c.text.b.length:Int)<=16->q1)/\(16<(↑c.text.b.length:Int)->q3))/\(¬q4->q3))/\(q0=false->q3))/\(¬q9=11->(q0=true->(q4->q11)/\(¬q4->q3))/\(q0=false->q3))))) (decide (q2.lo<=c.n) && decide (c.n<=q2.hi))) ((q8->q1)/\(¬q8->q3))) ((q7=true->(q6=true->(q5=true->nj c.id 1048576 ([5,7,9,10,11].contains q9)=mu c)/\(q5=false->q3))/\(q6=false->q3))/\(q7=false->q3))) ((if q9=12 then some (Span.mk 0 64) else if q9=q10 then some (Span.mk 2 3) else if q9=6 then some (Span.mk 0 q10) else none).getD (au (Sh.nm NT.span)))) (false=mu c)) ((↑c.chunks.length:Int)=0)) (nj c.set q10 ([2,3,4].contains q9))) (nj c.seq 1048576 ![1,q10].contains q9)) (nj c.client q10 ![q10].contains q9)) (c.text=Str.mk [])) c.kind) (8:Int));simp only [ad4];(repeat' with_reducible first|apply aZ|refine aY ?_|intro)
 all_goals ((unfold mu chF txF; simp_all) <;> (intros; omega))
def GJ:Kn:=aK (ae (kT (.nm .state)) (ae (kC cI) ao)) aw fun (s,v,_) _=>⟨[1<=s.next/\s.next<=1048576],[.c (.bool (.atom ((gg s v))))],none,false⟩
theorem UG:CK 298 GJ:=ag fun (s,v,_) _ hp=>by
 have h0:=cc hp;refine av xC [] Tryz.func298 (?_:(fun q1=>(fun q0=>fE s (I64 v->(q1<=16->I64 q0/\q0<=1048576)/\(16<q1\/az Snap.id q0 0 s.snaps=false->false=gg s v)/\(q1<=16/\az Snap.id q0 0 s.snaps=true->(v<3->s.snaps.all (dw v 0)=gg s v)/\(3<=v->s.snaps.all (dw v 16)=gg s v)))) (s.next - 1)) (↑s.snaps.length:Int));(repeat' with_reducible first|apply aZ|refine aY ?_|intro)
 all_goals (first | exact bt | ((simp only [gg,wI]; simp_all) <;> (intros; omega)) | (simp only [gg,wI]; grind))
def adL:bN:=(aO 298 GJ (aO 91 Mh ac7))
theorem EV:ay Tryz.prog (al tyT) adL:=(ah UG (ah YK xC))
def eA (s:State) (at_:Nat) (k:Nat):Int:=(((s.snaps.drop (at_+1)).take k).filter fun x=>decide (x.set=(s.snaps.getD at_ (au (.nm .snap))).set)).length
def my (s:State) (at_:Int):Bool:=if at_<0\/(s.snaps.length:Int)<=at_ then false else decide (eA s at_.toNat s.snaps.length<s.keep)
def nch (l:List Snap):Nat:=(l.flatMap Snap.chunks).length
def CC (c:Int) (l:List Snap):Nat:=(l.flatMap Snap.chunks).count c
def bl (id:Int) (l:List Snap):List Snap:=l.filter fun x=>!decide (x.id=id)
variable {α:Type} {k:Nat}
theorem gd {l:List α} {d:α} (h:(k:Int)<l.length):l[k]? = some (l.getD k d):=by
 have hk:k<l.length:=by omega
 rw [List.getD_eq_getElem?_getD,List.getElem?_eq_getElem hk]; rfl
variable {a:Nat}
theorem ZU {s:State}:0=eA s a 0:=by simp [eA]
theorem RF {s:State}:eA s a k<=(k:Int):=by
 have h1:=List.length_filter_le (fun x:Snap=>decide (x.set=(s.snaps.getD a (au (.nm .snap))).set)) ((s.snaps.drop (a+1)).take k);have h2:((s.snaps.drop (a+1)).take k).length<=k:=by rw [List.length_take]; omega
 unfold eA; omega
theorem QX {s:State}:0<=eA s a k:=by unfold eA; omega
theorem Yo {s:State} (h:a+1+k<=s.snaps.length) (h2:s.snaps.length*64<=140737488355328):I64 (eA s a k+1):=by
 have h1:=RF (s:=s) (a:=a) (k:=k);have h0:=QX (s:=s) (a:=a) (k:=k);constructor <;> omega
variable {x:Snap}
theorem ZP {s:State} (hx:(s.snaps.drop (a+1))[k]? = some x) (h:x.set=(s.snaps.getD a (au (.nm .snap))).set):eA s a k+1=eA s a (k+1):=by
 unfold eA;rw [ai hx,List.filter_append,List.length_append];simp [h]
theorem XY {s:State} (hx:(s.snaps.drop (a+1))[k]? = some x) (h:¬ x.set=(s.snaps.getD a (au (.nm .snap))).set):eA s a k=eA s a (k+1):=by
 unfold eA;rw [ai hx,List.filter_append,List.length_append];rw [show List.filter (fun x:Snap=>decide (x.set=(s.snaps.getD a (au (.nm .snap))).set)) [x]=[] by simp only [List.filter_cons,h,decide_false,List.filter_nil]; rfl];simp
variable {a:Int}
theorem KF {s:State} (h0:0<=a) (ha:a<s.snaps.length) (h:(s.snaps.length:Int)<=a+1+k):decide (eA s a.toNat k<s.keep)=my s a:=by
 unfold my;rw [if_neg (by omega)];have e:∀ m:Nat,(s.snaps.length:Int)<=a+1+m->eA s a.toNat m=eA s a.toNat s.snaps.length:=fun m hm=>by
  unfold eA;rw [List.take_of_length_le (by rw [List.length_drop]; omega),List.take_of_length_le (by rw [List.length_drop]; omega)]
 rw [e k h]
theorem OO {s:State} (h:a<0\/(s.snaps.length:Int)<=a):false=my s a:=by unfold my; rw [if_pos h]
variable {l:List Snap} {id:Int}
theorem aei {y:Snap} (h:¬ x.id=id) (hx:l[k]? = some x) (hy:l[k]? = some y):bl id (l.take k)++[y]=bl id (l.take (k+1)):=by
 rw [hx] at hy; cases hy;unfold bl; rw [ai hx,List.filter_append]; simp [h]
theorem abp (hx:l[k]? = some x) (h:x.id=id):bl id (l.take k)=bl id (l.take (k+1)):=by
 unfold bl; rw [ai hx,List.filter_append]; simp [h]
theorem aaY (h:(l.length:Int)<=k):bl id (l.take k)=bl id l:=by rw [List.take_of_length_le (by omega)]
theorem aaJ (h:(k:Int)<l.length) (hl:l.length*64<=140737488355328):((bl id (l.take k)).length+[x].length)*64<=140737488355328:=by
 have h1:=List.length_filter_le (fun x:Snap=>!decide (x.id=id)) (l.take k);rw [List.length_take] at h1;unfold bl;simp only [List.length_cons,List.length_nil];omega
def aeg (st:State) (at_:Int):List (Nat × LI):=[(5,{ σ:=Nat,F:=fun k=>([(1,one (.int (at_))),(2,one (.ptr 0 0)),(5,one (.int (eA st at_.toNat k))),(21,one (.fz (.nm .snap) (st.snaps.drop (at_+1).toNat))),(22,one (.int (st.snaps.drop (at_+1).toNat).length)),(23,one (.int k))],[.box 46 (cellsOf (.nm .state) (st))]),J:=fun k=>at_.toNat+1+k<=st.snaps.length/\0<=at_,μ:=fun k=>st.snaps.length - k })]
def MX:Kn:=aK (ae (kT (.nm .state)) (ae (kC cI) ao)) aw fun (st,at_,_) _=>⟨[],[.c (.bool (.atom ((my st at_))))],none,false⟩
theorem ZQ:CK 347 MX:=ag fun (st,at_,_) _ _=>by
 refine av EV (aeg st at_) Tryz.func347 (?_:(fun q5=>(fun q4=>(fun q3=>(fun q2=>(fun q6=>(fun q1=>(fun q9=>(fun q8=>(fun q7=>(fun q0=>(fun q11=>(fun q10=>fE st (I64 at_->(at_<q5\/q8<=at_->false=my st at_)/\(q3/\at_<q8->I64 (at_+q4)/\q5<=at_+q4/\at_+q4<=q8/\∃ s0,(at_=at_/\q5=eA st q2 s0/\q11=q11/\(↑q11.length:Int)=q10/\q5=(↑s0:Int)/\dk st st)/\(q6+s0<=q7/\q3)/\∀ (s:Nat),(fun q13=>(fun q12=>q6+s<=q7/\q3->((↑s:Int)<q10->q5<=(↑s:Int)/\(↑s:Int)<(↑q11.length:Int)/\∀ (x:Snap),q11[s]? = some x->fk x (q3/\at_<q8/\fk q9 ((x.set=q9.set->I64 (q13+q4)/\I64 q12/\∃ s',(at_=at_/\q13+q4=eA st q2 s' /\ q11=q11/\q10=q10/\q12=(↑s':Int)/\dk st st)/\(q6+s' <= q7/\q3)/\q7 - s' < q7 - s)/\(¬x.set=q9.set->I64 q12/\∃ s',(at_=at_/\q13=eA st q2 s' /\ q11=q11/\q10=q10/\q12=(↑s':Int)/\dk st st)/\(q6+s' <= q7/\q3)/\q7 - s' < q7 - s))))/\(q10<=(↑s:Int)->decide (q13<st.keep)=my st at_)) ((↑s:Int)+q4)) (eA st q2 s)))) (↑(List.drop q0 q1).length:Int)) (List.drop q0 q1)) (at_+q4).toNat) q1.length) (↑q1.length:Int)) (q1.getD q2 (au (Sh.nm NT.snap)))) st.snaps) (q2+1)) at_.toNat) (q5<=at_)) (1:Int)) (0:Int));iterate 3 ((all_goals (repeat' with_reducible first|apply aZ|refine aY ?_|intro)); (all_goals try (first | exact bt | exact ZU | exact (OO (by assumption)) | exact (Yo aL aL) | exact (KF aL aL (by rw [List.length_drop] at *; omega)) | exact (ZP (by rw [show (at_+1).toNat=at_.toNat+1 by omega] at *; assumption) ab) | exact (by have:=‹_<((List.length (List.drop _ _):Nat):Int)›; rw [List.length_drop] at this; omega) | exact (XY (by rw [show (at_+1).toNat=at_.toNat+1 by omega] at *; assumption) ab))); all_goals try first | refine ⟨‹Nat› + 1,?_⟩ | refine ⟨0,?_⟩)
def adr:bN:=(aO 347 MX adL)
theorem qL:ay Tryz.prog (al tyT) adr:=(ah ZQ EV)
theorem Yk {l:List α} {d:α} (h:(k:Int)<l.length):l.set k (l.getD k d)=l:=by
 have hk:k<l.length:=by omega
 rw [List.getD_eq_getElem?_getD,List.getElem?_eq_getElem hk]; exact aiL hk
def OT (l:List Snap) (k:Nat):Nat:=((List.range k).filter fun (i:Nat)=>decide (0<CC ((i:Int)+1) l)).length
def kY (l:List Snap):Nat:=OT l 64
def WW (st:State):List (Nat × LI):=[(5,{ σ:=Nat,F:=fun k=>([(1,one (.ptr 0 0)),(2,one (.ptr 1 0)),(18,one (.int st.snaps.length)),(19,one (.int k))],[.box 46 ([.int ((st.version)),.int ((st.next)),.int ((st.keep)),.int ((st.quota)),.own 2,.own 3,.own 4]),.box 46 ([.int ((0)),.int ((0)),.int ((0)),.int ((0)),.em true,.em true,.em true]),.row 137 (.nm .sess) ((st.sess)),.row 139 (.nm .opn) ((st.opens)),.row 172 (.nm .snap) ((st.snaps))]),J:=fun k=>k<=st.snaps.length,μ:=fun k=>st.snaps.length - k })]
def Kd:Kn:=aK (ae (kT (.nm .state)) (ae (kC cI) ao)) aw fun (st,v,_) _=>⟨[],[.c (.int ((eC st v)))],none,false⟩
theorem ZM:CK 276 Kd:=ag fun (st,v,_) _ _=>by
 refine av qL [] Tryz.func276 (?_:(fun q11=>(fun q10=>(fun q9=>(fun q8=>(fun q7=>(fun q6=>(fun q12=>(fun q5=>(fun q4=>(fun q16=>(fun q15=>(fun q14=>(fun q13=>(fun q3=>(fun q2=>(fun q1=>(fun q0=>(fun q18=>(fun q17=>fE st (I64 v->(cj v q6 q8=false->q6=q11)/\(cj v q6 q8=true->(v<q8->q5<=q7/\q5<=q7/\(q17->q12)/\((((q3\/q16=false)\/q13)\/q14)\/gg st v=false->6=q11)/\(q17/\gg st v=true->q4=q11))/\(q8<=v->q5<=q7/\q5<=q7/\(q18->q12)/\((((q3\/q15=false)\/q13)\/q14)\/gg st v=false->6=q11)/\(q18/\gg st v=true->q4=q11))))) (((q0/\q16=true)/\q1)/\q2)) (((q0/\q15=true)/\q1)/\q2)) ((cj st.version q6 q8=true/\cj st.next q6 q7=true)/\cj st.keep q4 q5=true)) (az Sess.client q5 q4 st.sess=true/\q10=true)) (az Opn.set q5 q4 st.opens=true/\q9=true)) ((cj st.version q6 q8=false\/cj st.next q6 q7=false)\/cj st.keep q4 q5=false)) (az Sess.client q5 q4 st.sess=false\/q10=false)) (az Opn.set q5 q4 st.opens=false\/q9=false)) (cj st.quota q4 64)) (cj st.quota q4 q4)) (0:Int)) (8:Int)) (q6<=st.next/\st.next<=q7)) (1:Int)) (1048576:Int)) (3:Int)) (st.opens.all eF)) (st.sess.all d_)) (eC st v));(repeat' with_reducible first|apply aZ|refine aY ?_|intro)
 all_goals (first | exact bt | exact (Ji (a:=1) (b:=1048576) ab).1 | exact (Ji (a:=1) (b:=1048576) ab).2 | (simp only [eC,lA,AF,wF]; grind))
def GB:Kn:=aK (ae (kT (.nm .command)) (ae (kC cI) ao)) aw fun (c,v,_) _=>⟨[],[.c (.int ((bG c v)))],none,false⟩
theorem Uo:CK 52 GB:=ag fun (c,v,_) _ _=>by
 refine av qL [] Tryz.func52 (?_:(fun q0=>bB c (I64 v->I64 q0->(ct v=false\/q0=0->1=bG c v)/\(ct v=true/\¬q0=0->(v<q0->10=bG c v)/\(q0<=v->(mu c=false->1=bG c v)/\(mu c=true->0=bG c v))))) (cw c.kind));rw [show ct v=cj v 1 3 from rfl];(repeat' with_reducible first|apply aZ|refine aY ?_|intro)
 all_goals (first | exact bt | (simp only [bG]; grind))
def Gm:Kn:=aK (ae (kT (.nm .state)) ao) aw fun (st,_) _=>⟨[],[.agg ([.int ((st.version)),.int ((st.next)),.int ((st.keep)),.int ((st.quota)),.own 0,.own 1,.own 2])],some ([.row 137 (.nm .sess) ((st.sess)),.row 139 (.nm .opn) ((st.opens)),.row 172 (.nm .snap) ((st.snaps))]),true⟩
theorem Ql:CK 61 Gm:=ag fun (st,_) _ _=>by
 refine dD qL (WW st) Tryz.func61 (?_:(fun (q2:List Snap)=>(fun (q1:Nat)=>(fun (q0:Prop)=>fE st (∃ (s0:Nat),((↑q2.length:Int)=(↑q1:Int)/\0=(↑s0:Int)/\st.version=st.version/\st.next=st.next/\st.keep=st.keep/\st.quota=st.quota/\q0/\q0/\q0/\q0/\st.sess=st.sess/\st.opens=st.opens/\q2=q2)/\s0<=q1/\∀ (s:Nat),(fun (q3:den (Sh.nm NT.snap))=>s<=q1->((↑s:Int)<(↑q1:Int)->0<=(↑s:Int)/\(↑s:Int)<(↑q2.length:Int)/\0<=(↑s:Int)/\(↑s:Int)<(↑q2.length:Int)/\fk q3 (q3.chunks.length*8<=140737488355328->fk q3 (I64 ((↑s:Int)+1)/\∃ (s':Nat),((↑q1:Int)=(↑q1:Int)/\(↑s:Int)+1=(↑s':Int)/\st.version=st.version/\st.next=st.next/\st.keep=st.keep/\st.quota=st.quota/\q0/\q0/\q0/\q0/\st.sess=st.sess/\st.opens=st.opens/\q2.set s q3=q2)/\s' <= q1/\q1 - s' < q1 - s)))/\((↑q1:Int)<=(↑s:Int)->dk st st)) (q2.getD s (au (Sh.nm NT.snap))))) ((0:Int)=0)) q2.length) st.snaps);iterate 3 ((all_goals (repeat' with_reducible first|apply aZ|refine aY ?_|intro)); (all_goals try (first | exact bt | exact rfl | exact (Yk aL))); all_goals try first | refine ⟨‹Nat› + 1,?_⟩ | refine ⟨0,?_⟩)
def VU:bN:=(aO 61 Gm (aO 52 GB (aO 276 Kd adr)))
theorem tr:ay Tryz.prog (al tyT) VU:=(ah Ql (ah Uo (ah ZM qL)))
def FN (l:List Snap) (id:Int) (k:Nat):List Int:=((List.range k).filter fun (i:Nat)=>decide (0<CC ((i:Int)+1) l) && decide (CC ((i:Int)+1) (bl id l)=0)).map fun (i:Nat)=>(i:Int)+1
def ez (xs:List Int) (l:List Int):List Int:=l.foldl (fun xs n=>if 1<=n/\n<=64 then xs.set n.toNat (xs.getD n.toNat 0+1) else xs) xs
theorem Yq (h:nch l<=1048576):nch (bl id l)<=1048576:=by
 refine Nat.le_trans ?_ h;unfold nch bl;induction l with
 | nil=>exact Nat.le_refl _
 | cons x l ih=>
  have hl:(l.flatMap Snap.chunks).length<=1048576:=by unfold nch at h; rw [List.flatMap_cons,List.length_append] at h; omega
  have:=ih hl;rw [List.filter_cons,List.flatMap_cons,List.length_append];split
  ·rw [List.flatMap_cons,List.length_append]; omega
  omega
def mK (l:List Snap) (id:Int):List Int:=FN l id 64
def Gj (xs l:List Int):Prop:=∀ i,0<=xs.getD i 0/\xs.getD i 0+l.length<=4611686018427387904
variable {xs:List Int} {i:Nat}
theorem yM {j:Nat} {v:Int}:(xs.set j v).getD i 0=if j=i/\j<xs.length then v else xs.getD i 0:=by
 rw [List.getD_eq_getElem?_getD,List.getElem?_set,List.getD_eq_getElem?_getD];by_cases h:j=i
 ·subst h;by_cases h2:j<xs.length
  ·simp [h2]
  simp [h2]
 simp [h]
theorem CM:∀ (l xs:List Int) (i:Nat),xs.getD i 0<=(ez xs l).getD i 0/\(ez xs l).getD i 0<=xs.getD i 0+l.length
 | [],xs,i=>by simp [ez]
 | n :: l,xs,i=>by
  have h:=CM l (if 1<=n/\n<=64 then xs.set n.toNat (xs.getD n.toNat 0+1) else xs) i;have e:ez xs (n :: l)=ez (if 1<=n/\n<=64 then xs.set n.toNat (xs.getD n.toNat 0+1) else xs) l:=rfl;rw [e];have h2:xs.getD i 0<=(if 1<=n/\n<=64 then xs.set n.toNat (xs.getD n.toNat 0+1) else xs).getD i 0/\(if 1<=n/\n<=64 then xs.set n.toNat (xs.getD n.toNat 0+1) else xs).getD i 0<=xs.getD i 0+1:=by
   split
   ·rw [yM]; split
    ·rename_i h3; rw [h3.1]; omega
    omega
   omega
  rw [List.length_cons]; omega
variable {n:Int} {l:List Int}
theorem yH (hx:l[k]? = some n):ez xs (l.take (k+1))=if 1<=n/\n<=64 then (ez xs (l.take k)).set n.toNat ((ez xs (l.take k)).getD n.toNat 0+1) else ez xs (l.take k):=by
 rw [ai hx,ez,List.foldl_append]; rfl
theorem aea (hx:l[k]? = some n) (h:1<=n/\n<=64):(ez xs (l.take k)).set n.toNat ((ez xs (l.take k)).getD n.toNat (au .int)+1)=ez xs (l.take (k+1)):=by rw [yH hx,if_pos h]; rfl
theorem acP (hx:l[k]? = some n) (h:¬ (1<=n/\n<=64)):ez xs (l.take k)=ez xs (l.take (k+1)):=by rw [yH hx,if_neg h]
theorem abL (h:Gj xs l):I64 ((ez xs (l.take k)).getD n.toNat (au .int)+1):=by
 have h1:=CM (l.take k) xs n.toNat;have h2:=h n.toNat;rw [List.length_take] at h1;show I64 ((ez xs (l.take k)).getD n.toNat 0+1);constructor <;> omega
def afJ (l:List Int) (xs:List Int):List (Nat × LI):=[(1,{ σ:=Nat,F:=fun k=>([(0,one (.ptr 0 0)),(6,one (.fz .int (l))),(7,one (.int (l).length)),(8,one (.int k))],[.arr 338 .int 65 ((ez xs (l.take k)))]),J:=fun k=>k<=l.length,μ:=fun k=>(l).length - k })]
def LC:Kn:=aK (ae (kT (.nm .state)) (ae (kT (.nm .command)) ao)) aw fun (st,c,_) _=>⟨[],[.c (.int ((if eC st st.version=0 then bG c st.version else 1)))],none,false⟩
theorem Zz:CK 260 LC:=ag fun (st,c,_) _ _=>by
 refine av tr [] Tryz.func260 (?_:(fun q1=>(fun q0=>(fun q2=>fE st (bB c (I64 q0->(¬q0=0->1=q2)/\(q0=0->I64 q1->q1=q2)))) (if q0=0 then q1 else 1)) (eC st st.version)) (bG c st.version));grind
def U_:Kn:=aK (ae (kC (aX 0 0)) (ae (kC (cL .int)) ao)) (aC (BZ 338 .int 65) aw) fun (_,l,_) (xs,_)=>⟨[Gj xs l],[],some ([.arr 338 .int 65 ((ez xs l))]),false⟩
theorem adz:CK 360 U_:=ag fun (_,l,_) (xs,_) hp=>by
 have h0:=cc hp;refine br tr (afJ l xs) Tryz.func360 (?_:(fun (q1:Int)=>(fun (q0:Nat)=>(fun (q2:Int)=>l.length*(8:Nat)<=(140737488355328:Nat)->∃ (s0:Nat),(l=l/\(↑l.length:Int)=q2/\(0:Int)=(↑s0:Int)/\xs=ez xs (List.take s0 l))/\s0<=q0/\∀ (s:Nat),(fun (q4:Int)=>(fun (q3:List Int)=>s<=q0->((↑s:Int)<q2->(0:Int)<=(↑s:Int)/\(↑s:Int)<(↑l.length:Int)/\∀ (x:Int),(fun (q5:den Sh.int)=>l[s]? = some x->I64 x->(q1<=x/\x<=(64:Int)->(0:Int)<=x/\x<(↑(65:Nat):Int)/\x.toNat<(65:Nat)/\I64 (q5+q1)/\(0:Int)<=x/\x<(↑(65:Nat):Int)/\(I64 q5->x.toNat<(65:Nat)/\I64 q4/\∃ (s':Nat),(l=l/\q2=q2/\q4=(↑s':Int)/\q3.set x.toNat (q5+q1)=ez xs (List.take s' l))/\s' <= q0/\q0 - s' < q0 - s))/\(x<q1\/(64:Int)<x->I64 q4/\∃ (s':Nat),(l=l/\q2=q2/\q4=(↑s':Int)/\q3=ez xs (List.take s' l))/\s' <= q0/\q0 - s' < q0 - s)) (q3.getD x.toNat (au Sh.int)))/\(q2<=(↑s:Int)->q3=ez xs l)) (ez xs (List.take s l))) ((↑s:Int)+q1)) (↑q0:Int)) l.length) (1:Int));iterate 3 ((all_goals (repeat' with_reducible first|apply aZ|refine aY ?_|intro)); (all_goals try (first | exact bt | exact rfl | exact (aea ab (by constructor <;> omega)) | exact (acP ab aL) | exact (by rw [List.take_of_length_le aL]) | exact (abL ab))); all_goals try first | refine ⟨‹Nat› + 1,?_⟩ | refine ⟨0,?_⟩)
def Va:bN:=(aO 360 U_ (aO 260 LC VU))
theorem JL:ay Tryz.prog (al tyT) Va:=(ah adz (ah Zz tr))
section
variable {B:Bool} {k:Nat}
variable {st:State} {v:Int}
end
def Vk:bN:=Va
theorem NH:ay Tryz.prog (al tyT) Vk:=JL
def UQ:bN:=Vk
theorem lB:ay Tryz.prog (al tyT) UQ:=NH
def fK (xs:List Int) (c:Int):Bool:=decide (0<xs.getD c.toNat (au .int))
def fN (xs ys:List Int) (c:Int):Bool:=decide (0<xs.getD c.toNat (au .int)) && decide (ys.getD c.toNat (au .int)=0)
def kO (p:Int->Bool) (k:Nat):List Int:=((List.range k).map fun (i:Nat)=>(i:Int)+1).filter p
theorem abl {p:Int->Bool} (h:p ((k:Int)+1)=true):kO p k++[(k:Int)+1]=kO p (k+1):=by
 unfold kO; rw [List.range_succ,List.map_append,List.filter_append]; simp [h]
theorem acA {p:Int->Bool} (h:p ((k:Int)+1)=false):kO p k=kO p (k+1):=by
 unfold kO; rw [List.range_succ,List.map_append,List.filter_append]; simp [h]
theorem adC {p:Int->Bool} (h:k<=64) (h2:64<(k:Int)+1):kO p k=kO p 64:=by rw [show k=64 by omega]
theorem PJ {p:Int->Bool} (h:k<=64):((kO p k).length+[n].length)*8<=140737488355328:=by
 have:=List.length_filter_le p ((List.range k).map fun (i:Nat)=>(i:Int)+1);rw [List.length_map,ai3] at this;unfold kO; simp only [List.length_cons,List.length_nil]; omega
def cg (l:List Snap):List Int:=l.foldl (fun t x=>ez t x.chunks) (List.replicate 65 0)
theorem sj:∀ (l xs:List Int),(ez xs l).length=xs.length
 | [],_=>rfl
 | n :: l,xs=>by
  show (ez (if 1<=n/\n<=64 then xs.set n.toNat (xs.getD n.toNat 0+1) else xs) l).length=_;rw [sj l]; split
  ·rw [aet]
  rfl
variable {l:List Snap}
theorem kH:cg (l++[x])=ez (cg l) x.chunks:=by unfold cg; rw [List.foldl_append]; rfl
theorem XU (hx:l[k]? = some x):ez (cg (l.take k)) x.chunks=cg (l.take (k+1)):=by rw [ai hx,kH]
theorem xD {p:List Snap->Prop} (h0:p []) (hs:∀ l x,p l->p (l++[x])) (l:List Snap):p l:=by
 have:∀ r:List Snap,p r.reverse:=fun r=>by
  induction r with
  | nil=>exact h0
  | cons x r ih=>rw [List.reverse_cons]; exact hs _ _ ih
 have h:=this l.reverse;rwa [List.reverse_reverse] at h
theorem kg (l:List Snap):(cg l).length=65:=by
 refine xD (p:=fun l=>(cg l).length=65) rfl (fun l x h=>?_) l;rw [kH,sj,h]
theorem AU:nch (l++[x])=nch l+x.chunks.length:=by unfold nch; simp
theorem Jk (l:List Snap) (i:Nat):0<=(cg l).getD i 0/\(cg l).getD i 0<=nch l:=by
 refine xD (p:=fun l=>0<=(cg l).getD i 0/\(cg l).getD i 0<=nch l) ?_ (fun l x h=>?_) l
 ·show 0<=(List.replicate 65 (0:Int)).getD i 0/\(List.replicate 65 (0:Int)).getD i 0<=_;rw [List.getD_eq_getElem?_getD,af_]; split <;> simp
 have:=CM x.chunks (cg l) i;rw [kH,AU]; omega
theorem EJ (hx:l[k]? = some x) (h:nch l<=1048576):Gj (cg (l.take k)) x.chunks:=fun i=>by
 have h1:=Jk (l.take k) i;have h2:nch (l.take (k+1))<=nch l:=by
  unfold nch; rw [<- List.take_append_drop (k+1) l,List.flatMap_append,List.length_append,List.take_append_drop]; omega
 rw [ai hx,AU] at h2;omega
theorem Ee {m:List Int} {s:Sh} (h:nch l<=1048576) (hm:m.length*8<=140737488355328):Gj (BW .int (cg l) 0 65) m:=fun i=>by
 rw [jX (kg l)];have h1:=Jk l i;omega
theorem Eh:∀ (l xs:List Int) (c:Int),1<=c->c<=64->xs.length=65->(ez xs l).getD c.toNat 0=xs.getD c.toNat 0+(l.count c:Nat)
 | [],_,_,_,_,_=>by simp [ez]
 | n :: l,xs,c,h1,h2,h3=>by
  show (ez (if 1<=n/\n<=64 then xs.set n.toNat (xs.getD n.toNat 0+1) else xs) l).getD c.toNat 0=_;rw [Eh l _ c h1 h2 (by split; rw [aet,h3]; exact h3),List.count_cons];split
  ·rw [yM];by_cases e:n=c
   ·subst e; rw [if_pos ⟨rfl,by omega⟩]; simp; omega
   rw [if_neg (by omega)]; simp [e]
  by_cases e:n=c
  ·omega
  simp [e]
theorem Cw (l:List Snap) (c:Int) (h1:1<=c) (h2:c<=64):(cg l).getD c.toNat 0=(CC c l:Nat):=by
 refine xD (p:=fun l=>(cg l).getD c.toNat 0=(CC c l:Nat)) ?_ (fun l x h=>?_) l
 ·show (List.replicate 65 (0:Int)).getD c.toNat 0=_;rw [List.getD_eq_getElem?_getD,af_]; split <;> simp [CC]
 rw [kH,Eh _ _ _ h1 h2 (kg l),h];unfold CC; simp
theorem DM (l:List Snap):((kO (fK (cg l)) 64).length:Int)=(kY l:Int):=by
 unfold kO kY OT;rw [List.filter_map,List.length_map];congr 2;apply List.filter_congr;intro i hi;rw [List.mem_range] at hi;have:=Cw l ((i:Int)+1) (by omega) (by omega);simp only [Function.comp,fK];rw [show (au .int)=(0:Int) from rfl,this];rw [decide_eq_decide]; omega
theorem LA (l m:List Snap) (id:Int) (e:m=bl id l):kO (fN (cg l) (cg m)) 64=mK l id:=by
 subst e;unfold kO mK FN;rw [List.filter_map];congr 1;apply List.filter_congr;intro i hi;rw [List.mem_range] at hi;have h1:=Cw l ((i:Int)+1) (by omega) (by omega);have h2:=Cw (bl id l) ((i:Int)+1) (by omega) (by omega);simp only [Function.comp,fN];rw [show (au .int)=(0:Int) from rfl,h1,h2];congr 1 <;> (rw [decide_eq_decide]; omega)
def YC (l:List Snap):List (Nat × LI):=[(3,{ σ:=Nat,F:=fun k=>([(2,one (.ptr 0 0)),(3,one (.ptr 1 0)),(6,one (.fz (.nm .snap) (l))),(7,one (.int (l).length)),(8,one (.int k))],[.arr 338 .int 65 ((List.replicate 65 0)),.arr 338 .int 65 ((cg (l.take k)))]),J:=fun k=>k<=l.length,μ:=fun k=>l.length - k })]
def Ll (l:List Snap) (id:Int):List (Nat × LI):=[(3,{ σ:=Nat,F:=fun k=>([(1,one (.int (id))),(5,one (.own 0)),(8,one (.fz (.nm .snap) (l))),(9,one (.int (l).length)),(10,one (.int k))],[.row 172 (.nm .snap) ((bl id (l.take k)))]),J:=fun k=>k<=l.length,μ:=fun k=>l.length - k })]
def FM:Kn:=aK (ae (kC cI) (ae (kC (aX 0 0)) ao)) (aC (BZ 338 .int 65) aw) fun (n,_,_) (xs,_)=>⟨[0<=n/\n<65],[.c (.bool (.atom ((fK xs n))))],none,false⟩
theorem SK:CK 362 FM:=ag fun (n,_,_) (xs,_) hp=>by
 have h0:=cc hp;refine av lB [] Tryz.func362 (?_:I64 n->(0:Int)<=n/\n<(↑(65:Nat):Int)/\n.toNat<(65:Nat)/\(I64 (xs.getD n.toNat (au Sh.int))->decide ((0:Int)<xs.getD n.toNat (au Sh.int))=fK xs n));(repeat' with_reducible first|apply aZ|refine aY ?_|intro) <;> first | (first | with_reducible rfl | with_reducible assumption | omega | (refine bR ?_ ?_ <;> omega)) | rfl
def zm:Kn:=aK (ae (kC cI) (ae (kC (aX 0 0)) (ae (kC (aX 1 0)) ao))) (aC (BZ 338 .int 65) (aC (BZ 338 .int 65) aw)) fun (n,_,_,_) (xs,ys,_)=>⟨[0<=n/\n<65],[.c (.bool (.atom ((fN xs ys n))))],none,false⟩
theorem Ky:CK 363 zm:=ag fun (n,_,_,_) (xs,ys,_) hp=>by
 have h0:=cc hp;refine av lB [] Tryz.func363 (?_:(fun q1=>(fun q0=>I64 n->q1<=n/\n<(↑(65:Nat):Int)/\n.toNat<(65:Nat)/\(I64 q0->(q1<q0->q1<=n/\n<(↑(65:Nat):Int)/\n.toNat<(65:Nat))/\((q1<q0->I64 (ys.getD n.toNat (au Sh.int)))->(decide (q1<q0) && decide (ys.getD n.toNat (au Sh.int)=q1))=fN xs ys n))) (xs.getD n.toNat (au Sh.int))) (0:Int));(repeat' with_reducible first|apply aZ|refine aY ?_|intro) <;> first | (first | with_reducible rfl | with_reducible assumption | omega | (refine bR ?_ ?_ <;> omega)) | rfl
def Fy:Kn:=aK (ae (kC (cL (.nm .snap))) ao) aw fun (l,_) _=>⟨[nch l<=1048576],[.agg (xy .int ((cg l)) 0 65)],none,false⟩
theorem Sz:CK 346 Fy:=ag fun (l,_) _ hp=>by
 have h0:=cc hp;refine av lB (YC l) Tryz.func346 (?_:(fun (q6:Nat)=>(fun (q5:List Int)=>(fun (q4:Nat)=>(fun (q3:Nat)=>(fun (q2:Int)=>(fun (q1:den Sh.int)=>(fun (q0:List (den Sh.int))=>l.length*64<=140737488355328->∃ (s0:Nat),(l=l/\(↑l.length:Int)=(↑q6:Int)/\q2=(↑s0:Int)/\q0=List.replicate q3 (0:den Sh.int)/\q0=cg (List.take s0 l))/\s0<=q6/\∀ (s:Nat),(fun (q8:List Int)=>(fun (q7:List (den Sh.int))=>s<=q6->((↑s:Int)<(↑q6:Int)->q2<=(↑s:Int)/\(↑s:Int)<(↑l.length:Int)/\∀ (x:Snap),l[s]? = some x->fk x ((∀ (i:Nat),q2<=q8.getD i q2/\q8.getD i q2+(↑x.chunks.length:Int)<=4611686018427387904)/\I64 ((↑s:Int)+1)/\∃ (s':Nat),(l=l/\(↑q6:Int)=(↑q6:Int)/\(↑s:Int)+1=(↑s':Int)/\List.replicate q3 (0:den Sh.int)=List.replicate q3 (0:den Sh.int)/\ez q8 x.chunks=cg (List.take s' l))/\s' <= q6/\q6 - s' < q6 - s))/\((↑q6:Int)<=(↑s:Int)->q7.getD q4 q1=q5.getD q4 q1/\q7.getD 1 q1=q5.getD 1 q1/\q7.getD 2 q1=q5.getD 2 q1/\q7.getD 3 q1=q5.getD 3 q1/\q7.getD 4 q1=q5.getD 4 q1/\q7.getD 5 q1=q5.getD 5 q1/\q7.getD 6 q1=q5.getD 6 q1/\q7.getD 7 q1=q5.getD 7 q1/\q7.getD 8 q1=q5.getD 8 q1/\q7.getD 9 q1=q5.getD 9 q1/\q7.getD 10 q1=q5.getD 10 q1/\q7.getD 11 q1=q5.getD 11 q1/\q7.getD 12 q1=q5.getD 12 q1/\q7.getD 13 q1=q5.getD 13 q1/\q7.getD 14 q1=q5.getD 14 q1/\q7.getD 15 q1=q5.getD 15 q1/\q7.getD 16 q1=q5.getD 16 q1/\q7.getD 17 q1=q5.getD 17 q1/\q7.getD 18 q1=q5.getD 18 q1/\q7.getD 19 q1=q5.getD 19 q1/\q7.getD 20 q1=q5.getD 20 q1/\q7.getD 21 q1=q5.getD 21 q1/\q7.getD 22 q1=q5.getD 22 q1/\q7.getD 23 q1=q5.getD 23 q1/\q7.getD 24 q1=q5.getD 24 q1/\q7.getD 25 q1=q5.getD 25 q1/\q7.getD 26 q1=q5.getD 26 q1/\q7.getD 27 q1=q5.getD 27 q1/\q7.getD 28 q1=q5.getD 28 q1/\q7.getD 29 q1=q5.getD 29 q1/\q7.getD 30 q1=q5.getD 30 q1/\q7.getD 31 q1=q5.getD 31 q1/\q7.getD 32 q1=q5.getD 32 q1/\q7.getD 33 q1=q5.getD 33 q1/\q7.getD 34 q1=q5.getD 34 q1/\q7.getD 35 q1=q5.getD 35 q1/\q7.getD 36 q1=q5.getD 36 q1/\q7.getD 37 q1=q5.getD 37 q1/\q7.getD 38 q1=q5.getD 38 q1/\q7.getD 39 q1=q5.getD 39 q1/\q7.getD 40 q1=q5.getD 40 q1/\q7.getD 41 q1=q5.getD 41 q1/\q7.getD 42 q1=q5.getD 42 q1/\q7.getD 43 q1=q5.getD 43 q1/\q7.getD 44 q1=q5.getD 44 q1/\q7.getD 45 q1=q5.getD 45 q1/\q7.getD 46 q1=q5.getD 46 q1/\q7.getD 47 q1=q5.getD 47 q1/\q7.getD 48 q1=q5.getD 48 q1/\q7.getD 49 q1=q5.getD 49 q1/\q7.getD 50 q1=q5.getD 50 q1/\q7.getD 51 q1=q5.getD 51 q1/\q7.getD 52 q1=q5.getD 52 q1/\q7.getD 53 q1=q5.getD 53 q1/\q7.getD 54 q1=q5.getD 54 q1/\q7.getD 55 q1=q5.getD 55 q1/\q7.getD 56 q1=q5.getD 56 q1/\q7.getD 57 q1=q5.getD 57 q1/\q7.getD 58 q1=q5.getD 58 q1/\q7.getD 59 q1=q5.getD 59 q1/\q7.getD 60 q1=q5.getD 60 q1/\q7.getD 61 q1=q5.getD 61 q1/\q7.getD 62 q1=q5.getD 62 q1/\q7.getD 63 q1=q5.getD 63 q1/\q7.getD 64 q1=q5.getD 64 q1)) (BW Sh.int q8 q4 q3)) (cg (List.take s l))) [q2,q2,q2,q2,q2,q2,q2,q2,q2,q2,q2,q2,q2,q2,q2,q2,q2,q2,q2,q2,q2,q2,q2,q2,q2,q2,q2,q2,q2,q2,q2,q2,q2,q2,q2,q2,q2,q2,q2,q2,q2,q2,q2,q2,q2,q2,q2,q2,q2,q2,q2,q2,q2,q2,q2,q2,q2,q2,q2,q2,q2,q2,q2,q2,q2]) (au Sh.int)) 0) 65) 0) (cg l)) l.length);iterate 3 ((all_goals (repeat' with_reducible first|apply aZ|refine aY ?_|intro)); (all_goals try (first | exact bt | exact rfl | exact (XU ab) | exact (EJ ab ab _).1 | exact (EJ ab ab _).2 | exact (by rw [jX (kg _),List.take_of_length_le aL]))); all_goals try first | refine ⟨‹Nat› + 1,?_⟩ | refine ⟨0,?_⟩)
def vx:Kn:=aK (ae (kC (cL (.nm .snap))) (ae (kC cI) ao)) aw fun (l,id,_) _=>⟨[],[.c (.own 0)],some ([.row 172 (.nm .snap) ((bl id l))]),true⟩
theorem IS:CK 349 vx:=ag fun (l,id,_) _ _=>by
 refine dD lB (Ll l id) Tryz.func349 (?_:(fun (q0:Nat)=>(fun (q1:Int)=>l.length*64<=140737488355328->I64 id->∃ (s0:Nat),(id=id/\l=l/\(↑l.length:Int)=q1/\0=(↑s0:Int)/\bl id (List.take s0 l)=[])/\s0<=q0/\∀ (s:Nat),(fun (q3:List Snap)=>(fun (q2:Int)=>s<=q0->((↑s:Int)<q1->0<=(↑s:Int)/\(↑s:Int)<(↑l.length:Int)/\∀ (x:Snap),l[s]? = some x->fk x ((¬x.id=id->x.chunks.length*8<=140737488355328->(q3.length+[x].length)*64<=140737488355328/\I64 q2/\∃ (s':Nat),(id=id/\l=l/\q1=q1/\q2=(↑s':Int)/\q3++[x]=bl id (List.take s' l))/\s' <= q0/\q0 - s' < q0 - s)/\(x.id=id->I64 q2/\∃ (s':Nat),(id=id/\l=l/\q1=q1/\q2=(↑s':Int)/\q3=bl id (List.take s' l))/\s' <= q0/\q0 - s' < q0 - s)))/\(q1<=(↑s:Int)->q3=bl id l)) ((↑s:Int)+1)) (bl id (List.take s l))) (↑q0:Int)) l.length);iterate 3 ((all_goals (repeat' with_reducible first|apply aZ|refine aY ?_|intro)); (all_goals try (first | exact bt | exact rfl | exact (aei ab ab ab) | exact (abp ab ab) | exact (aaY aL) | exact (aaJ aL aL))); all_goals try first | refine ⟨‹Nat› + 1,?_⟩ | refine ⟨0,?_⟩)
def UW:bN:=(aO 349 vx (aO 346 Fy (aO 363 zm (aO 362 FM UQ))))
theorem rN:ay Tryz.prog (al tyT) UW:=(ah IS (ah Sz (ah Ky (ah SK lB))))
def JO (xs:List Int):List (Nat × LI):=[(3,{ σ:=Nat,F:=fun k=>([(0,one (.fn 362 [] [(0,0)])),(3,one (.own 1)),(4,one (.int (k+1)))],[.arr 338 .int 65 ((xs)),.row 3 .int ((kO (fK xs) k))]),J:=fun k=>k<=64,μ:=fun k=>64 - k })]
def MH (xs:List Int) (ys:List Int):List (Nat × LI):=[(3,{ σ:=Nat,F:=fun k=>([(0,one (.fn 363 [] [(0,0),(1,0)])),(3,one (.own 2)),(4,one (.int (k+1)))],[.arr 338 .int 65 ((xs)),.arr 338 .int 65 ((ys)),.row 3 .int ((kO (fN xs ys) k))]),J:=fun k=>k<=64,μ:=fun k=>64 - k })]
def vB:Kn:=aK (ae (kC (qN 362 [] [(0,0)])) ao) (aC (BZ 338 .int 65) aw) fun _ (xs,_)=>⟨[],[.c (.fz .int ((kO (fK xs) 64)))],none,false⟩
theorem Hw:CK 361 vB:=ag fun _ (xs,_) _=>by
 refine av rN (JO xs) Tryz.func361 (?_:(fun (q1:Nat)=>(fun (q0:Int)=>∃ (s0:Nat),(q0=(↑s0:Int)+q0/\xs=xs/\kO (fK xs) s0=[])/\s0<=q1/\∀ (s:Nat),(fun (q3:List Int)=>(fun (q2:Int)=>s<=q1->(q2<=64->(0<=q2/\q2<65)/\(fK xs q2=true->(q3.length+[q2].length)*8<=140737488355328/\I64 (q2+q0)/\∃ (s':Nat),(q2+q0=(↑s':Int)+q0/\xs=xs/\q3++[q2]=kO (fK xs) s')/\s' <= q1/\q1 - s' < q1 - s)/\(fK xs q2=false->I64 (q2+q0)/\∃ (s':Nat),(q2+q0=(↑s':Int)+q0/\xs=xs/\q3=kO (fK xs) s')/\s' <= q1/\q1 - s' < q1 - s))/\(64<q2->q3=kO (fK xs) q1)) ((↑s:Int)+q0)) (kO (fK xs) s)) 1) 64);iterate 3 ((all_goals (repeat' with_reducible first|apply aZ|refine aY ?_|intro)); (all_goals try (first | exact bt | exact rfl | exact (abl ab) | exact (acA ab) | exact (adC aL aL) | exact (PJ aL) | exact (And.intro aL aL))); all_goals try first | refine ⟨‹Nat› + 1,?_⟩ | refine ⟨0,?_⟩)
def vf:Kn:=aK (ae (kC (qN 363 [] [(0,0),(1,0)])) ao) (aC (BZ 338 .int 65) (aC (BZ 338 .int 65) aw)) fun _ (xs,ys,_)=>⟨[],[.c (.fz .int ((kO (fN xs ys) 64)))],none,false⟩
theorem HQ:CK 361 vf:=ag fun _ (xs,ys,_) _=>by
 refine av rN (MH xs ys) Tryz.func361 (?_:(fun (q1:Nat)=>(fun (q0:Int)=>∃ (s0:Nat),(q0=(↑s0:Int)+q0/\xs=xs/\ys=ys/\kO (fN xs ys) s0=[])/\s0<=q1/\∀ (s:Nat),(fun (q3:List Int)=>(fun (q2:Int)=>s<=q1->(q2<=64->(0<=q2/\q2<65)/\(fN xs ys q2=true->(q3.length+[q2].length)*8<=140737488355328/\I64 (q2+q0)/\∃ (s':Nat),(q2+q0=(↑s':Int)+q0/\xs=xs/\ys=ys/\q3++[q2]=kO (fN xs ys) s')/\s' <= q1/\q1 - s' < q1 - s)/\(fN xs ys q2=false->I64 (q2+q0)/\∃ (s':Nat),(q2+q0=(↑s':Int)+q0/\xs=xs/\ys=ys/\q3=kO (fN xs ys) s')/\s' <= q1/\q1 - s' < q1 - s))/\(64<q2->q3=kO (fN xs ys) q1)) ((↑s:Int)+q0)) (kO (fN xs ys) s)) 1) 64);iterate 3 ((all_goals (repeat' with_reducible first|apply aZ|refine aY ?_|intro)); (all_goals try (first | exact bt | exact rfl | exact (abl ab) | exact (acA ab) | exact (adC aL aL) | exact (PJ aL) | exact (And.intro aL aL))); all_goals try first | refine ⟨‹Nat› + 1,?_⟩ | refine ⟨0,?_⟩)
def UT:bN:=(aO 361 vf (aO 361 vB UW))
theorem tf:ay Tryz.prog (al tyT) UT:=(ah HQ (ah Hw rN))
def Kb:Kn:=aK (ae (kA .int 65) ao) aw fun (xs,_) _=>⟨[xs.length=65],[.c (.fz .int ((kO (fK xs) 64)))],none,false⟩
theorem Xz:CK 345 Kb:=ag fun (xs,_) _ hp=>by
 have h0:=cc hp;refine av tf [] Tryz.func345 (?_:(fun q1=>(fun q0=>I64 (xs.getD 0 q0)->I64 (xs.getD 1 q0)->I64 (xs.getD 2 q0)->I64 (xs.getD 3 q0)->I64 (xs.getD 4 q0)->I64 (xs.getD 5 q0)->I64 (xs.getD 6 q0)->I64 (xs.getD 7 q0)->I64 (xs.getD 8 q0)->I64 (xs.getD 9 q0)->I64 (xs.getD 10 q0)->I64 (xs.getD 11 q0)->I64 (xs.getD 12 q0)->I64 (xs.getD 13 q0)->I64 (xs.getD 14 q0)->I64 (xs.getD 15 q0)->I64 (xs.getD 16 q0)->I64 (xs.getD 17 q0)->I64 (xs.getD 18 q0)->I64 (xs.getD 19 q0)->I64 (xs.getD 20 q0)->I64 (xs.getD 21 q0)->I64 (xs.getD 22 q0)->I64 (xs.getD 23 q0)->I64 (xs.getD 24 q0)->I64 (xs.getD 25 q0)->I64 (xs.getD 26 q0)->I64 (xs.getD 27 q0)->I64 (xs.getD 28 q0)->I64 (xs.getD 29 q0)->I64 (xs.getD 30 q0)->I64 (xs.getD 31 q0)->I64 (xs.getD 32 q0)->I64 (xs.getD 33 q0)->I64 (xs.getD 34 q0)->I64 (xs.getD 35 q0)->I64 (xs.getD 36 q0)->I64 (xs.getD 37 q0)->I64 (xs.getD 38 q0)->I64 (xs.getD 39 q0)->I64 (xs.getD 40 q0)->I64 (xs.getD 41 q0)->I64 (xs.getD 42 q0)->I64 (xs.getD 43 q0)->I64 (xs.getD 44 q0)->I64 (xs.getD 45 q0)->I64 (xs.getD 46 q0)->I64 (xs.getD 47 q0)->I64 (xs.getD 48 q0)->I64 (xs.getD 49 q0)->I64 (xs.getD 50 q0)->I64 (xs.getD 51 q0)->I64 (xs.getD 52 q0)->I64 (xs.getD 53 q0)->I64 (xs.getD 54 q0)->I64 (xs.getD 55 q0)->I64 (xs.getD 56 q0)->I64 (xs.getD 57 q0)->I64 (xs.getD 58 q0)->I64 (xs.getD 59 q0)->I64 (xs.getD 60 q0)->I64 (xs.getD 61 q0)->I64 (xs.getD 62 q0)->I64 (xs.getD 63 q0)->I64 (xs.getD 64 q0)->q1.length*8<=140737488355328->q1=kO (fK xs) 64) (au Sh.int)) (kO (fK (BW Sh.int xs 0 65)) 64));(repeat' with_reducible first|apply aZ|refine aY ?_|intro)
 all_goals (first | exact bt | exact (by rw [jX h0]) | exact (by rw [jX h0]; assumption))
def zP:Kn:=aK (ae (kC (cL (.nm .snap))) (ae (kC cI) ao)) aw fun (l,id,_) _=>⟨[nch l<=1048576],[.c (.fz .int ((mK l id)))],none,false⟩
theorem OD:CK 348 zP:=ag fun (l,id,_) _ hp=>by
 have h0:=cc hp;refine av tf [] Tryz.func348 (?_:(fun q3=>(fun q2=>(fun q1=>(fun q0=>(fun q4=>l.length*64<=140737488355328->I64 id->nch l<=1048576/\(I64 (q2.getD q3 q1)->I64 (q2.getD 1 q1)->I64 (q2.getD 2 q1)->I64 (q2.getD 3 q1)->I64 (q2.getD 4 q1)->I64 (q2.getD 5 q1)->I64 (q2.getD 6 q1)->I64 (q2.getD 7 q1)->I64 (q2.getD 8 q1)->I64 (q2.getD 9 q1)->I64 (q2.getD 10 q1)->I64 (q2.getD 11 q1)->I64 (q2.getD 12 q1)->I64 (q2.getD 13 q1)->I64 (q2.getD 14 q1)->I64 (q2.getD 15 q1)->I64 (q2.getD 16 q1)->I64 (q2.getD 17 q1)->I64 (q2.getD 18 q1)->I64 (q2.getD 19 q1)->I64 (q2.getD 20 q1)->I64 (q2.getD 21 q1)->I64 (q2.getD 22 q1)->I64 (q2.getD 23 q1)->I64 (q2.getD 24 q1)->I64 (q2.getD 25 q1)->I64 (q2.getD 26 q1)->I64 (q2.getD 27 q1)->I64 (q2.getD 28 q1)->I64 (q2.getD 29 q1)->I64 (q2.getD 30 q1)->I64 (q2.getD 31 q1)->I64 (q2.getD 32 q1)->I64 (q2.getD 33 q1)->I64 (q2.getD 34 q1)->I64 (q2.getD 35 q1)->I64 (q2.getD 36 q1)->I64 (q2.getD 37 q1)->I64 (q2.getD 38 q1)->I64 (q2.getD 39 q1)->I64 (q2.getD 40 q1)->I64 (q2.getD 41 q1)->I64 (q2.getD 42 q1)->I64 (q2.getD 43 q1)->I64 (q2.getD 44 q1)->I64 (q2.getD 45 q1)->I64 (q2.getD 46 q1)->I64 (q2.getD 47 q1)->I64 (q2.getD 48 q1)->I64 (q2.getD 49 q1)->I64 (q2.getD 50 q1)->I64 (q2.getD 51 q1)->I64 (q2.getD 52 q1)->I64 (q2.getD 53 q1)->I64 (q2.getD 54 q1)->I64 (q2.getD 55 q1)->I64 (q2.getD 56 q1)->I64 (q2.getD 57 q1)->I64 (q2.getD 58 q1)->I64 (q2.getD 59 q1)->I64 (q2.getD 60 q1)->I64 (q2.getD 61 q1)->I64 (q2.getD 62 q1)->I64 (q2.getD 63 q1)->I64 (q2.getD 64 q1)->nch (bl id l)<=1048576/\(I64 (q0.getD q3 q1)->I64 (q0.getD 1 q1)->I64 (q0.getD 2 q1)->I64 (q0.getD 3 q1)->I64 (q0.getD 4 q1)->I64 (q0.getD 5 q1)->I64 (q0.getD 6 q1)->I64 (q0.getD 7 q1)->I64 (q0.getD 8 q1)->I64 (q0.getD 9 q1)->I64 (q0.getD 10 q1)->I64 (q0.getD 11 q1)->I64 (q0.getD 12 q1)->I64 (q0.getD 13 q1)->I64 (q0.getD 14 q1)->I64 (q0.getD 15 q1)->I64 (q0.getD 16 q1)->I64 (q0.getD 17 q1)->I64 (q0.getD 18 q1)->I64 (q0.getD 19 q1)->I64 (q0.getD 20 q1)->I64 (q0.getD 21 q1)->I64 (q0.getD 22 q1)->I64 (q0.getD 23 q1)->I64 (q0.getD 24 q1)->I64 (q0.getD 25 q1)->I64 (q0.getD 26 q1)->I64 (q0.getD 27 q1)->I64 (q0.getD 28 q1)->I64 (q0.getD 29 q1)->I64 (q0.getD 30 q1)->I64 (q0.getD 31 q1)->I64 (q0.getD 32 q1)->I64 (q0.getD 33 q1)->I64 (q0.getD 34 q1)->I64 (q0.getD 35 q1)->I64 (q0.getD 36 q1)->I64 (q0.getD 37 q1)->I64 (q0.getD 38 q1)->I64 (q0.getD 39 q1)->I64 (q0.getD 40 q1)->I64 (q0.getD 41 q1)->I64 (q0.getD 42 q1)->I64 (q0.getD 43 q1)->I64 (q0.getD 44 q1)->I64 (q0.getD 45 q1)->I64 (q0.getD 46 q1)->I64 (q0.getD 47 q1)->I64 (q0.getD 48 q1)->I64 (q0.getD 49 q1)->I64 (q0.getD 50 q1)->I64 (q0.getD 51 q1)->I64 (q0.getD 52 q1)->I64 (q0.getD 53 q1)->I64 (q0.getD 54 q1)->I64 (q0.getD 55 q1)->I64 (q0.getD 56 q1)->I64 (q0.getD 57 q1)->I64 (q0.getD 58 q1)->I64 (q0.getD 59 q1)->I64 (q0.getD 60 q1)->I64 (q0.getD 61 q1)->I64 (q0.getD 62 q1)->I64 (q0.getD 63 q1)->I64 (q0.getD 64 q1)->q4.length*8<=140737488355328->q4=mK l id))) (kO (fN (BW Sh.int q2 q3 65) (BW Sh.int q0 q3 65)) 64)) (cg (bl id l))) (au Sh.int)) (cg l)) (0:Nat))
 (repeat' with_reducible first|apply aZ|refine aY ?_|intro)
 all_goals (first | exact bt | exact (Yq (by assumption)) | exact (by rw [jX (kg _),jX (kg _)]; exact LA _ _ _ rfl))
def Wy:bN:=(aO 348 zP (aO 345 Kb UT))
theorem sQ:ay Tryz.prog (al tyT) Wy:=(ah OD (ah Xz tf))
def pX:Kn:=aK (ae (kC (cL (.nm .snap))) ao) aw fun (l,_) _=>⟨[nch l<=1048576],[.c (.int (((kY l:Int))))],none,false⟩
theorem zl:CK 313 pX:=ag fun (l,_) _ hp=>by
 have h0:=cc hp;refine av sQ [] Tryz.func313 (?_:(fun (q1:den Sh.int)=>(fun (q0:List Int)=>(fun (q2:Nat)=>l.length*64<=140737488355328->nch l<=1048576/\(I64 (q0.getD 0 q1)->I64 (q0.getD 1 q1)->I64 (q0.getD 2 q1)->I64 (q0.getD 3 q1)->I64 (q0.getD 4 q1)->I64 (q0.getD 5 q1)->I64 (q0.getD 6 q1)->I64 (q0.getD 7 q1)->I64 (q0.getD 8 q1)->I64 (q0.getD 9 q1)->I64 (q0.getD 10 q1)->I64 (q0.getD 11 q1)->I64 (q0.getD 12 q1)->I64 (q0.getD 13 q1)->I64 (q0.getD 14 q1)->I64 (q0.getD 15 q1)->I64 (q0.getD 16 q1)->I64 (q0.getD 17 q1)->I64 (q0.getD 18 q1)->I64 (q0.getD 19 q1)->I64 (q0.getD 20 q1)->I64 (q0.getD 21 q1)->I64 (q0.getD 22 q1)->I64 (q0.getD 23 q1)->I64 (q0.getD 24 q1)->I64 (q0.getD 25 q1)->I64 (q0.getD 26 q1)->I64 (q0.getD 27 q1)->I64 (q0.getD 28 q1)->I64 (q0.getD 29 q1)->I64 (q0.getD 30 q1)->I64 (q0.getD 31 q1)->I64 (q0.getD 32 q1)->I64 (q0.getD 33 q1)->I64 (q0.getD 34 q1)->I64 (q0.getD 35 q1)->I64 (q0.getD 36 q1)->I64 (q0.getD 37 q1)->I64 (q0.getD 38 q1)->I64 (q0.getD 39 q1)->I64 (q0.getD 40 q1)->I64 (q0.getD 41 q1)->I64 (q0.getD 42 q1)->I64 (q0.getD 43 q1)->I64 (q0.getD 44 q1)->I64 (q0.getD 45 q1)->I64 (q0.getD 46 q1)->I64 (q0.getD 47 q1)->I64 (q0.getD 48 q1)->I64 (q0.getD 49 q1)->I64 (q0.getD 50 q1)->I64 (q0.getD 51 q1)->I64 (q0.getD 52 q1)->I64 (q0.getD 53 q1)->I64 (q0.getD 54 q1)->I64 (q0.getD 55 q1)->I64 (q0.getD 56 q1)->I64 (q0.getD 57 q1)->I64 (q0.getD 58 q1)->I64 (q0.getD 59 q1)->I64 (q0.getD 60 q1)->I64 (q0.getD 61 q1)->I64 (q0.getD 62 q1)->I64 (q0.getD 63 q1)->I64 (q0.getD 64 q1)->(BW Sh.int q0 0 65).length=65/\(q2*8<=140737488355328->(↑q2:Int)=(↑(kY l):Int)))) (kO (fK (BW Sh.int q0 0 65)) 64).length) (cg l)) (au Sh.int));(repeat' with_reducible first|apply aZ|refine aY ?_|intro)
 all_goals (first | exact bt | exact (qI 65 0) | exact (by rw [jX (kg _)]; exact DM _))
def EZ:Kn:=aK (ae (kC (cL (.nm .snap))) (ae (kC (cL .int)) ao)) aw fun (l,m,_) _=>⟨[nch l<=1048576],[.c (.int (((kY (l++[⟨0,0,m,false,⟨[]⟩⟩]):Int))))],none,false⟩
theorem Qo:CK 343 EZ:=ag fun (l,m,_) _ hp=>by
 have h0:=cc hp;refine av sQ [] Tryz.func343 (?_:(fun q3=>(fun q2=>(fun q1=>(fun q0=>(fun q4=>l.length*64<=140737488355328->m.length*8<=140737488355328->nch l<=1048576/\(I64 (q0.getD q2 q1)->I64 (q0.getD 1 q1)->I64 (q0.getD 2 q1)->I64 (q0.getD 3 q1)->I64 (q0.getD 4 q1)->I64 (q0.getD 5 q1)->I64 (q0.getD 6 q1)->I64 (q0.getD 7 q1)->I64 (q0.getD 8 q1)->I64 (q0.getD 9 q1)->I64 (q0.getD 10 q1)->I64 (q0.getD 11 q1)->I64 (q0.getD 12 q1)->I64 (q0.getD 13 q1)->I64 (q0.getD 14 q1)->I64 (q0.getD 15 q1)->I64 (q0.getD 16 q1)->I64 (q0.getD 17 q1)->I64 (q0.getD 18 q1)->I64 (q0.getD 19 q1)->I64 (q0.getD 20 q1)->I64 (q0.getD 21 q1)->I64 (q0.getD 22 q1)->I64 (q0.getD 23 q1)->I64 (q0.getD 24 q1)->I64 (q0.getD 25 q1)->I64 (q0.getD 26 q1)->I64 (q0.getD 27 q1)->I64 (q0.getD 28 q1)->I64 (q0.getD 29 q1)->I64 (q0.getD 30 q1)->I64 (q0.getD 31 q1)->I64 (q0.getD 32 q1)->I64 (q0.getD 33 q1)->I64 (q0.getD 34 q1)->I64 (q0.getD 35 q1)->I64 (q0.getD 36 q1)->I64 (q0.getD 37 q1)->I64 (q0.getD 38 q1)->I64 (q0.getD 39 q1)->I64 (q0.getD 40 q1)->I64 (q0.getD 41 q1)->I64 (q0.getD 42 q1)->I64 (q0.getD 43 q1)->I64 (q0.getD 44 q1)->I64 (q0.getD 45 q1)->I64 (q0.getD 46 q1)->I64 (q0.getD 47 q1)->I64 (q0.getD 48 q1)->I64 (q0.getD 49 q1)->I64 (q0.getD 50 q1)->I64 (q0.getD 51 q1)->I64 (q0.getD 52 q1)->I64 (q0.getD 53 q1)->I64 (q0.getD 54 q1)->I64 (q0.getD 55 q1)->I64 (q0.getD 56 q1)->I64 (q0.getD 57 q1)->I64 (q0.getD 58 q1)->I64 (q0.getD 59 q1)->I64 (q0.getD 60 q1)->I64 (q0.getD 61 q1)->I64 (q0.getD 62 q1)->I64 (q0.getD 63 q1)->I64 (q0.getD 64 q1)->(∀ (i:Nat),(fun q5=>0<=q5/\q5+(↑m.length:Int)<=4611686018427387904) ((BW Sh.int q0 q2 q3).getD i 0))/\q4.length=q3/\((kO (fK q4) 64).length*8<=140737488355328->(↑(kO (fK q4) 64).length:Int)=(↑(kY (l++[Snap.mk 0 0 m false (Str.mk [])])):Int)))) (BW Sh.int (ez (BW Sh.int q0 q2 q3) m) q2 q3)) (cg l)) (au Sh.int)) (0:Nat)) (65:Nat));(repeat' with_reducible first|apply aZ|refine aY ?_|intro)
 all_goals (first | exact bt | exact (qI 65 0) | exact (Ee (s:=.int) (by assumption) (by assumption) _).1 | exact (Ee (s:=.int) (by assumption) (by assumption) _).2 | exact (by rw [jX (s:=.int) (xs:=ez _ _) (by rw [sj,qI]),jX (kg l)]; have:=DM (l++[Snap.mk 0 0 m false ⟨[]⟩]); rw [kH] at this; exact this))
def Vv:bN:=(aO 343 EZ (aO 313 pX Wy))
theorem gA:ay Tryz.prog (al tyT) Vv:=(ah Qo (ah zl sQ))
def Am {α:Type} (l:List α) (i:Nat) (x:α):List α:=l.take i++x :: l.drop i
def Tu {α:Type} (l:List α) (i:Int):List α:=l.take i.toNat++l.drop (i+1).toNat
def cq (s:State) (c:Command):Int:=if 0<=ak Opn.set c.set s.opens/\¬ (s.opens.getD (ak Opn.set c.set s.opens).toNat (au (.nm .opn))).client=c.client then -1 else ak Opn.set c.set s.opens
def eP (s:State) (c:Command):State × Reply:=if 0<=ak Opn.set c.set s.opens then (s,⟨16,(s.opens.getD (ak Opn.set c.set s.opens).toNat (au (.nm .opn))).client⟩)
 else ({ s with opens:=Am s.opens (s.opens.takeWhile fun y=>decide (y.set<c.set)).length ⟨c.set,c.client⟩ },⟨0,0⟩)
def eV (s:State) (c:Command):State × Reply:=if cq s c<0 then (s,⟨15,0⟩) else ({ s with opens:=Tu s.opens (cq s c) },⟨0,0⟩)
def eI (s:State) (c:Command):State × Reply:=
 if cq s c<0 then (s,⟨15,0⟩)
 else if 16<=(s.snaps.length:Int)\/1048576<=s.next then (s,⟨20,0⟩)
 else if ¬ s.quota=0/\s.quota<(kY (s.snaps++[⟨0,0,c.chunks,false,⟨[]⟩⟩]):Int) then (s,⟨19,0⟩)
 else ({ s with next:=s.next+1,opens:=Tu s.opens (cq s c),snaps:=s.snaps++[⟨s.next,c.set,c.chunks,false,⟨[]⟩⟩] },⟨0,s.next⟩)
def eG (s:State) (at_:Nat):State × Reply:=
 if (s.snaps.getD at_ (au (.nm .snap))).held=true then (s,⟨17,0⟩)
 else if my s at_=true then (s,⟨18,0⟩)
 else ({ s with snaps:=bl (s.snaps.getD at_ (au (.nm .snap))).id s.snaps },⟨0,(mK s.snaps (s.snaps.getD at_ (au (.nm .snap))).id).length⟩)
def gf (s:State) (at_:Nat):State × Reply:=(s,⟨0,(s.snaps.getD at_ (au (.nm .snap))).chunks.length⟩)
def gH (b:Bool) (s:State) (at_:Nat):State × Reply:=
 if (s.snaps.getD at_ (au (.nm .snap))).held=b then (s,⟨0,0⟩)
 else ({ s with snaps:=s.snaps.set at_ { s.snaps.getD at_ (au (.nm .snap)) with held:=b } },⟨0,1⟩)
def sV (c:Command) (s:State) (at_:Nat):State × Reply:=({ s with snaps:=s.snaps.set at_ { s.snaps.getD at_ (au (.nm .snap)) with tag:=c.text } },⟨0,0⟩)
def rI (c:Command) (s:State):State × Reply:=({ s with keep:=c.n },⟨0,0⟩)
def oW (c:Command) (s:State):State × Reply:=({ s with quota:=c.n },⟨0,kY s.snaps⟩)
theorem dX {key:α->Int} {want:Int} {l:List α} (h:0<=ak key want l):ak key want l<(l.length:Int):=by
 unfold ak at *;split
 ·rename_i i hi;have:=(aeE.1 hi).1;omega
 omega
theorem LU {s:State} {c:Command} (h:0<=cq s c):cq s c+1<=(s.opens.length:Int):=by
 unfold cq at *;split
 ·rename_i h1; rw [if_pos h1] at h; omega
 rename_i h1; rw [if_neg h1] at h;have:=dX h;omega
theorem Hl (i:Int) (m:List Opn) (l:List Opn) (h0:0<=i/\i<=(l.length:Int)) (h1:l.length<1048576) (h2:m.length=1):Sat Tryz.prog (al tyT) 341 [.c (.own 0),.c (.int (i)),.c (.fz (.nm .opn) (m))] [.row 139 (.nm .opn) (l)] ⟨[0<=i/\i<=(l.length:Int),l.length<1048576,m.length=1],[.c (.own 0)],some ([.row 139 (.nm .opn) ((l.take i.toNat++m++l.drop i.toNat))]),false⟩:=xR i l m h0 h1 h2
def vQ:Kn:=aK (ae (kC (eO 0)) (ae (kC cI) (ae (kC (cL (.nm .opn))) ao))) (aC (eW 139 (.nm .opn)) aw) fun (_,i,m,_) (l,_)=>⟨[0<=i/\i<=(l.length:Int),l.length<1048576,m.length=1],[.c (.own 0)],some ([.row 139 (.nm .opn) ((l.take i.toNat++m++l.drop i.toNat))]),false⟩
theorem II:CK 341 vQ:=ag fun (_,i,m,_) (l,_) hp=>Hl i m l (cc hp) (cc (eQ hp)) (cc (eQ (eQ hp)))
theorem CV (i:Int) (l:List Sess) (m:List Sess) (h0:0<=i/\i<=(l.length:Int)) (h1:l.length<1048576) (h2:m.length=1):Sat Tryz.prog (al tyT) 263 [.c (.own 0),.c (.int (i)),.c (.own 1)] [.row 137 (.nm .sess) (l),.row 137 (.nm .sess) (m)] ⟨[0<=i/\i<=(l.length:Int),l.length<1048576,m.length=1],[.c (.own 0)],some ([.row 137 (.nm .sess) ((l.take i.toNat++m++l.drop i.toNat)),.row 137 (.nm .sess) ((m))]),false⟩:=wQ i l m h0 h1 h2
def tI:Kn:=aK (ae (kC (eO 0)) (ae (kC cI) (ae (kC (eO 1)) ao))) (aC (eW 137 (.nm .sess)) (aC (eW 137 (.nm .sess)) aw)) fun (_,i,_,_) (l,m,_)=>⟨[0<=i/\i<=(l.length:Int),l.length<1048576,m.length=1],[.c (.own 0)],some ([.row 137 (.nm .sess) ((l.take i.toNat++m++l.drop i.toNat)),.row 137 (.nm .sess) ((m))]),false⟩
theorem Cp:CK 263 tI:=ag fun (_,i,_,_) (l,m,_) hp=>CV i l m (cc hp) (cc (eQ hp)) (cc (eQ (eQ hp)))
theorem IH (i:Int) (j:Int) (l:List Opn) (h0:0<=i/\i<(l.length:Int)/\j=i+1):Sat Tryz.prog (al tyT) 344 [.c (.own 0),.c (.int (i)),.c (.int (j))] [.row 139 (.nm .opn) (l)] ⟨[0<=i/\i<(l.length:Int)/\j=i+1],[.c (.own 0)],some ([.row 139 (.nm .opn) ((l.take i.toNat++l.drop j.toNat))]),false⟩:=zR i j l h0
def uB:Kn:=aK (ae (kC (eO 0)) (ae (kC cI) (ae (kC cI) ao))) (aC (eW 139 (.nm .opn)) aw) fun (_,i,j,_) (l,_)=>⟨[0<=i/\i<(l.length:Int)/\j=i+1],[.c (.own 0)],some ([.row 139 (.nm .opn) ((l.take i.toNat++l.drop j.toNat))]),false⟩
theorem IJ:CK 344 uB:=ag fun (_,i,j,_) (l,_) hp=>IH i j l (cc hp)
def uT:Kn:=aK (ae (kC (aX 0 0)) (ae (kT (.nm .command)) ao)) (qw 0 aw) fun (_,c,_) (z,_)=>⟨[],[.c (.int ((cq z c)))],none,false⟩
theorem GX:CK 342 uT:=ag fun (_,c,_) (z,_) _=>by
 obtain ⟨v,nx,kp,qt,se,op,sn⟩:=z;refine av gA [] Tryz.func342 (?_:(fun q1=>(fun q0=>(fun q3=>(fun q2=>bB c (I64 q0->(q3->q3/\q0<(↑op.length:Int))/\((q3->I64 q2.set/\I64 q2.client)->(q3/\¬q2.client=c.client -> -1=q1)/\(q0<0\/q2.client=c.client->q0=q1)))) (op.getD q0.toNat (au (Sh.nm NT.opn)))) (0<=q0)) (ak Opn.set c.set op)) (cq (State.mk v nx kp qt se op sn) c));(repeat' with_reducible first|apply aZ|refine aY ?_|intro)
 all_goals (first | exact bt | exact dX ab | (unfold cq; grind))
def Oe:Kn:=aK (ae (kC (aX 0 0)) (ae (kC (aX 1 0)) ao)) (aC (yf 35 (.nm .command)) (qw 1 aw)) fun _ (c,z,_)=>⟨[],[.agg (cellsOf (.nm .reply) ((rI c z).2))],some (([.box 35 (cellsOf (.nm .command) (c))]++tn 1 ((rI c z).1))),false⟩
theorem ZE:CK 311 Oe:=ag fun _ (c,z,_) _=>by
 obtain ⟨v,nx,kp,qt,se,op,sn⟩:=z;refine br gA [] Tryz.func311 (?_:(fun q0=>0=q0.snd.code/\0=q0.snd.n/\bm c c (dk (State.mk v nx c.n qt se op sn) q0.fst)) (rI c (State.mk v nx kp qt se op sn)));(repeat' with_reducible first|apply aZ|refine aY ?_|intro)
 all_goals (first | exact bt | exact rfl)
def Mq:Kn:=aK (ae (kC (aX 0 0)) (ae (kC (aX 1 0)) ao)) (aC (yf 35 (.nm .command)) (qw 1 aw)) fun _ (c,z,_)=>⟨[nch z.snaps<=1048576],[.agg (cellsOf (.nm .reply) ((oW c z).2))],some (([.box 35 (cellsOf (.nm .command) (c))]++tn 1 ((oW c z).1))),false⟩
theorem ZA:CK 312 Mq:=ag fun _ (c,z,_) hp=>by
 obtain ⟨v,nx,kp,qt,se,op,sn⟩:=z;have h0:nch sn<=1048576:=cc hp;refine br gA [] Tryz.func312 (?_:(fun q0=>nch sn<=1048576/\(I64 (↑(kY sn):Int)->0=q0.snd.code/\(↑(kY sn):Int)=q0.snd.n/\bm c c (dk (State.mk v nx kp c.n se op sn) q0.fst))) (oW c (State.mk v nx kp qt se op sn)));(repeat' with_reducible first|apply aZ|refine aY ?_|intro)
 all_goals (first | exact bt | exact rfl)
def Fe:Kn:=aK (ae (kC (aX 0 0)) (ae (kC cI) ao)) (qw 0 aw) fun (_,i,_) (z,_)=>⟨[0<=i/\i<(z.snaps.length:Int),nch z.snaps<=1048576],[.agg (cellsOf (.nm .reply) ((eG z i.toNat).2))],some ((tn 0 ((eG z i.toNat).1))),false⟩
theorem Tg:CK 315 Fe:=ag fun (_,i,_) (z,_) hp=>by
 obtain ⟨v,nx,kp,qt,se,op,sn⟩:=z;have h0:0<=i/\i<(sn.length:Int):=cc hp;have h1:nch sn<=1048576:=cc (eQ hp);refine br gA [] Tryz.func315 (?_:(fun q3=>(fun q2=>(fun q1=>(fun q0=>(fun q4=>I64 i->q3<=i/\i<(↑sn.length:Int)/\fk q1 ((q1.held=true->I64 17->I64 q3->17=q0.snd.code/\q4)/\(q1.held=false->(my q2 i=true->I64 18->I64 q3->18=q0.snd.code/\q4)/\(my q2 i=false->nch sn<=1048576/\((mK sn q1.id).length*8<=140737488355328->q3=q0.snd.code/\(↑(mK sn q1.id).length:Int)=q0.snd.n/\dk (State.mk v nx kp qt se op (bl q1.id sn)) q0.fst))))) (q3=q0.snd.n/\dk q2 q0.fst)) (eG q2 i.toNat)) (sn.getD i.toNat (au (Sh.nm NT.snap)))) (State.mk v nx kp qt se op sn)) (0:Int));have hi:((i.toNat:Nat):Int)=i:=by omega
 (repeat' with_reducible first|apply aZ|refine aY ?_|intro)
 all_goals (first | exact bt | ((simp only [eG,hi]; simp_all) <;> (intros; omega)) | (simp only [eG,hi]; grind))
def PM:Kn:=aK (ae (kC cI) (ae (kC (aX 0 0)) ao)) (qw 0 aw) fun (i,_,_) (z,_)=>⟨[0<=i/\i<(z.snaps.length:Int)],[.agg (cellsOf (.nm .reply) ((gf z i.toNat).2))],some ((tn 0 ((gf z i.toNat).1))),false⟩
theorem aa2:CK 316 PM:=ag fun (i,_,_) (z,_) hp=>by
 obtain ⟨v,nx,kp,qt,se,op,sn⟩:=z;have h0:0<=i/\i<(sn.length:Int):=cc hp;refine br gA [] Tryz.func316 (?_:(fun q0=>I64 i->0<=i/\i<(↑sn.length:Int)/\fk (sn.getD i.toNat (au (Sh.nm NT.snap))) (0=(gf q0 i.toNat).snd.code/\(↑(sn.getD i.toNat (au (Sh.nm NT.snap))).chunks.length:Int)=(gf q0 i.toNat).snd.n/\dk q0 (gf q0 i.toNat).fst)) (State.mk v nx kp qt se op sn));(repeat' with_reducible first|apply aZ|refine aY ?_|intro)
 all_goals (first | exact bt | rfl)
def Ey:Kn:=aK (ae (kC cI) (ae (kC (aX 0 0)) (ae (kC (aX 1 0)) ao))) (aC (yf 35 (.nm .command)) (qw 1 aw)) fun (i,_,_,_) (c,z,_)=>⟨[0<=i/\i<(z.snaps.length:Int)],[.agg (cellsOf (.nm .reply) ((sV c z i.toNat).2))],some (([.box 35 (cellsOf (.nm .command) (c))]++tn 1 ((sV c z i.toNat).1))),false⟩
theorem Ri:CK 317 Ey:=ag fun (i,_,_,_) (c,z,_) hp=>by
 obtain ⟨v,nx,kp,qt,se,op,sn⟩:=z;have h0:0<=i/\i<(sn.length:Int):=cc hp;refine br gA [] Tryz.func317 (?_:(fun q1=>(fun q0=>I64 i->0<=i/\i<(↑sn.length:Int)/\fk q0 (0=q1.snd.code/\0=q1.snd.n/\bm c c (dk (State.mk v nx kp qt se op (sn.set i.toNat (Snap.mk q0.id q0.set q0.chunks q0.held c.text))) q1.fst))) (sn.getD i.toNat (au (Sh.nm NT.snap)))) (sV c (State.mk v nx kp qt se op sn) i.toNat));(repeat' with_reducible first|apply aZ|refine aY ?_|intro)
 all_goals (first | exact bt | exact rfl)
def BR:Kn:=aK (ae (kC cI) (ae (kC (aX 0 0)) (ae (kC (aX 4 0)) ao))) (qw 0 (aC (dH 4 (ax cB dv)) aw)) fun (i,_,_,_) (z,(b,_),_)=>⟨[0<=i/\i<(z.snaps.length:Int)],[.agg (cellsOf (.nm .reply) ((gH b z i.toNat).2))],some ((tn 0 ((gH b z i.toNat).1)++[.box 4 ([.bool (.atom ((b)))])])),false⟩
theorem Lj:CK 304 BR:=ag fun (i,_,_,_) (z,(b,_),_) hp=>by
 obtain ⟨v,nx,kp,qt,se,op,sn⟩:=z;have h0:0<=i/\i<(sn.length:Int):=cc hp;refine br gA [] Tryz.func304 (?_:(fun q1=>(fun q0=>I64 i->0<=i/\i<(↑sn.length:Int)/\fk q1 (((q1.held == b)=true->0=q0.snd.code/\0=q0.snd.n/\bD (State.mk v nx kp qt se op sn) q0.fst (b=b))/\((q1.held == b)=false->0=q0.snd.code/\1=q0.snd.n/\bD (State.mk v nx kp qt se op (sn.set i.toNat (Snap.mk q1.id q1.set q1.chunks b q1.tag))) q0.fst (b=b)))) (gH b (State.mk v nx kp qt se op sn) i.toNat)) (sn.getD i.toNat (au (Sh.nm NT.snap))));(repeat' with_reducible first|apply aZ|refine aY ?_|intro)
 all_goals (first | exact bt | ((simp only [gH]; simp_all) <;> (intros; omega)) | (simp only [gH]; grind))
def Ve:bN:=(aO 304 BR (aO 317 Ey (aO 316 PM (aO 315 Fe (aO 312 Mq (aO 311 Oe (aO 342 uT (aO 344 uB (aO 263 tI (aO 341 vQ Vv))))))))))
theorem ly:ay Tryz.prog (al tyT) Ve:=(ah Lj (ah Ri (ah aa2 (ah Tg (ah ZA (ah ZE (ah GX (ah IJ (ah Cp (ah II gA))))))))))
theorem LY {p:α->Bool} {l:List α} (h:(l.take k).all p=true) (hk:k<=l.length) (h2:(l.length:Int)<=k\/(k:Int)<l.length/\∃ x,l[k]? = some x/\p x=false):k=(l.takeWhile p).length:=by
 induction l generalizing k with
 | nil=>simp at hk; simp [hk]
 | cons a l ih=>
  cases k with
  | zero=>
   rcases h2 with h2 | ⟨_,x,hx,hp⟩
   ·simp at h2; omega
   simp at hx; subst hx; simp [hp]
  | succ k=>
   simp only [agJ,agr,Bool.and_eq_true] at h;rw [List.takeWhile_cons,h.1,if_pos rfl,List.length_cons];congr 1;refine ih h.2 (by simpa using hk) ?_;rcases h2 with h2 | ⟨h3,x,hx,hp⟩
   ·left; simp at h2; omega
   right; refine ⟨by simp at h3; omega,x,by simpa using hx,hp⟩
variable {op:List Opn}
theorem ac1 {v nx kp qt:Int} {se:List Sess} {sn:List Snap} {c:Command} {s:Nat} (h:ak Opn.set c.set op<0) (hs:s<=op.length) (ha:(op.take s).all (fun y=>decide (y.set<c.set))=true) (hb:(op.length:Int)<=s\/c.set<=(op.getD s (au (.nm .opn))).set):op.take s++[Opn.mk c.set c.client]++op.drop s=(eP (State.mk v nx kp qt se op sn) c).1.opens:=by
 have h1:¬ 0<=ak Opn.set c.set op:=by omega
 simp only [eP,if_neg h1];have:s=(op.takeWhile fun y=>decide (y.set<c.set)).length:=by
  refine LY ha hs ?_;by_cases hl:(op.length:Int)<=s
  ·exact .inl hl
  refine .inr ⟨by omega,_,gd (d:=au (.nm .opn)) (by omega),?_⟩;rcases hb with hb | hb
  ·omega
  exact aeH aL
 rw [<- this]; simp [Am]
theorem ac0 {c:Command} {s:Nat} (ha:(op.take s).all (fun y=>decide (y.set<c.set))=true) (h:(s:Int)<op.length) (hb:(op.getD s (au (.nm .opn))).set<c.set):(op.take (s+1)).all (fun y=>decide (y.set<c.set))=true:=by
 rw [ai (gd (d:=au (.nm .opn)) h),agZ,ha]; simp only [agr,List.all_nil,decide_eq_true hb]; rfl
section
variable {v nx kp qt:Int} {se:List Sess} {op:List Opn} {sn:List Snap} {c:Command}
theorem bgN (h:ak Opn.set c.set op<0):eP (State.mk v nx kp qt se op sn) c=(State.mk v nx kp qt se (Am op (op.takeWhile fun y=>decide (y.set<c.set)).length ⟨c.set,c.client⟩) sn,⟨0,0⟩):=by
 have h1:¬ 0<=ak Opn.set c.set op:=by omega
 simp only [eP,if_neg h1]
theorem bgY (h:0<=ak Opn.set c.set op):eP (State.mk v nx kp qt se op sn) c=(State.mk v nx kp qt se op sn,⟨16,(op.getD (ak Opn.set c.set op).toNat (au (.nm .opn))).client⟩):=by
 simp only [eP,if_pos h]
theorem abY (h:cq (State.mk v nx kp qt se op sn) c<0):eV (State.mk v nx kp qt se op sn) c=(State.mk v nx kp qt se op sn,⟨15,0⟩):=by
 simp only [eV,if_pos h]
theorem abN (h:0<=cq (State.mk v nx kp qt se op sn) c):eV (State.mk v nx kp qt se op sn) c=(State.mk v nx kp qt se (op.take (cq (State.mk v nx kp qt se op sn) c).toNat++op.drop (cq (State.mk v nx kp qt se op sn) c+1).toNat) sn,⟨0,0⟩):=by
 have h1:¬ cq (State.mk v nx kp qt se op sn) c<0:=by omega
 simp only [eV,if_neg h1,Tu]
end
def Tc (c:Command) (v:Int) (nx:Int) (kp:Int) (qt:Int) (se:List Sess) (op:List Opn) (sn:List Snap):List (Nat × LI):=[(5,{ σ:=Nat,F:=fun k=>([(0,one (.ptr 0 0)),(3,one (.ptr 4 0)),(4,one (.ptr 5 0)),(6,one (.int k))],(tn 0 (State.mk v nx kp qt se op sn)++[.box 35 (cellsOf (.nm .command) (c)),.box 78 ([.int ((0)),.int ((0))])])),J:=fun k=>k<=op.length/\(op.take k).all (fun y=>decide (y.set<c.set))=true,μ:=fun k=>op.length - k })]
def zZ:Kn:=aK (ae (kC (aX 0 0)) (ae (kT (.nm .command)) ao)) (qw 0 aw) fun (_,c,_) (z,_)=>⟨[z.opens.length<1048576],[.agg (cellsOf (.nm .reply) ((eP z c).2))],some ((tn 0 ((eP z c).1))),false⟩
theorem PG:CK 306 zZ:=ag fun (_,c,_) (z,_) hp=>by
 obtain ⟨v,nx,kp,qt,se,op,sn⟩:=z;have h0:op.length<1048576:=cc hp;refine br ly (Tc c v nx kp qt se op sn) Tryz.func306 (?_:(fun (q5:den (Sh.nm NT.opn))=>(fun (q4:Int)=>(fun (q3:Int)=>(fun (q2:Int)=>(fun (q1:State × Reply)=>(fun (q0:Prop)=>bB c (I64 q2->(q3<=q2->q3<=q2/\q2<q4/\(I64 (op.getD q2.toNat q5).set->I64 (op.getD q2.toNat q5).client->16=q1.snd.code/\(op.getD q2.toNat q5).client=q1.snd.n/\dk (State.mk v nx kp qt se op sn) q1.fst))/\(q2<q3->∃ (s0:Nat),(q3=(↑s0:Int)/\q0)/\(s0<=op.length/\((List.take s0 op).all fun (y:Opn)=>decide (y.set<c.set))=true)/\∀ (s:Nat),(fun (q7:Int)=>(fun (q6:Int)=>s<=op.length/\((List.take s op).all fun (y:Opn)=>decide (y.set<c.set))=true->(q6<q4->q3<=q6/\q6<q4)/\((q6<q4->I64 q7/\I64 (op.getD s q5).client)->(q6<q4/\q7<c.set->I64 (q6+1)/\∃ (s':Nat),(q6+1=(↑s':Int)/\q0)/\(s' <= op.length/\((List.take s' op).all fun (y:Opn)=>decide (y.set<c.set))=true)/\op.length - s' < op.length - s)/\(q4<=q6\/c.set<=q7->((q3<=q6/\q6<=q4)/\op.length<1048576/\[Opn.mk c.set c.client].length=1)/\q3=q1.snd.code/\q3=q1.snd.n/\dk (State.mk v nx kp qt se (List.take s op++[Opn.mk c.set c.client]++List.drop s op) sn) q1.fst))) (↑s:Int)) (op.getD s q5).set))) (v=v/\nx=nx/\kp=kp/\qt=qt/\se=se/\op=op/\sn=sn/\bm c c (q3=q3/\q3=q3))) (eP (State.mk v nx kp qt se op sn) c)) (ak Opn.set c.set op)) 0) (↑op.length:Int)) (au (Sh.nm NT.opn)));iterate 3 ((all_goals (repeat' with_reducible first|apply aZ|refine aY ?_|intro)); (all_goals try (first | exact bt | exact rfl | exact dX ab | exact (ac0 ab ab ab) | exact (ac1 ab aL ab (by assumption)) | (rw [bgN]; omega) | (rw [bgY]; omega))); all_goals try first | refine ⟨‹Nat› + 1,?_⟩ | refine ⟨0,?_⟩)
def zy:Kn:=aK (ae (kC (aX 0 0)) (ae (kT (.nm .command)) ao)) (qw 0 aw) fun (_,c,_) (z,_)=>⟨[z.opens.length<1048576],[.agg (cellsOf (.nm .reply) ((eV z c).2))],some ((tn 0 ((eV z c).1))),false⟩
theorem Ly:CK 310 zy:=ag fun (_,c,_) (z,_) hp=>by
 obtain ⟨v,nx,kp,qt,se,op,sn⟩:=z;have h0:op.length<1048576:=cc hp;refine br ly [] Tryz.func310 (?_:(fun q1=>(fun q0=>(fun q3=>(fun q2=>(fun q4=>bB c (I64 q2->(q2<q1->I64 15->I64 q1->15=q3.code/\q1=q3.n/\dk q0 (eV q0 c).fst)/\(q1<=q2->I64 q4/\(q1<=q2/\q2<(↑op.length:Int)/\q4=q4)/\q1=q3.code/\q1=q3.n/\dk (State.mk v nx kp qt se (List.take q2.toNat op++List.drop q4.toNat op) sn) (eV q0 c).fst))) (q2+1)) (cq q0 c)) (eV q0 c).snd) (State.mk v nx kp qt se op sn)) (0:Int));have hl:0<=cq (State.mk v nx kp qt se op sn) c->cq (State.mk v nx kp qt se op sn) c+1<=(op.length:Int):=fun h=>LU h;(repeat' with_reducible first|apply aZ|refine aY ?_|intro)
 all_goals (first | exact bt | (rw [abN]; omega) | (rw [abY]; omega))
def vd:Kn:=aK (ae (kC (aX 0 0)) (ae (kT (.nm .command)) ao)) (qw 0 aw) fun (_,c,_) (z,_)=>⟨[nch z.snaps<=1048576,z.snaps.length<1048576,z.opens.length<1048576,0<=z.next],[.agg (cellsOf (.nm .reply) ((eI z c).2))],some ((tn 0 ((eI z c).1))),false⟩
theorem HB:CK 308 vd:=ag fun (_,c,_) (z,_) hp=>by
 obtain ⟨v,nx,kp,qt,se,op,sn⟩:=z;have h0:nch sn<=1048576:=cc hp;have h1:sn.length<1048576:=cc (eQ hp);have h2:op.length<1048576:=cc (eQ (eQ hp));have h3:0<=nx:=cc (eQ (eQ (eQ hp)));refine br ly [] Tryz.func308 (?_:(fun q4=>(fun q3=>(fun q2=>(fun q1=>(fun q0=>(fun q7=>(fun q6=>(fun q5=>bB c (I64 q6->(q6<q2->I64 15->I64 q2->15=q7.code/\q5)/\(q2<=q6->(16<=(↑sn.length:Int)\/1048576<=nx->I64 20->I64 q2->20=q7.code/\q5)/\((↑sn.length:Int)<16/\nx<1048576->(¬qt=q2->nch sn<=1048576)/\((¬qt=q2->I64 q1)->(¬qt=q2/\qt<q1->I64 19->I64 q2->19=q7.code/\q5)/\(qt=q2\/q1<=qt->c.chunks.length*8<=140737488355328->(sn.length+[q4].length)*64<=140737488355328/\I64 (nx+q3)/\I64 (q6+q3)/\(q2<=q6/\q6<(↑op.length:Int)/\q6+q3=q6+q3)/\q2=q7.code/\nx=q7.n/\dk (State.mk v (nx+q3) kp qt se (List.take q6.toNat op++List.drop (q6+q3).toNat op) (sn++[q4])) (eI q0 c).fst)))))) (q2=q7.n/\dk q0 (eI q0 c).fst)) (cq q0 c)) (eI q0 c).snd) (State.mk v nx kp qt se op sn)) (↑(kY (sn++[Snap.mk q2 q2 c.chunks false (Str.mk [])])):Int)) (0:Int)) (1:Int)) (Snap.mk nx c.set c.chunks false (Str.mk [])));have hl:0<=cq (State.mk v nx kp qt se op sn) c->cq (State.mk v nx kp qt se op sn) c+1<=(op.length:Int):=fun h=>LU h;(repeat' with_reducible first|apply aZ|refine aY ?_|intro)
 all_goals (first | exact bt | (simp only [eI,Tu]; grind) | (simp only [List.length_cons,List.length_nil]; omega))
def PK:Kn:=aK (ae (kC cI) (ae (kC (aX 0 0)) ao)) (qw 0 aw) fun (i,_,_) (z,_)=>⟨[0<=i/\i<(z.snaps.length:Int),nch z.snaps<=1048576],[.agg (cellsOf (.nm .reply) ((eG z i.toNat).2))],some ((tn 0 ((eG z i.toNat).1))),false⟩
theorem Zn:CK 314 PK:=ag fun (i,_,_) (z,_) hp=>by
 obtain ⟨v,nx,kp,qt,se,op,sn⟩:=z;have h0:0<=i/\i<(sn.length:Int):=cc hp;have h1:nch sn<=1048576:=cc (eQ hp);refine br ly [] Tryz.func314 (?_:(fun q0=>I64 i->(0<=i/\i<(↑sn.length:Int))/\nch sn<=1048576/\(I64 q0.snd.code->I64 q0.snd.n->q0.snd.code=q0.snd.code/\q0.snd.n=q0.snd.n/\dk q0.fst q0.fst)) (eG (State.mk v nx kp qt se op sn) i.toNat));(repeat' with_reducible first|apply aZ|refine aY ?_|intro)
 all_goals (first | exact bt | exact rfl)
def UY:bN:=(aO 314 PK (aO 308 vd (aO 310 zy (aO 306 zZ Ve))))
theorem gu:ay Tryz.prog (al tyT) UY:=(ah Zn (ah HB (ah Ly (ah PG ly))))
def bA (f:State->Nat->State × Reply) (c:Command) (s:State):State × Reply:=if ak Snap.id c.id s.snaps<0 then (s,⟨15,0⟩) else f s (ak Snap.id c.id s.snaps).toNat
section
variable {v nx kp qt:Int} {se:List Sess} {op:List Opn} {sn:List Snap} {c:Command} {f:State->Nat->State × Reply}
theorem sdY (h:ak Snap.id c.id sn<0):bA f c (State.mk v nx kp qt se op sn)=(State.mk v nx kp qt se op sn,⟨15,0⟩):=by
 simp only [bA,if_pos h]
theorem sdN (h:0<=ak Snap.id c.id sn):bA f c (State.mk v nx kp qt se op sn)=f (State.mk v nx kp qt se op sn) (ak Snap.id c.id sn).toNat:=by
 have h1:¬ ak Snap.id c.id sn<0:=by omega
 simp only [bA,if_neg h1]
end
def Lm:Kn:=aK (ae (kC (aX 0 0)) (ae (kC (aX 4 0)) ao)) (qw 0 (aC (yf 35 (.nm .command)) aw)) fun _ (z,c,_)=>⟨[z.opens.length<1048576],[.agg (cellsOf (.nm .reply) ((eP z c).2))],some ((tn 0 ((eP z c).1)++[.box 35 (cellsOf (.nm .command) (c))])),false⟩
theorem WZ:CK 305 Lm:=ag fun _ (z,c,_) hp=>by
 obtain ⟨v,nx,kp,qt,se,op,sn⟩:=z;have h0:op.length<1048576:=cc hp;refine br gu [] Tryz.func305 (?_:(fun q0=>op.length<1048576/\(I64 q0.snd.code->I64 q0.snd.n->q0.snd.code=q0.snd.code/\q0.snd.n=q0.snd.n/\bD q0.fst q0.fst (aP c c))) (eP (State.mk v nx kp qt se op sn) c));(repeat' with_reducible first|apply aZ|refine aY ?_|intro)
 all_goals (first | exact bt | exact rfl)
def Mb:Kn:=aK (ae (kC (aX 0 0)) (ae (kC (aX 4 0)) ao)) (qw 0 (aC (yf 35 (.nm .command)) aw)) fun _ (z,c,_)=>⟨[nch z.snaps<=1048576,z.snaps.length<1048576,z.opens.length<1048576,0<=z.next],[.agg (cellsOf (.nm .reply) ((eI z c).2))],some ((tn 0 ((eI z c).1)++[.box 35 (cellsOf (.nm .command) (c))])),false⟩
theorem YB:CK 307 Mb:=ag fun _ (z,c,_) hp=>by
 obtain ⟨v,nx,kp,qt,se,op,sn⟩:=z;have h0:nch sn<=1048576:=cc hp;have h1:sn.length<1048576:=cc (eQ hp);have h2:op.length<1048576:=cc (eQ (eQ hp));have h3:0<=nx:=cc (eQ (eQ (eQ hp)));refine br gu [] Tryz.func307 (?_:(fun q0=>nch sn<=1048576/\sn.length<1048576/\op.length<1048576/\0<=nx/\(I64 q0.snd.code->I64 q0.snd.n->q0.snd.code=q0.snd.code/\q0.snd.n=q0.snd.n/\bD q0.fst q0.fst (aP c c))) (eI (State.mk v nx kp qt se op sn) c));(repeat' with_reducible first|apply aZ|refine aY ?_|intro)
 all_goals (first | exact bt | exact rfl)
def Kc:Kn:=aK (ae (kC (aX 0 0)) (ae (kC (aX 4 0)) ao)) (qw 0 (aC (yf 35 (.nm .command)) aw)) fun _ (z,c,_)=>⟨[z.opens.length<1048576],[.agg (cellsOf (.nm .reply) ((eV z c).2))],some ((tn 0 ((eV z c).1)++[.box 35 (cellsOf (.nm .command) (c))])),false⟩
theorem Zu:CK 309 Kc:=ag fun _ (z,c,_) hp=>by
 obtain ⟨v,nx,kp,qt,se,op,sn⟩:=z;have h0:op.length<1048576:=cc hp;refine br gu [] Tryz.func309 (?_:(fun q0=>op.length<1048576/\(I64 q0.snd.code->I64 q0.snd.n->q0.snd.code=q0.snd.code/\q0.snd.n=q0.snd.n/\bD q0.fst q0.fst (aP c c))) (eV (State.mk v nx kp qt se op sn) c));(repeat' with_reducible first|apply aZ|refine aY ?_|intro)
 all_goals (first | exact bt | exact rfl)
def nM:Kn:=aK (ae (kC (qN 314 [] [(0,0)])) (ae (kC (aX 0 0)) (ae (kC (aX 4 0)) ao))) (qw 0 (aC (yf 35 (.nm .command)) aw)) fun _ (z,c,_)=>⟨[],[.c (.fn 301 [] [(0,0),(4,0),(5,0)])],some ((tn 0 z++[.box 35 (cellsOf (.nm .command) (c)),.box 306 ([.fn 314 [] [(0,0)]])])),true⟩
theorem wL:CK 300 nM:=ag fun _ (z,c,_) _=>by
 obtain ⟨v,nx,kp,qt,se,op,sn⟩:=z;refine dD gu [] Tryz.func300 (?_:v=v/\nx=nx/\kp=kp/\qt=qt/\se=se/\op=op/\sn=sn/\aP c c);(repeat' with_reducible first|apply aZ|refine aY ?_|intro)
 all_goals (first | exact bt | exact rfl)
def pP:Kn:=aK (ae (kC (qN 316 [] [(0,0)])) (ae (kC (aX 0 0)) (ae (kC (aX 4 0)) ao))) (qw 0 (aC (yf 35 (.nm .command)) aw)) fun _ (z,c,_)=>⟨[],[.c (.fn 301 [] [(0,0),(4,0),(5,0)])],some ((tn 0 z++[.box 35 (cellsOf (.nm .command) (c)),.box 306 ([.fn 316 [] [(0,0)]])])),true⟩
theorem zd:CK 300 pP:=ag fun _ (z,c,_) _=>by
 obtain ⟨v,nx,kp,qt,se,op,sn⟩:=z;refine dD gu [] Tryz.func300 (?_:v=v/\nx=nx/\kp=kp/\qt=qt/\se=se/\op=op/\sn=sn/\aP c c);(repeat' with_reducible first|apply aZ|refine aY ?_|intro)
 all_goals (first | exact bt | exact rfl)
def sW:Kn:=aK (ae (kC (qN 317 [] [(0,0),(1,0)])) (ae (kC (aX 1 0)) (ae (kC (aX 0 0)) ao))) (aC (yf 35 (.nm .command)) (qw 1 aw)) fun _ (c,z,_)=>⟨[],[.c (.fn 301 [] [(1,0),(0,0),(5,0)])],some (([.box 35 (cellsOf (.nm .command) (c))]++tn 1 z++[.box 306 ([.fn 317 [] [(0,0),(1,0)]])])),true⟩
theorem Dl:CK 300 sW:=ag fun _ (c,z,_) _=>by
 obtain ⟨v,nx,kp,qt,se,op,sn⟩:=z;refine dD gu [] Tryz.func300 (?_:bm c c (v=v/\nx=nx/\kp=kp/\qt=qt/\se=se/\op=op/\sn=sn));(repeat' with_reducible first|apply aZ|refine aY ?_|intro)
 all_goals (first | exact bt | exact rfl)
def pQ:Kn:=aK (ae (kC (qN 304 [] [(0,0),(4,0)])) (ae (kC (aX 0 0)) (ae (kC (aX 5 0)) ao))) (qw 0 (aC (dH 4 (ax cB dv)) (aC (yf 35 (.nm .command)) aw))) fun _ (z,(b,_),c,_)=>⟨[],[.c (.fn 301 [] [(0,0),(5,0),(6,0)])],some ((tn 0 z++[.box 4 ([.bool (.atom ((b)))]),.box 35 (cellsOf (.nm .command) (c)),.box 306 ([.fn 304 [] [(0,0),(4,0)]])])),true⟩
theorem yX:CK 300 pQ:=ag fun _ (z,(b,_),c,_) _=>by
 obtain ⟨v,nx,kp,qt,se,op,sn⟩:=z;refine dD gu [] Tryz.func300 (?_:v=v/\nx=nx/\kp=kp/\qt=qt/\se=se/\op=op/\sn=sn/\b=b/\aP c c);(repeat' with_reducible first|apply aZ|refine aY ?_|intro)
 all_goals (first | exact bt | exact rfl)
def VK:bN:=(aO 300 pQ (aO 300 sW (aO 300 pP (aO 300 nM (aO 309 Kc (aO 307 Mb (aO 305 Lm UY)))))))
theorem ju:ay Tryz.prog (al tyT) VK:=(ah yX (ah Dl (ah zd (ah wL (ah Zu (ah YB (ah WZ gu)))))))
def Oq:Kn:=aK (ae (kC cB) (ae (kC (aX 0 0)) (ae (kC (aX 1 0)) ao))) (aC (dH 308 (ax (qN 300 [] [(1,0),(5,0)]) dv)) (qw 1 (aC (yf 35 (.nm .command)) aw))) fun (b,_,_,_) ((_,_),z,c,_)=>⟨[],[.c (.fn 301 [] [(1,0),(5,0),(7,0)])],some (([.box 308 ([.fn 300 [] [(1,0),(5,0)]])]++tn 1 z++[.box 35 (cellsOf (.nm .command) (c)),.box 4 ([.bool (.atom ((b)))]),.box 306 ([.fn 304 [] [(1,0),(6,0)]])])),true⟩
theorem YS:CK 303 Oq:=ag fun (b,_,_,_) ((_,_),z,c,_) _=>by
 obtain ⟨v,nx,kp,qt,se,op,sn⟩:=z;refine dD ju [] Tryz.func303 (?_:v=v/\nx=nx/\kp=kp/\qt=qt/\se=se/\op=op/\sn=sn/\bm c c (b=b));(repeat' with_reducible first|apply aZ|refine aY ?_|intro)
 all_goals (first | exact bt | exact rfl)
def sK:Kn:=aK (ae (kC (aX 0 0)) (ae (kC (aX 4 0)) (ae (kC (aX 5 0)) ao))) (qw 0 (aC (yf 35 (.nm .command)) (aC (dH 306 (ax (qN 314 [] [(0,0)]) dv)) aw))) fun _ (z,c,(_,_),_)=>⟨[nch z.snaps<=1048576],[.agg (cellsOf (.nm .reply) ((bA eG c z).2))],some ((tn 0 ((bA eG c z).1)++[.box 35 (cellsOf (.nm .command) (c)),.box 306 ([.fn 314 [] [(0,0)]])])),false⟩
theorem CB:CK 301 sK:=ag fun _ (z,c,(_,_),_) hp=>by
 obtain ⟨v,nx,kp,qt,se,op,sn⟩:=z;have h0:nch sn<=1048576:=cc hp;refine br ju [] Tryz.func301 (?_:(fun q1=>(fun q0=>(fun q3=>(fun q2=>I64 q1->(q1<0->I64 15->I64 0->15=q2.snd.code/\0=q2.snd.n/\bD q0 q2.fst (aP c c))/\(0<=q1->(0<=q1/\q1<(↑sn.length:Int))/\nch sn<=1048576/\(I64 q3.code->I64 q3.n->q3.code=q2.snd.code/\q3.n=q2.snd.n/\bD (eG q0 q1.toNat).fst q2.fst (aP c c)))) (bA eG c q0)) (eG q0 q1.toNat).snd) (State.mk v nx kp qt se op sn)) (ak Snap.id c.id sn));(repeat' with_reducible first|apply aZ|refine aY ?_|intro)
 all_goals (first | exact bt | exact dX ab | (rw [sdY] <;> first | rfl | omega) | (rw [sdN] <;> first | rfl | omega))
def wm:Kn:=aK (ae (kC (aX 0 0)) (ae (kC (aX 4 0)) (ae (kC (aX 5 0)) ao))) (qw 0 (aC (yf 35 (.nm .command)) (aC (dH 306 (ax (qN 316 [] [(0,0)]) dv)) aw))) fun _ (z,c,(_,_),_)=>⟨[],[.agg (cellsOf (.nm .reply) ((bA gf c z).2))],some ((tn 0 ((bA gf c z).1)++[.box 35 (cellsOf (.nm .command) (c)),.box 306 ([.fn 316 [] [(0,0)]])])),false⟩
theorem Hq:CK 301 wm:=ag fun _ (z,c,(_,_),_) _=>by
 obtain ⟨v,nx,kp,qt,se,op,sn⟩:=z;refine br ju [] Tryz.func301 (?_:(fun q1=>(fun q0=>(fun q3=>(fun q2=>I64 q1->(q1<0->I64 15->I64 0->15=q2.snd.code/\0=q2.snd.n/\bD q0 q2.fst (aP c c))/\(0<=q1->(0<=q1/\q1<(↑sn.length:Int))/\(I64 q3.code->I64 q3.n->q3.code=q2.snd.code/\q3.n=q2.snd.n/\bD (gf q0 q1.toNat).fst q2.fst (aP c c)))) (bA gf c q0)) (gf q0 q1.toNat).snd) (State.mk v nx kp qt se op sn)) (ak Snap.id c.id sn));(repeat' with_reducible first|apply aZ|refine aY ?_|intro)
 all_goals (first | exact bt | exact dX ab | (rw [sdY] <;> first | rfl | omega) | (rw [sdN] <;> first | rfl | omega))
def BP:Kn:=aK (ae (kC (aX 0 0)) (ae (kC (aX 4 0)) (ae (kC (aX 5 0)) ao))) (qw 0 (aC (yf 35 (.nm .command)) (aC (dH 306 (ax (qN 317 [] [(4,0),(0,0)]) dv)) aw))) fun _ (z,c,(_,_),_)=>⟨[],[.agg (cellsOf (.nm .reply) ((bA (sV c) c z).2))],some ((tn 0 ((bA (sV c) c z).1)++[.box 35 (cellsOf (.nm .command) (c)),.box 306 ([.fn 317 [] [(4,0),(0,0)]])])),false⟩
theorem LG:CK 301 BP:=ag fun _ (z,c,(_,_),_) _=>by
 obtain ⟨v,nx,kp,qt,se,op,sn⟩:=z;refine br ju [] Tryz.func301 (?_:(fun q1=>(fun q0=>(fun q3=>(fun q2=>I64 q1->(q1<0->I64 15->I64 0->15=q2.snd.code/\0=q2.snd.n/\bD q0 q2.fst (aP c c))/\(0<=q1->(0<=q1/\q1<(↑sn.length:Int))/\(I64 q3.code->I64 q3.n->q3.code=q2.snd.code/\q3.n=q2.snd.n/\bD (sV c q0 q1.toNat).fst q2.fst (aP c c)))) (bA (sV c) c q0)) (sV c q0 q1.toNat).snd) (State.mk v nx kp qt se op sn)) (ak Snap.id c.id sn));(repeat' with_reducible first|apply aZ|refine aY ?_|intro)
 all_goals (first | exact bt | exact dX ab | (rw [sdY] <;> first | rfl | omega) | (rw [sdN] <;> first | rfl | omega))
def uz:Kn:=aK (ae (kC (aX 0 0)) (ae (kC (aX 4 0)) (ae (kC (aX 5 0)) ao))) (qw 0 (aC (yf 35 (.nm .command)) (aC (dH 306 (ax (qN 304 [] [(0,0),(6,0)]) dv)) (aC (dH 4 (ax cB dv)) aw)))) fun _ (z,c,(_,_),(b,_),_)=>⟨[],[.agg (cellsOf (.nm .reply) ((bA (gH b) c z).2))],some ((tn 0 ((bA (gH b) c z).1)++[.box 35 (cellsOf (.nm .command) (c)),.box 306 ([.fn 304 [] [(0,0),(6,0)]]),.box 4 ([.bool (.atom ((b)))])])),false⟩
theorem GV:CK 301 uz:=ag fun _ (z,c,(_,_),(b,_),_) _=>by
 obtain ⟨v,nx,kp,qt,se,op,sn⟩:=z;refine br ju [] Tryz.func301 (?_:(fun q1=>(fun q0=>(fun q3=>(fun q2=>I64 q1->(q1<0->I64 15->I64 0->15=q2.snd.code/\0=q2.snd.n/\bD q0 q2.fst (bm c c (b=b)))/\(0<=q1->(0<=q1/\q1<(↑sn.length:Int))/\(I64 q3.code->I64 q3.n->q3.code=q2.snd.code/\q3.n=q2.snd.n/\bD (gH b q0 q1.toNat).fst q2.fst (bm c c (b=b))))) (bA (gH b) c q0)) (gH b q0 q1.toNat).snd) (State.mk v nx kp qt se op sn)) (ak Snap.id c.id sn));(repeat' with_reducible first|apply aZ|refine aY ?_|intro)
 all_goals (first | exact bt | exact dX ab | (rw [sdY] <;> first | rfl | omega) | (rw [sdN] <;> first | rfl | omega))
def VA:bN:=(aO 301 uz (aO 301 BP (aO 301 wm (aO 301 sK (aO 303 Oq VK)))))
theorem yR:ay Tryz.prog (al tyT) VA:=(ah GV (ah LG (ah Hq (ah CB (ah YS ju)))))
def fH (s:State) (c:Command):Int:=if eC s s.version=0 then bG c s.version else 1
def KG (s:State) (c:Command):State × Reply:=
 if c.kind=11 then bA (sV c) c s
 else if c.kind=10 then bA (gH false) c s
 else if c.kind=9 then bA (gH true) c s
 else if c.kind=7 then bA gf c s
 else if c.kind=5 then bA eG c s
 else if c.kind=12 then oW c s
 else if c.kind=6 then rI c s
 else if c.kind=4 then eV s c
 else if c.kind=3 then eI s c
 else if c.kind=2 then eP s c
 else (s,⟨1,0⟩)
def fb (s:State) (c:Command):State × Reply:=if ¬ fH s c=0 then (s,⟨fH s c,0⟩) else KG s c
theorem xa {α:Type} {key:α->Int} {most:Int}:∀ {l:List α} {a:Int},az key most a l=true->l=[]\/a+(l.length:Int)<=most
 | [],_,_=>.inl rfl
 | x :: l,a,h=>by
  simp only [az,Bool.and_eq_true] at h;have h1:=Ji h.1;rcases xa h.2 with h2 | h2
  ·subst h2; right; simp only [List.length_cons,List.length_nil]; omega
  right; simp only [List.length_cons]; omega
theorem gR {s:State} {v:Int} (h:eC s v=0):cj v 1 3=true/\lA s v=true/\AF s=true/\wF s=true/\gg s v=true:=by
 unfold eC at h;split at h
 ·omega
 rename_i h1;split at h
 ·omega
 rename_i h2;simp at h1 h2;exact ⟨h1,h2.1.1.1,h2.1.1.2,h2.1.2,h2.2⟩
theorem aai {s:State} {v:Int} (h:eC s v=0):s.opens.length<=8:=by
 have h1:=(gR h).2.2.2.1;simp only [wF,Bool.and_eq_true] at h1;rcases xa h1.1 with h2 | h2
 ·rw [h2]; simp
 omega
theorem aao {s:State} {v:Int} (h:eC s v=0):s.sess.length<=8:=by
 have h1:=(gR h).2.2.1;simp only [AF,Bool.and_eq_true] at h1;rcases xa h1.1 with h2 | h2
 ·rw [h2]; simp
 omega
theorem Pa {s:State} {v:Int} (h:eC s v=0):s.snaps.length<=16/\az Snap.id (s.next - 1) 0 s.snaps=true/\∀ x ∈ s.snaps,dw v (wI v) x=true:=by
 have h1:=(gR h).2.2.2.2;simp only [gg,Bool.and_eq_true,aew,Bool.or_eq_false_iff,aeA,Bool.not_eq_false',aeF] at h1;exact ⟨by omega,h1.1.2,h1.2⟩
variable {t:Int}
theorem XM {v:Int} (h:dw v t x=true):cA x.chunks=true:=by
 simp only [dw,Bool.and_eq_true,decide_eq_true_eq] at h;cases hr:cA x.chunks with
 | true=>rfl
 | false=>have:=sU (l:=x.chunks) hr; omega
theorem PA:∀ {l:List Snap},(∀ x ∈ l,cA x.chunks=true)->nch l<=8*l.length
 | [],_=>Nat.le_refl _
 | x :: l,h=>by
  have h1:=PA (l:=l) fun y hy=>h y (aa7 _ hy);have h2:=(Fa (h x (abb))).2;have e:nch (x :: l)=x.chunks.length+nch l:=by simp [nch]
  rw [e,List.length_cons]; omega
theorem TH {s:State} {v:Int} (h:eC s v=0):nch s.snaps<=128:=by
 have h1:=Pa h;have:=PA (l:=s.snaps) fun x hx=>XM (h1.2.2 x hx);omega
theorem YM {s:State} {v:Int} (h:eC s v=0):1<=s.next/\s.next<=1048576:=by
 have h1:=(gR h).2.1;simp only [lA,Bool.and_eq_true] at h1;exact Ji h1.1.1.2
theorem CA {s:State} {c:Command} (h:(if eC s s.version=0 then bG c s.version else 1)=0):eC s s.version=0:=by
 split at h
 ·assumption
 omega
theorem Y_ {s:State} {c:Command} (h:(if eC s s.version=0 then bG c s.version else 1)=0):nch s.snaps<=1048576:=by have:=TH (CA h); omega
theorem adl {s:State} {c:Command} (h:(if eC s s.version=0 then bG c s.version else 1)=0):s.opens.length<1048576:=by have:=aai (CA h); omega
theorem VQ {s:State} {c:Command} (h:(if eC s s.version=0 then bG c s.version else 1)=0):s.sess.length<1048576:=by have:=aao (CA h); omega
theorem aca {s:State} {c:Command} (h:(if eC s s.version=0 then bG c s.version else 1)=0):s.snaps.length<1048576:=by have:=(Pa (CA h)).1; omega
theorem ade {s:State} {c:Command} (h:(if eC s s.version=0 then bG c s.version else 1)=0):0<=s.next:=by have:=YM (CA h); omega
theorem aej {s:State} {c:Command} (h:(if eC s s.version=0 then bG c s.version else 1)=0):fb s c=KG s c:=by
 have h:fH s c=0:=h;rw [fb,h]; rfl
theorem afl {s:State} {c:Command} (h:¬ (if eC s s.version=0 then bG c s.version else 1)=0):fb s c=(s,⟨(if eC s s.version=0 then bG c s.version else 1),0⟩):=by
 have h:¬ fH s c=0:=h;rw [fb,if_pos h]; rfl
def Pw:Kn:=aK (ae (kT (.nm .state)) (ae (kT (.nm .command)) ao)) aw fun (st,c,_) _=>⟨[],[.agg ([.int (((fb st c).1.version)),.int (((fb st c).1.next)),.int (((fb st c).1.keep)),.int (((fb st c).1.quota)),.own 0,.own 1,.own 2]),.agg (cellsOf (.nm .reply) ((fb st c).2))],some ([.row 137 (.nm .sess) (((fb st c).1.sess)),.row 139 (.nm .opn) (((fb st c).1.opens)),.row 172 (.nm .snap) (((fb st c).1.snaps))]),true⟩
theorem X_:CK 281 Pw:=ag fun (st,c,_) _ _=>by
 refine dD yR [] Tryz.func281 (?_:(fun q18=>(fun q17=>(fun q16=>(fun q15=>(fun q14=>(fun q13=>(fun q12=>(fun q11=>(fun q10=>(fun q9=>(fun q8=>(fun q7=>(fun q6=>(fun q5=>(fun q4=>(fun q3=>(fun q2=>(fun q1=>(fun q19=>(fun q0=>(fun q27=>(fun q26=>(fun q25=>(fun q24=>(fun q23=>(fun q22=>(fun q21=>(fun q20=>fE st (bB c (I64 q18->I64 st.next->I64 st.keep->I64 st.quota->I64 q2->(¬q2=q15->I64 q2->I64 q15->q18=q21/\st.next=q24/\st.keep=q23/\st.quota=q22/\q2=q19/\q20)/\(q2=q15->(q9=11->I64 q5.snd.code->I64 q5.snd.n->q5.fst.version=q21/\q5.fst.next=q24/\q5.fst.keep=q23/\q5.fst.quota=q22/\q5.snd.code=q19/\q5.snd.n=q1.n/\q5.fst.sess=q27/\q5.fst.opens=q25/\q5.fst.snaps=q26)/\(¬q9=11->(q9=10->I64 q3.snd.code->I64 q3.snd.n->q3.fst.version=q21/\q3.fst.next=q24/\q3.fst.keep=q23/\q3.fst.quota=q22/\q3.snd.code=q19/\q3.snd.n=q1.n/\q3.fst.sess=q27/\q3.fst.opens=q25/\q3.fst.snaps=q26)/\(¬q9=10->(q9=9->I64 q4.snd.code->I64 q4.snd.n->q4.fst.version=q21/\q4.fst.next=q24/\q4.fst.keep=q23/\q4.fst.quota=q22/\q4.snd.code=q19/\q4.snd.n=q1.n/\q4.fst.sess=q27/\q4.fst.opens=q25/\q4.fst.snaps=q26)/\(¬q9=9->(q9=7->I64 q6.snd.code->I64 q6.snd.n->q6.fst.version=q21/\q6.fst.next=q24/\q6.fst.keep=q23/\q6.fst.quota=q22/\q6.snd.code=q19/\q6.snd.n=q1.n/\q6.fst.sess=q27/\q6.fst.opens=q25/\q6.fst.snaps=q26)/\(¬q9=7->(q9=5->q16/\(I64 q7.snd.code->I64 q7.snd.n->q7.fst.version=q21/\q7.fst.next=q24/\q7.fst.keep=q23/\q7.fst.quota=q22/\q7.snd.code=q19/\q7.snd.n=q1.n/\q7.fst.sess=q27/\q7.fst.opens=q25/\q7.fst.snaps=q26))/\(¬q9=5->(q9=12->q16/\(I64 q12.snd.code->I64 q12.snd.n->q12.fst.version=q21/\q12.fst.next=q24/\q12.fst.keep=q23/\q12.fst.quota=q22/\q12.snd.code=q19/\q12.snd.n=q1.n/\q12.fst.sess=q27/\q12.fst.opens=q25/\q12.fst.snaps=q26))/\(¬q9=12->(q9=6->I64 q17.code->I64 q17.n->q13.version=q21/\q13.next=q24/\q13.keep=q23/\q13.quota=q22/\q17.code=q19/\q17.n=q1.n/\q13.sess=q27/\q13.opens=q25/\q13.snaps=q26)/\(¬q9=6->(q9=4->q14/\(I64 q10.snd.code->I64 q10.snd.n->q10.fst.version=q21/\q10.fst.next=q24/\q10.fst.keep=q23/\q10.fst.quota=q22/\q10.snd.code=q19/\q10.snd.n=q1.n/\q10.fst.sess=q27/\q10.fst.opens=q25/\q10.fst.snaps=q26))/\(¬q9=4->(q9=3->q16/\st.snaps.length<1048576/\q14/\q15<=st.next/\(I64 q8.snd.code->I64 q8.snd.n->q8.fst.version=q21/\q8.fst.next=q24/\q8.fst.keep=q23/\q8.fst.quota=q22/\q8.snd.code=q19/\q8.snd.n=q1.n/\q8.fst.sess=q27/\q8.fst.opens=q25/\q8.fst.snaps=q26))/\(¬q9=3->(q9=2->q14/\(I64 q11.snd.code->I64 q11.snd.n->q11.fst.version=q21/\q11.fst.next=q24/\q11.fst.keep=q23/\q11.fst.quota=q22/\q11.snd.code=q19/\q11.snd.n=q1.n/\q11.fst.sess=q27/\q11.fst.opens=q25/\q11.fst.snaps=q26))/\(¬q9=2->I64 1->I64 q15->q18=q21/\st.next=q24/\st.keep=q23/\st.quota=q22/\1=q19/\q20)))))))))))))) (q15=q1.n/\st.sess=q27/\st.opens=q25/\st.snaps=q26)) q0.version) q0.quota) q0.keep) q0.next) q0.opens) q0.snaps) q0.sess) (fb st c).fst) q1.code) (fb st c).snd) (if eC st q18=q15 then bG c q18 else 1)) (bA (gH false) c st)) (bA (gH true) c st)) (bA (sV c) c st)) (bA gf c st)) (bA eG c st)) (eI st c)) c.kind) (eV st c)) (eP st c)) (oW c st)) (rI c st).fst) (st.opens.length<1048576)) (0:Int)) (nch st.snaps<=1048576)) (rI c st).snd) st.version)
 (repeat' with_reducible first|apply aZ|refine aY ?_|intro)
 all_goals (first | exact bt | exact (Y_ ab) | exact (adl ab) | exact (VQ ab) | exact (aca ab) | exact (ade ab) | (rw [afl ab]; done) | (rw [aej ab]; simp only [KG, *]; done) | (rw [aej ab]; simp [KG, *]; done))
def Wh:bN:=(aO 281 Pw VA)
theorem Bl:ay Tryz.prog (al tyT) Wh:=(ah X_ yR)
def cG (s:State) (c:Command):State × Reply:=
 if ak Sess.client c.client s.sess<0 then (s,⟨11,0⟩)
 else if c.seq=(s.sess.getD (ak Sess.client c.client s.sess).toNat (au (.nm .sess))).seq then (s,(s.sess.getD (ak Sess.client c.client s.sess).toNat (au (.nm .sess))).last)
 else if c.seq<(s.sess.getD (ak Sess.client c.client s.sess).toNat (au (.nm .sess))).seq then (s,⟨13,0⟩)
 else if (s.sess.getD (ak Sess.client c.client s.sess).toNat (au (.nm .sess))).seq+1<c.seq then (s,⟨14,0⟩)
 else ({ (fb s c).1 with sess:=(fb s c).1.sess.set (ak Sess.client c.client s.sess).toNat { (fb s c).1.sess.getD (ak Sess.client c.client s.sess).toNat (au (.nm .sess)) with seq:=c.seq,last:=(fb s c).2 } },(fb s c).2)
def qW (s:State) (c:Command):State × Reply:=
 if ¬ fH s c=0 then (s,⟨fH s c,0⟩)
 else if c.kind=8 then (if ¬ c.n=s.version+1 then (s,⟨1,0⟩) else ({ s with version:=c.n },⟨0,c.n⟩))
 else if c.kind=1 then (if 0<=ak Sess.client c.client s.sess then (s,⟨12,0⟩) else ({ s with sess:=Am s.sess (s.sess.takeWhile fun y=>decide (y.client<c.client)).length ⟨c.client,0,⟨0,0⟩⟩ },⟨0,0⟩))
 else cG s c
variable {Q:State × Reply->Prop}
theorem QE {s:State} {c:Command} (h0:∀ e:Int,¬ e=0->Q (s,⟨e,0⟩))
  (hs:∀ f:State->Nat->State × Reply,fH s c=0->(f=sV c\/(∃ b,f=gH b)\/f=gf\/f=eG)->Q (bA f c s))
  (hq:fH s c=0->Q (oW c s)) (hk:fH s c=0->Q (rI c s)) (ha:fH s c=0->Q (eV s c)) (hc:fH s c=0->Q (eI s c)) (hb:fH s c=0->Q (eP s c)):Q (fb s c):=by
 unfold fb;split
 ·exact h0 _ (by assumption)
 rename_i h;have h:fH s c=0:=acs.1 h;unfold KG;split
 ·exact hs _ h (.inl rfl)
 split
 ·exact hs _ h (.inr (.inl ⟨_,rfl⟩))
 split
 ·exact hs _ h (.inr (.inl ⟨_,rfl⟩))
 split
 ·exact hs _ h (.inr (.inr (.inl rfl)))
 split
 ·exact hs _ h (.inr (.inr (.inr rfl)))
 split
 ·exact hq h
 split
 ·exact hk h
 split
 ·exact ha h
 split
 ·exact hc h
 split
 ·exact hb h
 exact h0 1 (by decide)
theorem HM {f:State->Nat->State × Reply} {s:State} {c:Command} (h0:∀ e:Int,¬ e=0->Q (s,⟨e,0⟩)) (h:∀ n:Nat,(n:Int)=ak Snap.id c.id s.snaps->Q (f s n)):Q (bA f c s):=by
 unfold bA;split
 ·exact h0 15 (by decide)
 exact h _ aL
theorem H_ {s:State} {c:Command}:(fb s c).1.sess=s.sess:=by
 refine QE (Q:=fun r=>r.1.sess=s.sess) (fun _ _=>rfl) (fun f _ hf=>?_) (fun _=>rfl) (fun _=>rfl) (fun _=>?_) (fun _=>?_) (fun _=>?_)
 ·refine HM (Q:=fun r=>r.1.sess=s.sess) (fun _ _=>rfl) fun n _=>?_;rcases hf with rfl | ⟨b,rfl⟩ | rfl | rfl
  ·rfl
  ·unfold gH; split <;> rfl
  ·rfl
  unfold eG; split; rfl; split <;> rfl
 ·unfold eV; split <;> rfl
 ·unfold eI; split; rfl; split; rfl; split <;> rfl
 unfold eP; split <;> rfl
theorem zG {l:List Sess} {q:Int} {R:Reply} (h:k<l.length):(l.set k (Sess.mk (l.getD k (au (.nm .sess))).client q (l.getD k (au (.nm .sess))).last)).set k (Sess.mk ((l.set k (Sess.mk (l.getD k (au (.nm .sess))).client q (l.getD k (au (.nm .sess))).last)).getD k (au (.nm .sess))).client ((l.set k (Sess.mk (l.getD k (au (.nm .sess))).client q (l.getD k (au (.nm .sess))).last)).getD k (au (.nm .sess))).seq R)=l.set k { l.getD k (au (.nm .sess)) with seq:=q,last:=R }:=by
 have e:∀ x:Sess,(l.set k x).getD k (au (.nm .sess))=x:=fun x=>by
  rw [List.getD_eq_getElem?_getD,ab3 h]; rfl
 rw [e,List.set_set]
section
variable {v nx kp qt:Int} {se:List Sess} {op:List Opn} {sn:List Snap} {c:Command}
theorem as1 (h:ak Sess.client c.client se<0):cG (State.mk v nx kp qt se op sn) c=(State.mk v nx kp qt se op sn,⟨11,0⟩):=by
 simp only [cG,if_pos h]
theorem as2 (h:0<=ak Sess.client c.client se) (e:c.seq=(se.getD (ak Sess.client c.client se).toNat (au (.nm .sess))).seq):cG (State.mk v nx kp qt se op sn) c=(State.mk v nx kp qt se op sn,(se.getD (ak Sess.client c.client se).toNat (au (.nm .sess))).last):=by
 have h1:¬ ak Sess.client c.client se<0:=by omega
 simp only [cG,if_neg h1,if_pos e]
theorem as3 (h:0<=ak Sess.client c.client se) (e:¬ c.seq=(se.getD (ak Sess.client c.client se).toNat (au (.nm .sess))).seq) (l:c.seq<(se.getD (ak Sess.client c.client se).toNat (au (.nm .sess))).seq):cG (State.mk v nx kp qt se op sn) c=(State.mk v nx kp qt se op sn,⟨13,0⟩):=by
 have h1:¬ ak Sess.client c.client se<0:=by omega
 simp only [cG,if_neg h1,if_neg e,if_pos l]
theorem as4 (h:0<=ak Sess.client c.client se) (e:¬ c.seq=(se.getD (ak Sess.client c.client se).toNat (au (.nm .sess))).seq) (l:(se.getD (ak Sess.client c.client se).toNat (au (.nm .sess))).seq<=c.seq) (g:(se.getD (ak Sess.client c.client se).toNat (au (.nm .sess))).seq+1<c.seq):cG (State.mk v nx kp qt se op sn) c=(State.mk v nx kp qt se op sn,⟨14,0⟩):=by
 have h1:¬ ak Sess.client c.client se<0:=by omega
 have h2:¬ c.seq<(se.getD (ak Sess.client c.client se).toNat (au (.nm .sess))).seq:=by omega
 simp only [cG,if_neg h1,if_neg e,if_neg h2,if_pos g]
theorem as5 (h:0<=ak Sess.client c.client se) (e:¬ c.seq=(se.getD (ak Sess.client c.client se).toNat (au (.nm .sess))).seq) (l:(se.getD (ak Sess.client c.client se).toNat (au (.nm .sess))).seq<=c.seq) (g:c.seq<=(se.getD (ak Sess.client c.client se).toNat (au (.nm .sess))).seq+1):cG (State.mk v nx kp qt se op sn) c=({ (fb (State.mk v nx kp qt se op sn) c).1 with sess:=(fb (State.mk v nx kp qt se op sn) c).1.sess.set (ak Sess.client c.client se).toNat { (fb (State.mk v nx kp qt se op sn) c).1.sess.getD (ak Sess.client c.client se).toNat (au (.nm .sess)) with seq:=c.seq,last:=(fb (State.mk v nx kp qt se op sn) c).2 } },(fb (State.mk v nx kp qt se op sn) c).2):=by
 have h1:¬ ak Sess.client c.client se<0:=by omega
 have h2:¬ c.seq<(se.getD (ak Sess.client c.client se).toNat (au (.nm .sess))).seq:=by omega
 have h3:¬ (se.getD (ak Sess.client c.client se).toNat (au (.nm .sess))).seq+1<c.seq:=by omega
 simp only [cG,if_neg h1,if_neg e,if_neg h2,if_neg h3]
theorem MA (h:0<=ak Sess.client c.client se):ak Sess.client c.client se<((fb (State.mk v nx kp qt se op sn) c).1.sess.length:Int):=by rw [H_]; exact dX h
theorem yj (h:0<=ak Sess.client c.client se):(ak Sess.client c.client se).toNat<(fb (State.mk v nx kp qt se op sn) c).1.sess.length:=by have:=MA (v:=v) (nx:=nx) (kp:=kp) (qt:=qt) (op:=op) (sn:=sn) h; omega
theorem acF {x:Sess} (h:0<=ak Sess.client c.client se):ak Sess.client c.client se<(((fb (State.mk v nx kp qt se op sn) c).1.sess.set (ak Sess.client c.client se).toNat x).length:Int):=by rw [aet]; exact MA h
theorem agS (h:fH (State.mk v nx kp qt se op sn) c=0) (h0:0<=ak Sess.client c.client se):I64 ((se.getD (ak Sess.client c.client se).toNat (au (.nm .sess))).seq+1):=by
 have h1:=(gR (CA h)).2.2.1;simp only [AF,Bool.and_eq_true,aeF] at h1;have h2:=h1.2 _ (acQ (gd (d:=au (.nm .sess)) (k:=(ak Sess.client c.client se).toNat) (l:=se) (by have:=dX h0; omega)));simp only [d_,Bool.and_eq_true] at h2;have h3:=Ji h2.1.1;constructor <;> omega
end
def BL:Kn:=aK (ae (kG (ax cI (ax cI (ax cI (ax cI (ax (eO 0) (ax (eO 1) (ax (eO 2) dv)))))))) (ae (kT (.nm .command)) ao)) (aC (eW 137 (.nm .sess)) (aC (eW 139 (.nm .opn)) (aC (eW 172 (.nm .snap)) aw))) fun ((v,nx,kp,qt,_,_,_,_),c,_) (se,op,sn,_)=>⟨[fH (State.mk v nx kp qt se op sn) c=0],[.agg ([.int (((cG (State.mk v nx kp qt se op sn) c).1.version)),.int (((cG (State.mk v nx kp qt se op sn) c).1.next)),.int (((cG (State.mk v nx kp qt se op sn) c).1.keep)),.int (((cG (State.mk v nx kp qt se op sn) c).1.quota)),.own 0,.own 1,.own 2]),.agg (cellsOf (.nm .reply) ((cG (State.mk v nx kp qt se op sn) c).2))],some ([.row 137 (.nm .sess) (((cG (State.mk v nx kp qt se op sn) c).1.sess)),.row 139 (.nm .opn) (((cG (State.mk v nx kp qt se op sn) c).1.opens)),.row 172 (.nm .snap) (((cG (State.mk v nx kp qt se op sn) c).1.snaps))]),false⟩
theorem Kt:CK 264 BL:=ag fun ((v,nx,kp,qt,_,_,_,_),c,_) (se,op,sn,_) hp=>by
 have h0:=cc hp;refine br Bl [] Tryz.func264 (?_:(fun q4=>(fun q3=>(fun q2=>(fun q1=>(fun q5=>(fun q6=>(fun q7=>(fun q0=>(fun q12=>(fun q11=>(fun q10=>(fun q13=>(fun q9=>(fun q8=>(fun q18=>(fun q17=>(fun q16=>(fun q15=>(fun q14=>(fun q19=>I64 v->I64 nx->I64 kp->I64 qt->bB c (I64 q1->(q1<q3->I64 11->I64 q3->q15/\q17/\q18/\q16/\11=q11.code/\q19)/\(q3<=q1->q3<=q1/\q1<(↑se.length:Int)/\jZ q6 ((q4=q6.seq->q15/\q17/\q18/\q16/\q6.last.code=q11.code/\q6.last.n=q11.n/\q14)/\(¬q4=q6.seq->(q4<q6.seq->I64 13->I64 q3->q15/\q17/\q18/\q16/\13=q11.code/\q19)/\(q6.seq<=q4->I64 q7/\(q7<q4->I64 14->I64 q3->q15/\q17/\q18/\q16/\14=q11.code/\q19)/\(q4<=q7->I64 q10.version->I64 q10.next->I64 q10.keep->I64 q10.quota->I64 q12.code->I64 q12.n->(q3<=q1/\q1<(↑q10.sess.length:Int))/\jZ q13 (q3<=q1/\q1<(↑q9.length:Int))/\jZ q13 (jZ (q9.getD q5 q2) (q10.version=q8.version/\q10.next=q8.next/\q10.keep=q8.keep/\q10.quota=q8.quota/\q12.code=q11.code/\q12.n=q11.n/\q9.set q5 (Sess.mk (q9.getD q5 q2).client (q9.getD q5 q2).seq q12)=q8.sess/\q10.opens=q8.opens/\q10.snaps=q8.snaps))))))))) (q3=q11.n/\q14)) (se=q8.sess/\op=q8.opens/\sn=q8.snaps)) (v=q8.version)) (qt=q8.quota)) (nx=q8.next)) (kp=q8.keep)) (cG q0 c).fst) (q10.sess.set q5 (Sess.mk q13.client q4 q13.last))) (q10.sess.getD q5 q2)) (fb q0 c).fst) (cG q0 c).snd) (fb q0 c).snd) (State.mk v nx kp qt se op sn)) (q6.seq+1)) (se.getD q5 q2)) q1.toNat) (ak Sess.client c.client se)) (au (Sh.nm NT.sess))) (0:Int)) c.seq);(repeat' with_reducible first|apply aZ|refine aY ?_|intro)
 all_goals (first | exact bt | exact dX ab | exact MA ab | exact acF ab | exact agS ab ab | (rw [as1] <;> first | rfl | with_reducible assumption | exact zG (yj ab)) | (rw [as2] <;> first | rfl | with_reducible assumption | exact zG (yj ab)) | (rw [as3] <;> first | rfl | with_reducible assumption | exact zG (yj ab)) | (rw [as4] <;> first | rfl | with_reducible assumption | exact zG (yj ab)) | (rw [as5] <;> first | rfl | with_reducible assumption | exact zG (yj ab)))
def VD:bN:=(aO 264 BL Wh)
theorem yG:ay Tryz.prog (al tyT) VD:=(ah Kt Bl)
section
variable {s:State} {c:Command}
theorem ae9 (h:(if eC s s.version=0 then bG c s.version else 1)=0):fH s c=0:=h
theorem ah2 (h:(if eC s s.version=0 then bG c s.version else 1)=0):I64 (s.version+1):=by
 have h1:=(gR (CA h)).2.1;simp only [lA,Bool.and_eq_true] at h1;have:=Ji h1.1.1.1;constructor <;> omega
theorem doE (h:¬ (if eC s s.version=0 then bG c s.version else 1)=0):qW s c=(s,⟨(if eC s s.version=0 then bG c s.version else 1),0⟩):=by
 have h:¬ fH s c=0:=h;rw [qW,if_pos h]; rfl
theorem doM (h:(if eC s s.version=0 then bG c s.version else 1)=0):qW s c=if c.kind=8 then (if ¬ c.n=s.version+1 then (s,⟨1,0⟩) else ({ s with version:=c.n },⟨0,c.n⟩))
 else if c.kind=1 then (if 0<=ak Sess.client c.client s.sess then (s,⟨12,0⟩) else ({ s with sess:=Am s.sess (s.sess.takeWhile fun y=>decide (y.client<c.client)).length ⟨c.client,0,⟨0,0⟩⟩ },⟨0,0⟩))
 else cG s c:=by
 have h:¬ ¬ fH s c=0:=fun k=>k h;rw [qW,if_neg h]
theorem ahu (h:(if eC s s.version=0 then bG c s.version else 1)=0) (k:c.kind=8) (n:¬ c.n=s.version+1):qW s c=(s,⟨1,0⟩):=by rw [doM h,if_pos k,if_pos n]
theorem aik (h:(if eC s s.version=0 then bG c s.version else 1)=0) (k:c.kind=8) (n:c.n=s.version+1):qW s c=({ s with version:=c.n },⟨0,c.n⟩):=by rw [doM h,if_pos k,if_neg (fun h=>h n)]
theorem aif (h:(if eC s s.version=0 then bG c s.version else 1)=0) (k:c.kind=1) (n:0<=ak Sess.client c.client s.sess):qW s c=(s,⟨12,0⟩):=by rw [doM h,if_neg (by omega),if_pos k,if_pos n]
theorem aga (h:(if eC s s.version=0 then bG c s.version else 1)=0) (k:c.kind=1) (n:ak Sess.client c.client s.sess<0):qW s c=({ s with sess:=Am s.sess (s.sess.takeWhile fun y=>decide (y.client<c.client)).length ⟨c.client,0,⟨0,0⟩⟩ },⟨0,0⟩):=by rw [doM h,if_neg (by omega),if_pos k,if_neg (by omega)]
theorem doX (h:(if eC s s.version=0 then bG c s.version else 1)=0) (k:¬ c.kind=8) (n:¬ c.kind=1):qW s c=cG s c:=by rw [doM h,if_neg k,if_neg n]
variable {l:List Sess}
theorem oF {x:Sess} (hs:k<=l.length) (ha:(l.take k).all (fun y=>decide (y.client<c.client))=true) (hb:(l.length:Int)<=k\/c.client<=(l.getD k (au (.nm .sess))).client):l.take k++[x]++l.drop k=Am l (l.takeWhile fun y=>decide (y.client<c.client)).length x:=by
 have:k=(l.takeWhile fun y=>decide (y.client<c.client)).length:=by
  refine LY ha hs ?_;by_cases hl:(l.length:Int)<=k
  ·exact .inl hl
  refine .inr ⟨by omega,_,gd (d:=au (.nm .sess)) (by omega),?_⟩;rcases hb with hb | hb
  ·omega
  exact aeH aL
 rw [<- this]; simp [Am]
theorem aci (ha:(l.take k).all (fun y=>decide (y.client<c.client))=true) (h:(k:Int)<l.length) (hb:(l.getD k (au (.nm .sess))).client<c.client):(l.take (k+1)).all (fun y=>decide (y.client<c.client))=true:=by
 rw [ai (gd (d:=au (.nm .sess)) h),agZ,ha]; simp only [agr,List.all_nil,decide_eq_true hb]; rfl
end
def ahq (st:State) (c:Command):List (Nat × LI):=[(15,{ σ:=Nat,F:=fun k=>([(2,one (.ptr 0 0)),(3,one (.ptr 1 0)),(4,one (.ptr 2 0)),(5,one (.ptr 3 0)),(7,one (.int k))],[.box 46 ([.int ((st.version)),.int ((st.next)),.int ((st.keep)),.int ((st.quota)),.own 4,.own 5,.own 6]),.box 35 (cellsOf (.nm .command) (c)),.box 46 ([.int ((0)),.int ((0)),.int ((0)),.int ((0)),.em true,.em true,.em true]),.box 78 ([.int ((0)),.int ((0))]),.row 137 (.nm .sess) ((st.sess)),.row 139 (.nm .opn) ((st.opens)),.row 172 (.nm .snap) ((st.snaps))]),J:=fun k=>k<=st.sess.length/\(st.sess.take k).all (fun y=>decide (y.client<c.client))=true,μ:=fun k=>st.sess.length - k })]
def WR:Kn:=aK (ae (kT (.nm .state)) (ae (kT (.nm .command)) ao)) aw fun (st,c,_) _=>⟨[],[.agg ([.int (((qW st c).1.version)),.int (((qW st c).1.next)),.int (((qW st c).1.keep)),.int (((qW st c).1.quota)),.own 0,.own 1,.own 2]),.agg (cellsOf (.nm .reply) ((qW st c).2))],some ([.row 137 (.nm .sess) (((qW st c).1.sess)),.row 139 (.nm .opn) (((qW st c).1.opens)),.row 172 (.nm .snap) (((qW st c).1.snaps))]),true⟩
theorem adn:CK 227 WR:=ag fun (st,c,_) _ _=>by
 refine dD yG (ahq st c) Tryz.func227 (?_:(fun (q14:List Opn)=>(fun (q13:Int)=>(fun (q12:Int)=>(fun (q11:Reply)=>(fun (q10:Int)=>(fun (q9:den (Sh.nm NT.sess))=>(fun (q8:Int)=>(fun (q7:Int)=>(fun (q6:Reply)=>(fun (q5:State)=>(fun (q4:Int)=>(fun (q16:Int)=>(fun (q15:Int)=>(fun (q3:List Sess)=>(fun (q18:Int)=>(fun (q17:Int)=>(fun (q2:Int)=>(fun (q20:Prop)=>(fun (q19:Int)=>(fun (q1:Prop)=>(fun (q0:State)=>(fun (q26:Prop)=>(fun (q25:Prop)=>(fun (q24:Prop)=>(fun (q23:Prop)=>(fun (q22:Prop)=>(fun (q21:Prop)=>(fun (q27:Prop)=>fE st (bB c (I64 q4->I64 q13->I64 q12->I64 q10->I64 q19->(¬q19=q2->I64 q19->I64 q2->q25/\q23/\q24/\q22/\q19=q6.code/\q27)/\(q19=q2->(c.kind=8->I64 (q4+q7)/\(¬c.n=q4+q7->I64 q7->I64 q2->q25/\q23/\q24/\q22/\q7=q6.code/\q27)/\(c.n=q4+q7->c.n=q0.version/\q23/\q24/\q22/\q2=q6.code/\c.n=q6.n/\q21))/\(¬c.kind=8->(c.kind=q7->I64 q18->(q2<=q18->I64 12->I64 q2->q25/\q23/\q24/\q22/\12=q6.code/\q27)/\(q18<q2->∃ (s0:Nat),(q2=(↑s0:Int)/\q1)/\(s0<=q3.length/\((List.take s0 q3).all fun (y:Sess)=>decide (y.client<q8))=true)/\∀ (s:Nat),(fun (q29:Int)=>(fun (q28:den (Sh.nm NT.sess))=>s<=q3.length/\((List.take s q3).all fun (y:Sess)=>decide (y.client<q8))=true->(q29<q17->q2<=q29/\q29<q17)/\((q29<q17->I64 q28.client/\I64 q28.seq/\I64 q28.last.code/\I64 q28.last.n)->(q29<q17/\q28.client<q8->I64 (q29+q7)/\∃ (s':Nat),(q29+q7=(↑s':Int)/\q1)/\(s' <= q3.length/\((List.take s' q3).all fun (y:Sess)=>decide (y.client<q8))=true)/\q3.length - s' < q3.length - s)/\(q17<=q29\/q8<=q28.client->(q2<=q29/\q29<=q17)/\q3.length<1048576/\[Sess.mk q8 q2 (Reply.mk q2 q2)].length=1/\q25/\q23/\q24/\q22/\q2=q6.code/\q2=q6.n/\List.take s q3++[Sess.mk q8 q2 (Reply.mk q2 q2)]++List.drop s q3=q0.sess/\q26))) (q3.getD s q9)) (↑s:Int)))/\(¬c.kind=q7->fH st c=q2/\(I64 q5.version->I64 q5.next->I64 q5.keep->I64 q5.quota->I64 q11.code->I64 q11.n->q5.version=q0.version/\q5.next=q0.next/\q5.keep=q0.keep/\q5.quota=q0.quota/\q11.code=q6.code/\q11.n=q6.n/\q5.sess=q0.sess/\q5.opens=q0.opens/\q5.snaps=q0.snaps))))))) (q2=q6.n/\q21)) (q3=q0.sess/\q26)) (q10=q0.quota)) (q13=q0.next)) (q12=q0.keep)) (q4=q0.version)) (q14=q0.opens/\st.snaps=q0.snaps)) (qW st c).fst) (q4=q4/\q13=q13/\q12=q12/\q10=q10/\bm c c (q20/\q20/\q20/\q20/\q20/\q20/\q3=q3/\q14=q14/\st.snaps=st.snaps))) (if q15=q2 then q16 else q7)) (q2=q2)) 0) (↑q3.length:Int)) (ak Sess.client q8 q3)) st.sess) (eC st q4)) (bG c q4)) st.version) (cG st c).fst) (qW st c).snd) 1) c.client) (au (Sh.nm NT.sess))) st.quota) (cG st c).snd) st.keep) st.next) st.opens);iterate 3 ((all_goals (repeat' with_reducible first|apply aZ|refine aY ?_|intro)); (all_goals try (first | exact bt | exact rfl | exact ae9 ab | exact ah2 ab | exact VQ ab | exact aci ab ab ab | (rw [doE] <;> first | rfl | with_reducible assumption | exact oF aL ab (by assumption)) | (rw [ahu] <;> first | rfl | with_reducible assumption | exact oF aL ab (by assumption)) | (rw [aik] <;> first | rfl | with_reducible assumption | exact oF aL ab (by assumption)) | (rw [aif] <;> first | rfl | with_reducible assumption | exact oF aL ab (by assumption)) | (rw [aga] <;> first | rfl | with_reducible assumption | exact oF aL ab (by assumption)) | (rw [doX] <;> first | rfl | with_reducible assumption | exact oF aL ab (by assumption)))); all_goals try first | refine ⟨‹Nat› + 1,?_⟩ | refine ⟨0,?_⟩)
def Wi:bN:=(aO 227 WR VD)
theorem Nx:ay Tryz.prog (al tyT) Wi:=(ah adn yG)
def Vf:bN:=Wi
theorem Lc:ay Tryz.prog (al tyT) Vf:=Nx
def Wv:bN:=Vf
theorem Mu:ay Tryz.prog (al tyT) Wv:=Lc
section
variable {s:State} {c:Command}
end
theorem Ud {c:Command} {v:Int} (h:bG c v=0):(1<=v/\v<=3)/\¬ cw c.kind=0/\cw c.kind<=v/\mu c=true:=by
 unfold bG at h;split at h
 ·cases h
 rename_i h1;rw [Bool.or_eq_true,not_or] at h1;simp only [aew,Bool.not_eq_false,decide_eq_true_eq] at h1;split at h
 ·cases h
 split at h
 ·cases h
 rename_i h2 h3;exact ⟨Ji h1.1,h1.2,by omega,by simpa using h3⟩
section
variable {α:Type} {key:α->Int} {most:Int}
end
section
variable {α:Type} {key:α->Int} {most:Int}
end
section
variable {s:State} {c:Command}
end
section
variable {α:Type} {key:α->Int} {most:Int}
end
section
variable {s:State} {x:Snap} {i:Nat}
end
section
variable {s:State} {x:Snap} {i:Nat}
end
section
variable {s:State} {x:Snap} {i:Nat}
end
section
variable {s:State} {c:Command} {k:Nat}
end
section
variable {α:Type} {key:α->Int} {most:Int}
end
section
variable {s:State} {c:Command}
end
section
variable {α:Type} {key:α->Int} {x y d:α}
variable {l:List α} {k:Nat}
end
def UM:bN:=Wv
theorem Kh:ay Tryz.prog (al tyT) UM:=Mu
section
variable {st:State} {c:Command}
variable {i:Int} {x:Snap}
end
def Vo:bN:=UM
theorem Ke:ay Tryz.prog (al tyT) Vo:=Kh
section
variable {st:State} {c:Command}
end
def V_:bN:=Vo
theorem NZ:ay Tryz.prog (al tyT) V_:=Ke
section
variable {st:State} {c:Command}
end
def VR:bN:=V_
theorem BJ:ay Tryz.prog (al tyT) VR:=NZ
def uD (l:List Int):Int:=match l.findIdx? (fun x=>!bK x) with
 | some i=>(i:Int)
 | none=>-1
section
variable {l:List Int} {k:Nat} {x:Int}
theorem u_:uD l=ak (fun x=>if bK x=true then 0 else 1) 1 l:=by
 have e:(fun x=>!bK x)=fun x:Int=>decide ((if bK x=true then (0:Int) else 1)=1):=by
  funext x;cases bK x <;> rfl
 unfold uD ak; rw [e]; rfl
theorem Yp (h:uD (l.take k) = -1) (hx:l[k]? = some x) (hn:(!bK x)=false):uD (l.take (k+1)) = -1:=by
 rw [Bool.not_eq_false'] at hn;rw [u_] at h ⊢;exact nn h hx (by rw [if_pos hn]; decide)
theorem Tz (h:uD (l.take k) = -1) (hx:l[k]? = some x) (hn:(!bK x)=true):(k:Int)=uD l:=by
 rw [aew] at hn;rw [u_] at h ⊢;exact lO h hx (by rw [hn]; rfl)
theorem aam (h:uD (l.take k) = -1) (hk:l.length<=k):-1=uD l:=by rw [List.take_of_length_le hk] at h; exact h.symm
theorem TM:decide (0<=uD l) = !l.all bK:=by
 cases e:l.findIdx? (fun x=>!bK x) with
 | none=>
  have h:=List.findIdx?_eq_none_iff.1 e;have:l.all bK=true:=aeF.2 fun x hx=>by simpa using h x hx
  unfold uD; rw [e,this]; rfl
 | some i=>
  obtain ⟨hi,hp,_⟩:=aeE.1 e;have:l.all bK=false:=by
   rw [List.all_eq_false];exact ⟨l[i],aeG hi,by simpa using hp⟩
  unfold uD; rw [e,this];show decide (0<=(i:Int))=true;rw [decide_eq_true_eq]; omega
end
def AP:Kn:=aK (ae (kC cI) ao) aw fun (k,_) _=>⟨[],[.c (.bool (.atom ((bK k))))],none,false⟩
theorem LF:CK 86 AP:=ag fun (k,_) _ _=>by
 refine av BJ [] Tryz.func86 (?_:I64 k->(decide (1<=k) && decide (k<=3))=bK k);grind [bK]
def Vh:bN:=(aO 86 AP VR)
theorem tE:ay Tryz.prog (al tyT) Vh:=(ah LF BJ)
section
variable {st:State} {v:Int}
end
def vG:Kn:=aK (ae (kC cI) (ae (kC cI) ao)) aw fun (a,b,_) _=>⟨[],[.c (.int ((bZ a b)))],none,false⟩
theorem IE:CK 43 vG:=ag fun (a,b,_) _ _=>by
 refine av tE [] Tryz.func43 (?_:I64 a->I64 b->(bK a=false\/bK b=false->1=bZ a b)/\(bK a=true/\bK b=true->(a<b->32=bZ a b)/\(b<=a->0=bZ a b)));grind [bZ,bK]
def zE:Kn:=aK (ae (kC cI) ao) aw fun (n,_) _=>⟨[],[.c (.bool (.atom ((!bK n))))],none,false⟩
theorem KX:CK 157 zE:=ag fun (n,_) _ _=>by
 refine av tE [] Tryz.func157 (?_:I64 n->(!bK n) = !bK n);grind
def Vs:bN:=(aO 157 zE (aO 43 vG Vh))
theorem rq:ay Tryz.prog (al tyT) Vs:=(ah KX (ah IE tE))
variable {l:List Int}
theorem SY {s:Nat} {x:Int} (hx:l[((s:Int)+1).toNat]? = some x):min (iP l (s+1)) x=iP l (s+1+1):=CP (by omega) (by rwa [show ((s:Int)+1).toNat=s+1 by omega] at hx)
def TN (l:List Int):List (Nat × LI):=[(2,{ σ:=Nat,F:=fun k=>([(0,one (.fz .int (l))),(1,one (.fn 157 [] [])),(7,one (.int (l).length)),(8,one (.int k))],[]),J:=fun k=>k<=l.length/\uD (l.take k) = -1,μ:=fun k=>(l).length - k })]
def adK (l:List Int):List (Nat × LI):=[(5,{ σ:=Nat,F:=fun k=>([(0,one (.fz .int (l))),(3,one (.int (iP l (k+1)))),(4,one (.int (k+1)))],[]),J:=fun k=>k+1<=l.length,μ:=fun k=>l.length - k })]
def yk:Kn:=aK (ae (kC (cL .int)) (ae (kC (qN 157 [] [])) ao)) aw fun (l,_,_) _=>⟨[],[.c (.int ((uD l)))],none,false⟩
theorem JP:CK 219 yk:=ag fun (l,_,_) _ _=>by
 refine av rq (TN l) Tryz.func219 (?_:(fun (q1:Int)=>(fun (q0:Nat)=>l.length*8<=140737488355328->∃ (s0:Nat),(l=l/\(↑l.length:Int)=(↑q0:Int)/\0=(↑s0:Int))/\(s0<=q0/\uD (List.take s0 l) = -q1)/\∀ (s:Nat),s<=q0/\uD (List.take s l) = -q1->((↑s:Int)<(↑q0:Int)->0<=(↑s:Int)/\(↑s:Int)<(↑l.length:Int)/\∀ (x:Int),l[s]? = some x->I64 x->((!bK x)=true->(↑s:Int)=uD l)/\((!bK x)=false->I64 ((↑s:Int)+q1)/\∃ (s':Nat),(l=l/\(↑q0:Int)=(↑q0:Int)/\(↑s:Int)+q1=(↑s':Int))/\(s' <= q0/\uD (List.take s' l) = -q1)/\q0 - s' < q0 - s))/\((↑q0:Int)<=(↑s:Int) -> -q1=uD l)) l.length) 1);iterate 3 ((all_goals (repeat' with_reducible first|apply aZ|refine aY ?_|intro)); (all_goals try (first | exact bt | exact rfl | exact (Yp ab ab ab) | exact (Tz ab ab ab) | exact (aam ab aL))); all_goals try first | refine ⟨‹Nat› + 1,?_⟩ | refine ⟨0,?_⟩)
def Pp:Kn:=aK (ae (kC (cL .int)) ao) aw fun (l,_) _=>⟨[0<l.length],[.c (.int ((yJ l)))],none,false⟩
theorem XS:CK 159 Pp:=ag fun (l,_) _ hp=>by
 have h0:=cc hp;refine av rq (adK l) Tryz.func159 (?_:(fun q2=>(fun q1=>(fun q0=>l.length*(8:Nat)<=(140737488355328:Nat)->(q1<q0->False)/\(q0<=q1->(0:Int)<=(0:Int)/\(0:Int)<q1/\∀ (x:Int),l[(0:Nat)]? = some x->I64 x->∃ s0,(l=l/\x=iP l (s0+q2)/\q0=(↑s0:Int)+q0)/\s0+q2<=l.length/\∀ (s:Nat),(fun q3=>s+q2<=l.length->(q3<q1->(0:Int)<=q3/\q3<q1/\∀ (x:Int),l[q3.toNat]? = some x->I64 x->I64 (q3+q0)/\∃ s',(l=l/\min (iP l (s+q2)) x=iP l (s' + q2)/\q3+q0=(↑s':Int)+q0)/\s' + q2<=l.length/\l.length - s' < l.length - s)/\(q1<=q3->iP l (s+q2)=yJ l)) ((↑s:Int)+q0))) (1:Int)) (↑l.length:Int)) (1:Nat));iterate 3 ((all_goals (repeat' with_reducible first|apply aZ|refine aY ?_|intro)); (all_goals try (first | exact bt | exact (GN ab) | exact (SY ab) | exact (G_ aL))); all_goals try first | refine ⟨‹Nat› + 1,?_⟩ | refine ⟨0,?_⟩)
def Wx:bN:=(aO 159 Pp (aO 219 yk Vs))
theorem AX:ay Tryz.prog (al tyT) Wx:=(ah XS (ah JP rq))
def DJ:Kn:=aK (ae (kC (cL .int)) (ae (kC (qN 157 [] [])) ao)) aw fun (l,_,_) _=>⟨[],[.c (.bool (.atom ((!l.all bK))))],none,false⟩
theorem SP:CK 158 DJ:=ag fun (l,_,_) _ _=>by
 refine av AX [] Tryz.func158 (?_:l.length*8<=140737488355328->I64 (uD l)->decide (0<=uD l) = !l.all bK);(repeat' with_reducible first|apply aZ|refine aY ?_|intro)
 all_goals (first | exact bt | exact (TM))
def VJ:bN:=(aO 158 DJ Wx)
theorem BV:ay Tryz.prog (al tyT) VJ:=(ah SP AX)
theorem ae8 (o:(l.length:Int)=0\/(!l.all bK)=true):0=iS l:=by
 have h:(decide (l.length=0) || !l.all bK)=true:=by
  rcases o with o | o
  ·rw [decide_eq_true (by omega)]; rfl
  rw [o,Bool.or_true]
 unfold iS; rw [if_pos h]
theorem af4 (o:¬ (l.length:Int)=0) (h:(!l.all bK)=false):yJ l=iS l:=by
 have h:¬ (decide (l.length=0) || !l.all bK)=true:=by
  rw [h,aeH (by omega)]; decide
 unfold iS; rw [if_neg h]
def Ak:Kn:=aK (ae (kC (cL .int)) ao) aw fun (l,_) _=>⟨[],[.c (.int ((iS l)))],none,false⟩
theorem Nn:CK 92 Ak:=ag fun (l,_) _ _=>by
 refine av BV [] Tryz.func92 (?_:l.length*8<=140737488355328->((↑l.length:Int)=0\/(!l.all bK)=true->0=iS l)/\(¬(↑l.length:Int)=0/\(!l.all bK)=false->0<l.length/\(I64 (yJ l)->yJ l=iS l)));(repeat' with_reducible first|apply aZ|refine aY ?_|intro)
 all_goals (first | exact bt | exact (ae8 (by assumption)) | exact (af4 ab ab))
def Wu:bN:=(aO 92 Ak VJ)
theorem z_:ay Tryz.prog (al tyT) Wu:=(ah Nn BV)
def yv:Kn:=aK (ae (kC cI) (ae (kC (cL .int)) ao)) aw fun (v,l,_) _=>⟨[],[.c (.bool (.atom ((ll v l))))],none,false⟩
theorem Np:CK 53 yv:=ag fun (v,l,_) _ _=>by
 refine av z_ [] Tryz.func53 (?_:I64 v->l.length*8<=140737488355328->(1<=v/\v<3->I64 (iS l))->(decide (1<=v) && decide (v<3) && decide (v<iS l))=ll v l);(repeat' with_reducible first|apply aZ|refine aY ?_|intro)
 all_goals (first | exact bt | rfl | grind [ll])
def US:bN:=(aO 53 yv Wu)
theorem Pk:ay Tryz.prog (al tyT) US:=(ah Np z_)
def Vw:bN:=US
theorem My:ay Tryz.prog (al tyT) Vw:=Pk
section
variable {s:State} {l:List Command} {x:Command} {k:Nat}
end
section
variable {s:State} {l:List Command} {x:Command} {k:Nat} {d:Command}
end
def Ww:bN:=Vw
theorem Nb:ay Tryz.prog (al tyT) Ww:=My
def Vd:bN:=Ww
theorem dA:ay Tryz.prog (al tyT) Vd:=Nb
def eB (f:Field):Bool:=(decide (1<=f.num) && decide (f.num<=1000)) && (if f.wire=0 then decide (((f.b.length:Nat):Int)=0) else if f.wire=2 then decide ((f.n.n:Int)=0) else false)
def fX (a f:Field):Bool:=if f.num=a.num then (decide (f.wire=2) && decide (a.wire=2)) else decide (a.num<f.num)
def pG (num wire:Int):Bool:=(decide (1<=num) && decide (num<=1000)) && (decide (wire=0) || decide (wire=2))
def nP (num wire:Int):List UInt8:=if pG num wire then cY ((8*num)+wire).toNat else []
def A_ (num wire:Int):Int:=if pG num wire then 0 else 1
def cz (f:Field):List UInt8:=if f.wire=0 then nP f.num f.wire++cY f.n.n else (nP f.num f.wire++cY f.b.length)++f.b
def okP:Option Field->Field->Bool
 | none,_=>true
 | some q,f=>fX q f
def stepT (p:Option Field) (f:Field):Int:=if eB f=false then 1 else if okP p f=false then 5 else if (16384:Int)<((f.b.length:Nat):Int) then 4 else 0
def eh:Option Field->List Field->Int
 | _,[]=>0
 | p,f :: r=>if stepT p f=0 then eh (some f) r else stepT p f
def gZ (l:List Field):Nat:=(l.map fun f=>(cz f).length).sum
def cP (l:List Field):Int:=if eh none l=0 then (if (16384:Int)<((gZ l:Nat):Int) then 4 else 0) else eh none l
def ml (l:List Field):List UInt8:=if cP l=0 then (l.map cz).flatten else []
def eZ (l:List Field) (k:Nat):Option Field:=if k=0 then none else l[k - 1]?
def wy (l:List Field) (k:Nat) (x:Field):Prop:=(¬ 0<k)\/∃ y,l[k - 1]? = some y/\fX y x=true
variable {num wire:Int}
theorem JT (h:(num<1\/1000<num)\/(¬ wire=0/\¬ wire=2)):pG num wire=false:=by
 rw [<- Bool.not_eq_true]; unfold pG; simp only [Bool.and_eq_true,Bool.or_eq_true,decide_eq_true_eq]; omega
theorem F_ (h:¬ ((num<1\/1000<num)\/(¬ wire=0/\¬ wire=2))):pG num wire=true:=by
 unfold pG; simp only [Bool.and_eq_true,Bool.or_eq_true,decide_eq_true_eq]; omega
theorem Ff (h:(num<1\/1000<num)\/(¬ wire=0/\¬ wire=2)):[]=nP num wire:=by rw [nP,JT h]; rfl
theorem UC (h:(num<1\/1000<num)\/(¬ wire=0/\¬ wire=2)):1=A_ num wire:=by rw [A_,JT h]; rfl
theorem JE (h:¬ ((num<1\/1000<num)\/(¬ wire=0/\¬ wire=2))):cY ((8*num)+wire).toNat=nP num wire:=by rw [nP,F_ h]; rfl
theorem Kg (h:¬ ((num<1\/1000<num)\/(¬ wire=0/\¬ wire=2))):0=A_ num wire:=by rw [A_,F_ h]; rfl
theorem tX (num wire:Int):(nP num wire).length<=10:=by
 unfold nP;cases h:pG num wire with
 | false=>simp
 | true=>
  unfold pG at h; simp only [Bool.and_eq_true,Bool.or_eq_true,decide_eq_true_eq] at h;exact cS aL
variable {f:Field}
theorem rJ (hb:f.b.length<=16384) (hn:f.n.n<18446744073709551616):(cz f).length<=16404:=by
 have h1:=tX f.num f.wire;unfold cz;split
 ·have:=cS hn; rw [List.length_append]; omega
 have:=cS (n:=f.b.length) (by omega); rw [List.length_append,List.length_append]; omega
theorem UJ (h:f.wire=0):nP f.num f.wire++cY f.n.n=cz f:=by rw [cz,if_pos h]
theorem QD (h:¬ f.wire=0):(nP f.num f.wire++cY f.b.length)++f.b=cz f:=by rw [cz,if_neg h]
variable {x:Field} {l:List Field}
theorem Oa (hx:l[k]? = some x):gZ (l.take k)+(cz x).length=gZ (l.take (k+1)):=by
 unfold gZ; rw [ai hx,List.map_append,List.sum_append]; simp
theorem FD (hp:wy l k x):okP (eZ l k) x=true:=by
 unfold eZ;rcases hp with h | ⟨y,hy,hr⟩
 ·rw [if_pos (by omega)]; rfl
 by_cases hk:k=0
 ·rw [if_pos hk]; rfl
 rw [if_neg hk,hy]; exact hr
theorem Oj (hx:l[k]? = some x):eh (eZ l k) (l.drop k)=if stepT (eZ l k) x=0 then eh (some x) (l.drop (k+1)) else stepT (eZ l k) x:=by
 obtain ⟨hk,he⟩:=aaj.1 hx;rw [aeB hk,he]; rfl
variable {e:Int}
theorem Pz (hc:eh none l=eh (eZ l k) (l.drop k)) (hx:l[k]? = some x) (he:stepT (eZ l k) x=e) (h0:e≠0):e=cP l:=by
 have h1:eh none l=e:=by rw [hc,Oj hx,he,if_neg h0]
 rw [cP,h1,if_neg h0]
theorem aaH (hc:eh none l=eh (eZ l k) (l.drop k)) (hx:l[k]? = some x) (ha:eB x=false):1=cP l:=Pz hc hx (by rw [stepT,if_pos ha]) (by decide)
theorem Xf {y:Field} (hc:eh none l=eh (eZ l k) (l.drop k)) (hx:l[k]? = some x) (ha:eB x=true) (h0:0<k) (hy:l[k - 1]? = some y) (hr:fX y x=false):5=cP l:=
 Pz hc hx (by rw [stepT,if_neg (by rw [ha]; decide),if_pos]; unfold eZ; rw [if_neg (by omega),hy]; exact hr) (by decide)
theorem aax (hc:eh none l=eh (eZ l k) (l.drop k)) (hx:l[k]? = some x) (ha:eB x=true) (hp:wy l k x) (hb:(16384:Int)<((x.b.length:Nat):Int)):4=cP l:=
 Pz hc hx (by rw [stepT,if_neg (by rw [ha]; decide),if_neg (by rw [FD hp]; decide),if_pos hb]) (by decide)
theorem Lw (hc:eh none l=eh (eZ l k) (l.drop k)) (hx:l[k]? = some x) (ha:eB x=true) (hp:wy l k x) (hb:¬ (16384:Int)<((x.b.length:Nat):Int)):eh none l=eh (eZ l (k+1)) (l.drop (k+1)):=by
 rw [hc,Oj hx,if_pos (by rw [stepT,if_neg (by rw [ha]; decide),if_neg (by rw [FD hp]; decide),if_neg hb])];unfold eZ; rw [if_neg (by omega),Nat.add_sub_cancel,hx]
theorem DY (hc:eh none l=eh (eZ l k) (l.drop k)) (hk:l.length<=k):eh none l=0:=by
 rw [hc,aeW hk]; rfl
theorem Lp (hc:eh none l=eh (eZ l k) (l.drop k)) (hk:l.length<=k) (hs:(16384:Int)<((gZ (l.take k):Nat):Int)):4=cP l:=by
 rw [List.take_of_length_le hk] at hs; rw [cP,if_pos (DY hc hk),if_pos hs]
theorem NF (hc:eh none l=eh (eZ l k) (l.drop k)) (hk:l.length<=k) (hs:¬ (16384:Int)<((gZ (l.take k):Nat):Int)):0=cP l:=by
 rw [List.take_of_length_le hk] at hs; rw [cP,if_pos (DY hc hk),if_neg hs]
theorem SE (h:cP l=0):gZ l<=16384:=by
 unfold cP at h;split at h
 ·split at h
  ·cases h
  omega
 rename_i h0; exact absurd h h0
theorem Tv (h:cP l=0):eh none l=0:=by
 unfold cP at h;split at h
 ·assumption
 exact h
theorem Gg:∀ {l:List Field} {p:Option Field},eh p l=0->∀ x ∈ l,x.b.length<=16384
 | [],_,_,x,hx=>by cases hx
 | f :: r,p,h,x,hx=>by
  unfold eh at h;split at h
  ·rename_i hs;rcases aa_.1 hx with rfl | hx
   ·unfold stepT at hs;split at hs
    ·cases hs
    split at hs
    ·cases hs
    split at hs
    ·cases hs
    omega
   exact Gg h x hx
  rename_i hs; exact absurd h hs
theorem xw (h:cP l=0) (hx:x ∈ l):x.b.length<=16384:=Gg (Tv h) x hx
theorem I_ (hx:l[k]? = some x):((l.take k).map cz).flatten++cz x=((l.take (k+1)).map cz).flatten:=by
 rw [ai hx,List.map_append,List.flatten_append]; simp
theorem PN (l:List Field):((l.map cz).flatten).length=gZ l:=by
 unfold gZ; rw [List.length_flatten,List.map_map]; rfl
theorem KI:gZ (l.take k)<=gZ l:=by
 have:gZ l=gZ (l.take k)+gZ (l.drop k):=by unfold gZ; rw [<- List.sum_append,<- List.map_append,List.take_append_drop]
 omega
theorem Mg (h:cP l=0):((l.take k).map cz).flatten.length<=16384:=by
 have:=SE h; have:=KI (l:=l) (k:=k); rw [PN]; omega
theorem Up (h:cP l=0) (hk:l.length<=k):((l.take k).map cz).flatten=ml l:=by rw [ml,if_pos h,List.take_of_length_le hk]
theorem aaN (h:¬ cP l=0):[]=ml l:=by rw [ml,if_neg h]
theorem Ox (h:f.num<1\/1000<f.num):false=eB f:=by
 have:(decide (1<=f.num) && decide (f.num<=1000))=false:=by rw [<- Bool.not_eq_true]; simp only [Bool.and_eq_true,decide_eq_true_eq]; omega
 unfold eB; rw [this]; rfl
theorem Nq (h:¬ (f.num<1\/1000<f.num)):eB f=(if f.wire=0 then decide (((f.b.length:Nat):Int)=0) else if f.wire=2 then decide ((f.n.n:Int)=0) else false):=by
 have:(decide (1<=f.num) && decide (f.num<=1000))=true:=by simp only [Bool.and_eq_true,decide_eq_true_eq]; omega
 unfold eB; rw [this]; rfl
def bL:List Spec:=([⟨1,0,1,true,false⟩,⟨2,0,1,false,false⟩,⟨3,0,1,false,false⟩,⟨4,0,1,false,false⟩,⟨5,0,1,false,false⟩,⟨6,0,1,false,false⟩,⟨7,2,1,false,false⟩,⟨8,2,3,false,false⟩]:List Spec)
def aS (v:Int):List Spec:=if v<1\/3<v then [] else bL.filter fun s=>decide (s.since<=v)
def cT (v:Int):Int:=(aS v).foldl (fun t s=>max t s.num) 0
variable {x:Spec}
theorem MO {v:Int} (hx:bL[k]? = some x) (h:x.since<=v):(bL.take k).filter (fun s=>decide (s.since<=v))++[x]=(bL.take (k+1)).filter (fun s=>decide (s.since<=v)):=by
 rw [ai hx,List.filter_append]; simp [h]
theorem SO {v:Int} (hx:bL[k]? = some x) (h:¬ x.since<=v):(bL.take k).filter (fun s=>decide (s.since<=v))=(bL.take (k+1)).filter (fun s=>decide (s.since<=v)):=by
 rw [ai hx,List.filter_append]; simp [h]
theorem Ix {v:Int} (h:v<1\/3<v):[]=aS v:=by rw [aS,if_pos h]
theorem KE {v:Int} (h:¬ (v<1\/3<v)) (hk:bL.length<=k):(bL.take k).filter (fun s=>decide (s.since<=v))=aS v:=by rw [aS,if_neg h,List.take_of_length_le hk]
theorem NO {v:Int}:((bL.take k).filter (fun s=>decide (s.since<=v))).length<=8:=by
 have h1:=List.length_filter_le (fun s:Spec=>decide (s.since<=v)) (bL.take k);have h2:(bL.take k).length<=8:=by rw [List.length_take]; exact Nat.le_trans (Nat.min_le_right _ _) (by decide)
 omega
theorem Nr {v:Int} (hx:(aS v)[k]? = some x):max (((aS v).take k).foldl (fun t s=>max t s.num) 0) x.num=((aS v).take (k+1)).foldl (fun t s=>max t s.num) 0:=by
 rw [ai hx,List.foldl_append]; rfl
def pI (num n:Int):List Field:=if n=0 then [] else [⟨num,0,⟨n.toNat⟩,[]⟩]
def BX (num:Int) (b:List UInt8):List Field:=if 0<((b.length:Nat):Int) then [⟨num,2,⟨0⟩,b⟩] else []
def xm (c:Command):List Field:=(((((([]++pI 1 c.kind)++pI 2 c.client)++pI 3 c.seq)++pI 4 c.set)++pI 5 c.id)++pI 6 c.n)++BX 7 (eK c.chunks)
def dM (c:Command) (v:Int):List Field:=if 3<=v then xm c++BX 8 c.text.b else xm c
theorem gD (num n:Int):(pI num n).length<=1:=by unfold pI; split <;> simp
theorem Ct (num:Int) (b:List UInt8):(BX num b).length<=1:=by unfold BX; split <;> simp
variable {xs:List Field}
theorem yp (h:¬ n=0):xs++[⟨num,0,⟨n.toNat⟩,[]⟩]=xs++pI num n:=by rw [pI,if_neg h]
theorem AR (h:n=0):xs=xs++pI num n:=by rw [pI,if_pos h,adI]
variable {b:List UInt8}
theorem zA (h:0<((b.length:Nat):Int)):xs++[⟨num,2,⟨0⟩,b⟩]=xs++BX num b:=by rw [BX,if_pos h]
theorem zI (h:¬ 0<((b.length:Nat):Int)):xs=xs++BX num b:=by rw [BX,if_neg h,adI]
theorem Ci (c:Command) (v:Int):(dM c v).length<=8:=by
 have h1:=gD 1 c.kind; have h2:=gD 2 c.client; have h3:=gD 3 c.seq; have h4:=gD 4 c.set; have h5:=gD 5 c.id; have h6:=gD 6 c.n;have h7:=Ct 7 (eK c.chunks); have h8:=Ct 8 c.text.b;unfold dM xm;split <;> simp only [List.length_append,List.length_nil] <;> omega
def dL (c:Command) (rest:List Field) (v:Int):Int:=if !(cj v 1 3) then 1 else if (gv c v=false/\¬ bG c v=0) then bG c v else if rest.any (fun f=>decide (f.num<=cT v)) then 6 else 0
def fu (c:Command) (rest:List Field) (v:Int):Int:=if dL c rest v=0 then cP (dM c v++rest) else dL c rest v
def gB (c:Command) (rest:List Field) (v:Int):List UInt8:=if dL c rest v=0 then ml (dM c v++rest) else []
theorem Cr {k:Int} (h:¬ cw k=0):1<=k/\k<=12:=Decidable.byContradiction fun h2=>h (Rx h2)
theorem YD {c:Command} {v:Int} (h:gv c v=true):0<=c.kind/\0<=c.client/\0<=c.seq/\0<=c.set/\0<=c.id/\0<=c.n:=by
 unfold gv uI cj at h;simp only [Bool.and_eq_true,decide_eq_true_eq] at h;omega
theorem xl {m:Int} {b:Bool} (h:nj n m b=true):0<=n:=by
 unfold nj at h; cases b <;> simp at h <;> omega
theorem Ss {k:Int} (h:1<=k/\k<=12):0<=(uA k).1:=by
 have:k=1\/k=2\/k=3\/k=4\/k=5\/k=6\/k=7\/k=8\/k=9\/k=10\/k=11\/k=12:=by omega
 rcases this with rfl | rfl | rfl | rfl | rfl | rfl | rfl | rfl | rfl | rfl | rfl | rfl <;> decide
theorem Jt {c:Command} {v:Int} (h:bG c v=0):(1<=v/\v<=3)/\¬ cw c.kind=0/\cw c.kind<=v/\mu c=true:=by
 unfold bG at h;split at h
 ·cases h
 rename_i h1;rw [Bool.or_eq_true,not_or] at h1;simp only [aew,Bool.not_eq_false,decide_eq_true_eq] at h1;split at h
 ·cases h
 split at h
 ·cases h
 rename_i h2 h3;exact ⟨Ji h1.1,h1.2,by omega,by simpa using h3⟩
theorem Xi {c:Command} {v:Int} (h:bG c v=0):0<=c.kind/\0<=c.client/\0<=c.seq/\0<=c.set/\0<=c.id/\0<=c.n:=by
 obtain ⟨_,hn,_,hf⟩:=Jt h;have hr:=Cr hn;have hs:=Ss hr;unfold mu at hf;simp only [Bool.and_eq_true,decide_eq_true_eq] at hf;obtain ⟨⟨⟨⟨⟨⟨⟨h1,h2⟩,_⟩,_⟩,h3⟩,h4⟩,h5⟩,h6⟩:=hf;exact ⟨by omega,xl h3,xl h4,xl h5,xl h6,by omega⟩
variable {rest:List Field}
theorem agn {c:Command} {v:Int} (h:(!(cj v 1 3))=true):dL c rest v=1:=by rw [dL,if_pos h]
theorem afb {c:Command} {v:Int} (h:(!(cj v 1 3))=false) (h1:gv c v=false) (h2:¬ bG c v=0):dL c rest v=bG c v:=by rw [dL,h,if_neg (by decide),if_pos ⟨h1,h2⟩]
theorem ahB {c:Command} {v:Int} {x:Field} (h:(!(cj v 1 3))=false) (h1:gv c v=true\/bG c v=0) (hx:rest[k]? = some x) (hn:x.num<=cT v):dL c rest v=6:=by
 have:(rest.any fun f=>decide (f.num<=cT v))=true:=List.any_eq_true.2 ⟨x,acQ hx,decide_eq_true hn⟩;rw [dL,h,if_neg (by decide),if_neg (fun hh=>by rcases h1 with h1 | h1; rw [h1] at hh; cases hh.1; exact hh.2 h1),if_pos this]
theorem aim {c:Command} {v:Int} (h:(!(cj v 1 3))=false) (h1:gv c v=true\/bG c v=0) (hall:∀ j y,j<k->rest[j]? = some y->¬ y.num<=cT v) (hk:rest.length<=k):dL c rest v=0:=by
 have:(rest.any fun f=>decide (f.num<=cT v))=false:=by
  rw [List.any_eq_false];intro y hy;obtain ⟨j,hj,rfl⟩:=List.getElem_of_mem hy;have:=hall j _ (by omega) (List.getElem?_eq_getElem hj);simpa using this
 rw [dL,h,if_neg (by decide),if_neg (fun hh=>by rcases h1 with h1 | h1; rw [h1] at hh; cases hh.1; exact hh.2 h1),this,if_neg (by decide)]
theorem CN {c:Command} {v:Int} (h:dL c rest v=e) (h0:¬ e=0):e=fu c rest v:=by rw [fu,h,if_neg h0]
theorem Ce {c:Command} {v:Int} (h:dL c rest v=e) (h0:¬ e=0):[]=gB c rest v:=by rw [gB,h,if_neg h0]
theorem adh {c:Command} {v:Int} (h:dL c rest v=0):cP (dM c v++rest)=fu c rest v:=by rw [fu,if_pos h]
theorem ads {c:Command} {v:Int} (h:dL c rest v=0):ml (dM c v++rest)=gB c rest v:=by rw [gB,if_pos h]
theorem GW {z:Field} (h:∀ j y,j<k->rest[j]? = some y->¬ y.num<=t) (hz:rest[k]? = some z) (hn:¬ z.num<=t):∀ j y,j<k+1->rest[j]? = some y->¬ y.num<=t:=by
 intro j y hj hy;by_cases hjk:j=k
 ·subst hjk; rw [hz] at hy; cases hy; exact hn
 exact h j y aL hy
theorem wC (n:Nat):cY n=((List.range (a_ n)).map (mO n)).set (a_ n - 1) (mO n (a_ n - 1) &&& 127):=by unfold cY fq; simp
theorem JF:∀ m:Fin 128,(UInt8.ofNat m.val ||| 128) &&& 127=UInt8.ofNat m.val:=by decide
theorem YU:∀ m:Fin 256,(UInt8.ofNat m.val ||| 128).toNat=m.val % 128+128:=by decide +kernel
variable {n:Nat}
theorem Dr (h:n<128):cY n=[UInt8.ofNat n]:=by
 rw [wC,jO h];have:=JF ⟨n,h⟩;simp only [mO,Nat.pow_zero,Nat.div_one,List.range_one,aeV,List.map_nil,Nat.sub_self,List.set_cons_zero] at *;rw [this]
theorem abD (n:Nat):(mO n 0).toNat=n % 128+128:=by
 have e:UInt8.ofNat n=UInt8.ofNat (n % 256):=UInt8.toNat_inj.1 (by simp [UInt8.toNat_ofNat']);have:=YU ⟨n % 256,Nat.mod_lt _ (by decide)⟩;simp only [mO,Nat.pow_zero,Nat.div_one];rw [e,this]; simp only; omega
theorem O_ (h:¬ n<128):cY n=mO n 0 :: cY (n / 128):=by
 have e:∀ i,mO n (i+1)=mO (n / 128) i:=fun i=>by unfold mO; rw [Nat.pow_succ,Nat.mul_comm,<- Nat.div_div_eq_div_mul]
 have hp:=jr (n / 128);obtain ⟨s,hs⟩:∃ s,a_ (n / 128)=s+1:=⟨a_ (n / 128) - 1,by omega⟩;rw [wC,wC (n / 128),mG h,hs];simp only [Nat.add_sub_cancel];rw [List.range_succ_eq_map,aeV,List.map_map,List.set_cons_succ,e s,show mO n ∘ Nat.succ=mO (n / 128) from funext e]
def bT:Nat->Nat->List UInt8->Nat × Nat × Int
 | k,_,[]=>if 10<=k then (0,0,3) else (0,0,2)
 | k,n,x :: r=>if 10<=k then (0,0,3) else if (0<k/\x.toNat=0)\/(k=9/\1<x.toNat) then (0,0,3) else if x.toNat<128 then (n+(x &&& 127).toNat*2 ^ (7*k),k+1,0) else bT (k+1) (n+(x &&& 127).toNat*2 ^ (7*k)) r
termination_by _ _ l=>l.length
def aj (b:List UInt8):Nat × Nat × Int:=bT 0 0 b
theorem pB (x:UInt8):(x &&& 127).toNat=x.toNat % 128:=by rw [UInt8.toNat_and]; exact Nat.and_two_pow_sub_one_eq_mod x.toNat 7
variable {x:UInt8}
theorem Zq (hk:k<=9) (h:k=9->x.toNat<=1):(x &&& 127).toNat*2 ^ (7*k)<18446744073709551616:=by
 rw [pB];by_cases h9:k=9
 ·have:=h h9;subst h9;have:x.toNat % 128*2 ^ (7*9)<=1*2 ^ (7*9):=aeu _ (by omega);exact aeJ this (by decide)
 have h1:2 ^ (7*k)<=2 ^ 56:=Nat.pow_le_pow_right (by decide) (by omega);have:x.toNat % 128*2 ^ (7*k)<=127*2 ^ 56:=Nat.mul_le_mul (by omega) h1;exact aeJ this (by decide)
variable {m:Nat}
theorem ZW (h:n<2 ^ (7*k)):n ||| m*2 ^ (7*k)=n+m*2 ^ (7*k):=by
 have:=Nat.two_pow_add_eq_or_of_lt h m;rw [Nat.or_comm,Nat.mul_comm m,<- this,Nat.add_comm]
theorem QY (h:n<2 ^ (7*k)):n+(x &&& 127).toNat*2 ^ (7*k)<2 ^ (7*(k+1)):=by
 rw [pB];have e:2 ^ (7*(k+1))=128*2 ^ (7*k):=by rw [show 7*(k+1)=7*k+7 by omega,Nat.pow_add,Nat.mul_comm]
 have:x.toNat % 128*2 ^ (7*k)<=127*2 ^ (7*k):=aeu _ (by omega);rw [e]; omega
theorem aaC (hk:k<10) (hb:b.length<=k):bT k n (b.drop k)=(0,0,2):=by
 rw [aeW hb,bT,if_neg (by omega)]
theorem XF (hk:10<=k):bT k n (b.drop k)=(0,0,3):=by
 cases h:b.drop k with
 | nil=>rw [bT,if_pos hk]
 | cons x r=>rw [bT,if_pos hk]
theorem Md (hk:k<10) (hx:b[k]? = some x):bT k n (b.drop k)=if (0<k/\x.toNat=0)\/(k=9/\1<x.toNat) then (0,0,3) else if x.toNat<128 then (n+(x &&& 127).toNat*2 ^ (7*k),k+1,0) else bT (k+1) (n+(x &&& 127).toNat*2 ^ (7*k)) (b.drop (k+1)):=by
 obtain ⟨hkl,he⟩:=aaj.1 hx;rw [aeB hkl,he,bT,if_neg (by omega)]
theorem UF (h:aj b=bT k n (b.drop k)) (hk:k<10) (hx:b[k]? = some x) (h1:¬ (0<k/\x.toNat=0)) (h2:¬ (k=9/\1<x.toNat)) (h3:¬ x.toNat<128):aj b=bT (k+1) (n+(x &&& 127).toNat*2 ^ (7*k)) (b.drop (k+1)):=by
 rw [h,Md hk hx,if_neg (fun h=>h.elim h1 h2),if_neg h3]
theorem m_:∀ {l:List UInt8} {k n:Nat},k<=10->(bT k n l).2.1<=11/\(bT k n l).2.1<=k+l.length
 | [],k,n,h=>by rw [bT]; split <;> simp
 | x :: r,k,n,h=>by
  rw [bT];split
  ·simp
  split
  ·simp
  split
  ·simp; omega
  have:=m_ (l:=r) (k:=k+1) (n:=n+(x &&& 127).toNat*2 ^ (7*k)) (by omega);simp only [List.length_cons]; omega
theorem NI (h:aj b=bT k n (b.drop k)) (hk:k<10) (hx:b[k]? = some x) (h1:(0<k/\x.toNat=0)\/(k=9/\1<x.toNat)):aj b=(0,0,3):=by rw [h,Md hk hx,if_pos h1]
theorem SJ (h:aj b=bT k n (b.drop k)) (hk:k<10) (hx:b[k]? = some x) (h1:¬ (0<k/\x.toNat=0)) (h2:¬ (k=9/\1<x.toNat)) (h3:x.toNat<128):aj b=(n+(x &&& 127).toNat*2 ^ (7*k),k+1,0):=by
 rw [h,Md hk hx,if_neg (fun h=>h.elim h1 h2),if_pos h3]
theorem NW:∀ {l:List UInt8} {k n:Nat},1<=k->(bT k n l).2.2=0->2 ^ (7*k)<=(bT k n l).1
 | [],k,n,_,h=>by rw [bT] at h; split at h <;> cases h
 | x :: r,k,n,hk,h=>by
  rw [bT] at h ⊢;split
  ·rename_i h1; rw [if_pos h1] at h; cases h
  rename_i h1;rw [if_neg h1] at h;split
  ·rename_i h2; rw [if_pos h2] at h; cases h
  rename_i h2;rw [if_neg h2] at h;split
  ·rename_i h3;rw [pB];have:1<=x.toNat % 128:=by
    have:¬ x.toNat=0:=fun e=>h2 (.inl ⟨by omega,e⟩);omega
   have:=aeu (2 ^ (7*k)) this;show 2 ^ (7*k)<=n+x.toNat % 128*2 ^ (7*k);omega
  rename_i h3;rw [if_neg h3] at h;exact Nat.le_trans (Nat.pow_le_pow_right (by decide) aL) (NW aL h)
theorem Gf (x:UInt8) (r:List UInt8):aj (x :: r)=if x.toNat<128 then (x.toNat,1,0) else bT 1 (x.toNat % 128) r:=by
 unfold aj;rw [bT,if_neg (by decide),if_neg (by omega),pB];split
 ·rename_i h; rw [Nat.mod_eq_of_lt h]; simp
 simp
theorem Ap (hk:k<b.length):(b.drop k).take (b.length - k)=b[k] :: b.drop (k+1):=by
 rw [List.take_of_length_le (by simp),aeB hk]
theorem tk1 (hk:k<b.length) (he:(aj ((b.drop k).take (b.length - k))).2.2=0) (hn:¬ (64:Int)<(((aj ((b.drop k).take (b.length - k))).1:Nat):Int)) :
  ∃ x,b[k]? = some x/\aj ((b.drop k).take (b.length - k))=(x.toNat,1,0)/\x.toNat<=64:=by
 rw [Ap hk,Gf] at *;by_cases h:b[k].toNat<128
 ·rw [if_pos h] at *; exact ⟨_,List.getElem?_eq_getElem hk,rfl,by simp only at hn; omega⟩
 rw [if_neg h] at *;have:=NW (Nat.le_refl 1) he;omega
theorem tk2 (hk:k<b.length) (h:(¬ (aj ((b.drop k).take (b.length - k))).2.2=0)\/(64:Int)<(((aj ((b.drop k).take (b.length - k))).1:Nat):Int)):∃ x,b[k]? = some x/\64<x.toNat:=by
 refine ⟨b[k],List.getElem?_eq_getElem hk,?_⟩;rw [Ap hk,Gf] at h;by_cases h1:b[k].toNat<128
 ·rw [if_pos h1] at h; simp only [not_true_eq_false,false_or] at h; omega
 omega
def cH (b:List UInt8):List Int:=b.map fun x=>(x.toNat:Int)
def lj (b:List UInt8):List Int:=if cA (cH b) then cH b else []
def pU (b:List UInt8):Int:=if cA (cH b) then 0 else 6
theorem SX {p:Nat × Nat × Int} (hx:b[k]? = some x) (hp:p=(x.toNat,1,0)):cH (b.take k)++[((p.1:Nat):Int)]=cH (b.take (k+1)):=by
 subst hp; unfold cH; rw [ai hx,List.map_append]; rfl
theorem Yr (hk:k<b.length) (h:(¬ (aj ((b.drop k).take (b.length - k))).2.2=0)\/(64:Int)<(((aj ((b.drop k).take (b.length - k))).1:Nat):Int)):cA (cH b)=false:=by
 obtain ⟨x,hx,h64⟩:=tk2 hk h;rw [<- Bool.not_eq_true];intro hr;have:=(wD hr (x.toNat:Int) (List.mem_map.2 ⟨x,acQ hx,rfl⟩)).2;omega
theorem Cj (hk:b.length<=k):cH (b.take k)=cH b:=by rw [List.take_of_length_le hk]
theorem xj (h:cA (cH b)=false):[]=lj b:=by rw [lj,h]; rfl
theorem KT (h:cA (cH b)=false):6=pU b:=by rw [pU,h]; rfl
theorem QT (hk:b.length<=k) (h:cA (cH (b.take k))=true):cH (b.take k)=lj b:=by rw [Cj hk] at *; rw [lj,h]; rfl
theorem Ue (hk:b.length<=k) (h:cA (cH (b.take k))=true):0=pU b:=by rw [Cj hk] at *; rw [pU,h]; rfl
theorem CS (hk:b.length<=k) (h:cA (cH (b.take k))=false):cA (cH b)=false:=by rw [Cj hk] at h; exact h
structure TagR where
 num:Int
 wire:Int
 k:Nat
 e:Int
def CI (n:Nat):Bool:=decide ((n / 8<1\/1000<n / 8)\/(¬ n % 8=0/\¬ n % 8=2))
def aQ (b:List UInt8):TagR:=if (aj b).2.2=0 then (if CI (aj b).1=true then ⟨0,0,0,6⟩ else ⟨(((aj b).1 / 8:Nat):Int),(((aj b).1 % 8:Nat):Int),(aj b).2.1,0⟩) else ⟨0,0,0,(aj b).2.2⟩
theorem PQ (h:¬ (aj b).2.2=0):aQ b=⟨0,0,0,(aj b).2.2⟩:=by rw [aQ,if_neg h]
theorem Kq (h:(aj b).2.2=0) (h2:((aj b).1 / 8<1\/1000<(aj b).1 / 8)\/(¬ (aj b).1 % 8=0/\¬ (aj b).1 % 8=2)):aQ b=⟨0,0,0,6⟩:=by rw [aQ,if_pos h,if_pos (show CI _=true from decide_eq_true h2)]
theorem Kw (h:(aj b).2.2=0) (h2:¬ (((aj b).1 / 8<1\/1000<(aj b).1 / 8)\/(¬ (aj b).1 % 8=0/\¬ (aj b).1 % 8=2))):aQ b=⟨(((aj b).1 / 8:Nat):Int),(((aj b).1 % 8:Nat):Int),(aj b).2.1,0⟩:=by
 rw [aQ,if_pos h,if_neg (by unfold CI; simpa using h2)]
theorem qY (b:List UInt8):((aQ b).k<=11/\(aQ b).k<=b.length)/\(0<=(aQ b).num/\(aQ b).num<=1000)/\(0<=(aQ b).wire/\(aQ b).wire<=2):=by
 have hs:(aj b).2.1<=11/\(aj b).2.1<=0+b.length:=m_ (l:=b) (k:=0) (n:=0) (by omega);by_cases h:(aj b).2.2=0
 ·by_cases h2:((aj b).1 / 8<1\/1000<(aj b).1 / 8)\/(¬ (aj b).1 % 8=0/\¬ (aj b).1 % 8=2)
  ·rw [Kq h h2]; simp
  rw [Kw h h2]; dsimp only; omega
 rw [PQ h]; simp
theorem Mk:∀ {l:List UInt8} {k n:Nat},(bT k n l).2.2=0->1<=(bT k n l).2.1
 | [],k,n,h=>by rw [bT] at h; split at h <;> cases h
 | x :: r,k,n,h=>by
  rw [bT] at h ⊢;split
  ·rename_i h1; rw [if_pos h1] at h; cases h
  rename_i h1;rw [if_neg h1] at h;split
  ·rename_i h2; rw [if_pos h2] at h; cases h
  rename_i h2;rw [if_neg h2] at h;split
  ·simp
  rename_i h3; rw [if_neg h3] at h; exact Mk h
def bf (b:List UInt8):Nat × Int:=
  if (aQ b).e=0 then
    (if (aj (b.drop (aQ b).k)).2.2=0 then
      (if (aQ b).wire=0 then ((aQ b).k+(aj (b.drop (aQ b).k)).2.1,0)
       else if 16384<(aj (b.drop (aQ b).k)).1 then (0,4)
       else if ((b.length:Nat):Int) - (((aQ b).k+(aj (b.drop (aQ b).k)).2.1:Nat):Int)<(((aj (b.drop (aQ b).k)).1:Nat):Int) then (0,2)
       else ((aQ b).k+(aj (b.drop (aQ b).k)).2.1+(aj (b.drop (aQ b).k)).1,0))
     else (0,(aj (b.drop (aQ b).k)).2.2))
  else (0,(aQ b).e)
theorem agb (h:¬ (aQ b).e=0):bf b=(0,(aQ b).e):=by rw [bf,if_neg h]
theorem afA (h:(aQ b).e=0) (h2:¬ (aj (b.drop (aQ b).k)).2.2=0):bf b=(0,(aj (b.drop (aQ b).k)).2.2):=by rw [bf,if_pos h,if_neg h2]
theorem agG (h:(aQ b).e=0) (h2:(aj (b.drop (aQ b).k)).2.2=0) (h3:(aQ b).wire=0):bf b=((aQ b).k+(aj (b.drop (aQ b).k)).2.1,0):=by rw [bf,if_pos h,if_pos h2,if_pos h3]
theorem afQ (h:(aQ b).e=0) (h2:(aj (b.drop (aQ b).k)).2.2=0) (h3:¬ (aQ b).wire=0) (h4:16384<(aj (b.drop (aQ b).k)).1):bf b=(0,4):=by rw [bf,if_pos h,if_pos h2,if_neg h3,if_pos h4]
theorem afG (h:(aQ b).e=0) (h2:(aj (b.drop (aQ b).k)).2.2=0) (h3:¬ (aQ b).wire=0) (h4:¬ 16384<(aj (b.drop (aQ b).k)).1) (h5:((b.length:Nat):Int) - (((aQ b).k+(aj (b.drop (aQ b).k)).2.1:Nat):Int)<(((aj (b.drop (aQ b).k)).1:Nat):Int)):bf b=(0,2):=by rw [bf,if_pos h,if_pos h2,if_neg h3,if_neg h4,if_pos h5]
theorem aic (h:(aQ b).e=0) (h2:(aj (b.drop (aQ b).k)).2.2=0) (h3:¬ (aQ b).wire=0) (h4:¬ 16384<(aj (b.drop (aQ b).k)).1) (h5:¬ ((b.length:Nat):Int) - (((aQ b).k+(aj (b.drop (aQ b).k)).2.1:Nat):Int)<(((aj (b.drop (aQ b).k)).1:Nat):Int)):bf b=((aQ b).k+(aj (b.drop (aQ b).k)).2.1+(aj (b.drop (aQ b).k)).1,0):=by rw [bf,if_pos h,if_pos h2,if_neg h3,if_neg h4,if_neg h5]
theorem nL (b:List UInt8) (k:Nat):(aj (b.drop k)).2.1<=11/\(aj (b.drop k)).2.1+k<=max b.length k:=by
 have:=m_ (l:=b.drop k) (k:=0) (n:=0) (by omega);unfold aj;rw [List.length_drop] at this;omega
theorem Aq (b:List UInt8):(bf b).1<=b.length:=by
 have h1:=qY b; have h2:=nL b (aQ b).k;unfold bf;split
 ·split
  ·split
   ·dsimp only; omega
   split
   ·simp
   split
   ·simp
   dsimp only; omega
  simp
 simp
theorem nk (h:(bf b).2=0):1<=(bf b).1:=by
 unfold bf at h ⊢;split
 ·rename_i h0;rw [if_pos h0] at h;split
  ·rename_i h1;rw [if_pos h1] at h;have:=Mk (l:=b.drop (aQ b).k) (k:=0) (n:=0) h1;split
   ·dsimp only; unfold aj; omega
   rename_i h2;rw [if_neg h2] at h;split
   ·rename_i h3; rw [if_pos h3] at h; cases h
   rename_i h3;rw [if_neg h3] at h;split
   ·rename_i h4; rw [if_pos h4] at h; cases h
   dsimp only; unfold aj; omega
  rename_i h1; rw [if_neg h1] at h; exact absurd h h1
 rename_i h0; rw [if_neg h0] at h; exact absurd h h0
def iF (b:List UInt8):Field:=if (aQ b).wire=0 then ⟨(aQ b).num,(aQ b).wire,⟨(aj (b.drop (aQ b).k)).1⟩,[]⟩ else ⟨(aQ b).num,(aQ b).wire,⟨0⟩,b.drop ((aQ b).k+(aj (b.drop (aQ b).k)).2.1)⟩
theorem Eo (h:(aQ b).wire=0):(⟨(aQ b).num,(aQ b).wire,⟨(aj (b.drop (aQ b).k)).1⟩,[]⟩:Field)=iF b:=by rw [iF,if_pos h]
theorem Gk (h:¬ (aQ b).wire=0):(⟨(aQ b).num,(aQ b).wire,⟨0⟩,b.drop ((aQ b).k+(aj (b.drop (aQ b).k)).2.1)⟩:Field)=iF b:=by rw [iF,if_neg h]
def fU (acc:List Field) (x:Field):Bool:=match acc[acc.length - 1]? with | none=>true | some y=>fX y x
def Ao:Nat->List Field->List UInt8->List Field × Int
 | 0,acc,_=>(acc,0)
 | f+1,acc,b=>if b.length=0 then (acc,0) else if (bf b).2=0 then (if fU acc (iF (b.take (bf b).1))=true then Ao f (acc++[iF (b.take (bf b).1)]) (b.drop (bf b).1) else ([],5)) else ([],(bf b).2)
def bI (b:List UInt8):List Field × Int:=if 16384<b.length then ([],4) else Ao b.length [] b
def jb (b:List UInt8) (i:Nat) (acc:List Field):Prop:=∃ f,b.length - i<=f/\bI b=Ao f acc (b.drop i)
theorem Xd (h:16384<b.length):bI b=([],4):=by rw [bI,if_pos h]
theorem OU (h:¬ 16384<b.length):jb b 0 []:=⟨b.length,by omega,by rw [bI,if_neg h]; rfl⟩
variable {acc:List Field}
theorem Pt (h:jb b i acc) (hi:i<b.length):∃ f,b.length - i<=f+1/\bI b=if (bf (b.drop i)).2=0 then (if fU acc (iF ((b.drop i).take (bf (b.drop i)).1))=true then Ao f (acc++[iF ((b.drop i).take (bf (b.drop i)).1)]) ((b.drop i).drop (bf (b.drop i)).1) else ([],5)) else ([],(bf (b.drop i)).2):=by
 obtain ⟨f,hf,e⟩:=h;cases f with
 | zero=>omega
 | succ f=>exact ⟨f,hf,by rw [e,Ao,if_neg (by rw [List.length_drop]; omega)]⟩
theorem QF (h:jb b i acc) (hi:i<b.length) (hs:¬ (bf (b.drop i)).2=0):bI b=([],(bf (b.drop i)).2):=by
 obtain ⟨f,_,e⟩:=Pt h hi; rw [e,if_neg hs]
theorem ZY (h:jb b i acc) (hi:b.length<=i):bI b=(acc,0):=by
 obtain ⟨f,_,e⟩:=h;rw [e,aeW hi];cases f <;> rfl
theorem yS:∀ {f:Nat} {acc:List Field} {b:List UInt8},(Ao f acc b).1.length<=acc.length+b.length
 | 0,acc,b=>by simp [Ao]
 | f+1,acc,b=>by
  unfold Ao;split
  ·simp
  split
  ·rename_i h0 h1;split
   ·have:=yS (f:=f) (acc:=acc++[iF (b.take (bf b).1)]) (b:=b.drop (bf b).1);have h2:=nk h1;rw [List.length_append,List.length_drop] at this;simp only [List.length_cons,List.length_nil] at this;omega
   simp
  simp
theorem Qm (b:List UInt8):(bI b).1.length<=16384:=by
 unfold bI;split
 ·simp
 have:=yS (f:=b.length) (acc:=[]) (b:=b);simp only [List.length_nil] at this;omega
def KQ (x:Field) (s:Spec) (n:Int):Bool:=if ¬ x.wire=s.wire\/(1<n/\s.many=false) then false else if x.wire=0 then !decide ((x.n.n:Int)=0) else decide (0<((x.b.length:Nat):Int))
def iI (l:List Field) (q:Int):Nat:=l.countP fun x=>decide (x.num=q)
theorem RP (q:Int):iI (l.take k) q<=k:=Nat.le_trans List.countP_le_length (by rw [List.length_take]; exact Nat.min_le_left _ _)
variable {x:Field}
theorem LO (hx:l[k]? = some x) (q:Int):iI (l.take (k+1)) q=if q=x.num then iI (l.take k) x.num+1 else iI (l.take k) q:=by
 unfold iI;rw [ai hx,List.countP_append];by_cases h:q=x.num
 ·subst h; simp
 have:¬ x.num=q:=fun e=>h e.symm;simp [h,this]
def t_ (l:List Field) (ss:List Spec) (k:Nat):Prop:=∀ j x,j<k->l[j]? = some x->∀ s ∈ ss,s.num=x.num->KQ x s ((iI (l.take (j+1)) x.num:Nat):Int)=true
def Je (l:List Field) (ss:List Spec) (m:Nat):Prop:=∀ j y,j<m->ss[j]? = some y->y.need=true->¬ iI l y.num=0
def Oh (ss:List Spec) (x:Field) (n:Int) (m:Nat):Prop:=∀ j y,j<m->ss[j]? = some y->y.num=x.num->KQ x y n=true
variable {ss:List Spec} {n:Int}
theorem abW:Oh ss x n 0:=fun j y h=>by omega
theorem acw:t_ l ss 0:=fun j y h=>by omega
theorem ac_:Je l ss 0:=fun j y h=>by omega
def yY (l:List Field) (v:Int):Prop:=t_ l (aS v) l.length/\Je l (aS v) (aS v).length
open Classical in
noncomputable def gm (l:List Field) (v:Int):Int:=if (aS v).length=0 then 1 else if cP l=0 then (if yY l v then 0 else 6) else cP l
theorem ah3 {v:Int} (h:(aS v).length=0):1=gm l v:=by rw [gm,if_pos h]
theorem ahC {v:Int} (h:¬ (aS v).length=0) (h2:¬ cP l=0):cP l=gm l v:=by rw [gm,if_neg h,if_neg h2]
theorem ad0 {v:Int} (h:¬ (aS v).length=0) (h2:cP l=0) (h3:¬ yY l v):6=gm l v:=by rw [gm,if_neg h,if_pos h2,if_neg h3]
theorem ah5 {v:Int} (h:¬ (aS v).length=0) (h2:cP l=0) (h3:yY l v):0=gm l v:=by rw [gm,if_neg h,if_pos h2,if_pos h3]
theorem LQ {y:Spec} (h:Oh ss x n m) (hy:ss[m]? = some y) (hn:y.num=x.num->KQ x y n=true):Oh ss x n (m+1):=by
 intro j z hj hz;by_cases hjm:j=m
 ·subst hjm; rw [hy] at hz; cases hz; exact hn
 exact h j z aL hz
theorem JM (h:t_ l ss k) (hx:l[k]? = some x) (hi:Oh ss x n m) (hm:ss.length<=m) (e:n=((iI (l.take (k+1)) x.num:Nat):Int)):t_ l ss (k+1):=by
 subst e;intro j z hj hz s hs hn;by_cases hjk:j=k
 ·subst hjk; rw [hx] at hz; cases hz;obtain ⟨p,hp,rfl⟩:=List.getElem_of_mem hs;exact hi p _ aL (List.getElem?_eq_getElem hp) hn
 exact h j z aL hz s hs hn
theorem LL {y:Spec} (h:Je l ss m) (hy:ss[m]? = some y) (hn:y.need=true->¬ iI l y.num=0):Je l ss (m+1):=by
 intro j z hj hz;by_cases hjm:j=m
 ·subst hjm; rw [hy] at hz; cases hz; exact hn
 exact h j z aL hz
theorem TQ {v:Int} {y:Spec} (hx:l[k]? = some x) (hy:(aS v)[m]? = some y) (hn:y.num=x.num/\KQ x y n=false) (e:n=((iI (l.take (k+1)) x.num:Nat):Int)):¬ yY l v:=by
 intro h;have:=h.1 k x (xB hx) hx y (acQ hy) hn.1;rw [<- e,hn.2] at this; cases this
variable {n:Nat}
theorem Th {v:Int} {y:Spec} (hy:(aS v)[m]? = some y) (hn:y.need=true/\((n:Nat):Int)=0) (e:n=iI l y.num):¬ yY l v:=
 fun h=>h.2 m y (xB hy) hy hn.1 (by omega)
theorem Sf {v:Int} (h1:t_ l (aS v) k) (hk:l.length<=k) (h2:Je l (aS v) m) (hm:(aS v).length<=m):yY l v:=
 ⟨fun j x hj=>h1 j x (by omega),fun j y hj=>h2 j y (by omega)⟩
theorem Rm {v:Int} (hx:l[k]? = some x) (h:x.num<=v):(l.take k).filter (fun f=>decide (f.num<=v))++[x]=(l.take (k+1)).filter (fun f=>decide (f.num<=v)):=by
 rw [ai hx,List.filter_append]; simp [h]
theorem ZI {v:Int} (hx:l[k]? = some x) (h:¬ x.num<=v):(l.take k).filter (fun f=>decide (f.num<=v))=(l.take (k+1)).filter (fun f=>decide (f.num<=v)):=by
 rw [ai hx,List.filter_append]; simp [h]
theorem SD {v:Int} (hx:l[k]? = some x) (h:¬ x.num<=v):(l.take k).filter (fun f=>!decide (f.num<=v))++[x]=(l.take (k+1)).filter (fun f=>!decide (f.num<=v)):=by
 rw [ai hx,List.filter_append]; simp [h]
theorem aaO {v:Int} (hx:l[k]? = some x) (h:x.num<=v):(l.take k).filter (fun f=>!decide (f.num<=v))=(l.take (k+1)).filter (fun f=>!decide (f.num<=v)):=by
 rw [ai hx,List.filter_append]; simp [h]
theorem Mz (l:List Field) (p:Field->Bool):(l.filter p).length<=l.length:=List.length_filter_le _ _
def dQ (l:List Field) (v:Int):List Field:=l.filter fun f=>decide (f.num<=v)
def eD (l:List Field) (v:Int):List Field:=l.filter fun f=>!decide (f.num<=v)
theorem Tn (l:List Field) (v:Int):(dQ l v).length<=l.length:=Mz _ _
theorem Ej (l:List Field) (v:Int):(eD l v).length<=l.length:=Mz _ _
theorem Ii {v:Int} (hk:l.length<=k):(l.take k).filter (fun f=>decide (f.num<=v))=dQ l v:=by rw [List.take_of_length_le hk]; rfl
theorem KY {v:Int} (hk:l.length<=k):(l.take k).filter (fun f=>!decide (f.num<=v))=eD l v:=by rw [List.take_of_length_le hk]; rfl
def Jh (f:Field):Int:=IntKind.i64.wrap ((f.n.n:Nat):Int)
def fx (c:Command) (f:Field):Command:=
 if f.num=1 then ⟨Jh f,c.client,c.seq,c.set,c.id,c.n,c.chunks,c.text⟩ else
 if f.num=2 then ⟨c.kind,Jh f,c.seq,c.set,c.id,c.n,c.chunks,c.text⟩ else
 if f.num=3 then ⟨c.kind,c.client,Jh f,c.set,c.id,c.n,c.chunks,c.text⟩ else
 if f.num=4 then ⟨c.kind,c.client,c.seq,Jh f,c.id,c.n,c.chunks,c.text⟩ else
 if f.num=5 then ⟨c.kind,c.client,c.seq,c.set,Jh f,c.n,c.chunks,c.text⟩ else
 if f.num=6 then ⟨c.kind,c.client,c.seq,c.set,c.id,Jh f,c.chunks,c.text⟩ else
 if f.num=7 then ⟨c.kind,c.client,c.seq,c.set,c.id,c.n,lj f.b,c.text⟩ else
 if f.num=8 then ⟨c.kind,c.client,c.seq,c.set,c.id,c.n,c.chunks,⟨f.b⟩⟩ else c
def cM:Command:=⟨0,0,0,0,0,0,[],⟨[]⟩⟩
def cX (l:List Field):Command:=l.foldl fx cM
theorem dN (hx:l[k]? = some x):cX (l.take (k+1))=fx (cX (l.take k)) x:=by
 unfold cX; rw [ai hx,List.foldl_append]; rfl
theorem age {c:Command} (h:f.num=1):(⟨Jh f,c.client,c.seq,c.set,c.id,c.n,c.chunks,c.text⟩:Command)=fx c f:=by rw [fx,if_pos h]
theorem afK {c:Command} (h:f.num=2):(⟨c.kind,Jh f,c.seq,c.set,c.id,c.n,c.chunks,c.text⟩:Command)=fx c f:=by rw [fx,if_neg (by omega),if_pos h]
theorem af7 {c:Command} (h:f.num=3):(⟨c.kind,c.client,Jh f,c.set,c.id,c.n,c.chunks,c.text⟩:Command)=fx c f:=by rw [fx,if_neg (by omega),if_neg (by omega),if_pos h]
theorem aii {c:Command} (h:f.num=4):(⟨c.kind,c.client,c.seq,Jh f,c.id,c.n,c.chunks,c.text⟩:Command)=fx c f:=by rw [fx,if_neg (by omega),if_neg (by omega),if_neg (by omega),if_pos h]
theorem agA {c:Command} (h:f.num=5):(⟨c.kind,c.client,c.seq,c.set,Jh f,c.n,c.chunks,c.text⟩:Command)=fx c f:=by rw [fx,if_neg (by omega),if_neg (by omega),if_neg (by omega),if_neg (by omega),if_pos h]
theorem ahs {c:Command} (h:f.num=6):(⟨c.kind,c.client,c.seq,c.set,c.id,Jh f,c.chunks,c.text⟩:Command)=fx c f:=by rw [fx,if_neg (by omega),if_neg (by omega),if_neg (by omega),if_neg (by omega),if_neg (by omega),if_pos h]
theorem ag3 {c:Command} (h:f.num=7):(⟨c.kind,c.client,c.seq,c.set,c.id,c.n,lj f.b,c.text⟩:Command)=fx c f:=by rw [fx,if_neg (by omega),if_neg (by omega),if_neg (by omega),if_neg (by omega),if_neg (by omega),if_neg (by omega),if_pos h]
theorem air {c:Command} (h:f.num=8):(⟨c.kind,c.client,c.seq,c.set,c.id,c.n,c.chunks,⟨f.b⟩⟩:Command)=fx c f:=by rw [fx,if_neg (by omega),if_neg (by omega),if_neg (by omega),if_neg (by omega),if_neg (by omega),if_neg (by omega),if_neg (by omega),if_pos h]
theorem ahe {c:Command} (h:¬ (1<=f.num/\f.num<=8)):c=fx c f:=by rw [fx,if_neg (by omega),if_neg (by omega),if_neg (by omega),if_neg (by omega),if_neg (by omega),if_neg (by omega),if_neg (by omega),if_neg (by omega)]
noncomputable def mL (b:List UInt8) (v:Int):Int:=if (bI b).2=0 then gm (bI b).1 v else (bI b).2
structure TkR where
 c:Command
 r:List Field
 e:Int
noncomputable def cC (b:List UInt8) (v:Int):TkR:=
 if 1<=v/\v<=3 then (if mL b v=0 then (if fu (cX (dQ (bI b).1 (cT v))) (eD (bI b).1 (cT v)) v=0/\gB (cX (dQ (bI b).1 (cT v))) (eD (bI b).1 (cT v)) v=b then ⟨cX (dQ (bI b).1 (cT v)),eD (bI b).1 (cT v),0⟩ else ⟨cM,[],6⟩) else ⟨cM,[],mL b v⟩) else ⟨cM,[],1⟩
theorem agB {v:Int} (h:¬ (1<=v/\v<=3)):cC b v=⟨cM,[],1⟩:=by rw [cC,if_neg h]
theorem acz {v:Int} (h:1<=v/\v<=3) (h2:¬ mL b v=0):cC b v=⟨cM,[],mL b v⟩:=by rw [cC,if_pos h,if_neg h2]
theorem afr {v:Int} (h:1<=v/\v<=3) (h2:mL b v=0) (h3:¬ fu (cX (dQ (bI b).1 (cT v))) (eD (bI b).1 (cT v)) v=0\/¬ gB (cX (dQ (bI b).1 (cT v))) (eD (bI b).1 (cT v)) v=b):cC b v=⟨cM,[],6⟩:=by
 rw [cC,if_pos h,if_pos h2,if_neg (fun h=>h3.elim (fun h4=>h4 h.1) (fun h4=>h4 h.2))]
theorem afZ {v:Int} (h:1<=v/\v<=3) (h2:mL b v=0) (h3:fu (cX (dQ (bI b).1 (cT v))) (eD (bI b).1 (cT v)) v=0/\gB (cX (dQ (bI b).1 (cT v))) (eD (bI b).1 (cT v)) v=b):cC b v=⟨cX (dQ (bI b).1 (cT v)),eD (bI b).1 (cT v),0⟩:=by
 rw [cC,if_pos h,if_pos h2,if_pos h3]
theorem Sc {v:Int} (h:mL b v=0):(bI b).2=0/\cP (bI b).1=0:=by
 unfold mL at h;split at h
 ·rename_i h1;refine ⟨h1,?_⟩;unfold gm at h;split at h
  ·cases h
  split at h
  ·assumption
  exact h
 rename_i h1; exact absurd h h1
theorem aa0 {v:Int} {u:Int} (h:mL b v=0):∀ f ∈ dQ (bI b).1 u,f.b.length<=16384:=
 fun _ hf=>xw (Sc h).2 (List.mem_filter.1 hf).1
variable {x:UInt8}
theorem Hk (h:x.toNat<128):(x &&& 127).toNat=x.toNat:=by rw [pB]; omega
theorem It:∀ (n:Nat) {k m:Nat} {r:List UInt8},k<=9->n*2 ^ (7*k)<18446744073709551616->(0<k->n≠0)->bT k m (cY n++r)=(m+n*2 ^ (7*k),k+(cY n).length,0):=by
 intro n;induction n using Nat.strongRecOn with
 | _ n ih=>
  intro k m r hk hn h0;by_cases hs:n<128
  ·rw [Dr hs];have hx:(UInt8.ofNat n).toNat=n:=by rw [UInt8.toNat_ofNat']; omega
   simp only [List.cons_append,aiD,List.length_cons,List.length_nil];have h9:¬ ((0<k/\(UInt8.ofNat n).toNat=0)\/(k=9/\1<(UInt8.ofNat n).toNat)):=by
    rw [hx];rintro (⟨h1,h2⟩ | ⟨rfl,h2⟩)
    ·exact h0 h1 h2
    have:2*2 ^ (7*9)<=n*2 ^ (7*9):=aeu _ (by omega);have e:(2:Nat)*2 ^ (7*9)=18446744073709551616:=by decide
    omega
   rw [bT,if_neg (by omega),if_neg h9,if_pos (by omega),Hk (by omega),hx]
  rw [O_ hs];simp only [List.cons_append,List.length_cons];have hx:=abD n;have hk8:k<=8:=by
   rcases Nat.lt_or_ge k 9 with h | h
   ·omega
   have hk9:k=9:=by omega
   subst hk9;have:128*2 ^ (7*9)<=n*2 ^ (7*9):=aeu _ (by omega);have e:(128:Nat)*2 ^ (7*9)=1180591620717411303424:=by decide
   omega
  have e7:(2:Nat) ^ (7*(k+1))=128*2 ^ (7*k):=by rw [show 7*(k+1)=7*k+7 by omega,Nat.pow_add,Nat.mul_comm]
  have hd:n / 128*2 ^ (7*(k+1))<=n*2 ^ (7*k):=by
   rw [e7,<- Nat.mul_assoc]; exact aeu _ (Nat.div_mul_le_self _ _)
  rw [bT,if_neg (by omega),if_neg (by rw [hx]; rintro (⟨_,h⟩ | ⟨h,_⟩) <;> omega),if_neg (by omega),pB,hx];rw [ih (n / 128) (by omega) (k:=k+1) (by omega) (by omega) (fun _=>by omega)];have e:(n % 128+128) % 128=n % 128:=by omega
  have e2:n % 128*2 ^ (7*k)+n / 128*2 ^ (7*(k+1))=n*2 ^ (7*k):=by
   rw [e7,<- Nat.mul_assoc,<- ahX]; congr 1; omega
  rw [e,Nat.add_assoc,e2];congr 2;omega
theorem wj (h:n<18446744073709551616) (r:List UInt8):aj (cY n++r)=(n,(cY n).length,0):=by
 unfold aj;rw [It n (by omega) (by simpa using h) (fun h=>absurd h (by omega))];simp
theorem tvX (hx:b[k]? = some x):b.getD k (au .u8)=x:=by rw [List.getD_eq_getElem?_getD,hx]; rfl
theorem tvA (h:aj b=bT k n (b.drop k)) (hk:(k:Int)<10) (hb:(k:Int)=(b.length:Int)):aj b=(0,0,2):=h.trans (aaC (by omega) (by omega))
theorem tvD (h:aj b=bT k n (b.drop k)) (hk:10<=(k:Int)):aj b=(0,0,3):=h.trans (XF (by omega))
theorem tvG (h1:k<=b.length) (h2:¬ (k:Int)=(b.length:Int)):∃ x,b[k]? = some x:=⟨_,List.getElem?_eq_getElem (by omega)⟩
theorem tvB (h:aj b=bT k n (b.drop k)) (hk:(k:Int)<10) (hl:k<=b.length) (hb:¬ (k:Int)=(b.length:Int)) (h0:0<(k:Int)) (h1:((b.getD k (au .u8)).toNat:Int)=((UInt8.ofNat 0).toNat:Int)):aj b=(0,0,3):=by
 obtain ⟨x,hx⟩:=tvG hl hb;rw [tvX hx,show (UInt8.ofNat 0).toNat=0 from rfl] at h1;exact NI h aL hx (.inl ⟨by omega,by omega⟩)
theorem tvC (h:aj b=bT k n (b.drop k)) (_hk:(k:Int)<10) (hl:k<=b.length) (hb:¬ (k:Int)=(b.length:Int)) (h0:(k:Int)=9) (h1:((UInt8.ofNat 1).toNat:Int)<((b.getD k (au .u8)).toNat:Int)):aj b=(0,0,3):=by
 obtain ⟨x,hx⟩:=tvG hl hb;rw [tvX hx,show (UInt8.ofNat 1).toNat=1 from rfl] at h1;exact NI h aL hx (.inr ⟨by omega,by omega⟩)
def Zw (n k:Nat) (x:UInt8):Nat:=n ||| (x &&& UInt8.ofNat 127).toNat*2 ^ (7*(k:Int)).toNat % 18446744073709551616
theorem tvN (hn:n<2 ^ (7*k)) (hk:k<=9) (h9:k=9->x.toNat<=1):Zw n k x=n+(x &&& 127).toNat*2 ^ (7*k):=by
 unfold Zw;rw [show (UInt8.ofNat 127)=127 from rfl,show (7*(k:Int)).toNat=7*k by omega,Nat.mod_eq_of_lt (Zq hk h9)];exact ZW hn
theorem tvZ (hx:b[k]? = some x) (h1:(k:Int)<=0\/¬ ((b.getD k (au .u8)).toNat:Int)=((UInt8.ofNat 0).toNat:Int)) (h2:¬ (k:Int)=9\/((b.getD k (au .u8)).toNat:Int)<=((UInt8.ofNat 1).toNat:Int)):(¬ (0<k/\x.toNat=0))/\¬ (k=9/\1<x.toNat):=by
 rw [tvX hx,show (UInt8.ofNat 0).toNat=0 from rfl] at h1;rw [tvX hx,show (UInt8.ofNat 1).toNat=1 from rfl] at h2;omega
theorem tvE {y:UInt8} (h:aj b=bT k n (b.drop k)) (hn:n<2 ^ (7*k)) (hk:(k:Int)<10) (hx:b[k]? = some x) (hy:b[k]? = some y) (h1:(k:Int)<=0\/¬ ((b.getD k (au .u8)).toNat:Int)=((UInt8.ofNat 0).toNat:Int)) (h2:¬ (k:Int)=9\/((b.getD k (au .u8)).toNat:Int)<=((UInt8.ofNat 1).toNat:Int)) (h3:(y.toNat:Int)<((UInt8.ofNat 128).toNat:Int)):aj b=(Zw n k x,k+1,0):=by
 have hz:=tvZ hx h1 h2;rw [show (UInt8.ofNat 128).toNat=128 from rfl] at h3;rw [hx] at hy; cases hy;rw [tvN hn (by omega) (by omega)];exact SJ h aL hx hz.1 hz.2 aL
theorem tvF {y:UInt8} (h:aj b=bT k n (b.drop k)) (hn:n<2 ^ (7*k)) (hn2:n<18446744073709551616) (hk:(k:Int)<10) (hx:b[k]? = some x) (hy:b[k]? = some y) (h1:(k:Int)<=0\/¬ ((b.getD k (au .u8)).toNat:Int)=((UInt8.ofNat 0).toNat:Int)) (h2:¬ (k:Int)=9\/((b.getD k (au .u8)).toNat:Int)<=((UInt8.ofNat 1).toNat:Int)) (h3:((UInt8.ofNat 128).toNat:Int)<=(y.toNat:Int)):Zw n k x<2 ^ (7*(k+1))/\Zw n k x<18446744073709551616/\aj b=bT (k+1) (Zw n k x) (b.drop (k+1)):=by
 have hz:=tvZ hx h1 h2;rw [show (UInt8.ofNat 128).toNat=128 from rfl] at h3;rw [hx] at hy; cases hy;have e:=tvN hn (show k<=9 by omega) (show k=9->x.toNat<=1 by omega);refine ⟨by rw [e]; exact QY hn,?_,by rw [e]; exact UF h (by omega) hx hz.1 hz.2 (by omega)⟩;unfold Zw;exact Nat.or_lt_two_pow (n:=64) hn2 (Nat.mod_lt _ (by decide))
variable {x:Int}
theorem aec {c:Command} {v:Int} (hx:[c.client,c.seq,c.set,c.id,c.n][k]? = some x) (h:x<0\/1048576<x):false=gv c v:=by
 refine Sj ?_;match k,hx with
 | 0,hx=>cases hx; exact .inl h
 | 1,hx=>cases hx; exact .inr (.inl h)
 | 2,hx=>cases hx; exact .inr (.inr (.inl h))
 | 3,hx=>cases hx; exact .inr (.inr (.inr (.inl h)))
 | 4,hx=>cases hx; exact .inr (.inr (.inr (.inr h)))
theorem adH {c:Command} (h:(k:Int)<5):[c.client,c.seq,c.set,c.id,c.n][k]? = some ([c.client,c.seq,c.set,c.id,c.n].getD k (au .int)):=by
 rw [List.getD_eq_getElem?_getD,List.getElem?_eq_getElem (by simp only [List.length_cons,List.length_nil]; omega)]; rfl
theorem adA {n:Int} {p:Prop} (h:n<=0\/p):(¬ 0<n)\/p:=h.imp_left (by omega)
theorem ahA {l:List Int} (h:((l.take k).all fun n=>cj n 0 1048576)=true) (hx:l[k]? = some x) (h0:0<=x) (h1:x<=1048576):((l.take (k+1)).all fun n=>cj n 0 1048576)=true:=by
 rw [ai hx,agZ,h]; simp [cj]; omega
theorem adx {c:Command} (h:(([c.client,c.seq,c.set,c.id,c.n].take k).all fun n=>cj n 0 1048576)=true) (hk:5<=(k:Int)):¬ ((c.client<0\/1048576<c.client)\/(c.seq<0\/1048576<c.seq)\/(c.set<0\/1048576<c.set)\/(c.id<0\/1048576<c.id)\/(c.n<0\/1048576<c.n)):=by
 rw [List.take_of_length_le (by simp only [List.length_cons,List.length_nil]; omega)] at h;simp only [agr,List.all_nil,cj,Bool.and_eq_true,decide_eq_true_eq] at h;omega
def Xc (b:List UInt8):List (Nat × LI):=[(3,{ σ:=Nat × Nat,F:=fun s=>([(0,one (.fz .u8 (b))),(5,one (.u64 s.2)),(6,one (.int 0)),(7,one (.int 3)),(9,one (.int s.1))],[]),J:=fun s=>s.1<=10/\s.2<2 ^ (7*s.1)/\s.2<18446744073709551616/\aj b=bT s.1 s.2 (b.drop s.1)/\s.1<=b.length,μ:=fun s=>10 - s.1 })]
def HK (c:Command) (v:Int):List (Nat × LI):=[(5,{ σ:=Nat,F:=fun k=>([(1,one (.int (v))),(2,one (.ptr 0 0)),(38,.one (.agg [.int c.client,.int c.seq,.int c.set,.int c.id,.int c.n])),(39,one (.int k))],[.box 35 (cellsOf (.nm .command) (c))]),J:=fun k=>k<=5/\([c.client,c.seq,c.set,c.id,c.n].take k).all (fun n=>cj n 0 1048576)=true,μ:=fun k=>5 - k })]
def Fo:Kn:=aK (ae (kC (cL .u8)) ao) aw fun (b,_) _=>⟨[],[.c (.u64 ((U64.mk (aj b).1)).n),.c (.int ((((aj b).2.1:Nat)))),.c (.int (((aj b).2.2)))],none,false⟩
theorem Qu:CK 210 Fo:=ag fun (b,_) _ _=>by
 refine av dA (Xc b) Tryz.func210 (?_:(fun (q14:UInt8)=>(fun (q13:Nat)=>(fun (q12:Nat)=>(fun (q11:Nat)=>(fun (q10:Int)=>(fun (q9:Nat)=>(fun (q8:Int)=>(fun (q7:Int)=>(fun (q6:Int)=>(fun (q5:Int)=>(fun (q4:Int)=>(fun (q3:Prop)=>(fun (q2:Int)=>(fun (q1:Int)=>(fun (q0:Int)=>(fun (q18:Prop)=>(fun (q17:Prop)=>(fun (q16:Prop)=>(fun (q15:Prop)=>b.length*1<=140737488355328->∃ (s0:Nat × Nat),(b=b/\0=s0.snd/\q17/\q4=q4/\q0=(↑s0.fst:Int))/\(s0.fst<=q12/\s0.snd<q11 ^ (7*s0.fst)/\s0.snd<q13/\aj b=bT s0.fst s0.snd (List.drop s0.fst b)/\s0.fst<=b.length)/\∀ (s:Nat × Nat),(fun (q23:Nat)=>(fun (q22:Int)=>(fun (q21:Prop)=>(fun (q20:Int)=>(fun (q25:Int)=>(fun (q24:Int)=>(fun (q19:Prop)=>q23<=q12/\s.snd<q11 ^ (7*q23)/\s.snd<q13/\aj b=bT q23 s.snd (List.drop q23 b)/\q23<=b.length->(q20<10->(q20=q5->(¬2=q0->q3/\q0=q1/\2=q2)/\(2=q0->s.snd=q9/\q15))/\(¬q20=q5->(q0<q20->q0<=q20/\q20<q5)/\(q0<q20/\q22=q6->(q0<q20/\q22=q6->q21)/\(q20<=q0\/¬q22=q6->q19))/\(q20<=q0\/¬q22=q6->(q20=9->q0<=q20/\q20<q5)/\(q20=9/\(↑(UInt8.ofNat 1).toNat:Int)<q22->q21)/\(¬q20=9\/q22<=(↑(UInt8.ofNat 1).toNat:Int)->q19))))/\(10<=q20->q21)) (q0<=q20/\q20<q5/\∀ (x:UInt8),b[q23]? = some x->I64 q24/\q0<=q24/\q24<64/\q0<=q20/\q20<q5/\∀ (x_1:UInt8),b[q23]? = some x_1->((↑x_1.toNat:Int)<q7->I64 q25/\(¬q17->q3/\q15)/\(q17->s.snd ||| (x &&& q14).toNat*q11 ^ q24.toNat % q13=q9/\q25=q1/\q0=q2))/\(q7<=(↑x_1.toNat:Int)->I64 q25/\∃ (s':Nat × Nat),(b=b/\s.snd ||| (x &&& q14).toNat*q11 ^ q24.toNat % q13=s'.snd/\q17/\q4=q4/\q25=(↑s'.fst:Int))/\(s'.fst<=q12/\s'.snd<q11 ^ (7*s'.fst)/\s'.snd<q13/\aj b=bT s'.fst s'.snd (List.drop s'.fst b)/\s'.fst<=b.length)/\q12 - s'.fst<q12 - q23))) (q8*q20)) (q20+q10)) (↑q23:Int)) ((¬q18->q16)/\(q18->s.snd=q9/\q15))) (↑(UInt8.toNat (b.getD q23 (au Sh.u8))):Int)) s.fst) (q0=q1/\q0=q2)) (q3/\q0=q1/\q4=q2)) (q0=q0)) (q4=q0)) 0) (↑(aj b).snd.fst:Int)) (aj b).snd.snd) (0=q9)) 3) (↑b.length:Int)) (↑(UInt8.ofNat 0).toNat:Int)) (↑(UInt8.ofNat 128).toNat:Int)) 7) (aj b).fst) 1) 2) 10) 18446744073709551616) (UInt8.ofNat 127));(repeat' with_reducible first|apply aZ|refine aY ?_|intro)
 all_goals try (first | exact bt | decide)
 all_goals (refine ⟨(0,0),⟨rfl,rfl,?_,?_,?_⟩,⟨by omega,by decide,by decide,rfl,by omega⟩,?_⟩)
 all_goals try (first | trivial | rfl)
 (repeat' with_reducible first|apply aZ|refine aY ?_|intro)
 all_goals try (first | exact bt | (rw [tvA ab ab ab] <;> rfl) | (rw [tvD ab ab] <;> rfl) | (rw [tvB ab ab ab ab ab ab] <;> rfl) | (rw [tvC ab ab ab ab ab ab] <;> rfl) | exact (congrArg Prod.fst (tvE ab ab ab ab ab ab ab ab)).symm | exact (congrArg (fun t=>((t.2.1:Nat):Int)) (tvE ab ab ab ab ab ab ab ab)).symm | exact (congrArg (fun t=>t.2.2) (tvE ab ab ab ab ab ab ab ab)).symm)
 all_goals (refine ⟨(‹Nat × Nat›.1+1,_),⟨rfl,rfl,?_⟩,?_⟩; (repeat' with_reducible first|apply aZ|refine aY ?_|intro))
 all_goals (first | exact bt | exact (tvF ab ab ab ab ab ab ab ab ab).1 | exact (tvF ab ab ab ab ab ab ab ab ab).2.1 | exact (tvF ab ab ab ab ab ab ab ab ab).2.2)
def Ax:Kn:=aK (ae (kT (.nm .field)) (ae (kT (.nm .field)) ao)) aw fun (x,y,_) _=>⟨[],[.c (.bool (.atom ((fX x y))))],none,false⟩
theorem Ku:CK 256 Ax:=ag fun (x,y,_) _ _=>by
 refine av dA [] Tryz.func256 (?_:I64 x.num->I64 x.wire->x.n.n<18446744073709551616->x.b.length*1<=140737488355328->I64 y.num->I64 y.wire->y.n.n<18446744073709551616->y.b.length*1<=140737488355328->(y.num=x.num->(decide (y.wire=2) && decide (x.wire=2))=fX x y)/\(¬y.num=x.num->decide (x.num<y.num)=fX x y));grind [fX]
def Bu:Kn:=aK (ae (kT (.nm .field)) ao) aw fun (x,_) _=>⟨[],[.c (.bool (.atom ((eB x))))],none,false⟩
theorem OP:CK 255 Bu:=ag fun (x,_) _ _=>by
 refine av dA [] Tryz.func255 (?_:I64 x.num->I64 x.wire->x.n.n<(18446744073709551616:Nat)->x.b.length*(1:Nat)<=(140737488355328:Nat)->(x.num<(1:Int)\/(1000:Int)<x.num->false=eB x)/\((1:Int)<=x.num/\x.num<=(1000:Int)->(x.wire=(0:Int)->decide ((↑x.b.length:Int)=(0:Int))=eB x)/\(¬x.wire=(0:Int)->(x.wire=(2:Int)->decide ((↑x.n.n:Int)=(↑(0:Nat):Int))=eB x)/\(¬x.wire=(2:Int)->false=eB x))));grind [eB,Ox,Nq]
def BA:Kn:=aK (ae (kC (cL .u8)) (ae (kC (cL .u8)) ao)) aw fun (x,y,_) _=>⟨[],[.c (.bool (.atom ((decide (x=y)))))],none,false⟩
theorem Pe:CK 146 BA:=ag fun (x,y,_) _ _=>by
 refine av dA [] Tryz.func146 (?_:x.length*1<=140737488355328->y.length*1<=140737488355328->decide (Str.mk x=Str.mk y)=decide (x=y));grind
def AT:Kn:=aK (ae (kC (cL .u8)) ao) aw fun (x,_) _=>⟨[],[.c (.fz .u8 ((x)))],none,false⟩
theorem ON:CK 332 AT:=ag fun (x,_) _ _=>by
 refine av dA [] Tryz.func332 (?_:(fun q0=>q0->∀ (b:Bool),(b=true->x=[])->(b=true->x=[])/\(b=false->q0/\x=x)) (x.length*1<=140737488355328));grind
def Vt:Kn:=aK (ae (kC cI) (ae (kC cI) ao)) aw fun (k,l,_) _=>⟨[],[.agg (cellsOf (.nm .spec) (⟨k,0,l,false,false⟩))],none,false⟩
theorem abB:CK 271 Vt:=ag fun (k,l,_) _ _=>by
 refine av dA [] Tryz.func271 (?_:I64 k->I64 l->k=k/\(0:Int)=0/\l=l/\false=false/\false=false);grind
def Wd:Kn:=aK (ae (kC cI) (ae (kC cI) ao)) aw fun (k,l,_) _=>⟨[],[.agg (cellsOf (.nm .spec) (⟨k,2,l,false,false⟩))],none,false⟩
theorem acZ:CK 272 Wd:=ag fun (k,l,_) _ _=>by
 refine av dA [] Tryz.func272 (?_:I64 k->I64 l->k=k/\(2:Int)=2/\l=l/\false=false/\false=false);grind
def Vg:Kn:=aK (ae (kT (.nm .spec)) ao) aw fun (x,_) _=>⟨[],[.agg (cellsOf (.nm .spec) ({ x with need:=true }))],none,false⟩
theorem acR:CK 273 Vg:=ag fun (x,_) _ _=>by
 refine av dA [] Tryz.func273 (?_:mT x (x.num=x.num/\x.wire=x.wire/\x.since=x.since/\true=true/\x.many=x.many));grind
def Ws:Kn:=aK (ae (kT (.nm .spec)) ao) aw fun (x,_) _=>⟨[],[.agg (cellsOf (.nm .spec) ({ x with many:=true }))],none,false⟩
theorem adu:CK 274 Ws:=ag fun (x,_) _ _=>by
 refine av dA [] Tryz.func274 (?_:mT x (x.num=x.num/\x.wire=x.wire/\x.since=x.since/\x.need=x.need/\true=true));grind
def Lz:Kn:=aK (ae (kT (.nm .field)) (ae (kT (.nm .spec)) (ae (kC cI) ao))) aw fun (x,s,n,_) _=>⟨[],[.c (.bool (.atom ((KQ x s n))))],none,false⟩
theorem aaS:CK 331 Lz:=ag fun (x,s,n,_) _ _=>by
 refine av dA [] Tryz.func331 (?_:I64 x.num->I64 x.wire->x.n.n<(18446744073709551616:Nat)->x.b.length*(1:Nat)<=(140737488355328:Nat)->mT s (I64 n->(¬x.wire=s.wire\/(1:Int)<n/\s.many=false->false=KQ x s n)/\(x.wire=s.wire/\(n<=(1:Int)\/s.many=true)->(x.wire=(0:Int)->(!decide ((↑x.n.n:Int)=(↑(0:Nat):Int)))=KQ x s n)/\(¬x.wire=(0:Int)->decide ((0:Int)<(↑x.b.length:Int))=KQ x s n))));grind [KQ]
def MD:Kn:=aK (ae (kC cI) (ae (kC cI) ao)) aw fun (num,wire,_) _=>⟨[],[.c (.own 0),.c (.int ((A_ num wire)))],some ([.row 5 .u8 ((nP num wire))]),true⟩
theorem Xx:CK 257 MD:=ag fun (num,wire,_) _ _=>by
 refine dD dA [] Tryz.func257 (?_:(fun q0=>I64 num->I64 wire->((num<1\/1000<num)\/¬wire=0/\¬wire=2->1=A_ num wire/\nP num wire=[])/\((1<=num/\num<=1000)/\(wire=0\/wire=2)->I64 (8*num)/\I64 q0/\0<=q0/\0=A_ num wire/\cY q0.toNat=nP num wire)) (8*num+wire));(repeat' with_reducible first|apply aZ|refine aY ?_|intro)
 all_goals (first | exact bt | exact (UC aL) | exact (Kg aL) | exact (Ff aL).symm | exact (Ff aL) | exact (JE aL))
def sL:Kn:=aK (ae (kT (.nm .command)) (ae (kC cI) ao)) aw fun (c,v,_) _=>⟨[],[.c (.bool (.atom ((gv c v))))],none,false⟩
theorem Cz:CK 160 sL:=ag fun (c,v,_) _ _=>by
 refine av dA (HK c v) Tryz.func160 (?_:(fun (q5:Prop)=>(fun (q4:Nat)=>(fun (q3:Int)=>(fun (q2:Int)=>(fun (q1:List Int)=>(fun (q0:List (den Sh.int))=>bB c (I64 v->I64 q3->((c.kind<1\/99<c.kind)\/¬q3=q2/\q3<=v->q5)/\((1<=c.kind/\c.kind<=99)/\(q3=q2\/v<q3)->∃ (s0:Nat),(v=v/\c.client=c.client/\c.seq=c.seq/\c.set=c.set/\c.id=c.id/\c.n=c.n/\q2=(↑s0:Int)/\aP c c)/\(s0<=q4/\((List.take s0 q1).all fun (n:Int)=>cj n q2 1048576)=true)/\∀ (s:Nat),(fun (q6:den Sh.int)=>s<=q4/\((List.take s q1).all fun (n:Int)=>cj n q2 1048576)=true->((↑s:Int)<5->q2<=(↑s:Int)/\(↑s:Int)<(↑q4:Int)/\(I64 q6->(q6<q2\/1048576<q6->q5)/\(q2<=q6/\q6<=1048576->I64 ((↑s:Int)+1)/\∃ (s':Nat),(v=v/\c.client=c.client/\c.seq=c.seq/\c.set=c.set/\c.id=c.id/\c.n=c.n/\(↑s:Int)+1=(↑s':Int)/\aP c c)/\(s' <= q4/\((List.take s' q1).all fun (n:Int)=>cj n q2 1048576)=true)/\q4 - s' < q4 - s)))/\(5<=(↑s:Int)->(q2<(↑c.chunks.length:Int)/\cA c.chunks=false->q5)/\((↑c.chunks.length:Int)<=q2\/cA c.chunks=true->(v<3->decide (c.text=Str.mk [])=gv c v)/\(3<=v->decide ((↑c.text.b.length:Int)<=16)=gv c v)))) (q0.getD s (au Sh.int))))) [c.client,c.seq,c.set,c.id,c.n]) [c.client,c.seq,c.set,c.id,c.n]) 0) (cw c.kind)) 5) (false=gv c v));iterate 3 ((all_goals (repeat' with_reducible first|apply aZ|refine aY ?_|intro)); (all_goals try (first | exact bt | exact rfl | exact (Og aL) | exact (aec (adH aL) ab) | exact (ahA ab (adH aL) ab ab) | exact (Ul (And.intro ab ab)) | exact (ZR aL (adx ab aL) (adA (by assumption)) aL) | exact (Yb aL (adx ab aL) (adA (by assumption)) aL))); all_goals try first | refine ⟨‹Nat› + 1,?_⟩ | refine ⟨0,?_⟩)
def ad7:bN:=(aO 160 sL (aO 257 MD (aO 331 Lz (aO 274 Ws (aO 273 Vg (aO 272 Wd (aO 271 Vt (aO 332 AT (aO 146 BA (aO 255 Bu (aO 256 Ax (aO 210 Fo Vd))))))))))))
theorem oz:ay Tryz.prog (al tyT) ad7:=(ah Cz (ah Xx (ah aaS (ah adu (ah acR (ah acZ (ah abB (ah ON (ah Pe (ah OP (ah Ku (ah Qu dA))))))))))))
theorem nz (h:m<9223372036854775808):eX m=(m:Int):=by rw [eX,if_pos h]
theorem EK:(b.drop k).take (b.length - k)=b.drop k:=List.take_of_length_le (by rw [List.length_drop]; exact Nat.le_refl _)
theorem uk1 (hk:(k:Int)<(b.length:Int)) (he:(aj (b.drop k)).2.2=0) (hn:(((aj (b.drop k)).1:Nat):Int)<=((64:Nat):Int)):∃ x,b[k]? = some x/\aj (b.drop k)=(x.toNat,1,0)/\x.toNat<=64:=by
 have h:=tk1 (b:=b) (k:=k) (by omega) (by rw [EK]; exact he) (by rw [EK]; omega);rw [EK] at h; exact h
theorem ukS (hk:(k:Int)<(b.length:Int)) (he:(aj (b.drop k)).2.2=0) (hn:(((aj (b.drop k)).1:Nat):Int)<=((64:Nat):Int)):(k:Int)+((aj (b.drop k)).2.1:Nat)=((k+1:Nat):Int)/\cH (b.take k)++[eX (aj (b.drop k)).1]=cH (b.take (k+1)):=by
 obtain ⟨x,hx,hp,h64⟩:=uk1 hk he hn;have h:=SX hx hp;rw [hp] at h ⊢;exact ⟨rfl,by rw [<- h,nz (by show x.toNat<_; omega)]⟩
theorem ukR (hk:(k:Int)<(b.length:Int)) (h:(¬ (aj (b.drop k)).2.2=0)\/((64:Nat):Int)<(((aj (b.drop k)).1:Nat):Int)):cA (cH b)=false:=Yr (k:=k) (by omega) (by rw [EK]; exact h)
theorem aan (h:k<=b.length) (hb:b.length<=100000):((cH (b.take k)).length+1)*8<=140737488355328:=by
 unfold cH; rw [List.length_map,List.length_take]; omega
def acu (b:List UInt8):List (Nat × LI):=[(3,{ σ:=Nat,F:=fun k=>([(0,one (.fz .u8 (b))),(4,one (.own 0)),(5,one (.int k))],[.row 3 .int ((cH (b.take k)))]),J:=fun k=>k<=b.length,μ:=fun k=>b.length - k })]
def Ng:Kn:=aK (ae (kC (cL .u8)) ao) aw fun (b,_) _=>⟨[],[.c (.int (((aQ b).num))),.c (.int (((aQ b).wire))),.c (.int ((((aQ b).k:Nat)))),.c (.int (((aQ b).e)))],none,false⟩
theorem aaz:CK 355 Ng:=ag fun (b,_) _ _=>by
 refine av oz [] Tryz.func355 (?_:(fun (q6:Int)=>(fun (q5:Int)=>(fun (q4:TagR)=>(fun (q3:Int)=>(fun (q2:Prop)=>(fun (q1:Nat)=>(fun (q7:Prop)=>(fun (q0:Int)=>(fun (q8:Prop)=>b.length*(1:Nat)<=(140737488355328:Nat)->(aj b).fst<(18446744073709551616:Nat)->I64 (↑(aj b).snd.fst:Int)->I64 q5->(¬q5=q3->q3=q4.num/\q3=q4.wire/\q3=(↑q4.k:Int)/\q5=q4.e)/\(q5=q3->q2/\(q6<=q0->q2)/\(q8->q2/\(¬q7->q2))/\((q0<q6\/(↑(1000:Nat):Int)<q0)\/¬q7/\¬(↑q1:Int)=(↑(2:Nat):Int)->q3=q4.num/\q3=q4.wire/\q3=(↑q4.k:Int)/\(6:Int)=q4.e)/\(q8/\(q7\/(↑q1:Int)=(↑(2:Nat):Int))->q2/\q2/\eX ((aj b).fst / (8:Nat))=q4.num/\eX q1=q4.wire/\(↑(aj b).snd.fst:Int)=(↑q4.k:Int)/\q3=q4.e))) (q6<=q0/\q0<=(↑(1000:Nat):Int))) (↑((aj b).fst / (8:Nat)):Int)) ((↑q1:Int)=(↑(0:Nat):Int))) ((aj b).fst % (8:Nat))) ((0:Nat)<(8:Nat))) (0:Int)) (aQ b)) (aj b).snd.snd) (↑(1:Nat):Int));(repeat' with_reducible first|apply aZ|refine aY ?_|intro)
 all_goals (first | exact bt | (rw [PQ ab] <;> rfl) | (rw [Kq ab aL] <;> rfl) | (rw [Kw ab aL] <;> first | rfl | exact nz aL) | (have:=(m_ (l:=b) (k:=0) (n:=0) aL).1; change (aj b).2.1<=11 at this; omega))
def Js:Kn:=aK (ae (kT (.nm .field)) ao) aw fun (f,_) _=>⟨[f.b.length<=16384],[.c (.own 0)],some ([.row 5 .u8 ((cz f))]),true⟩
theorem Xb:CK 222 Js:=ag fun (f,_) _ hp=>by
 have h0:=cc hp;refine dD oz [] Tryz.func222 (?_:(fun (q1:Nat)=>(fun (q0:List UInt8)=>I64 f.num->I64 f.wire->f.n.n<18446744073709551616->q1*1<=140737488355328->I64 (A_ f.num f.wire)->(f.wire=0->(q0.length+(cY f.n.n).length)*1<=140737488355328/\q0++cY f.n.n=cz f)/\(¬f.wire=0->0<=(↑q1:Int)/\(q0.length+(cY q1).length)*1<=140737488355328/\((q0++cY q1).length+q1)*1<=140737488355328/\q0++cY q1++f.b=cz f)) (nP f.num f.wire)) f.b.length);(repeat' with_reducible first|apply aZ|refine aY ?_|intro)
 all_goals (first | exact bt | exact (UJ ab) | exact (QD ab) | (have:=tX f.num f.wire; have:=cS (n:=f.n.n) ab; omega) | (have:=tX f.num f.wire; have:=cS (n:=f.b.length) aL; (try simp only [List.length_append]); omega))
def OE:Kn:=aK (ae (kC cI) ao) aw fun (q,_) _=>⟨[q=1],[.c (.fz (.nm .spec) ((bL)))],none,false⟩
theorem aak:CK 254 OE:=ag fun (q,_) _ hp=>by
 have h0:=cc hp;refine av oz [] Tryz.func254 (?_:(fun q7=>(fun q6=>(fun q5=>(fun q4=>(fun q3=>(fun q8=>(fun q2=>(fun q9=>(fun q1=>(fun q10=>(fun q0=>(fun q14=>(fun q13=>(fun q12=>(fun q11=>I64 q->q11->q10->q11->q11->q10->q11->q9->q10->q11->q8->q10->q11->I64 q4->q10->q11->I64 q5->q10->q11->I64 q6->q10->q11->I64 q7->q9->q11->I64 8->q9->q8->q11->q10->q11->q11->q10->q11->q9->q10->q11->q9->q10->q11->q8->q9->q11->q8->q9->q11->I64 q4->q10->q9->I64 q5->q9->q8->q11->q10->q11->q11->q10->q11->q9->q10->q11->q9->q10->q11->q11->q10->q11->q11->q10->q11->q9->q10->q11->q8->q10->q11->I64 q4->q10->q11->q11->q10->q11->q11->q10->q11->q9->q10->q11->q9->q10->q11->q8->q10->q11->I64 q4->q9->q11->I64 q4->q9->q11->I64 q5->q9->q11->I64 q5->q9->q11->I64 q6->q9->q11->I64 q6->q9->q11->I64 q7->q10->q8->q11->q10->q11->q11->q10->q11->q9->q10->q11->q9->q10->q11->q8->q10->q11->q8->q10->q11->I64 q4->q10->q11->I64 q4->q10->q11->I64 q5->q10->q11->I64 q6->q10->q11->I64 q7->q10->q11->I64 8->q10->q11->I64 9->q10->q11->I64 10->q9->q11->I64 10->q9->q11->q11->q10->q11->q11->q10->q11->q9->q9->q11->(if q=q7 then some [q12,Spec.mk q2 q2 q0 false false] else if q=q6 then some [q12,q13,Spec.mk q3 q1 q0 true false,Spec.mk q4 q1 q0 true false,Spec.mk q5 q1 q0 false false,Spec.mk q6 q1 q0 false false,Spec.mk q7 q1 q0 false false,Spec.mk 8 q1 q0 false false,Spec.mk 9 q1 q0 false false,Spec.mk 10 q2 q0 false true] else if q=q5 then some [q12,q13,q14,Spec.mk q4 q2 q0 false true,Spec.mk q5 q2 q0 false true,Spec.mk q6 q2 q0 false true,Spec.mk q7 q1 q3 false false] else if q=q4 then some [q12,Spec.mk q2 q1 q0 false false,q14,Spec.mk q4 q1 q0 false false] else if q=q3 then some [q12,q13] else if q=q2 then some [q12,q13,Spec.mk q3 q2 q0 true false,Spec.mk q4 q1 q2 false false,Spec.mk q5 q2 q3 false false] else if q=q0 then some [q12,Spec.mk q2 q1 q0 false false,q14,Spec.mk q4 q1 q0 false false,Spec.mk q5 q1 q0 false false,Spec.mk q6 q1 q0 false false,Spec.mk q7 q2 q0 false false,Spec.mk 8 q2 q3 false false] else none).getD (au (Sh.nm NT.spec).lst)=bL) (I64 q0)) (Spec.mk q0 q1 q0 true false)) (Spec.mk q2 q1 q0 true false)) (Spec.mk q3 q1 q0 false false)) (1:Int)) (I64 q1)) (0:Int)) (I64 q2)) (2:Int)) (I64 q3)) (3:Int)) (4:Int)) (5:Int)) (6:Int)) (7:Int));subst h0; (repeat' with_reducible first|apply aZ|refine aY ?_|intro);all_goals (first | exact bt | exact rfl)
def OI:Kn:=aK (ae (kC (cL .u8)) ao) aw fun (b,_) _=>⟨[b.length<=100000],[.c (.fz .int ((lj b))),.c (.int ((pU b)))],none,false⟩
theorem ZC:CK 333 OI:=ag fun (b,_) _ hp=>by
 have h0:=cc hp;refine av oz (acu b) Tryz.func333 (?_:(fun (q0:Prop)=>b.length*(1:Nat)<=(140737488355328:Nat)->∃ (s0:Nat),(b=b/\(0:Int)=(↑s0:Int)/\cH (List.take s0 b)=[])/\s0<=b.length/\∀ (s:Nat),(fun (q2:List Int)=>(fun (q1:Nat × Nat × Int)=>s<=b.length->((↑s:Int)<(↑b.length:Int)->(0:Int)<=(↑s:Int)/\(↑s:Int)<=(↑b.length:Int)/\(q1.fst<(18446744073709551616:Nat)->I64 (↑q1.snd.fst:Int)->I64 q1.snd.snd->(¬q1.snd.snd=(0:Int)\/(↑(64:Nat):Int)<(↑q1.fst:Int)->q0)/\(q1.snd.snd=(0:Int)/\(↑q1.fst:Int)<=(↑(64:Nat):Int)->(q2.length+[eX q1.fst].length)*(8:Nat)<=(140737488355328:Nat)/\I64 ((↑s:Int)+(↑q1.snd.fst:Int))/\∃ (s':Nat),(b=b/\(↑s:Int)+(↑q1.snd.fst:Int)=(↑s':Int)/\q2++[eX q1.fst]=cH (List.take s' b))/\s' <= b.length/\b.length - s' < b.length - s)))/\((↑b.length:Int)<=(↑s:Int)->(cA q2=false->q0)/\(cA q2=true->q2=lj b/\(0:Int)=pU b))) (aj (List.drop s b))) (cH (List.take s b))) (lj b=[]/\(6:Int)=pU b));iterate 3 ((all_goals (repeat' with_reducible first|apply aZ|refine aY ?_|intro)); (all_goals try (first | exact bt | exact rfl | exact (xj (ukR ab (by assumption))) | exact (KT (ukR ab (by assumption))) | exact (xj (ukR ab (by assumption))).symm | exact (xj (CS (k:=‹Nat›) aL ab)).symm | exact (xj (CS (k:=‹Nat›) aL ab)) | exact (KT (CS (k:=‹Nat›) aL ab)) | exact (QT aL ab) | exact (Ue (k:=‹Nat›) aL ab) | exact (ukS ab ab ab).1 | exact (ukS ab ab ab).2 | exact (aan aL aL) | (have:=(ukS ab ab ab).1; refine bR ?_ ?_ <;> omega))); all_goals try first | refine ⟨‹Nat› + 1,?_⟩ | refine ⟨0,?_⟩)
def adp:bN:=(aO 333 OI (aO 254 OE (aO 222 Js (aO 355 Ng ad7))))
theorem jy:ay Tryz.prog (al tyT) adp:=(ah ZC (ah aak (ah Xb (ah aaz oz))))
theorem adG (hk:k<=l.length) (h0:0<(k:Int)):l[k - 1]? = some (l.getD ((k:Int) - 1).toNat (au (.nm .field))):=by
 rw [show ((k:Int) - 1).toNat=k - 1 by omega,List.getD_eq_getElem?_getD,List.getElem?_eq_getElem (by omega)]; rfl
variable {x:Field}
theorem VN (h:(k:Int)<=0\/fX (l.getD ((k:Int) - 1).toNat (au (.nm .field))) x=true) (hk:k<=l.length):wy l k x:=by
 by_cases h0:0<(k:Int)
 ·exact .inr ⟨_,adG hk h0,h.resolve_left aL⟩
 exact .inl aL
theorem abu {v:Int}:(((bL.take k).filter (fun s=>decide (s.since<=v))).length+1)*32<=140737488355328:=by
 have:=NO (v:=v) (k:=k); omega
theorem adF {v:Int} (h1:1<=v) (h3:v<=3) (hk:8<=(k:Int)):(bL.take k).filter (fun s=>decide (s.since<=v))=aS v:=KE (by omega) (by show 8<=k; omega)
theorem afi {v:Int}:dQ (l.take 0) v=[]:=rfl
theorem agK {v:Int}:eD (l.take 0) v=[]:=rfl
theorem afp {v:Int} (hx:l[k]? = some x) (h:x.num<=v):dQ (l.take k) v++[x]=dQ (l.take (k+1)) v:=Rm hx h
theorem ae3 {v:Int} (hx:l[k]? = some x) (h:¬ x.num<=v):dQ (l.take k) v=dQ (l.take (k+1)) v:=ZI hx h
theorem ahg {v:Int} (hx:l[k]? = some x) (h:¬ x.num<=v):eD (l.take k) v++[x]=eD (l.take (k+1)) v:=SD hx h
theorem afM {v:Int} (hx:l[k]? = some x) (h:x.num<=v):eD (l.take k) v=eD (l.take (k+1)) v:=aaO hx h
theorem af6 {v:Int} (hk:l.length<=k):dQ (l.take k) v=dQ l v:=Ii hk
theorem afm {v:Int} (hk:l.length<=k):eD (l.take k) v=eD l v:=KY hk
attribute [local irreducible] dQ eD
def Ym (l:List Field):List (Nat × LI):=[(3,{ σ:=Nat,F:=fun k=>([(0,one (.fz (.nm .field) (l))),(3,one (.int (gZ (l.take k):Nat))),(6,one (.fz (.nm .field) (l))),(7,one (.int (l).length)),(8,one (.int k))],[]),J:=fun k=>k<=l.length/\eh none l=eh (eZ l k) (l.drop k)/\gZ (l.take k)<=k*16404,μ:=fun k=>(l).length - k })]
def YN (q:Int) (v:Int):List (Nat × LI):=[(5,{ σ:=Nat,F:=fun k=>([(1,one (.int (v))),(5,one (.own 0)),(15,one (.fz (.nm .spec) bL)),(16,one (.int 8)),(17,one (.int k))],[.row 255 (.nm .spec) (((bL.take k).filter (fun (s:Spec)=>decide (s.since<=v))))]),J:=fun k=>k<=8,μ:=fun k=>8 - k })]
def Tl (l:List Field) (v:Int):List (Nat × LI):=[(2,{ σ:=Nat,F:=fun k=>([(1,one (.int (v))),(4,one (.own 0)),(5,one (.own 1)),(8,one (.fz (.nm .field) (l))),(9,one (.int (l).length)),(10,one (.int k))],[.row 219 (.nm .field) ((dQ (l.take k) v)),.row 219 (.nm .field) ((eD (l.take k) v))]),J:=fun k=>k<=l.length,μ:=fun k=>(l).length - k })]
def aaM (l:List Field):List (Nat × LI):=[(3,{ σ:=Nat,F:=fun k=>([(2,one (.ptr 0 0)),(3,one (.ptr 1 0)),(6,one (.fz (.nm .field) (l))),(7,one (.int (l).length)),(8,one (.int k))],[.box 35 (cellsOf (.nm .command) (cM)),.box 35 (cellsOf (.nm .command) ((cX (l.take k))))]),J:=fun k=>k<=l.length,μ:=fun k=>(l).length - k })]
def DH:Kn:=aK (ae (kC (aX 0 0)) (ae (kC (aX 1 0)) ao)) (aC (dH 50 (ax (cL .u8) dv)) (aC (dH 3 (ax cI dv)) aw)) fun _ ((b,_),(s,_),_)=>⟨[0<=s,s<=(b.length:Int),b.length*1<=140737488355328],[.c (.u64 ((U64.mk (aj (b.drop s.toNat)).1)).n),.c (.int (((aj (b.drop s.toNat)).2.2)))],some ([.box 50 ([.fz .u8 ((b))]),.box 3 ([.int ((s+((aj (b.drop s.toNat)).2.1:Nat)))])]),false⟩
theorem Rh:CK 356 DH:=ag fun _ ((b,_),(s,_),_) hp=>by
 have h0:=cc hp;have h1:=cc (eQ hp);have h2:=cc (eQ (eQ hp));refine br jy [] Tryz.func356 (?_:(fun q0=>0<=s/\s<=(↑b.length:Int)/\(q0.fst<18446744073709551616->I64 (↑q0.snd.fst:Int)->I64 q0.snd.snd->I64 (s+(↑q0.snd.fst:Int))/\q0.fst=(aj (List.drop s.toNat b)).fst/\q0.snd.snd=(aj (List.drop s.toNat b)).snd.snd/\b=b/\s+(↑q0.snd.fst:Int)=s+(↑(aj (List.drop s.toNat b)).snd.fst:Int))) (aj (List.drop s.toNat b)));(repeat' with_reducible first|apply aZ|refine aY ?_|intro)
 all_goals (first | exact bt | (have:=(nL b s.toNat).1; refine bR ?_ ?_ <;> omega))
def za:Kn:=aK (ae (kC (cL .u8)) ao) aw fun (b,_) _=>⟨[],[.agg (cellsOf (.nm .field) (iF b))],none,false⟩
theorem KJ:CK 330 za:=ag fun (b,_) _ _=>by
 refine av jy [] Tryz.func330 (?_:(fun q1=>(fun q2=>(fun q0=>b.length*1<=140737488355328->I64 q1.num->I64 q1.wire->I64 (↑q1.k:Int)->I64 q1.e->0<=(↑q1.k:Int)/\(↑q1.k:Int)<=(↑b.length:Int)/\(q2.fst<18446744073709551616->I64 (↑q2.snd.fst:Int)->I64 q2.snd.snd->(q1.wire=0->q1.num=(iF b).num/\q1.wire=(iF b).wire/\q2.fst=(iF b).n.n/\(iF b).b=[])/\(¬q1.wire=0->I64 q0/\0<=q0/\q0<=(↑b.length:Int)/\(List.drop q0.toNat b).length*1<=140737488355328/\q1.num=(iF b).num/\q1.wire=(iF b).wire/\0=(iF b).n.n/\List.drop q0.toNat b=(iF b).b))) ((↑q1.k:Int)+(↑q2.snd.fst:Int))) (aj (List.drop q1.k b))) (aQ b));(repeat' with_reducible first|apply aZ|refine aY ?_|intro)
 all_goals (first | exact bt | exact (congrArg Field.num (Eo ab)) | exact (congrArg Field.wire (Eo ab)) | exact (congrArg (fun f=>f.n.n) (Eo ab)) | exact (congrArg Field.b (Eo ab)).symm | exact (congrArg Field.num (Gk ab)) | exact (congrArg Field.wire (Gk ab)) | exact (congrArg (fun f=>f.n.n) (Gk ab)) | exact (congrArg Field.b (Gk ab)) | (have h1:=qY b; have h2:=nL b (aQ b).k; first | omega | (refine bR ?_ ?_ <;> omega) | (rw [List.length_drop]; omega)))
def EM:Kn:=aK (ae (kC (cL (.nm .field))) ao) aw fun (l,_) _=>⟨[],[.c (.int ((cP l)))],none,false⟩
theorem Tm:CK 221 EM:=ag fun (l,_) _ _=>by
 refine av jy (Ym l) Tryz.func221 (?_:(fun (q3:den (Sh.nm NT.field))=>(fun (q2:Nat)=>(fun (q1:Int)=>(fun (q0:Int)=>l.length*48<=140737488355328->∃ (s0:Nat),(l=l/\q1=(↑(gZ (List.take s0 l)):Int)/\l=l/\(↑l.length:Int)=(↑q2:Int)/\q1=(↑s0:Int))/\(s0<=q2/\eh none l=eh (eZ l s0) (List.drop s0 l)/\gZ (List.take s0 l)<=s0*16404)/\∀ (s:Nat),(fun (q6:Int)=>(fun (q5:Int)=>(fun (q4:den (Sh.nm NT.field))=>s<=q2/\eh none l=eh (eZ l s) (List.drop s l)/\gZ (List.take s l)<=s*16404->(q5<(↑q2:Int)->q1<=q5/\q5<(↑l.length:Int)/\∀ (x:Field),l[s]? = some x->I64 x.num->I64 x.wire->x.n.n<18446744073709551616->x.b.length*1<=140737488355328->(eB x=false->q0=cP l)/\(eB x=true->(q1<q5->I64 (q5 - q0))/\(q1<q5->q1<=q5 - q0/\q5 - q0<(↑l.length:Int))/\((q1<q5->I64 q4.num/\I64 q4.wire/\q4.n.n<18446744073709551616/\q4.b.length*1<=140737488355328)->(q1<q5/\fX q4 x=false->5=cP l)/\(q5<=q1\/fX q4 x=true->(16384<(↑x.b.length:Int)->4=cP l)/\((↑x.b.length:Int)<=16384->x.b.length<=16384/\I64 (q6+(↑(cz x).length:Int))/\I64 (q5+q0)/\∃ (s':Nat),(l=l/\q6+(↑(cz x).length:Int)=(↑(gZ (List.take s' l)):Int)/\l=l/\(↑q2:Int)=(↑q2:Int)/\q5+q0=(↑s':Int))/\(s' <= q2/\eh none l=eh (eZ l s') (List.drop s' l)/\gZ (List.take s' l)<=s' * 16404)/\q2 - s' < q2 - s)))))/\((↑q2:Int)<=q5->(16384<q6->4=cP l)/\(q6<=16384->q1=cP l))) (l.getD (q5 - q0).toNat q3)) (↑s:Int)) (↑(gZ (List.take s l)):Int)) 1) 0) l.length) (au (Sh.nm NT.field)));iterate 3 ((all_goals (repeat' with_reducible first|apply aZ|refine aY ?_|intro)); (all_goals try (first | exact bt | exact rfl | exact (Nat.le_refl 0) | exact (aaH ab ab ab) | exact (Xf ab ab ab aL (adG aL ab) ab) | exact (aax ab ab ab (VN (by assumption) aL) ab) | exact (Lw ab ab ab (VN (by assumption) aL) aL) | exact (Lp ab aL ab) | exact (NF ab aL aL) | (have h1:=rJ (f:=‹Field›) aL ab; have h2:=Oa (show l[_]? = some ‹Field› by with_reducible assumption); first | omega | (refine bR ?_ ?_ <;> omega)))); all_goals try first | refine ⟨‹Nat› + 1,?_⟩ | refine ⟨0,?_⟩)
def DS:Kn:=aK (ae (kC cI) (ae (kC cI) ao)) aw fun (q,v,_) _=>⟨[q=1],[.c (.fz (.nm .spec) ((aS v)))],none,false⟩
theorem Sv:CK 220 DS:=ag fun (q,v,_) _ hp=>by
 have h0:=cc hp;refine av jy (YN q v) Tryz.func220 (?_:(fun (q2:Int)=>(fun (q1:Int)=>(fun (q0:Nat)=>I64 q->I64 v->(v<q1\/3<v->aS v=[])/\(q1<=v/\v<=3->q=q1/\(bL.length*32<=140737488355328->∃ (s0:Nat),(v=v/\bL=bL/\(↑bL.length:Int)=q2/\0=(↑s0:Int)/\List.filter (fun (s:Spec)=>decide (s.since<=v)) (List.take s0 bL)=[])/\s0<=q0/\∀ (s:Nat),(fun (q4:Int)=>(fun (q3:List (den (Sh.nm NT.spec)))=>s<=q0->((↑s:Int)<q2->0<=(↑s:Int)/\(↑s:Int)<(↑bL.length:Int)/\∀ (x:Spec),bL[s]? = some x->mT x ((x.since<=v->(q3.length+[x].length)*32<=140737488355328/\I64 q4/\∃ (s':Nat),(v=v/\bL=bL/\q2=q2/\q4=(↑s':Int)/\q3++[x]=List.filter (fun (s:Spec)=>decide (s.since<=v)) (List.take s' bL))/\s' <= q0/\q0 - s' < q0 - s)/\(v<x.since->I64 q4/\∃ (s':Nat),(v=v/\bL=bL/\q2=q2/\q4=(↑s':Int)/\q3=List.filter (fun (s:Spec)=>decide (s.since<=v)) (List.take s' bL))/\s' <= q0/\q0 - s' < q0 - s)))/\(q2<=(↑s:Int)->q3=aS v)) (List.filter (fun (s:Spec)=>decide (s.since<=v)) (List.take s bL))) ((↑s:Int)+q1)))) 8) 1) 8);iterate 3 ((all_goals (repeat' with_reducible first|apply aZ|refine aY ?_|intro)); (all_goals try (first | exact bt | exact rfl | exact (Ix ab).symm | exact (MO ab ab) | exact (SO ab aL) | exact abu | exact (adF aL aL aL) | (have hl:bL.length=8:=rfl; omega))); all_goals try first | refine ⟨‹Nat› + 1,?_⟩ | refine ⟨0,?_⟩)
def An:Kn:=aK (ae (kC (cL (.nm .field))) (ae (kC cI) ao)) aw fun (l,v,_) _=>⟨[],[.c (.fz (.nm .field) ((dQ l v))),.c (.fz (.nm .field) ((eD l v)))],none,false⟩
theorem PF:CK 288 An:=ag fun (l,v,_) _ _=>by
 refine av jy (Tl l v) Tryz.func288 (?_:(fun (q0:Nat)=>(fun (q1:Int)=>l.length*48<=140737488355328->I64 v->∃ (s0:Nat),(v=v/\l=l/\(↑l.length:Int)=q1/\0=(↑s0:Int)/\dQ (List.take s0 l) v=[]/\eD (List.take s0 l) v=[])/\s0<=q0/\∀ (s:Nat),(fun (q3:List Field)=>(fun (q2:Int)=>s<=q0->((↑s:Int)<q1->0<=(↑s:Int)/\(↑s:Int)<(↑l.length:Int)/\∀ (x:Field),(fun (q4:Prop)=>l[s]? = some x->I64 x.num->I64 x.wire->x.n.n<18446744073709551616->q4->q4->(x.num<=v->((dQ q3 v).length+[x].length)*48<=140737488355328/\I64 q2/\∃ (s':Nat),(v=v/\l=l/\q1=q1/\q2=(↑s':Int)/\dQ q3 v++[x]=dQ (List.take s' l) v/\eD q3 v=eD (List.take s' l) v)/\s' <= q0/\q0 - s' < q0 - s)/\(v<x.num->((eD q3 v).length+[x].length)*48<=140737488355328/\I64 q2/\∃ (s':Nat),(v=v/\l=l/\q1=q1/\q2=(↑s':Int)/\dQ q3 v=dQ (List.take s' l) v/\eD q3 v++[x]=eD (List.take s' l) v)/\s' <= q0/\q0 - s' < q0 - s)) (x.b.length*1<=140737488355328))/\(q1<=(↑s:Int)->dQ q3 v=dQ l v/\eD q3 v=eD l v)) ((↑s:Int)+1)) (List.take s l)) (↑q0:Int)) l.length);iterate 3 ((all_goals (repeat' with_reducible first|apply aZ|refine aY ?_|intro)); (all_goals try (first | exact bt | exact afi | exact agK | exact (afp ab ab) | exact (ae3 ab aL) | exact (ahg ab aL) | exact (afM ab ab) | exact (af6 aL) | exact (afm aL) | (have h1:=Tn (l.take ‹Nat›) v; have h2:=Ej (l.take ‹Nat›) v; rw [List.length_take] at h1 h2; simp only [List.length_cons,List.length_nil]; omega))); all_goals try first | refine ⟨‹Nat› + 1,?_⟩ | refine ⟨0,?_⟩)
def Ga:Kn:=aK (ae (kC (cL (.nm .field))) ao) aw fun (l,_) _=>⟨[∀ f ∈ l,f.b.length<=16384],[.agg (cellsOf (.nm .command) (cX l))],none,false⟩
theorem TZ:CK 289 Ga:=ag fun (l,_) _ hp=>by
 have h0:=cc hp;refine av jy (aaM l) Tryz.func289 (?_:(fun (q3:Prop)=>(fun (q2:Int)=>(fun (q1:Int)=>(fun (q0:Nat)=>(fun (q4:Prop)=>l.length*48<=140737488355328->∃ (s0:Nat),(fun (q5:Command)=>(q3/\(↑l.length:Int)=(↑q0:Int)/\q2=(↑s0:Int)/\q2=cM.kind/\q2=cM.client/\q2=cM.seq/\q2=cM.set/\q2=cM.id/\q2=cM.n/\cM.chunks=[]/\Str.mk []=cM.text/\q2=q5.kind/\q2=q5.client/\q2=q5.seq/\q2=q5.set/\q2=q5.id/\q2=q5.n/\q5.chunks=[]/\Str.mk []=q5.text)/\s0<=q0/\∀ (s:Nat),(fun (q8:Nat)=>(fun (q7:Int)=>(fun (q9:Prop)=>(fun (q6:Command)=>(fun (q13:Str)=>(fun (q12:Int)=>(fun (q11:List Int)=>(fun (q10:Int)=>s<=q0->((↑s:Int)<(↑q0:Int)->q2<=(↑s:Int)/\(↑s:Int)<(↑l.length:Int)/\∀ (x:Field),(fun (q15:Int)=>(fun (q14:Int)=>l[s]? = some x->I64 q14->I64 x.wire->x.n.n<18446744073709551616->x.b.length*1<=140737488355328->(q14=q1->q9/\∃ (s':Nat),(q3/\q4/\q7=(↑s':Int)/\bm cM cM (aP (Command.mk q15 q10 q6.seq q6.set q6.id q6.n q11 q13) (cX (List.take s' l))))/\s' <= q0/\q0 - s' < q8)/\(¬q14=q1->(q14=2->q9/\∃ (s':Nat),(q3/\q4/\q7=(↑s':Int)/\bm cM cM (aP (Command.mk q12 q15 q6.seq q6.set q6.id q6.n q11 q13) (cX (List.take s' l))))/\s' <= q0/\q0 - s' < q8)/\(¬q14=2->(q14=3->q9/\∃ (s':Nat),(q3/\q4/\q7=(↑s':Int)/\bm cM cM (aP (Command.mk q12 q10 q15 q6.set q6.id q6.n q11 q13) (cX (List.take s' l))))/\s' <= q0/\q0 - s' < q8)/\(¬q14=3->(q14=4->q9/\∃ (s':Nat),(q3/\q4/\q7=(↑s':Int)/\bm cM cM (aP (Command.mk q12 q10 q6.seq q15 q6.id q6.n q11 q13) (cX (List.take s' l))))/\s' <= q0/\q0 - s' < q8)/\(¬q14=4->(q14=5->q9/\∃ (s':Nat),(q3/\q4/\q7=(↑s':Int)/\bm cM cM (aP (Command.mk q12 q10 q6.seq q6.set q15 q6.n q11 q13) (cX (List.take s' l))))/\s' <= q0/\q0 - s' < q8)/\(¬q14=5->(q14=6->q9/\∃ (s':Nat),(q3/\q4/\q7=(↑s':Int)/\bm cM cM (aP (Command.mk q12 q10 q6.seq q6.set q6.id q15 q11 q13) (cX (List.take s' l))))/\s' <= q0/\q0 - s' < q8)/\(¬q14=6->(q14=7->x.b.length<=100000/\((lj x.b).length*8<=140737488355328->I64 (pU x.b)->q9/\∃ (s':Nat),(q3/\q4/\q7=(↑s':Int)/\bm cM cM (aP (Command.mk q12 q10 q6.seq q6.set q6.id q6.n (lj x.b) q13) (cX (List.take s' l))))/\s' <= q0/\q0 - s' < q8))/\(¬q14=7->(q14=8->q9/\∃ (s':Nat),(q3/\q4/\q7=(↑s':Int)/\bm cM cM (aP (Command.mk q12 q10 q6.seq q6.set q6.id q6.n q11 (Str.mk x.b)) (cX (List.take s' l))))/\s' <= q0/\q0 - s' < q8)/\(¬q14=8->q9/\∃ (s':Nat),(q3/\q4/\q7=(↑s':Int)/\bm cM cM (aP q6 (cX (List.take s' l))))/\s' <= q0/\q0 - s' < q8))))))))) x.num) (eX x.n.n))/\((↑q0:Int)<=(↑s:Int)->aP q6 (cX l))) q6.client) q6.chunks) q6.kind) q6.text) (cX (List.take s l))) (I64 q7)) ((↑s:Int)+q1)) (q0 - s)) (cX (List.take s0 l))) ((↑q0:Int)=(↑q0:Int))) l.length) 1) 0) (l=l));iterate 3 ((all_goals (repeat' with_reducible first|apply aZ|refine aY ?_|intro)); (all_goals try (first | exact bt | exact rfl | (have:=h0 _ (acQ ab); omega) | (rw [dN ab,<- age ab] <;> first | rfl | exact (dW ab).symm) | (rw [dN ab,<- afK ab] <;> first | rfl | exact (dW ab).symm) | (rw [dN ab,<- af7 ab] <;> first | rfl | exact (dW ab).symm) | (rw [dN ab,<- aii ab] <;> first | rfl | exact (dW ab).symm) | (rw [dN ab,<- agA ab] <;> first | rfl | exact (dW ab).symm) | (rw [dN ab,<- ahs ab] <;> first | rfl | exact (dW ab).symm) | (rw [dN ab,<- ag3 ab] <;> first | rfl | exact (dW ab).symm) | (rw [dN ab,<- air ab] <;> first | rfl | exact (dW ab).symm) | (rw [dN ab,<- ahe aL] <;> first | rfl | exact (dW ab).symm) | (rw [List.take_of_length_le aL]))); all_goals try first | refine ⟨‹Nat› + 1,?_⟩ | refine ⟨0,?_⟩)
def aco:bN:=(aO 289 Ga (aO 288 An (aO 220 DS (aO 221 EM (aO 330 za (aO 356 DH adp))))))
theorem nO:ay Tryz.prog (al tyT) aco:=(ah TZ (ah PF (ah Sv (ah Tm (ah KJ (ah Rh jy))))))
end Go.Proofs.YticbaadnibdbkaaGreat
