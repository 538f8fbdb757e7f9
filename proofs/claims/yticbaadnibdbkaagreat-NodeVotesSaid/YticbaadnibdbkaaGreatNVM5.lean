/- What leads to the law, part 5. Conditions: each lemma's own. -/
import Derived.Test.YticbaadnibdbkaaGreatNVM4
set_option linter.unusedVariables false
set_option linter.unusedSimpArgs false
set_option linter.defProp false
namespace Go.Proofs.YticbaadnibdbkaaGreat
open Go.RowKit
def agf:=@List.take_succ_cons
def abc:=@Classical.not_not
theorem adZ (k:Int):(if k=12 then some (Span.mk 0 64) else if k=8 then some (Span.mk 2 3) else if k=6 then some (Span.mk 0 8) else none).getD (au (.nm .span))=⟨(wm k).1,(wm k).2⟩:=by
 by_cases h1:k=12
 ·subst h1; rfl
 by_cases h2:k=8
 ·subst h2; rfl
 by_cases h3:k=6
 ·subst h3; rfl
 simp [wm,uA,h1,h2,h3,au]; rfl
def OX:Kn:=aK (ae (kT (.nm .command)) ao) aw fun (c,_) _=>⟨[],[.c (.bool (.atom ((mn c))))],none,false⟩
theorem aaN:CK 91 OX:=ag fun (c,_) _ _=>by
 refine av xF [] Tryz.func91 (?_:(fun q10=>(fun q9=>(fun q8=>(fun q7=>(fun q6=>(fun q5=>(fun q4=>(fun q3=>(fun q2=>(fun q1=>(fun q11=>(fun q0=>bB c ((q9=3->(q0=true->(cA c.chunks=true->q11)/\(cA c.chunks=false->q3))/\(q0=false->q3))/\(¬q9=3->(q9=11->(q0=true->(q4->((↑c.text.b.length:Int)<=16->q1)/\(16<(↑c.text.b.length:Int)->q3))/\(¬q4->q3))/\(q0=false->q3))/\(¬q9=11->(q0=true->(q4->q11)/\(¬q4->q3))/\(q0=false->q3))))) (decide (q2.lo<=c.n) && decide (c.n<=q2.hi))) ((q8->q1)/\(¬q8->q3))) ((q7=true->(q6=true->(q5=true->nI c.id 1048576 ([5,7,9,10,11].contains q9)=mn c)/\(q5=false->q3))/\(q6=false->q3))/\(q7=false->q3))) ((if q9=12 then some (Span.mk 0 64) else if q9=q10 then some (Span.mk 2 3) else if q9=6 then some (Span.mk 0 q10) else none).getD (au (Sh.nm NT.span)))) (false=mn c)) ((↑c.chunks.length:Int)=0)) (nI c.set q10 ([2,3,4].contains q9))) (nI c.seq 1048576 ![1,q10].contains q9)) (nI c.client q10 ![q10].contains q9)) (c.text=Str.mk [])) c.kind) (8:Int));simp only [adZ];(repeat' with_reducible first|apply aZ|refine aY ?_|intro)
 all_goals ((unfold mn chF txF; simp_all) <;> (intros; omega))
def FD:Kn:=aK (ae (kT (.nm .state)) (ae (kC cI) ao)) aw fun (s,v,_) _=>⟨[1<=s.next/\s.next<=1048576],[.c (.bool (.atom ((fU s v))))],none,false⟩
theorem Uv:CK 298 FD:=ag fun (s,v,_) _ hp=>by
 have h0:=cc hp;refine av xF [] Tryz.func298 (?_:(fun q1=>(fun q0=>fN s (I64 v->(q1<=16->I64 q0/\q0<=1048576)/\(16<q1\/az Snap.id q0 0 s.snaps=false->false=fU s v)/\(q1<=16/\az Snap.id q0 0 s.snaps=true->(v<3->s.snaps.all (dv v 0)=fU s v)/\(3<=v->s.snaps.all (dv v 16)=fU s v)))) (s.next - 1)) (↑s.snaps.length:Int));(repeat' with_reducible first|apply aZ|refine aY ?_|intro)
 all_goals (first | exact bt | ((simp only [fU,xD]; simp_all) <;> (intros; omega)) | (simp only [fU,xD]; grind))
def adm:bN:=(aO 298 FD (aO 91 OX adL))
theorem Gw:ay Tryz.prog (al tyT) adm:=(ah Uv (ah aaN xF))
def eF (s:State) (at_:Nat) (k:Nat):Int:=(((s.snaps.drop (at_+1)).take k).filter fun x=>decide (x.set=(s.snaps.getD at_ (au (.nm .snap))).set)).length
def mi (s:State) (at_:Int):Bool:=if at_<0\/(s.snaps.length:Int)<=at_ then false else decide (eF s at_.toNat s.snaps.length<s.keep)
def nch (l:List Snap):Nat:=(l.flatMap Snap.chunks).length
def CN (c:Int) (l:List Snap):Nat:=(l.flatMap Snap.chunks).count c
def bl (id:Int) (l:List Snap):List Snap:=l.filter fun x=>!decide (x.id=id)
variable {α:Type} {k:Nat}
theorem gd {l:List α} {d:α} (h:(k:Int)<l.length):l[k]? = some (l.getD k d):=by
 have hk:k<l.length:=by omega
 rw [List.getD_eq_getElem?_getD,List.getElem?_eq_getElem hk]; rfl
variable {a:Nat}
theorem YL {s:State}:0=eF s a 0:=by simp [eF]
theorem TJ {s:State}:eF s a k<=(k:Int):=by
 have h1:=List.length_filter_le (fun x:Snap=>decide (x.set=(s.snaps.getD a (au (.nm .snap))).set)) ((s.snaps.drop (a+1)).take k);have h2:((s.snaps.drop (a+1)).take k).length<=k:=by rw [List.length_take]; omega
 unfold eF; omega
theorem Tm {s:State}:0<=eF s a k:=by unfold eF; omega
theorem aau {s:State} (h:a+1+k<=s.snaps.length) (h2:s.snaps.length*64<=140737488355328):I64 (eF s a k+1):=by
 have h1:=TJ (s:=s) (a:=a) (k:=k);have h0:=Tm (s:=s) (a:=a) (k:=k);constructor <;> omega
variable {x:Snap}
theorem Yq {s:State} (hx:(s.snaps.drop (a+1))[k]? = some x) (h:x.set=(s.snaps.getD a (au (.nm .snap))).set):eF s a k+1=eF s a (k+1):=by
 unfold eF;rw [ai hx,List.filter_append,List.length_append];simp [h]
theorem aan {s:State} (hx:(s.snaps.drop (a+1))[k]? = some x) (h:¬ x.set=(s.snaps.getD a (au (.nm .snap))).set):eF s a k=eF s a (k+1):=by
 unfold eF;rw [ai hx,List.filter_append,List.length_append];rw [show List.filter (fun x:Snap=>decide (x.set=(s.snaps.getD a (au (.nm .snap))).set)) [x]=[] by simp only [List.filter_cons,h,decide_false,List.filter_nil]; rfl];simp
variable {a:Int}
theorem Js {s:State} (h0:0<=a) (ha:a<s.snaps.length) (h:(s.snaps.length:Int)<=a+1+k):decide (eF s a.toNat k<s.keep)=mi s a:=by
 unfold mi;rw [if_neg (by omega)];have e:∀ m:Nat,(s.snaps.length:Int)<=a+1+m->eF s a.toNat m=eF s a.toNat s.snaps.length:=fun m hm=>by
  unfold eF;rw [List.take_of_length_le (by rw [List.length_drop]; omega),List.take_of_length_le (by rw [List.length_drop]; omega)]
 rw [e k h]
theorem N_ {s:State} (h:a<0\/(s.snaps.length:Int)<=a):false=mi s a:=by unfold mi; rw [if_pos h]
variable {l:List Snap} {id:Int}
theorem abh {y:Snap} (h:¬ x.id=id) (hx:l[k]? = some x) (hy:l[k]? = some y):bl id (l.take k)++[y]=bl id (l.take (k+1)):=by
 rw [hx] at hy; cases hy;unfold bl; rw [ai hx,List.filter_append]; simp [h]
theorem ab9 (hx:l[k]? = some x) (h:x.id=id):bl id (l.take k)=bl id (l.take (k+1)):=by
 unfold bl; rw [ai hx,List.filter_append]; simp [h]
theorem Xh (h:(l.length:Int)<=k):bl id (l.take k)=bl id l:=by rw [List.take_of_length_le (by omega)]
theorem ZO (h:(k:Int)<l.length) (hl:l.length*64<=140737488355328):((bl id (l.take k)).length+[x].length)*64<=140737488355328:=by
 have h1:=List.length_filter_le (fun x:Snap=>!decide (x.id=id)) (l.take k);rw [List.length_take] at h1;unfold bl;simp only [List.length_cons,List.length_nil];omega
def abo (st:State) (at_:Int):List (Nat × LI):=[(5,{ σ:=Nat,F:=fun k=>([(1,one (.int (at_))),(2,one (.ptr 0 0)),(5,one (.int (eF st at_.toNat k))),(21,one (.fz (.nm .snap) (st.snaps.drop (at_+1).toNat))),(22,one (.int (st.snaps.drop (at_+1).toNat).length)),(23,one (.int k))],[.box 46 (cellsOf (.nm .state) (st))]),J:=fun k=>at_.toNat+1+k<=st.snaps.length/\0<=at_,μ:=fun k=>st.snaps.length - k })]
def Mj:Kn:=aK (ae (kT (.nm .state)) (ae (kC cI) ao)) aw fun (st,at_,_) _=>⟨[],[.c (.bool (.atom ((mi st at_))))],none,false⟩
theorem YK:CK 347 Mj:=ag fun (st,at_,_) _ _=>by
 refine av Gw (abo st at_) Tryz.func347 (?_:(fun q5=>(fun q4=>(fun q3=>(fun q2=>(fun q6=>(fun q1=>(fun q9=>(fun q8=>(fun q7=>(fun q0=>(fun q11=>(fun q10=>fN st (I64 at_->(at_<q5\/q8<=at_->false=mi st at_)/\(q3/\at_<q8->I64 (at_+q4)/\q5<=at_+q4/\at_+q4<=q8/\∃ s0,(at_=at_/\q5=eF st q2 s0/\q11=q11/\(↑q11.length:Int)=q10/\q5=(↑s0:Int)/\dk st st)/\(q6+s0<=q7/\q3)/\∀ (s:Nat),(fun q13=>(fun q12=>q6+s<=q7/\q3->((↑s:Int)<q10->q5<=(↑s:Int)/\(↑s:Int)<(↑q11.length:Int)/\∀ (x:Snap),q11[s]? = some x->fk x (q3/\at_<q8/\fk q9 ((x.set=q9.set->I64 (q13+q4)/\I64 q12/\∃ s',(at_=at_/\q13+q4=eF st q2 s' /\ q11=q11/\q10=q10/\q12=(↑s':Int)/\dk st st)/\(q6+s' <= q7/\q3)/\q7 - s' < q7 - s)/\(¬x.set=q9.set->I64 q12/\∃ s',(at_=at_/\q13=eF st q2 s' /\ q11=q11/\q10=q10/\q12=(↑s':Int)/\dk st st)/\(q6+s' <= q7/\q3)/\q7 - s' < q7 - s))))/\(q10<=(↑s:Int)->decide (q13<st.keep)=mi st at_)) ((↑s:Int)+q4)) (eF st q2 s)))) (↑(List.drop q0 q1).length:Int)) (List.drop q0 q1)) (at_+q4).toNat) q1.length) (↑q1.length:Int)) (q1.getD q2 (au (Sh.nm NT.snap)))) st.snaps) (q2+1)) at_.toNat) (q5<=at_)) (1:Int)) (0:Int));iterate 3 ((all_goals (repeat' with_reducible first|apply aZ|refine aY ?_|intro)); (all_goals try (first | exact bt | exact YL | exact (N_ (by assumption)) | exact (aau aL aL) | exact (Js aL aL (by rw [List.length_drop] at *; omega)) | exact (Yq (by rw [show (at_+1).toNat=at_.toNat+1 by omega] at *; assumption) ab) | exact (by have:=‹_<((List.length (List.drop _ _):Nat):Int)›; rw [List.length_drop] at this; omega) | exact (aan (by rw [show (at_+1).toNat=at_.toNat+1 by omega] at *; assumption) ab))); all_goals try first | refine ⟨‹Nat› + 1,?_⟩ | refine ⟨0,?_⟩)
def ad0:bN:=(aO 347 Mj adm)
theorem qP:ay Tryz.prog (al tyT) ad0:=(ah YK Gw)
theorem XL {l:List α} {d:α} (h:(k:Int)<l.length):l.set k (l.getD k d)=l:=by
 have hk:k<l.length:=by omega
 rw [List.getD_eq_getElem?_getD,List.getElem?_eq_getElem hk]; exact aiJ hk
def Og (l:List Snap) (k:Nat):Nat:=((List.range k).filter fun (i:Nat)=>decide (0<CN ((i:Int)+1) l)).length
def lz (l:List Snap):Nat:=Og l 64
def aaJ (st:State):List (Nat × LI):=[(5,{ σ:=Nat,F:=fun k=>([(1,one (.ptr 0 0)),(2,one (.ptr 1 0)),(18,one (.int st.snaps.length)),(19,one (.int k))],[.box 46 ([.int ((st.version)),.int ((st.next)),.int ((st.keep)),.int ((st.quota)),.own 2,.own 3,.own 4]),.box 46 ([.int ((0)),.int ((0)),.int ((0)),.int ((0)),.em true,.em true,.em true]),.row 137 (.nm .sess) ((st.sess)),.row 139 (.nm .opn) ((st.opens)),.row 172 (.nm .snap) ((st.snaps))]),J:=fun k=>k<=st.snaps.length,μ:=fun k=>st.snaps.length - k })]
def OC:Kn:=aK (ae (kT (.nm .state)) (ae (kC cI) ao)) aw fun (st,v,_) _=>⟨[],[.c (.int ((eE st v)))],none,false⟩
theorem Zz:CK 276 OC:=ag fun (st,v,_) _ _=>by
 refine av qP [] Tryz.func276 (?_:(fun q11=>(fun q10=>(fun q9=>(fun q8=>(fun q7=>(fun q6=>(fun q12=>(fun q5=>(fun q4=>(fun q16=>(fun q15=>(fun q14=>(fun q13=>(fun q3=>(fun q2=>(fun q1=>(fun q0=>(fun q18=>(fun q17=>fN st (I64 v->(cj v q6 q8=false->q6=q11)/\(cj v q6 q8=true->(v<q8->q5<=q7/\q5<=q7/\(q17->q12)/\((((q3\/q16=false)\/q13)\/q14)\/fU st v=false->6=q11)/\(q17/\fU st v=true->q4=q11))/\(q8<=v->q5<=q7/\q5<=q7/\(q18->q12)/\((((q3\/q15=false)\/q13)\/q14)\/fU st v=false->6=q11)/\(q18/\fU st v=true->q4=q11))))) (((q0/\q16=true)/\q1)/\q2)) (((q0/\q15=true)/\q1)/\q2)) ((cj st.version q6 q8=true/\cj st.next q6 q7=true)/\cj st.keep q4 q5=true)) (az Sess.client q5 q4 st.sess=true/\q10=true)) (az Opn.set q5 q4 st.opens=true/\q9=true)) ((cj st.version q6 q8=false\/cj st.next q6 q7=false)\/cj st.keep q4 q5=false)) (az Sess.client q5 q4 st.sess=false\/q10=false)) (az Opn.set q5 q4 st.opens=false\/q9=false)) (cj st.quota q4 64)) (cj st.quota q4 q4)) (0:Int)) (8:Int)) (q6<=st.next/\st.next<=q7)) (1:Int)) (1048576:Int)) (3:Int)) (st.opens.all eA)) (st.sess.all dY)) (eE st v));(repeat' with_reducible first|apply aZ|refine aY ?_|intro)
 all_goals (first | exact bt | exact (Ji (a:=1) (b:=1048576) ab).1 | exact (Ji (a:=1) (b:=1048576) ab).2 | (simp only [eE,lE,yU,xl]; grind))
def Fu:Kn:=aK (ae (kT (.nm .command)) (ae (kC cI) ao)) aw fun (c,v,_) _=>⟨[],[.c (.int ((bF c v)))],none,false⟩
theorem TN:CK 52 Fu:=ag fun (c,v,_) _ _=>by
 refine av qP [] Tryz.func52 (?_:(fun q0=>bB c (I64 v->I64 q0->(cw v=false\/q0=0->1=bF c v)/\(cw v=true/\¬q0=0->(v<q0->10=bF c v)/\(q0<=v->(mn c=false->1=bF c v)/\(mn c=true->0=bF c v))))) (cr c.kind));rw [show cw v=cj v 1 3 from rfl];(repeat' with_reducible first|apply aZ|refine aY ?_|intro)
 all_goals (first | exact bt | (simp only [bF]; grind))
def Ff:Kn:=aK (ae (kT (.nm .state)) ao) aw fun (st,_) _=>⟨[],[.agg ([.int ((st.version)),.int ((st.next)),.int ((st.keep)),.int ((st.quota)),.own 0,.own 1,.own 2])],some ([.row 137 (.nm .sess) ((st.sess)),.row 139 (.nm .opn) ((st.opens)),.row 172 (.nm .snap) ((st.snaps))]),true⟩
theorem Rx:CK 61 Ff:=ag fun (st,_) _ _=>by
 refine dD qP (aaJ st) Tryz.func61 (?_:(fun (q2:List Snap)=>(fun (q1:Nat)=>(fun (q0:Prop)=>fN st (∃ (s0:Nat),((↑q2.length:Int)=(↑q1:Int)/\0=(↑s0:Int)/\st.version=st.version/\st.next=st.next/\st.keep=st.keep/\st.quota=st.quota/\q0/\q0/\q0/\q0/\st.sess=st.sess/\st.opens=st.opens/\q2=q2)/\s0<=q1/\∀ (s:Nat),(fun (q3:den (Sh.nm NT.snap))=>s<=q1->((↑s:Int)<(↑q1:Int)->0<=(↑s:Int)/\(↑s:Int)<(↑q2.length:Int)/\0<=(↑s:Int)/\(↑s:Int)<(↑q2.length:Int)/\fk q3 (q3.chunks.length*8<=140737488355328->fk q3 (I64 ((↑s:Int)+1)/\∃ (s':Nat),((↑q1:Int)=(↑q1:Int)/\(↑s:Int)+1=(↑s':Int)/\st.version=st.version/\st.next=st.next/\st.keep=st.keep/\st.quota=st.quota/\q0/\q0/\q0/\q0/\st.sess=st.sess/\st.opens=st.opens/\q2.set s q3=q2)/\s' <= q1/\q1 - s' < q1 - s)))/\((↑q1:Int)<=(↑s:Int)->dk st st)) (q2.getD s (au (Sh.nm NT.snap))))) ((0:Int)=0)) q2.length) st.snaps);iterate 3 ((all_goals (repeat' with_reducible first|apply aZ|refine aY ?_|intro)); (all_goals try (first | exact bt | exact rfl | exact (XL aL))); all_goals try first | refine ⟨‹Nat› + 1,?_⟩ | refine ⟨0,?_⟩)
def Wa:bN:=(aO 61 Ff (aO 52 Fu (aO 276 OC ad0)))
theorem tn:ay Tryz.prog (al tyT) Wa:=(ah Rx (ah TN (ah Zz qP)))
def El (l:List Snap) (id:Int) (k:Nat):List Int:=((List.range k).filter fun (i:Nat)=>decide (0<CN ((i:Int)+1) l) && decide (CN ((i:Int)+1) (bl id l)=0)).map fun (i:Nat)=>(i:Int)+1
def eB (xs:List Int) (l:List Int):List Int:=l.foldl (fun xs n=>if 1<=n/\n<=64 then xs.set n.toNat (xs.getD n.toNat 0+1) else xs) xs
theorem Ye (h:nch l<=1048576):nch (bl id l)<=1048576:=by
 refine Nat.le_trans ?_ h;unfold nch bl;induction l with
 | nil=>exact Nat.le_refl _
 | cons x l ih=>
  have hl:(l.flatMap Snap.chunks).length<=1048576:=by unfold nch at h; rw [List.flatMap_cons,List.length_append] at h; omega
  have:=ih hl;rw [List.filter_cons,List.flatMap_cons,List.length_append];split
  ·rw [List.flatMap_cons,List.length_append]; omega
  omega
def mW (l:List Snap) (id:Int):List Int:=El l id 64
def Fk (xs l:List Int):Prop:=∀ i,0<=xs.getD i 0/\xs.getD i 0+l.length<=4611686018427387904
variable {i:Nat} {xs:List Int}
theorem zA {j:Nat} {v:Int}:(xs.set j v).getD i 0=if j=i/\j<xs.length then v else xs.getD i 0:=by
 rw [List.getD_eq_getElem?_getD,List.getElem?_set,List.getD_eq_getElem?_getD];by_cases h:j=i
 ·subst h;by_cases h2:j<xs.length
  ·simp [h2]
  simp [h2]
 simp [h]
theorem Cr:∀ (l xs:List Int) (i:Nat),xs.getD i 0<=(eB xs l).getD i 0/\(eB xs l).getD i 0<=xs.getD i 0+l.length
 | [],xs,i=>by simp [eB]
 | n :: l,xs,i=>by
  have h:=Cr l (if 1<=n/\n<=64 then xs.set n.toNat (xs.getD n.toNat 0+1) else xs) i;have e:eB xs (n :: l)=eB (if 1<=n/\n<=64 then xs.set n.toNat (xs.getD n.toNat 0+1) else xs) l:=rfl;rw [e];have h2:xs.getD i 0<=(if 1<=n/\n<=64 then xs.set n.toNat (xs.getD n.toNat 0+1) else xs).getD i 0/\(if 1<=n/\n<=64 then xs.set n.toNat (xs.getD n.toNat 0+1) else xs).getD i 0<=xs.getD i 0+1:=by
   split
   ·rw [zA]; split
    ·rename_i h3; rw [h3.1]; omega
    omega
   omega
  rw [List.length_cons]; omega
variable {l:List Int} {n:Int}
theorem AS (hx:l[k]? = some n):eB xs (l.take (k+1))=if 1<=n/\n<=64 then (eB xs (l.take k)).set n.toNat ((eB xs (l.take k)).getD n.toNat 0+1) else eB xs (l.take k):=by
 rw [ai hx,eB,List.foldl_append]; rfl
theorem acG (hx:l[k]? = some n) (h:1<=n/\n<=64):(eB xs (l.take k)).set n.toNat ((eB xs (l.take k)).getD n.toNat (au .int)+1)=eB xs (l.take (k+1)):=by rw [AS hx,if_pos h]; rfl
theorem acp (hx:l[k]? = some n) (h:¬ (1<=n/\n<=64)):eB xs (l.take k)=eB xs (l.take (k+1)):=by rw [AS hx,if_neg h]
theorem adJ (h:Fk xs l):I64 ((eB xs (l.take k)).getD n.toNat (au .int)+1):=by
 have h1:=Cr (l.take k) xs n.toNat;have h2:=h n.toNat;rw [List.length_take] at h1;show I64 ((eB xs (l.take k)).getD n.toNat 0+1);constructor <;> omega
def aie (l:List Int) (xs:List Int):List (Nat × LI):=[(1,{ σ:=Nat,F:=fun k=>([(0,one (.ptr 0 0)),(6,one (.fz .int (l))),(7,one (.int (l).length)),(8,one (.int k))],[.arr 338 .int 65 ((eB xs (l.take k)))]),J:=fun k=>k<=l.length,μ:=fun k=>(l).length - k })]
def Ok:Kn:=aK (ae (kT (.nm .state)) (ae (kT (.nm .command)) ao)) aw fun (st,c,_) _=>⟨[],[.c (.int ((if eE st st.version=0 then bF c st.version else 1)))],none,false⟩
theorem Xl:CK 260 Ok:=ag fun (st,c,_) _ _=>by
 refine av tn [] Tryz.func260 (?_:(fun q1=>(fun q0=>(fun q2=>fN st (bB c (I64 q0->(¬q0=0->1=q2)/\(q0=0->I64 q1->q1=q2)))) (if q0=0 then q1 else 1)) (eE st st.version)) (bF c st.version));grind
def Wv:Kn:=aK (ae (kC (aX 0 0)) (ae (kC (cL .int)) ao)) (aC (C_ 338 .int 65) aw) fun (_,l,_) (xs,_)=>⟨[Fk xs l],[],some ([.arr 338 .int 65 ((eB xs l))]),false⟩
theorem aee:CK 360 Wv:=ag fun (_,l,_) (xs,_) hp=>by
 have h0:=cc hp;refine br tn (aie l xs) Tryz.func360 (?_:(fun (q1:Int)=>(fun (q0:Nat)=>(fun (q2:Int)=>l.length*(8:Nat)<=(140737488355328:Nat)->∃ (s0:Nat),(l=l/\(↑l.length:Int)=q2/\(0:Int)=(↑s0:Int)/\xs=eB xs (List.take s0 l))/\s0<=q0/\∀ (s:Nat),(fun (q4:Int)=>(fun (q3:List Int)=>s<=q0->((↑s:Int)<q2->(0:Int)<=(↑s:Int)/\(↑s:Int)<(↑l.length:Int)/\∀ (x:Int),(fun (q5:den Sh.int)=>l[s]? = some x->I64 x->(q1<=x/\x<=(64:Int)->(0:Int)<=x/\x<(↑(65:Nat):Int)/\x.toNat<(65:Nat)/\I64 (q5+q1)/\(0:Int)<=x/\x<(↑(65:Nat):Int)/\(I64 q5->x.toNat<(65:Nat)/\I64 q4/\∃ (s':Nat),(l=l/\q2=q2/\q4=(↑s':Int)/\q3.set x.toNat (q5+q1)=eB xs (List.take s' l))/\s' <= q0/\q0 - s' < q0 - s))/\(x<q1\/(64:Int)<x->I64 q4/\∃ (s':Nat),(l=l/\q2=q2/\q4=(↑s':Int)/\q3=eB xs (List.take s' l))/\s' <= q0/\q0 - s' < q0 - s)) (q3.getD x.toNat (au Sh.int)))/\(q2<=(↑s:Int)->q3=eB xs l)) (eB xs (List.take s l))) ((↑s:Int)+q1)) (↑q0:Int)) l.length) (1:Int));iterate 3 ((all_goals (repeat' with_reducible first|apply aZ|refine aY ?_|intro)); (all_goals try (first | exact bt | exact rfl | exact (acG ab (by constructor <;> omega)) | exact (acp ab aL) | exact (by rw [List.take_of_length_le aL]) | exact (adJ ab))); all_goals try first | refine ⟨‹Nat› + 1,?_⟩ | refine ⟨0,?_⟩)
def WA:bN:=(aO 360 Wv (aO 260 Ok Wa))
theorem Lq:ay Tryz.prog (al tyT) WA:=(ah aee (ah Xl tn))
section
variable {B:Bool} {k:Nat}
variable {st:State} {v:Int}
end
def VV:bN:=WA
theorem MB:ay Tryz.prog (al tyT) VV:=Lq
def WH:bN:=VV
theorem kK:ay Tryz.prog (al tyT) WH:=MB
def fF (xs:List Int) (c:Int):Bool:=decide (0<xs.getD c.toNat (au .int))
def fM (xs ys:List Int) (c:Int):Bool:=decide (0<xs.getD c.toNat (au .int)) && decide (ys.getD c.toNat (au .int)=0)
def ly (p:Int->Bool) (k:Nat):List Int:=((List.range k).map fun (i:Nat)=>(i:Int)+1).filter p
theorem aea {p:Int->Bool} (h:p ((k:Int)+1)=true):ly p k++[(k:Int)+1]=ly p (k+1):=by
 unfold ly; rw [List.range_succ,List.map_append,List.filter_append]; simp [h]
theorem acV {p:Int->Bool} (h:p ((k:Int)+1)=false):ly p k=ly p (k+1):=by
 unfold ly; rw [List.range_succ,List.map_append,List.filter_append]; simp [h]
theorem adD {p:Int->Bool} (h:k<=64) (h2:64<(k:Int)+1):ly p k=ly p 64:=by rw [show k=64 by omega]
theorem ON {p:Int->Bool} (h:k<=64):((ly p k).length+[n].length)*8<=140737488355328:=by
 have:=List.length_filter_le p ((List.range k).map fun (i:Nat)=>(i:Int)+1);rw [List.length_map,ai1] at this;unfold ly; simp only [List.length_cons,List.length_nil]; omega
def cd (l:List Snap):List Int:=l.foldl (fun t x=>eB t x.chunks) (List.replicate 65 0)
theorem tz:∀ (l xs:List Int),(eB xs l).length=xs.length
 | [],_=>rfl
 | n :: l,xs=>by
  show (eB (if 1<=n/\n<=64 then xs.set n.toNat (xs.getD n.toNat 0+1) else xs) l).length=_;rw [tz l]; split
  ·rw [aef]
  rfl
variable {l:List Snap}
theorem kD:cd (l++[x])=eB (cd l) x.chunks:=by unfold cd; rw [List.foldl_append]; rfl
theorem Yr (hx:l[k]? = some x):eB (cd (l.take k)) x.chunks=cd (l.take (k+1)):=by rw [ai hx,kD]
theorem yd {p:List Snap->Prop} (h0:p []) (hs:∀ l x,p l->p (l++[x])) (l:List Snap):p l:=by
 have:∀ r:List Snap,p r.reverse:=fun r=>by
  induction r with
  | nil=>exact h0
  | cons x r ih=>rw [List.reverse_cons]; exact hs _ _ ih
 have h:=this l.reverse;rwa [List.reverse_reverse] at h
theorem jF (l:List Snap):(cd l).length=65:=by
 refine yd (p:=fun l=>(cd l).length=65) rfl (fun l x h=>?_) l;rw [kD,tz,h]
theorem zC:nch (l++[x])=nch l+x.chunks.length:=by unfold nch; simp
theorem JP (l:List Snap) (i:Nat):0<=(cd l).getD i 0/\(cd l).getD i 0<=nch l:=by
 refine yd (p:=fun l=>0<=(cd l).getD i 0/\(cd l).getD i 0<=nch l) ?_ (fun l x h=>?_) l
 ·show 0<=(List.replicate 65 (0:Int)).getD i 0/\(List.replicate 65 (0:Int)).getD i 0<=_;rw [List.getD_eq_getElem?_getD,afq]; split <;> simp
 have:=Cr x.chunks (cd l) i;rw [kD,zC]; omega
theorem DN (hx:l[k]? = some x) (h:nch l<=1048576):Fk (cd (l.take k)) x.chunks:=fun i=>by
 have h1:=JP (l.take k) i;have h2:nch (l.take (k+1))<=nch l:=by
  unfold nch; rw [<- List.take_append_drop (k+1) l,List.flatMap_append,List.length_append,List.take_append_drop]; omega
 rw [ai hx,zC] at h2;omega
theorem ED {m:List Int} {s:Sh} (h:nch l<=1048576) (hm:m.length*8<=140737488355328):Fk (BY .int (cd l) 0 65) m:=fun i=>by
 rw [jE (jF l)];have h1:=JP l i;omega
theorem Fc:∀ (l xs:List Int) (c:Int),1<=c->c<=64->xs.length=65->(eB xs l).getD c.toNat 0=xs.getD c.toNat 0+(l.count c:Nat)
 | [],_,_,_,_,_=>by simp [eB]
 | n :: l,xs,c,h1,h2,h3=>by
  show (eB (if 1<=n/\n<=64 then xs.set n.toNat (xs.getD n.toNat 0+1) else xs) l).getD c.toNat 0=_;rw [Fc l _ c h1 h2 (by split; rw [aef,h3]; exact h3),List.count_cons];split
  ·rw [zA];by_cases e:n=c
   ·subst e; rw [if_pos ⟨rfl,by omega⟩]; simp; omega
   rw [if_neg (by omega)]; simp [e]
  by_cases e:n=c
  ·omega
  simp [e]
theorem Cn (l:List Snap) (c:Int) (h1:1<=c) (h2:c<=64):(cd l).getD c.toNat 0=(CN c l:Nat):=by
 refine yd (p:=fun l=>(cd l).getD c.toNat 0=(CN c l:Nat)) ?_ (fun l x h=>?_) l
 ·show (List.replicate 65 (0:Int)).getD c.toNat 0=_;rw [List.getD_eq_getElem?_getD,afq]; split <;> simp [CN]
 rw [kD,Fc _ _ _ h1 h2 (jF l),h];unfold CN; simp
theorem EY (l:List Snap):((ly (fF (cd l)) 64).length:Int)=(lz l:Int):=by
 unfold ly lz Og;rw [List.filter_map,List.length_map];congr 2;apply List.filter_congr;intro i hi;rw [List.mem_range] at hi;have:=Cn l ((i:Int)+1) (by omega) (by omega);simp only [Function.comp,fF];rw [show (au .int)=(0:Int) from rfl,this];rw [decide_eq_decide]; omega
theorem Mn (l m:List Snap) (id:Int) (e:m=bl id l):ly (fM (cd l) (cd m)) 64=mW l id:=by
 subst e;unfold ly mW El;rw [List.filter_map];congr 1;apply List.filter_congr;intro i hi;rw [List.mem_range] at hi;have h1:=Cn l ((i:Int)+1) (by omega) (by omega);have h2:=Cn (bl id l) ((i:Int)+1) (by omega) (by omega);simp only [Function.comp,fM];rw [show (au .int)=(0:Int) from rfl,h1,h2];congr 1 <;> (rw [decide_eq_decide]; omega)
def aao (l:List Snap):List (Nat × LI):=[(3,{ σ:=Nat,F:=fun k=>([(2,one (.ptr 0 0)),(3,one (.ptr 1 0)),(6,one (.fz (.nm .snap) (l))),(7,one (.int (l).length)),(8,one (.int k))],[.arr 338 .int 65 ((List.replicate 65 0)),.arr 338 .int 65 ((cd (l.take k)))]),J:=fun k=>k<=l.length,μ:=fun k=>l.length - k })]
def Mb (l:List Snap) (id:Int):List (Nat × LI):=[(3,{ σ:=Nat,F:=fun k=>([(1,one (.int (id))),(5,one (.own 0)),(8,one (.fz (.nm .snap) (l))),(9,one (.int (l).length)),(10,one (.int k))],[.row 172 (.nm .snap) ((bl id (l.take k)))]),J:=fun k=>k<=l.length,μ:=fun k=>l.length - k })]
def Ez:Kn:=aK (ae (kC cI) (ae (kC (aX 0 0)) ao)) (aC (C_ 338 .int 65) aw) fun (n,_,_) (xs,_)=>⟨[0<=n/\n<65],[.c (.bool (.atom ((fF xs n))))],none,false⟩
theorem SK:CK 362 Ez:=ag fun (n,_,_) (xs,_) hp=>by
 have h0:=cc hp;refine av kK [] Tryz.func362 (?_:I64 n->(0:Int)<=n/\n<(↑(65:Nat):Int)/\n.toNat<(65:Nat)/\(I64 (xs.getD n.toNat (au Sh.int))->decide ((0:Int)<xs.getD n.toNat (au Sh.int))=fF xs n));(repeat' with_reducible first|apply aZ|refine aY ?_|intro) <;> first | (first | with_reducible rfl | with_reducible assumption | omega | (refine bT ?_ ?_ <;> omega)) | rfl
def Al:Kn:=aK (ae (kC cI) (ae (kC (aX 0 0)) (ae (kC (aX 1 0)) ao))) (aC (C_ 338 .int 65) (aC (C_ 338 .int 65) aw)) fun (n,_,_,_) (xs,ys,_)=>⟨[0<=n/\n<65],[.c (.bool (.atom ((fM xs ys n))))],none,false⟩
theorem Oc:CK 363 Al:=ag fun (n,_,_,_) (xs,ys,_) hp=>by
 have h0:=cc hp;refine av kK [] Tryz.func363 (?_:(fun q1=>(fun q0=>I64 n->q1<=n/\n<(↑(65:Nat):Int)/\n.toNat<(65:Nat)/\(I64 q0->(q1<q0->q1<=n/\n<(↑(65:Nat):Int)/\n.toNat<(65:Nat))/\((q1<q0->I64 (ys.getD n.toNat (au Sh.int)))->(decide (q1<q0) && decide (ys.getD n.toNat (au Sh.int)=q1))=fM xs ys n))) (xs.getD n.toNat (au Sh.int))) (0:Int));(repeat' with_reducible first|apply aZ|refine aY ?_|intro) <;> first | (first | with_reducible rfl | with_reducible assumption | omega | (refine bT ?_ ?_ <;> omega)) | rfl
def Ga:Kn:=aK (ae (kC (cL (.nm .snap))) ao) aw fun (l,_) _=>⟨[nch l<=1048576],[.agg (wy .int ((cd l)) 0 65)],none,false⟩
theorem UB:CK 346 Ga:=ag fun (l,_) _ hp=>by
 have h0:=cc hp;refine av kK (aao l) Tryz.func346 (?_:(fun (q6:Nat)=>(fun (q5:List Int)=>(fun (q4:Nat)=>(fun (q3:Nat)=>(fun (q2:Int)=>(fun (q1:den Sh.int)=>(fun (q0:List (den Sh.int))=>l.length*64<=140737488355328->∃ (s0:Nat),(l=l/\(↑l.length:Int)=(↑q6:Int)/\q2=(↑s0:Int)/\q0=List.replicate q3 (0:den Sh.int)/\q0=cd (List.take s0 l))/\s0<=q6/\∀ (s:Nat),(fun (q8:List Int)=>(fun (q7:List (den Sh.int))=>s<=q6->((↑s:Int)<(↑q6:Int)->q2<=(↑s:Int)/\(↑s:Int)<(↑l.length:Int)/\∀ (x:Snap),l[s]? = some x->fk x ((∀ (i:Nat),q2<=q8.getD i q2/\q8.getD i q2+(↑x.chunks.length:Int)<=4611686018427387904)/\I64 ((↑s:Int)+1)/\∃ (s':Nat),(l=l/\(↑q6:Int)=(↑q6:Int)/\(↑s:Int)+1=(↑s':Int)/\List.replicate q3 (0:den Sh.int)=List.replicate q3 (0:den Sh.int)/\eB q8 x.chunks=cd (List.take s' l))/\s' <= q6/\q6 - s' < q6 - s))/\((↑q6:Int)<=(↑s:Int)->q7.getD q4 q1=q5.getD q4 q1/\q7.getD 1 q1=q5.getD 1 q1/\q7.getD 2 q1=q5.getD 2 q1/\q7.getD 3 q1=q5.getD 3 q1/\q7.getD 4 q1=q5.getD 4 q1/\q7.getD 5 q1=q5.getD 5 q1/\q7.getD 6 q1=q5.getD 6 q1/\q7.getD 7 q1=q5.getD 7 q1/\q7.getD 8 q1=q5.getD 8 q1/\q7.getD 9 q1=q5.getD 9 q1/\q7.getD 10 q1=q5.getD 10 q1/\q7.getD 11 q1=q5.getD 11 q1/\q7.getD 12 q1=q5.getD 12 q1/\q7.getD 13 q1=q5.getD 13 q1/\q7.getD 14 q1=q5.getD 14 q1/\q7.getD 15 q1=q5.getD 15 q1/\q7.getD 16 q1=q5.getD 16 q1/\q7.getD 17 q1=q5.getD 17 q1/\q7.getD 18 q1=q5.getD 18 q1/\q7.getD 19 q1=q5.getD 19 q1/\q7.getD 20 q1=q5.getD 20 q1/\q7.getD 21 q1=q5.getD 21 q1/\q7.getD 22 q1=q5.getD 22 q1/\q7.getD 23 q1=q5.getD 23 q1/\q7.getD 24 q1=q5.getD 24 q1/\q7.getD 25 q1=q5.getD 25 q1/\q7.getD 26 q1=q5.getD 26 q1/\q7.getD 27 q1=q5.getD 27 q1/\q7.getD 28 q1=q5.getD 28 q1/\q7.getD 29 q1=q5.getD 29 q1/\q7.getD 30 q1=q5.getD 30 q1/\q7.getD 31 q1=q5.getD 31 q1/\q7.getD 32 q1=q5.getD 32 q1/\q7.getD 33 q1=q5.getD 33 q1/\q7.getD 34 q1=q5.getD 34 q1/\q7.getD 35 q1=q5.getD 35 q1/\q7.getD 36 q1=q5.getD 36 q1/\q7.getD 37 q1=q5.getD 37 q1/\q7.getD 38 q1=q5.getD 38 q1/\q7.getD 39 q1=q5.getD 39 q1/\q7.getD 40 q1=q5.getD 40 q1/\q7.getD 41 q1=q5.getD 41 q1/\q7.getD 42 q1=q5.getD 42 q1/\q7.getD 43 q1=q5.getD 43 q1/\q7.getD 44 q1=q5.getD 44 q1/\q7.getD 45 q1=q5.getD 45 q1/\q7.getD 46 q1=q5.getD 46 q1/\q7.getD 47 q1=q5.getD 47 q1/\q7.getD 48 q1=q5.getD 48 q1/\q7.getD 49 q1=q5.getD 49 q1/\q7.getD 50 q1=q5.getD 50 q1/\q7.getD 51 q1=q5.getD 51 q1/\q7.getD 52 q1=q5.getD 52 q1/\q7.getD 53 q1=q5.getD 53 q1/\q7.getD 54 q1=q5.getD 54 q1/\q7.getD 55 q1=q5.getD 55 q1/\q7.getD 56 q1=q5.getD 56 q1/\q7.getD 57 q1=q5.getD 57 q1/\q7.getD 58 q1=q5.getD 58 q1/\q7.getD 59 q1=q5.getD 59 q1/\q7.getD 60 q1=q5.getD 60 q1/\q7.getD 61 q1=q5.getD 61 q1/\q7.getD 62 q1=q5.getD 62 q1/\q7.getD 63 q1=q5.getD 63 q1/\q7.getD 64 q1=q5.getD 64 q1)) (BY Sh.int q8 q4 q3)) (cd (List.take s l))) [q2,q2,q2,q2,q2,q2,q2,q2,q2,q2,q2,q2,q2,q2,q2,q2,q2,q2,q2,q2,q2,q2,q2,q2,q2,q2,q2,q2,q2,q2,q2,q2,q2,q2,q2,q2,q2,q2,q2,q2,q2,q2,q2,q2,q2,q2,q2,q2,q2,q2,q2,q2,q2,q2,q2,q2,q2,q2,q2,q2,q2,q2,q2,q2,q2]) (au Sh.int)) 0) 65) 0) (cd l)) l.length);iterate 3 ((all_goals (repeat' with_reducible first|apply aZ|refine aY ?_|intro)); (all_goals try (first | exact bt | exact rfl | exact (Yr ab) | exact (DN ab ab _).1 | exact (DN ab ab _).2 | exact (by rw [jE (jF _),List.take_of_length_le aL]))); all_goals try first | refine ⟨‹Nat› + 1,?_⟩ | refine ⟨0,?_⟩)
def vr:Kn:=aK (ae (kC (cL (.nm .snap))) (ae (kC cI) ao)) aw fun (l,id,_) _=>⟨[],[.c (.own 0)],some ([.row 172 (.nm .snap) ((bl id l))]),true⟩
theorem Jb:CK 349 vr:=ag fun (l,id,_) _ _=>by
 refine dD kK (Mb l id) Tryz.func349 (?_:(fun (q0:Nat)=>(fun (q1:Int)=>l.length*64<=140737488355328->I64 id->∃ (s0:Nat),(id=id/\l=l/\(↑l.length:Int)=q1/\0=(↑s0:Int)/\bl id (List.take s0 l)=[])/\s0<=q0/\∀ (s:Nat),(fun (q3:List Snap)=>(fun (q2:Int)=>s<=q0->((↑s:Int)<q1->0<=(↑s:Int)/\(↑s:Int)<(↑l.length:Int)/\∀ (x:Snap),l[s]? = some x->fk x ((¬x.id=id->x.chunks.length*8<=140737488355328->(q3.length+[x].length)*64<=140737488355328/\I64 q2/\∃ (s':Nat),(id=id/\l=l/\q1=q1/\q2=(↑s':Int)/\q3++[x]=bl id (List.take s' l))/\s' <= q0/\q0 - s' < q0 - s)/\(x.id=id->I64 q2/\∃ (s':Nat),(id=id/\l=l/\q1=q1/\q2=(↑s':Int)/\q3=bl id (List.take s' l))/\s' <= q0/\q0 - s' < q0 - s)))/\(q1<=(↑s:Int)->q3=bl id l)) ((↑s:Int)+1)) (bl id (List.take s l))) (↑q0:Int)) l.length);iterate 3 ((all_goals (repeat' with_reducible first|apply aZ|refine aY ?_|intro)); (all_goals try (first | exact bt | exact rfl | exact (abh ab ab ab) | exact (ab9 ab ab) | exact (Xh aL) | exact (ZO aL aL))); all_goals try first | refine ⟨‹Nat› + 1,?_⟩ | refine ⟨0,?_⟩)
def Vo:bN:=(aO 349 vr (aO 346 Ga (aO 363 Al (aO 362 Ez WH))))
theorem sM:ay Tryz.prog (al tyT) Vo:=(ah Jb (ah UB (ah Oc (ah SK kK))))
def Ku (xs:List Int):List (Nat × LI):=[(3,{ σ:=Nat,F:=fun k=>([(0,one (.fn 362 [] [(0,0)])),(3,one (.own 1)),(4,one (.int (k+1)))],[.arr 338 .int 65 ((xs)),.row 3 .int ((ly (fF xs) k))]),J:=fun k=>k<=64,μ:=fun k=>64 - k })]
def OS (xs:List Int) (ys:List Int):List (Nat × LI):=[(3,{ σ:=Nat,F:=fun k=>([(0,one (.fn 363 [] [(0,0),(1,0)])),(3,one (.own 2)),(4,one (.int (k+1)))],[.arr 338 .int 65 ((xs)),.arr 338 .int 65 ((ys)),.row 3 .int ((ly (fM xs ys) k))]),J:=fun k=>k<=64,μ:=fun k=>64 - k })]
def uW:Kn:=aK (ae (kC (qO 362 [] [(0,0)])) ao) (aC (C_ 338 .int 65) aw) fun _ (xs,_)=>⟨[],[.c (.fz .int ((ly (fF xs) 64)))],none,false⟩
theorem IS:CK 361 uW:=ag fun _ (xs,_) _=>by
 refine av sM (Ku xs) Tryz.func361 (?_:(fun (q1:Nat)=>(fun (q0:Int)=>∃ (s0:Nat),(q0=(↑s0:Int)+q0/\xs=xs/\ly (fF xs) s0=[])/\s0<=q1/\∀ (s:Nat),(fun (q3:List Int)=>(fun (q2:Int)=>s<=q1->(q2<=64->(0<=q2/\q2<65)/\(fF xs q2=true->(q3.length+[q2].length)*8<=140737488355328/\I64 (q2+q0)/\∃ (s':Nat),(q2+q0=(↑s':Int)+q0/\xs=xs/\q3++[q2]=ly (fF xs) s')/\s' <= q1/\q1 - s' < q1 - s)/\(fF xs q2=false->I64 (q2+q0)/\∃ (s':Nat),(q2+q0=(↑s':Int)+q0/\xs=xs/\q3=ly (fF xs) s')/\s' <= q1/\q1 - s' < q1 - s))/\(64<q2->q3=ly (fF xs) q1)) ((↑s:Int)+q0)) (ly (fF xs) s)) 1) 64);iterate 3 ((all_goals (repeat' with_reducible first|apply aZ|refine aY ?_|intro)); (all_goals try (first | exact bt | exact rfl | exact (aea ab) | exact (acV ab) | exact (adD aL aL) | exact (ON aL) | exact (And.intro aL aL))); all_goals try first | refine ⟨‹Nat› + 1,?_⟩ | refine ⟨0,?_⟩)
def uJ:Kn:=aK (ae (kC (qO 363 [] [(0,0),(1,0)])) ao) (aC (C_ 338 .int 65) (aC (C_ 338 .int 65) aw)) fun _ (xs,ys,_)=>⟨[],[.c (.fz .int ((ly (fM xs ys) 64)))],none,false⟩
theorem HN:CK 361 uJ:=ag fun _ (xs,ys,_) _=>by
 refine av sM (OS xs ys) Tryz.func361 (?_:(fun (q1:Nat)=>(fun (q0:Int)=>∃ (s0:Nat),(q0=(↑s0:Int)+q0/\xs=xs/\ys=ys/\ly (fM xs ys) s0=[])/\s0<=q1/\∀ (s:Nat),(fun (q3:List Int)=>(fun (q2:Int)=>s<=q1->(q2<=64->(0<=q2/\q2<65)/\(fM xs ys q2=true->(q3.length+[q2].length)*8<=140737488355328/\I64 (q2+q0)/\∃ (s':Nat),(q2+q0=(↑s':Int)+q0/\xs=xs/\ys=ys/\q3++[q2]=ly (fM xs ys) s')/\s' <= q1/\q1 - s' < q1 - s)/\(fM xs ys q2=false->I64 (q2+q0)/\∃ (s':Nat),(q2+q0=(↑s':Int)+q0/\xs=xs/\ys=ys/\q3=ly (fM xs ys) s')/\s' <= q1/\q1 - s' < q1 - s))/\(64<q2->q3=ly (fM xs ys) q1)) ((↑s:Int)+q0)) (ly (fM xs ys) s)) 1) 64);iterate 3 ((all_goals (repeat' with_reducible first|apply aZ|refine aY ?_|intro)); (all_goals try (first | exact bt | exact rfl | exact (aea ab) | exact (acV ab) | exact (adD aL aL) | exact (ON aL) | exact (And.intro aL aL))); all_goals try first | refine ⟨‹Nat› + 1,?_⟩ | refine ⟨0,?_⟩)
def Vj:bN:=(aO 361 uJ (aO 361 uW Vo))
theorem tJ:ay Tryz.prog (al tyT) Vj:=(ah HN (ah IS sM))
def Mh:Kn:=aK (ae (kA .int 65) ao) aw fun (xs,_) _=>⟨[xs.length=65],[.c (.fz .int ((ly (fF xs) 64)))],none,false⟩
theorem aaM:CK 345 Mh:=ag fun (xs,_) _ hp=>by
 have h0:=cc hp;refine av tJ [] Tryz.func345 (?_:(fun q1=>(fun q0=>I64 (xs.getD 0 q0)->I64 (xs.getD 1 q0)->I64 (xs.getD 2 q0)->I64 (xs.getD 3 q0)->I64 (xs.getD 4 q0)->I64 (xs.getD 5 q0)->I64 (xs.getD 6 q0)->I64 (xs.getD 7 q0)->I64 (xs.getD 8 q0)->I64 (xs.getD 9 q0)->I64 (xs.getD 10 q0)->I64 (xs.getD 11 q0)->I64 (xs.getD 12 q0)->I64 (xs.getD 13 q0)->I64 (xs.getD 14 q0)->I64 (xs.getD 15 q0)->I64 (xs.getD 16 q0)->I64 (xs.getD 17 q0)->I64 (xs.getD 18 q0)->I64 (xs.getD 19 q0)->I64 (xs.getD 20 q0)->I64 (xs.getD 21 q0)->I64 (xs.getD 22 q0)->I64 (xs.getD 23 q0)->I64 (xs.getD 24 q0)->I64 (xs.getD 25 q0)->I64 (xs.getD 26 q0)->I64 (xs.getD 27 q0)->I64 (xs.getD 28 q0)->I64 (xs.getD 29 q0)->I64 (xs.getD 30 q0)->I64 (xs.getD 31 q0)->I64 (xs.getD 32 q0)->I64 (xs.getD 33 q0)->I64 (xs.getD 34 q0)->I64 (xs.getD 35 q0)->I64 (xs.getD 36 q0)->I64 (xs.getD 37 q0)->I64 (xs.getD 38 q0)->I64 (xs.getD 39 q0)->I64 (xs.getD 40 q0)->I64 (xs.getD 41 q0)->I64 (xs.getD 42 q0)->I64 (xs.getD 43 q0)->I64 (xs.getD 44 q0)->I64 (xs.getD 45 q0)->I64 (xs.getD 46 q0)->I64 (xs.getD 47 q0)->I64 (xs.getD 48 q0)->I64 (xs.getD 49 q0)->I64 (xs.getD 50 q0)->I64 (xs.getD 51 q0)->I64 (xs.getD 52 q0)->I64 (xs.getD 53 q0)->I64 (xs.getD 54 q0)->I64 (xs.getD 55 q0)->I64 (xs.getD 56 q0)->I64 (xs.getD 57 q0)->I64 (xs.getD 58 q0)->I64 (xs.getD 59 q0)->I64 (xs.getD 60 q0)->I64 (xs.getD 61 q0)->I64 (xs.getD 62 q0)->I64 (xs.getD 63 q0)->I64 (xs.getD 64 q0)->q1.length*8<=140737488355328->q1=ly (fF xs) 64) (au Sh.int)) (ly (fF (BY Sh.int xs 0 65)) 64));(repeat' with_reducible first|apply aZ|refine aY ?_|intro)
 all_goals (first | exact bt | exact (by rw [jE h0]) | exact (by rw [jE h0]; assumption))
def yT:Kn:=aK (ae (kC (cL (.nm .snap))) (ae (kC cI) ao)) aw fun (l,id,_) _=>⟨[nch l<=1048576],[.c (.fz .int ((mW l id)))],none,false⟩
theorem Mm:CK 348 yT:=ag fun (l,id,_) _ hp=>by
 have h0:=cc hp;refine av tJ [] Tryz.func348 (?_:(fun q3=>(fun q2=>(fun q1=>(fun q0=>(fun q4=>l.length*64<=140737488355328->I64 id->nch l<=1048576/\(I64 (q2.getD q3 q1)->I64 (q2.getD 1 q1)->I64 (q2.getD 2 q1)->I64 (q2.getD 3 q1)->I64 (q2.getD 4 q1)->I64 (q2.getD 5 q1)->I64 (q2.getD 6 q1)->I64 (q2.getD 7 q1)->I64 (q2.getD 8 q1)->I64 (q2.getD 9 q1)->I64 (q2.getD 10 q1)->I64 (q2.getD 11 q1)->I64 (q2.getD 12 q1)->I64 (q2.getD 13 q1)->I64 (q2.getD 14 q1)->I64 (q2.getD 15 q1)->I64 (q2.getD 16 q1)->I64 (q2.getD 17 q1)->I64 (q2.getD 18 q1)->I64 (q2.getD 19 q1)->I64 (q2.getD 20 q1)->I64 (q2.getD 21 q1)->I64 (q2.getD 22 q1)->I64 (q2.getD 23 q1)->I64 (q2.getD 24 q1)->I64 (q2.getD 25 q1)->I64 (q2.getD 26 q1)->I64 (q2.getD 27 q1)->I64 (q2.getD 28 q1)->I64 (q2.getD 29 q1)->I64 (q2.getD 30 q1)->I64 (q2.getD 31 q1)->I64 (q2.getD 32 q1)->I64 (q2.getD 33 q1)->I64 (q2.getD 34 q1)->I64 (q2.getD 35 q1)->I64 (q2.getD 36 q1)->I64 (q2.getD 37 q1)->I64 (q2.getD 38 q1)->I64 (q2.getD 39 q1)->I64 (q2.getD 40 q1)->I64 (q2.getD 41 q1)->I64 (q2.getD 42 q1)->I64 (q2.getD 43 q1)->I64 (q2.getD 44 q1)->I64 (q2.getD 45 q1)->I64 (q2.getD 46 q1)->I64 (q2.getD 47 q1)->I64 (q2.getD 48 q1)->I64 (q2.getD 49 q1)->I64 (q2.getD 50 q1)->I64 (q2.getD 51 q1)->I64 (q2.getD 52 q1)->I64 (q2.getD 53 q1)->I64 (q2.getD 54 q1)->I64 (q2.getD 55 q1)->I64 (q2.getD 56 q1)->I64 (q2.getD 57 q1)->I64 (q2.getD 58 q1)->I64 (q2.getD 59 q1)->I64 (q2.getD 60 q1)->I64 (q2.getD 61 q1)->I64 (q2.getD 62 q1)->I64 (q2.getD 63 q1)->I64 (q2.getD 64 q1)->nch (bl id l)<=1048576/\(I64 (q0.getD q3 q1)->I64 (q0.getD 1 q1)->I64 (q0.getD 2 q1)->I64 (q0.getD 3 q1)->I64 (q0.getD 4 q1)->I64 (q0.getD 5 q1)->I64 (q0.getD 6 q1)->I64 (q0.getD 7 q1)->I64 (q0.getD 8 q1)->I64 (q0.getD 9 q1)->I64 (q0.getD 10 q1)->I64 (q0.getD 11 q1)->I64 (q0.getD 12 q1)->I64 (q0.getD 13 q1)->I64 (q0.getD 14 q1)->I64 (q0.getD 15 q1)->I64 (q0.getD 16 q1)->I64 (q0.getD 17 q1)->I64 (q0.getD 18 q1)->I64 (q0.getD 19 q1)->I64 (q0.getD 20 q1)->I64 (q0.getD 21 q1)->I64 (q0.getD 22 q1)->I64 (q0.getD 23 q1)->I64 (q0.getD 24 q1)->I64 (q0.getD 25 q1)->I64 (q0.getD 26 q1)->I64 (q0.getD 27 q1)->I64 (q0.getD 28 q1)->I64 (q0.getD 29 q1)->I64 (q0.getD 30 q1)->I64 (q0.getD 31 q1)->I64 (q0.getD 32 q1)->I64 (q0.getD 33 q1)->I64 (q0.getD 34 q1)->I64 (q0.getD 35 q1)->I64 (q0.getD 36 q1)->I64 (q0.getD 37 q1)->I64 (q0.getD 38 q1)->I64 (q0.getD 39 q1)->I64 (q0.getD 40 q1)->I64 (q0.getD 41 q1)->I64 (q0.getD 42 q1)->I64 (q0.getD 43 q1)->I64 (q0.getD 44 q1)->I64 (q0.getD 45 q1)->I64 (q0.getD 46 q1)->I64 (q0.getD 47 q1)->I64 (q0.getD 48 q1)->I64 (q0.getD 49 q1)->I64 (q0.getD 50 q1)->I64 (q0.getD 51 q1)->I64 (q0.getD 52 q1)->I64 (q0.getD 53 q1)->I64 (q0.getD 54 q1)->I64 (q0.getD 55 q1)->I64 (q0.getD 56 q1)->I64 (q0.getD 57 q1)->I64 (q0.getD 58 q1)->I64 (q0.getD 59 q1)->I64 (q0.getD 60 q1)->I64 (q0.getD 61 q1)->I64 (q0.getD 62 q1)->I64 (q0.getD 63 q1)->I64 (q0.getD 64 q1)->q4.length*8<=140737488355328->q4=mW l id))) (ly (fM (BY Sh.int q2 q3 65) (BY Sh.int q0 q3 65)) 64)) (cd (bl id l))) (au Sh.int)) (cd l)) (0:Nat))
 (repeat' with_reducible first|apply aZ|refine aY ?_|intro)
 all_goals (first | exact bt | exact (Ye (by assumption)) | exact (by rw [jE (jF _),jE (jF _)]; exact Mn _ _ _ rfl))
def Va:bN:=(aO 348 yT (aO 345 Mh Vj))
theorem ra:ay Tryz.prog (al tyT) Va:=(ah Mm (ah aaM tJ))
def pL:Kn:=aK (ae (kC (cL (.nm .snap))) ao) aw fun (l,_) _=>⟨[nch l<=1048576],[.c (.int (((lz l:Int))))],none,false⟩
theorem zW:CK 313 pL:=ag fun (l,_) _ hp=>by
 have h0:=cc hp;refine av ra [] Tryz.func313 (?_:(fun (q1:den Sh.int)=>(fun (q0:List Int)=>(fun (q2:Nat)=>l.length*64<=140737488355328->nch l<=1048576/\(I64 (q0.getD 0 q1)->I64 (q0.getD 1 q1)->I64 (q0.getD 2 q1)->I64 (q0.getD 3 q1)->I64 (q0.getD 4 q1)->I64 (q0.getD 5 q1)->I64 (q0.getD 6 q1)->I64 (q0.getD 7 q1)->I64 (q0.getD 8 q1)->I64 (q0.getD 9 q1)->I64 (q0.getD 10 q1)->I64 (q0.getD 11 q1)->I64 (q0.getD 12 q1)->I64 (q0.getD 13 q1)->I64 (q0.getD 14 q1)->I64 (q0.getD 15 q1)->I64 (q0.getD 16 q1)->I64 (q0.getD 17 q1)->I64 (q0.getD 18 q1)->I64 (q0.getD 19 q1)->I64 (q0.getD 20 q1)->I64 (q0.getD 21 q1)->I64 (q0.getD 22 q1)->I64 (q0.getD 23 q1)->I64 (q0.getD 24 q1)->I64 (q0.getD 25 q1)->I64 (q0.getD 26 q1)->I64 (q0.getD 27 q1)->I64 (q0.getD 28 q1)->I64 (q0.getD 29 q1)->I64 (q0.getD 30 q1)->I64 (q0.getD 31 q1)->I64 (q0.getD 32 q1)->I64 (q0.getD 33 q1)->I64 (q0.getD 34 q1)->I64 (q0.getD 35 q1)->I64 (q0.getD 36 q1)->I64 (q0.getD 37 q1)->I64 (q0.getD 38 q1)->I64 (q0.getD 39 q1)->I64 (q0.getD 40 q1)->I64 (q0.getD 41 q1)->I64 (q0.getD 42 q1)->I64 (q0.getD 43 q1)->I64 (q0.getD 44 q1)->I64 (q0.getD 45 q1)->I64 (q0.getD 46 q1)->I64 (q0.getD 47 q1)->I64 (q0.getD 48 q1)->I64 (q0.getD 49 q1)->I64 (q0.getD 50 q1)->I64 (q0.getD 51 q1)->I64 (q0.getD 52 q1)->I64 (q0.getD 53 q1)->I64 (q0.getD 54 q1)->I64 (q0.getD 55 q1)->I64 (q0.getD 56 q1)->I64 (q0.getD 57 q1)->I64 (q0.getD 58 q1)->I64 (q0.getD 59 q1)->I64 (q0.getD 60 q1)->I64 (q0.getD 61 q1)->I64 (q0.getD 62 q1)->I64 (q0.getD 63 q1)->I64 (q0.getD 64 q1)->(BY Sh.int q0 0 65).length=65/\(q2*8<=140737488355328->(↑q2:Int)=(↑(lz l):Int)))) (ly (fF (BY Sh.int q0 0 65)) 64).length) (cd l)) (au Sh.int));(repeat' with_reducible first|apply aZ|refine aY ?_|intro)
 all_goals (first | exact bt | exact (qV 65 0) | exact (by rw [jE (jF _)]; exact EY _))
def Gr:Kn:=aK (ae (kC (cL (.nm .snap))) (ae (kC (cL .int)) ao)) aw fun (l,m,_) _=>⟨[nch l<=1048576],[.c (.int (((lz (l++[⟨0,0,m,false,⟨[]⟩⟩]):Int))))],none,false⟩
theorem TC:CK 343 Gr:=ag fun (l,m,_) _ hp=>by
 have h0:=cc hp;refine av ra [] Tryz.func343 (?_:(fun q3=>(fun q2=>(fun q1=>(fun q0=>(fun q4=>l.length*64<=140737488355328->m.length*8<=140737488355328->nch l<=1048576/\(I64 (q0.getD q2 q1)->I64 (q0.getD 1 q1)->I64 (q0.getD 2 q1)->I64 (q0.getD 3 q1)->I64 (q0.getD 4 q1)->I64 (q0.getD 5 q1)->I64 (q0.getD 6 q1)->I64 (q0.getD 7 q1)->I64 (q0.getD 8 q1)->I64 (q0.getD 9 q1)->I64 (q0.getD 10 q1)->I64 (q0.getD 11 q1)->I64 (q0.getD 12 q1)->I64 (q0.getD 13 q1)->I64 (q0.getD 14 q1)->I64 (q0.getD 15 q1)->I64 (q0.getD 16 q1)->I64 (q0.getD 17 q1)->I64 (q0.getD 18 q1)->I64 (q0.getD 19 q1)->I64 (q0.getD 20 q1)->I64 (q0.getD 21 q1)->I64 (q0.getD 22 q1)->I64 (q0.getD 23 q1)->I64 (q0.getD 24 q1)->I64 (q0.getD 25 q1)->I64 (q0.getD 26 q1)->I64 (q0.getD 27 q1)->I64 (q0.getD 28 q1)->I64 (q0.getD 29 q1)->I64 (q0.getD 30 q1)->I64 (q0.getD 31 q1)->I64 (q0.getD 32 q1)->I64 (q0.getD 33 q1)->I64 (q0.getD 34 q1)->I64 (q0.getD 35 q1)->I64 (q0.getD 36 q1)->I64 (q0.getD 37 q1)->I64 (q0.getD 38 q1)->I64 (q0.getD 39 q1)->I64 (q0.getD 40 q1)->I64 (q0.getD 41 q1)->I64 (q0.getD 42 q1)->I64 (q0.getD 43 q1)->I64 (q0.getD 44 q1)->I64 (q0.getD 45 q1)->I64 (q0.getD 46 q1)->I64 (q0.getD 47 q1)->I64 (q0.getD 48 q1)->I64 (q0.getD 49 q1)->I64 (q0.getD 50 q1)->I64 (q0.getD 51 q1)->I64 (q0.getD 52 q1)->I64 (q0.getD 53 q1)->I64 (q0.getD 54 q1)->I64 (q0.getD 55 q1)->I64 (q0.getD 56 q1)->I64 (q0.getD 57 q1)->I64 (q0.getD 58 q1)->I64 (q0.getD 59 q1)->I64 (q0.getD 60 q1)->I64 (q0.getD 61 q1)->I64 (q0.getD 62 q1)->I64 (q0.getD 63 q1)->I64 (q0.getD 64 q1)->(∀ (i:Nat),(fun q5=>0<=q5/\q5+(↑m.length:Int)<=4611686018427387904) ((BY Sh.int q0 q2 q3).getD i 0))/\q4.length=q3/\((ly (fF q4) 64).length*8<=140737488355328->(↑(ly (fF q4) 64).length:Int)=(↑(lz (l++[Snap.mk 0 0 m false (Str.mk [])])):Int)))) (BY Sh.int (eB (BY Sh.int q0 q2 q3) m) q2 q3)) (cd l)) (au Sh.int)) (0:Nat)) (65:Nat));(repeat' with_reducible first|apply aZ|refine aY ?_|intro)
 all_goals (first | exact bt | exact (qV 65 0) | exact (ED (s:=.int) (by assumption) (by assumption) _).1 | exact (ED (s:=.int) (by assumption) (by assumption) _).2 | exact (by rw [jE (s:=.int) (xs:=eB _ _) (by rw [tz,qV]),jE (jF l)]; have:=EY (l++[Snap.mk 0 0 m false ⟨[]⟩]); rw [kD] at this; exact this))
def Wm:bN:=(aO 343 Gr (aO 313 pL Va))
theorem gr:ay Tryz.prog (al tyT) Wm:=(ah TC (ah zW ra))
def yO {α:Type} (l:List α) (i:Nat) (x:α):List α:=l.take i++x :: l.drop i
def Rz {α:Type} (l:List α) (i:Int):List α:=l.take i.toNat++l.drop (i+1).toNat
def cq (s:State) (c:Command):Int:=if 0<=ak Opn.set c.set s.opens/\¬ (s.opens.getD (ak Opn.set c.set s.opens).toNat (au (.nm .opn))).client=c.client then -1 else ak Opn.set c.set s.opens
def eX (s:State) (c:Command):State × Reply:=if 0<=ak Opn.set c.set s.opens then (s,⟨16,(s.opens.getD (ak Opn.set c.set s.opens).toNat (au (.nm .opn))).client⟩)
 else ({ s with opens:=yO s.opens (s.opens.takeWhile fun y=>decide (y.set<c.set)).length ⟨c.set,c.client⟩ },⟨0,0⟩)
def eP (s:State) (c:Command):State × Reply:=if cq s c<0 then (s,⟨15,0⟩) else ({ s with opens:=Rz s.opens (cq s c) },⟨0,0⟩)
def eJ (s:State) (c:Command):State × Reply:=
 if cq s c<0 then (s,⟨15,0⟩)
 else if 16<=(s.snaps.length:Int)\/1048576<=s.next then (s,⟨20,0⟩)
 else if ¬ s.quota=0/\s.quota<(lz (s.snaps++[⟨0,0,c.chunks,false,⟨[]⟩⟩]):Int) then (s,⟨19,0⟩)
 else ({ s with next:=s.next+1,opens:=Rz s.opens (cq s c),snaps:=s.snaps++[⟨s.next,c.set,c.chunks,false,⟨[]⟩⟩] },⟨0,s.next⟩)
def eC (s:State) (at_:Nat):State × Reply:=
 if (s.snaps.getD at_ (au (.nm .snap))).held=true then (s,⟨17,0⟩)
 else if mi s at_=true then (s,⟨18,0⟩)
 else ({ s with snaps:=bl (s.snaps.getD at_ (au (.nm .snap))).id s.snaps },⟨0,(mW s.snaps (s.snaps.getD at_ (au (.nm .snap))).id).length⟩)
def fT (s:State) (at_:Nat):State × Reply:=(s,⟨0,(s.snaps.getD at_ (au (.nm .snap))).chunks.length⟩)
def gG (b:Bool) (s:State) (at_:Nat):State × Reply:=
 if (s.snaps.getD at_ (au (.nm .snap))).held=b then (s,⟨0,0⟩)
 else ({ s with snaps:=s.snaps.set at_ { s.snaps.getD at_ (au (.nm .snap)) with held:=b } },⟨0,1⟩)
def si (c:Command) (s:State) (at_:Nat):State × Reply:=({ s with snaps:=s.snaps.set at_ { s.snaps.getD at_ (au (.nm .snap)) with tag:=c.text } },⟨0,0⟩)
def sQ (c:Command) (s:State):State × Reply:=({ s with keep:=c.n },⟨0,0⟩)
def ph (c:Command) (s:State):State × Reply:=({ s with quota:=c.n },⟨0,lz s.snaps⟩)
theorem dX {key:α->Int} {want:Int} {l:List α} (h:0<=ak key want l):ak key want l<(l.length:Int):=by
 unfold ak at *;split
 ·rename_i i hi;have:=(aeC.1 hi).1;omega
 omega
theorem M_ {s:State} {c:Command} (h:0<=cq s c):cq s c+1<=(s.opens.length:Int):=by
 unfold cq at *;split
 ·rename_i h1; rw [if_pos h1] at h; omega
 rename_i h1; rw [if_neg h1] at h;have:=dX h;omega
theorem Hk (i:Int) (m:List Opn) (l:List Opn) (h0:0<=i/\i<=(l.length:Int)) (h1:l.length<1048576) (h2:m.length=1):Sat Tryz.prog (al tyT) 341 [.c (.own 0),.c (.int (i)),.c (.fz (.nm .opn) (m))] [.row 139 (.nm .opn) (l)] ⟨[0<=i/\i<=(l.length:Int),l.length<1048576,m.length=1],[.c (.own 0)],some ([.row 139 (.nm .opn) ((l.take i.toNat++m++l.drop i.toNat))]),false⟩:=xQ i l m h0 h1 h2
def vF:Kn:=aK (ae (kC (eV 0)) (ae (kC cI) (ae (kC (cL (.nm .opn))) ao))) (aC (eW 139 (.nm .opn)) aw) fun (_,i,m,_) (l,_)=>⟨[0<=i/\i<=(l.length:Int),l.length<1048576,m.length=1],[.c (.own 0)],some ([.row 139 (.nm .opn) ((l.take i.toNat++m++l.drop i.toNat))]),false⟩
theorem Hs:CK 341 vF:=ag fun (_,i,m,_) (l,_) hp=>Hk i m l (cc hp) (cc (eT hp)) (cc (eT (eT hp)))
theorem Dp (i:Int) (l:List Sess) (m:List Sess) (h0:0<=i/\i<=(l.length:Int)) (h1:l.length<1048576) (h2:m.length=1):Sat Tryz.prog (al tyT) 263 [.c (.own 0),.c (.int (i)),.c (.own 1)] [.row 137 (.nm .sess) (l),.row 137 (.nm .sess) (m)] ⟨[0<=i/\i<=(l.length:Int),l.length<1048576,m.length=1],[.c (.own 0)],some ([.row 137 (.nm .sess) ((l.take i.toNat++m++l.drop i.toNat)),.row 137 (.nm .sess) ((m))]),false⟩:=xi i l m h0 h1 h2
def sN:Kn:=aK (ae (kC (eV 0)) (ae (kC cI) (ae (kC (eV 1)) ao))) (aC (eW 137 (.nm .sess)) (aC (eW 137 (.nm .sess)) aw)) fun (_,i,_,_) (l,m,_)=>⟨[0<=i/\i<=(l.length:Int),l.length<1048576,m.length=1],[.c (.own 0)],some ([.row 137 (.nm .sess) ((l.take i.toNat++m++l.drop i.toNat)),.row 137 (.nm .sess) ((m))]),false⟩
theorem Dv:CK 263 sN:=ag fun (_,i,_,_) (l,m,_) hp=>Dp i l m (cc hp) (cc (eT hp)) (cc (eT (eT hp)))
theorem H_ (i:Int) (j:Int) (l:List Opn) (h0:0<=i/\i<(l.length:Int)/\j=i+1):Sat Tryz.prog (al tyT) 344 [.c (.own 0),.c (.int (i)),.c (.int (j))] [.row 139 (.nm .opn) (l)] ⟨[0<=i/\i<(l.length:Int)/\j=i+1],[.c (.own 0)],some ([.row 139 (.nm .opn) ((l.take i.toNat++l.drop j.toNat))]),false⟩:=AF i j l h0
def vZ:Kn:=aK (ae (kC (eV 0)) (ae (kC cI) (ae (kC cI) ao))) (aC (eW 139 (.nm .opn)) aw) fun (_,i,j,_) (l,_)=>⟨[0<=i/\i<(l.length:Int)/\j=i+1],[.c (.own 0)],some ([.row 139 (.nm .opn) ((l.take i.toNat++l.drop j.toNat))]),false⟩
theorem HE:CK 344 vZ:=ag fun (_,i,j,_) (l,_) hp=>H_ i j l (cc hp)
def uZ:Kn:=aK (ae (kC (aX 0 0)) (ae (kT (.nm .command)) ao)) (qw 0 aw) fun (_,c,_) (z,_)=>⟨[],[.c (.int ((cq z c)))],none,false⟩
theorem HI:CK 342 uZ:=ag fun (_,c,_) (z,_) _=>by
 obtain ⟨v,nx,kp,qt,se,op,sn⟩:=z;refine av gr [] Tryz.func342 (?_:(fun q1=>(fun q0=>(fun q3=>(fun q2=>bB c (I64 q0->(q3->q3/\q0<(↑op.length:Int))/\((q3->I64 q2.set/\I64 q2.client)->(q3/\¬q2.client=c.client -> -1=q1)/\(q0<0\/q2.client=c.client->q0=q1)))) (op.getD q0.toNat (au (Sh.nm NT.opn)))) (0<=q0)) (ak Opn.set c.set op)) (cq (State.mk v nx kp qt se op sn) c));(repeat' with_reducible first|apply aZ|refine aY ?_|intro)
 all_goals (first | exact bt | exact dX ab | (unfold cq; grind))
def Mq:Kn:=aK (ae (kC (aX 0 0)) (ae (kC (aX 1 0)) ao)) (aC (ye 35 (.nm .command)) (qw 1 aw)) fun _ (c,z,_)=>⟨[],[.agg (cellsOf (.nm .reply) ((sQ c z).2))],some (([.box 35 (cellsOf (.nm .command) (c))]++sU 1 ((sQ c z).1))),false⟩
theorem YS:CK 311 Mq:=ag fun _ (c,z,_) _=>by
 obtain ⟨v,nx,kp,qt,se,op,sn⟩:=z;refine br gr [] Tryz.func311 (?_:(fun q0=>0=q0.snd.code/\0=q0.snd.n/\bm c c (dk (State.mk v nx c.n qt se op sn) q0.fst)) (sQ c (State.mk v nx kp qt se op sn)));(repeat' with_reducible first|apply aZ|refine aY ?_|intro)
 all_goals (first | exact bt | exact rfl)
def Ov:Kn:=aK (ae (kC (aX 0 0)) (ae (kC (aX 1 0)) ao)) (aC (ye 35 (.nm .command)) (qw 1 aw)) fun _ (c,z,_)=>⟨[nch z.snaps<=1048576],[.agg (cellsOf (.nm .reply) ((ph c z).2))],some (([.box 35 (cellsOf (.nm .command) (c))]++sU 1 ((ph c z).1))),false⟩
theorem ZG:CK 312 Ov:=ag fun _ (c,z,_) hp=>by
 obtain ⟨v,nx,kp,qt,se,op,sn⟩:=z;have h0:nch sn<=1048576:=cc hp;refine br gr [] Tryz.func312 (?_:(fun q0=>nch sn<=1048576/\(I64 (↑(lz sn):Int)->0=q0.snd.code/\(↑(lz sn):Int)=q0.snd.n/\bm c c (dk (State.mk v nx kp c.n se op sn) q0.fst))) (ph c (State.mk v nx kp qt se op sn)));(repeat' with_reducible first|apply aZ|refine aY ?_|intro)
 all_goals (first | exact bt | exact rfl)
def FE:Kn:=aK (ae (kC (aX 0 0)) (ae (kC cI) ao)) (qw 0 aw) fun (_,i,_) (z,_)=>⟨[0<=i/\i<(z.snaps.length:Int),nch z.snaps<=1048576],[.agg (cellsOf (.nm .reply) ((eC z i.toNat).2))],some ((sU 0 ((eC z i.toNat).1))),false⟩
theorem QL:CK 315 FE:=ag fun (_,i,_) (z,_) hp=>by
 obtain ⟨v,nx,kp,qt,se,op,sn⟩:=z;have h0:0<=i/\i<(sn.length:Int):=cc hp;have h1:nch sn<=1048576:=cc (eT hp);refine br gr [] Tryz.func315 (?_:(fun q3=>(fun q2=>(fun q1=>(fun q0=>(fun q4=>I64 i->q3<=i/\i<(↑sn.length:Int)/\fk q1 ((q1.held=true->I64 17->I64 q3->17=q0.snd.code/\q4)/\(q1.held=false->(mi q2 i=true->I64 18->I64 q3->18=q0.snd.code/\q4)/\(mi q2 i=false->nch sn<=1048576/\((mW sn q1.id).length*8<=140737488355328->q3=q0.snd.code/\(↑(mW sn q1.id).length:Int)=q0.snd.n/\dk (State.mk v nx kp qt se op (bl q1.id sn)) q0.fst))))) (q3=q0.snd.n/\dk q2 q0.fst)) (eC q2 i.toNat)) (sn.getD i.toNat (au (Sh.nm NT.snap)))) (State.mk v nx kp qt se op sn)) (0:Int));have hi:((i.toNat:Nat):Int)=i:=by omega
 (repeat' with_reducible first|apply aZ|refine aY ?_|intro)
 all_goals (first | exact bt | ((simp only [eC,hi]; simp_all) <;> (intros; omega)) | (simp only [eC,hi]; grind))
def O_:Kn:=aK (ae (kC cI) (ae (kC (aX 0 0)) ao)) (qw 0 aw) fun (i,_,_) (z,_)=>⟨[0<=i/\i<(z.snaps.length:Int)],[.agg (cellsOf (.nm .reply) ((fT z i.toNat).2))],some ((sU 0 ((fT z i.toNat).1))),false⟩
theorem Ys:CK 316 O_:=ag fun (i,_,_) (z,_) hp=>by
 obtain ⟨v,nx,kp,qt,se,op,sn⟩:=z;have h0:0<=i/\i<(sn.length:Int):=cc hp;refine br gr [] Tryz.func316 (?_:(fun q0=>I64 i->0<=i/\i<(↑sn.length:Int)/\fk (sn.getD i.toNat (au (Sh.nm NT.snap))) (0=(fT q0 i.toNat).snd.code/\(↑(sn.getD i.toNat (au (Sh.nm NT.snap))).chunks.length:Int)=(fT q0 i.toNat).snd.n/\dk q0 (fT q0 i.toNat).fst)) (State.mk v nx kp qt se op sn));(repeat' with_reducible first|apply aZ|refine aY ?_|intro)
 all_goals (first | exact bt | rfl)
def Gx:Kn:=aK (ae (kC cI) (ae (kC (aX 0 0)) (ae (kC (aX 1 0)) ao))) (aC (ye 35 (.nm .command)) (qw 1 aw)) fun (i,_,_,_) (c,z,_)=>⟨[0<=i/\i<(z.snaps.length:Int)],[.agg (cellsOf (.nm .reply) ((si c z i.toNat).2))],some (([.box 35 (cellsOf (.nm .command) (c))]++sU 1 ((si c z i.toNat).1))),false⟩
theorem QN:CK 317 Gx:=ag fun (i,_,_,_) (c,z,_) hp=>by
 obtain ⟨v,nx,kp,qt,se,op,sn⟩:=z;have h0:0<=i/\i<(sn.length:Int):=cc hp;refine br gr [] Tryz.func317 (?_:(fun q1=>(fun q0=>I64 i->0<=i/\i<(↑sn.length:Int)/\fk q0 (0=q1.snd.code/\0=q1.snd.n/\bm c c (dk (State.mk v nx kp qt se op (sn.set i.toNat (Snap.mk q0.id q0.set q0.chunks q0.held c.text))) q1.fst))) (sn.getD i.toNat (au (Sh.nm NT.snap)))) (si c (State.mk v nx kp qt se op sn) i.toNat));(repeat' with_reducible first|apply aZ|refine aY ?_|intro)
 all_goals (first | exact bt | exact rfl)
def yL:Kn:=aK (ae (kC cI) (ae (kC (aX 0 0)) (ae (kC (aX 4 0)) ao))) (qw 0 (aC (dG 4 (ax cB dC)) aw)) fun (i,_,_,_) (z,(b,_),_)=>⟨[0<=i/\i<(z.snaps.length:Int)],[.agg (cellsOf (.nm .reply) ((gG b z i.toNat).2))],some ((sU 0 ((gG b z i.toNat).1)++[.box 4 ([.bool (.atom ((b)))])])),false⟩
theorem Nf:CK 304 yL:=ag fun (i,_,_,_) (z,(b,_),_) hp=>by
 obtain ⟨v,nx,kp,qt,se,op,sn⟩:=z;have h0:0<=i/\i<(sn.length:Int):=cc hp;refine br gr [] Tryz.func304 (?_:(fun q1=>(fun q0=>I64 i->0<=i/\i<(↑sn.length:Int)/\fk q1 (((q1.held == b)=true->0=q0.snd.code/\0=q0.snd.n/\bI (State.mk v nx kp qt se op sn) q0.fst (b=b))/\((q1.held == b)=false->0=q0.snd.code/\1=q0.snd.n/\bI (State.mk v nx kp qt se op (sn.set i.toNat (Snap.mk q1.id q1.set q1.chunks b q1.tag))) q0.fst (b=b)))) (gG b (State.mk v nx kp qt se op sn) i.toNat)) (sn.getD i.toNat (au (Sh.nm NT.snap))));(repeat' with_reducible first|apply aZ|refine aY ?_|intro)
 all_goals (first | exact bt | ((simp only [gG]; simp_all) <;> (intros; omega)) | (simp only [gG]; grind))
def VB:bN:=(aO 304 yL (aO 317 Gx (aO 316 O_ (aO 315 FE (aO 312 Ov (aO 311 Mq (aO 342 uZ (aO 344 vZ (aO 263 sN (aO 341 vF Wm))))))))))
theorem lp:ay Tryz.prog (al tyT) VB:=(ah Nf (ah QN (ah Ys (ah QL (ah ZG (ah YS (ah HI (ah HE (ah Dv (ah Hs gr))))))))))
theorem Jt {p:α->Bool} {l:List α} (h:(l.take k).all p=true) (hk:k<=l.length) (h2:(l.length:Int)<=k\/(k:Int)<l.length/\∃ x,l[k]? = some x/\p x=false):k=(l.takeWhile p).length:=by
 induction l generalizing k with
 | nil=>simp at hk; simp [hk]
 | cons a l ih=>
  cases k with
  | zero=>
   rcases h2 with h2 | ⟨_,x,hx,hp⟩
   ·simp at h2; omega
   simp at hx; subst hx; simp [hp]
  | succ k=>
   simp only [agf,afB,Bool.and_eq_true] at h;rw [List.takeWhile_cons,h.1,if_pos rfl,List.length_cons];congr 1;refine ih h.2 (by simpa using hk) ?_;rcases h2 with h2 | ⟨h3,x,hx,hp⟩
   ·left; simp at h2; omega
   right; refine ⟨by simp at h3; omega,x,by simpa using hx,hp⟩
variable {op:List Opn}
theorem acQ {v nx kp qt:Int} {se:List Sess} {sn:List Snap} {c:Command} {s:Nat} (h:ak Opn.set c.set op<0) (hs:s<=op.length) (ha:(op.take s).all (fun y=>decide (y.set<c.set))=true) (hb:(op.length:Int)<=s\/c.set<=(op.getD s (au (.nm .opn))).set):op.take s++[Opn.mk c.set c.client]++op.drop s=(eX (State.mk v nx kp qt se op sn) c).1.opens:=by
 have h1:¬ 0<=ak Opn.set c.set op:=by omega
 simp only [eX,if_neg h1];have:s=(op.takeWhile fun y=>decide (y.set<c.set)).length:=by
  refine Jt ha hs ?_;by_cases hl:(op.length:Int)<=s
  ·exact .inl hl
  refine .inr ⟨by omega,_,gd (d:=au (.nm .opn)) (by omega),?_⟩;rcases hb with hb | hb
  ·omega
  exact aeF aL
 rw [<- this]; simp [yO]
theorem abm {c:Command} {s:Nat} (ha:(op.take s).all (fun y=>decide (y.set<c.set))=true) (h:(s:Int)<op.length) (hb:(op.getD s (au (.nm .opn))).set<c.set):(op.take (s+1)).all (fun y=>decide (y.set<c.set))=true:=by
 rw [ai (gd (d:=au (.nm .opn)) h),agr,ha]; simp only [afB,List.all_nil,decide_eq_true hb]; rfl
section
variable {v nx kp qt:Int} {se:List Sess} {op:List Opn} {sn:List Snap} {c:Command}
theorem bgN (h:ak Opn.set c.set op<0):eX (State.mk v nx kp qt se op sn) c=(State.mk v nx kp qt se (yO op (op.takeWhile fun y=>decide (y.set<c.set)).length ⟨c.set,c.client⟩) sn,⟨0,0⟩):=by
 have h1:¬ 0<=ak Opn.set c.set op:=by omega
 simp only [eX,if_neg h1]
theorem bgY (h:0<=ak Opn.set c.set op):eX (State.mk v nx kp qt se op sn) c=(State.mk v nx kp qt se op sn,⟨16,(op.getD (ak Opn.set c.set op).toNat (au (.nm .opn))).client⟩):=by
 simp only [eX,if_pos h]
theorem abY (h:cq (State.mk v nx kp qt se op sn) c<0):eP (State.mk v nx kp qt se op sn) c=(State.mk v nx kp qt se op sn,⟨15,0⟩):=by
 simp only [eP,if_pos h]
theorem abN (h:0<=cq (State.mk v nx kp qt se op sn) c):eP (State.mk v nx kp qt se op sn) c=(State.mk v nx kp qt se (op.take (cq (State.mk v nx kp qt se op sn) c).toNat++op.drop (cq (State.mk v nx kp qt se op sn) c+1).toNat) sn,⟨0,0⟩):=by
 have h1:¬ cq (State.mk v nx kp qt se op sn) c<0:=by omega
 simp only [eP,if_neg h1,Rz]
end
def Re (c:Command) (v:Int) (nx:Int) (kp:Int) (qt:Int) (se:List Sess) (op:List Opn) (sn:List Snap):List (Nat × LI):=[(5,{ σ:=Nat,F:=fun k=>([(0,one (.ptr 0 0)),(3,one (.ptr 4 0)),(4,one (.ptr 5 0)),(6,one (.int k))],(sU 0 (State.mk v nx kp qt se op sn)++[.box 35 (cellsOf (.nm .command) (c)),.box 78 ([.int ((0)),.int ((0))])])),J:=fun k=>k<=op.length/\(op.take k).all (fun y=>decide (y.set<c.set))=true,μ:=fun k=>op.length - k })]
def Be:Kn:=aK (ae (kC (aX 0 0)) (ae (kT (.nm .command)) ao)) (qw 0 aw) fun (_,c,_) (z,_)=>⟨[z.opens.length<1048576],[.agg (cellsOf (.nm .reply) ((eX z c).2))],some ((sU 0 ((eX z c).1))),false⟩
theorem KU:CK 306 Be:=ag fun (_,c,_) (z,_) hp=>by
 obtain ⟨v,nx,kp,qt,se,op,sn⟩:=z;have h0:op.length<1048576:=cc hp;refine br lp (Re c v nx kp qt se op sn) Tryz.func306 (?_:(fun (q5:den (Sh.nm NT.opn))=>(fun (q4:Int)=>(fun (q3:Int)=>(fun (q2:Int)=>(fun (q1:State × Reply)=>(fun (q0:Prop)=>bB c (I64 q2->(q3<=q2->q3<=q2/\q2<q4/\(I64 (op.getD q2.toNat q5).set->I64 (op.getD q2.toNat q5).client->16=q1.snd.code/\(op.getD q2.toNat q5).client=q1.snd.n/\dk (State.mk v nx kp qt se op sn) q1.fst))/\(q2<q3->∃ (s0:Nat),(q3=(↑s0:Int)/\q0)/\(s0<=op.length/\((List.take s0 op).all fun (y:Opn)=>decide (y.set<c.set))=true)/\∀ (s:Nat),(fun (q7:Int)=>(fun (q6:Int)=>s<=op.length/\((List.take s op).all fun (y:Opn)=>decide (y.set<c.set))=true->(q6<q4->q3<=q6/\q6<q4)/\((q6<q4->I64 q7/\I64 (op.getD s q5).client)->(q6<q4/\q7<c.set->I64 (q6+1)/\∃ (s':Nat),(q6+1=(↑s':Int)/\q0)/\(s' <= op.length/\((List.take s' op).all fun (y:Opn)=>decide (y.set<c.set))=true)/\op.length - s' < op.length - s)/\(q4<=q6\/c.set<=q7->((q3<=q6/\q6<=q4)/\op.length<1048576/\[Opn.mk c.set c.client].length=1)/\q3=q1.snd.code/\q3=q1.snd.n/\dk (State.mk v nx kp qt se (List.take s op++[Opn.mk c.set c.client]++List.drop s op) sn) q1.fst))) (↑s:Int)) (op.getD s q5).set))) (v=v/\nx=nx/\kp=kp/\qt=qt/\se=se/\op=op/\sn=sn/\bm c c (q3=q3/\q3=q3))) (eX (State.mk v nx kp qt se op sn) c)) (ak Opn.set c.set op)) 0) (↑op.length:Int)) (au (Sh.nm NT.opn)));iterate 3 ((all_goals (repeat' with_reducible first|apply aZ|refine aY ?_|intro)); (all_goals try (first | exact bt | exact rfl | exact dX ab | exact (abm ab ab ab) | exact (acQ ab aL ab (by assumption)) | (rw [bgN]; omega) | (rw [bgY]; omega))); all_goals try first | refine ⟨‹Nat› + 1,?_⟩ | refine ⟨0,?_⟩)
def yh:Kn:=aK (ae (kC (aX 0 0)) (ae (kT (.nm .command)) ao)) (qw 0 aw) fun (_,c,_) (z,_)=>⟨[z.opens.length<1048576],[.agg (cellsOf (.nm .reply) ((eP z c).2))],some ((sU 0 ((eP z c).1))),false⟩
theorem Ky:CK 310 yh:=ag fun (_,c,_) (z,_) hp=>by
 obtain ⟨v,nx,kp,qt,se,op,sn⟩:=z;have h0:op.length<1048576:=cc hp;refine br lp [] Tryz.func310 (?_:(fun q1=>(fun q0=>(fun q3=>(fun q2=>(fun q4=>bB c (I64 q2->(q2<q1->I64 15->I64 q1->15=q3.code/\q1=q3.n/\dk q0 (eP q0 c).fst)/\(q1<=q2->I64 q4/\(q1<=q2/\q2<(↑op.length:Int)/\q4=q4)/\q1=q3.code/\q1=q3.n/\dk (State.mk v nx kp qt se (List.take q2.toNat op++List.drop q4.toNat op) sn) (eP q0 c).fst))) (q2+1)) (cq q0 c)) (eP q0 c).snd) (State.mk v nx kp qt se op sn)) (0:Int));have hl:0<=cq (State.mk v nx kp qt se op sn) c->cq (State.mk v nx kp qt se op sn) c+1<=(op.length:Int):=fun h=>M_ h;(repeat' with_reducible first|apply aZ|refine aY ?_|intro)
 all_goals (first | exact bt | (rw [abN]; omega) | (rw [abY]; omega))
def wu:Kn:=aK (ae (kC (aX 0 0)) (ae (kT (.nm .command)) ao)) (qw 0 aw) fun (_,c,_) (z,_)=>⟨[nch z.snaps<=1048576,z.snaps.length<1048576,z.opens.length<1048576,0<=z.next],[.agg (cellsOf (.nm .reply) ((eJ z c).2))],some ((sU 0 ((eJ z c).1))),false⟩
theorem HY:CK 308 wu:=ag fun (_,c,_) (z,_) hp=>by
 obtain ⟨v,nx,kp,qt,se,op,sn⟩:=z;have h0:nch sn<=1048576:=cc hp;have h1:sn.length<1048576:=cc (eT hp);have h2:op.length<1048576:=cc (eT (eT hp));have h3:0<=nx:=cc (eT (eT (eT hp)));refine br lp [] Tryz.func308 (?_:(fun q4=>(fun q3=>(fun q2=>(fun q1=>(fun q0=>(fun q7=>(fun q6=>(fun q5=>bB c (I64 q6->(q6<q2->I64 15->I64 q2->15=q7.code/\q5)/\(q2<=q6->(16<=(↑sn.length:Int)\/1048576<=nx->I64 20->I64 q2->20=q7.code/\q5)/\((↑sn.length:Int)<16/\nx<1048576->(¬qt=q2->nch sn<=1048576)/\((¬qt=q2->I64 q1)->(¬qt=q2/\qt<q1->I64 19->I64 q2->19=q7.code/\q5)/\(qt=q2\/q1<=qt->c.chunks.length*8<=140737488355328->(sn.length+[q4].length)*64<=140737488355328/\I64 (nx+q3)/\I64 (q6+q3)/\(q2<=q6/\q6<(↑op.length:Int)/\q6+q3=q6+q3)/\q2=q7.code/\nx=q7.n/\dk (State.mk v (nx+q3) kp qt se (List.take q6.toNat op++List.drop (q6+q3).toNat op) (sn++[q4])) (eJ q0 c).fst)))))) (q2=q7.n/\dk q0 (eJ q0 c).fst)) (cq q0 c)) (eJ q0 c).snd) (State.mk v nx kp qt se op sn)) (↑(lz (sn++[Snap.mk q2 q2 c.chunks false (Str.mk [])])):Int)) (0:Int)) (1:Int)) (Snap.mk nx c.set c.chunks false (Str.mk [])));have hl:0<=cq (State.mk v nx kp qt se op sn) c->cq (State.mk v nx kp qt se op sn) c+1<=(op.length:Int):=fun h=>M_ h;(repeat' with_reducible first|apply aZ|refine aY ?_|intro)
 all_goals (first | exact bt | (simp only [eJ,Rz]; grind) | (simp only [List.length_cons,List.length_nil]; omega))
def OB:Kn:=aK (ae (kC cI) (ae (kC (aX 0 0)) ao)) (qw 0 aw) fun (i,_,_) (z,_)=>⟨[0<=i/\i<(z.snaps.length:Int),nch z.snaps<=1048576],[.agg (cellsOf (.nm .reply) ((eC z i.toNat).2))],some ((sU 0 ((eC z i.toNat).1))),false⟩
theorem XI:CK 314 OB:=ag fun (i,_,_) (z,_) hp=>by
 obtain ⟨v,nx,kp,qt,se,op,sn⟩:=z;have h0:0<=i/\i<(sn.length:Int):=cc hp;have h1:nch sn<=1048576:=cc (eT hp);refine br lp [] Tryz.func314 (?_:(fun q0=>I64 i->(0<=i/\i<(↑sn.length:Int))/\nch sn<=1048576/\(I64 q0.snd.code->I64 q0.snd.n->q0.snd.code=q0.snd.code/\q0.snd.n=q0.snd.n/\dk q0.fst q0.fst)) (eC (State.mk v nx kp qt se op sn) i.toNat));(repeat' with_reducible first|apply aZ|refine aY ?_|intro)
 all_goals (first | exact bt | exact rfl)
def Wt:bN:=(aO 314 OB (aO 308 wu (aO 310 yh (aO 306 Be VB))))
theorem gv:ay Tryz.prog (al tyT) Wt:=(ah XI (ah HY (ah Ky (ah KU lp))))
def bw (f:State->Nat->State × Reply) (c:Command) (s:State):State × Reply:=if ak Snap.id c.id s.snaps<0 then (s,⟨15,0⟩) else f s (ak Snap.id c.id s.snaps).toNat
section
variable {v nx kp qt:Int} {se:List Sess} {op:List Opn} {sn:List Snap} {c:Command} {f:State->Nat->State × Reply}
theorem sdY (h:ak Snap.id c.id sn<0):bw f c (State.mk v nx kp qt se op sn)=(State.mk v nx kp qt se op sn,⟨15,0⟩):=by
 simp only [bw,if_pos h]
theorem sdN (h:0<=ak Snap.id c.id sn):bw f c (State.mk v nx kp qt se op sn)=f (State.mk v nx kp qt se op sn) (ak Snap.id c.id sn).toNat:=by
 have h1:¬ ak Snap.id c.id sn<0:=by omega
 simp only [bw,if_neg h1]
end
def MF:Kn:=aK (ae (kC (aX 0 0)) (ae (kC (aX 4 0)) ao)) (qw 0 (aC (ye 35 (.nm .command)) aw)) fun _ (z,c,_)=>⟨[z.opens.length<1048576],[.agg (cellsOf (.nm .reply) ((eX z c).2))],some ((sU 0 ((eX z c).1)++[.box 35 (cellsOf (.nm .command) (c))])),false⟩
theorem XG:CK 305 MF:=ag fun _ (z,c,_) hp=>by
 obtain ⟨v,nx,kp,qt,se,op,sn⟩:=z;have h0:op.length<1048576:=cc hp;refine br gv [] Tryz.func305 (?_:(fun q0=>op.length<1048576/\(I64 q0.snd.code->I64 q0.snd.n->q0.snd.code=q0.snd.code/\q0.snd.n=q0.snd.n/\bI q0.fst q0.fst (aP c c))) (eX (State.mk v nx kp qt se op sn) c));(repeat' with_reducible first|apply aZ|refine aY ?_|intro)
 all_goals (first | exact bt | exact rfl)
def JR:Kn:=aK (ae (kC (aX 0 0)) (ae (kC (aX 4 0)) ao)) (qw 0 (aC (ye 35 (.nm .command)) aw)) fun _ (z,c,_)=>⟨[nch z.snaps<=1048576,z.snaps.length<1048576,z.opens.length<1048576,0<=z.next],[.agg (cellsOf (.nm .reply) ((eJ z c).2))],some ((sU 0 ((eJ z c).1)++[.box 35 (cellsOf (.nm .command) (c))])),false⟩
theorem Yp:CK 307 JR:=ag fun _ (z,c,_) hp=>by
 obtain ⟨v,nx,kp,qt,se,op,sn⟩:=z;have h0:nch sn<=1048576:=cc hp;have h1:sn.length<1048576:=cc (eT hp);have h2:op.length<1048576:=cc (eT (eT hp));have h3:0<=nx:=cc (eT (eT (eT hp)));refine br gv [] Tryz.func307 (?_:(fun q0=>nch sn<=1048576/\sn.length<1048576/\op.length<1048576/\0<=nx/\(I64 q0.snd.code->I64 q0.snd.n->q0.snd.code=q0.snd.code/\q0.snd.n=q0.snd.n/\bI q0.fst q0.fst (aP c c))) (eJ (State.mk v nx kp qt se op sn) c));(repeat' with_reducible first|apply aZ|refine aY ?_|intro)
 all_goals (first | exact bt | exact rfl)
def Nr:Kn:=aK (ae (kC (aX 0 0)) (ae (kC (aX 4 0)) ao)) (qw 0 (aC (ye 35 (.nm .command)) aw)) fun _ (z,c,_)=>⟨[z.opens.length<1048576],[.agg (cellsOf (.nm .reply) ((eP z c).2))],some ((sU 0 ((eP z c).1)++[.box 35 (cellsOf (.nm .command) (c))])),false⟩
theorem aae:CK 309 Nr:=ag fun _ (z,c,_) hp=>by
 obtain ⟨v,nx,kp,qt,se,op,sn⟩:=z;have h0:op.length<1048576:=cc hp;refine br gv [] Tryz.func309 (?_:(fun q0=>op.length<1048576/\(I64 q0.snd.code->I64 q0.snd.n->q0.snd.code=q0.snd.code/\q0.snd.n=q0.snd.n/\bI q0.fst q0.fst (aP c c))) (eP (State.mk v nx kp qt se op sn) c));(repeat' with_reducible first|apply aZ|refine aY ?_|intro)
 all_goals (first | exact bt | exact rfl)
def nW:Kn:=aK (ae (kC (qO 314 [] [(0,0)])) (ae (kC (aX 0 0)) (ae (kC (aX 4 0)) ao))) (qw 0 (aC (ye 35 (.nm .command)) aw)) fun _ (z,c,_)=>⟨[],[.c (.fn 301 [] [(0,0),(4,0),(5,0)])],some ((sU 0 z++[.box 35 (cellsOf (.nm .command) (c)),.box 306 ([.fn 314 [] [(0,0)]])])),true⟩
theorem wA:CK 300 nW:=ag fun _ (z,c,_) _=>by
 obtain ⟨v,nx,kp,qt,se,op,sn⟩:=z;refine dD gv [] Tryz.func300 (?_:v=v/\nx=nx/\kp=kp/\qt=qt/\se=se/\op=op/\sn=sn/\aP c c);(repeat' with_reducible first|apply aZ|refine aY ?_|intro)
 all_goals (first | exact bt | exact rfl)
def pU:Kn:=aK (ae (kC (qO 316 [] [(0,0)])) (ae (kC (aX 0 0)) (ae (kC (aX 4 0)) ao))) (qw 0 (aC (ye 35 (.nm .command)) aw)) fun _ (z,c,_)=>⟨[],[.c (.fn 301 [] [(0,0),(4,0),(5,0)])],some ((sU 0 z++[.box 35 (cellsOf (.nm .command) (c)),.box 306 ([.fn 316 [] [(0,0)]])])),true⟩
theorem zf:CK 300 pU:=ag fun _ (z,c,_) _=>by
 obtain ⟨v,nx,kp,qt,se,op,sn⟩:=z;refine dD gv [] Tryz.func300 (?_:v=v/\nx=nx/\kp=kp/\qt=qt/\se=se/\op=op/\sn=sn/\aP c c);(repeat' with_reducible first|apply aZ|refine aY ?_|intro)
 all_goals (first | exact bt | exact rfl)
def tV:Kn:=aK (ae (kC (qO 317 [] [(0,0),(1,0)])) (ae (kC (aX 1 0)) (ae (kC (aX 0 0)) ao))) (aC (ye 35 (.nm .command)) (qw 1 aw)) fun _ (c,z,_)=>⟨[],[.c (.fn 301 [] [(1,0),(0,0),(5,0)])],some (([.box 35 (cellsOf (.nm .command) (c))]++sU 1 z++[.box 306 ([.fn 317 [] [(0,0),(1,0)]])])),true⟩
theorem Ce:CK 300 tV:=ag fun _ (c,z,_) _=>by
 obtain ⟨v,nx,kp,qt,se,op,sn⟩:=z;refine dD gv [] Tryz.func300 (?_:bm c c (v=v/\nx=nx/\kp=kp/\qt=qt/\se=se/\op=op/\sn=sn));(repeat' with_reducible first|apply aZ|refine aY ?_|intro)
 all_goals (first | exact bt | exact rfl)
def qh:Kn:=aK (ae (kC (qO 304 [] [(0,0),(4,0)])) (ae (kC (aX 0 0)) (ae (kC (aX 5 0)) ao))) (qw 0 (aC (dG 4 (ax cB dC)) (aC (ye 35 (.nm .command)) aw))) fun _ (z,(b,_),c,_)=>⟨[],[.c (.fn 301 [] [(0,0),(5,0),(6,0)])],some ((sU 0 z++[.box 4 ([.bool (.atom ((b)))]),.box 35 (cellsOf (.nm .command) (c)),.box 306 ([.fn 304 [] [(0,0),(4,0)]])])),true⟩
theorem yM:CK 300 qh:=ag fun _ (z,(b,_),c,_) _=>by
 obtain ⟨v,nx,kp,qt,se,op,sn⟩:=z;refine dD gv [] Tryz.func300 (?_:v=v/\nx=nx/\kp=kp/\qt=qt/\se=se/\op=op/\sn=sn/\b=b/\aP c c);(repeat' with_reducible first|apply aZ|refine aY ?_|intro)
 all_goals (first | exact bt | exact rfl)
def WR:bN:=(aO 300 qh (aO 300 tV (aO 300 pU (aO 300 nW (aO 309 Nr (aO 307 JR (aO 305 MF Wt)))))))
theorem jo:ay Tryz.prog (al tyT) WR:=(ah yM (ah Ce (ah zf (ah wA (ah aae (ah Yp (ah XG gv)))))))
def OP:Kn:=aK (ae (kC cB) (ae (kC (aX 0 0)) (ae (kC (aX 1 0)) ao))) (aC (dG 308 (ax (qO 300 [] [(1,0),(5,0)]) dC)) (qw 1 (aC (ye 35 (.nm .command)) aw))) fun (b,_,_,_) ((_,_),z,c,_)=>⟨[],[.c (.fn 301 [] [(1,0),(5,0),(7,0)])],some (([.box 308 ([.fn 300 [] [(1,0),(5,0)]])]++sU 1 z++[.box 35 (cellsOf (.nm .command) (c)),.box 4 ([.bool (.atom ((b)))]),.box 306 ([.fn 304 [] [(1,0),(6,0)]])])),true⟩
theorem YO:CK 303 OP:=ag fun (b,_,_,_) ((_,_),z,c,_) _=>by
 obtain ⟨v,nx,kp,qt,se,op,sn⟩:=z;refine dD jo [] Tryz.func303 (?_:v=v/\nx=nx/\kp=kp/\qt=qt/\se=se/\op=op/\sn=sn/\bm c c (b=b));(repeat' with_reducible first|apply aZ|refine aY ?_|intro)
 all_goals (first | exact bt | exact rfl)
def rq:Kn:=aK (ae (kC (aX 0 0)) (ae (kC (aX 4 0)) (ae (kC (aX 5 0)) ao))) (qw 0 (aC (ye 35 (.nm .command)) (aC (dG 306 (ax (qO 314 [] [(0,0)]) dC)) aw))) fun _ (z,c,(_,_),_)=>⟨[nch z.snaps<=1048576],[.agg (cellsOf (.nm .reply) ((bw eC c z).2))],some ((sU 0 ((bw eC c z).1)++[.box 35 (cellsOf (.nm .command) (c)),.box 306 ([.fn 314 [] [(0,0)]])])),false⟩
theorem Dy:CK 301 rq:=ag fun _ (z,c,(_,_),_) hp=>by
 obtain ⟨v,nx,kp,qt,se,op,sn⟩:=z;have h0:nch sn<=1048576:=cc hp;refine br jo [] Tryz.func301 (?_:(fun q1=>(fun q0=>(fun q3=>(fun q2=>I64 q1->(q1<0->I64 15->I64 0->15=q2.snd.code/\0=q2.snd.n/\bI q0 q2.fst (aP c c))/\(0<=q1->(0<=q1/\q1<(↑sn.length:Int))/\nch sn<=1048576/\(I64 q3.code->I64 q3.n->q3.code=q2.snd.code/\q3.n=q2.snd.n/\bI (eC q0 q1.toNat).fst q2.fst (aP c c)))) (bw eC c q0)) (eC q0 q1.toNat).snd) (State.mk v nx kp qt se op sn)) (ak Snap.id c.id sn));(repeat' with_reducible first|apply aZ|refine aY ?_|intro)
 all_goals (first | exact bt | exact dX ab | (rw [sdY] <;> first | rfl | omega) | (rw [sdN] <;> first | rfl | omega))
def vK:Kn:=aK (ae (kC (aX 0 0)) (ae (kC (aX 4 0)) (ae (kC (aX 5 0)) ao))) (qw 0 (aC (ye 35 (.nm .command)) (aC (dG 306 (ax (qO 316 [] [(0,0)]) dC)) aw))) fun _ (z,c,(_,_),_)=>⟨[],[.agg (cellsOf (.nm .reply) ((bw fT c z).2))],some ((sU 0 ((bw fT c z).1)++[.box 35 (cellsOf (.nm .command) (c)),.box 306 ([.fn 316 [] [(0,0)]])])),false⟩
theorem HX:CK 301 vK:=ag fun _ (z,c,(_,_),_) _=>by
 obtain ⟨v,nx,kp,qt,se,op,sn⟩:=z;refine br jo [] Tryz.func301 (?_:(fun q1=>(fun q0=>(fun q3=>(fun q2=>I64 q1->(q1<0->I64 15->I64 0->15=q2.snd.code/\0=q2.snd.n/\bI q0 q2.fst (aP c c))/\(0<=q1->(0<=q1/\q1<(↑sn.length:Int))/\(I64 q3.code->I64 q3.n->q3.code=q2.snd.code/\q3.n=q2.snd.n/\bI (fT q0 q1.toNat).fst q2.fst (aP c c)))) (bw fT c q0)) (fT q0 q1.toNat).snd) (State.mk v nx kp qt se op sn)) (ak Snap.id c.id sn));(repeat' with_reducible first|apply aZ|refine aY ?_|intro)
 all_goals (first | exact bt | exact dX ab | (rw [sdY] <;> first | rfl | omega) | (rw [sdN] <;> first | rfl | omega))
def BL:Kn:=aK (ae (kC (aX 0 0)) (ae (kC (aX 4 0)) (ae (kC (aX 5 0)) ao))) (qw 0 (aC (ye 35 (.nm .command)) (aC (dG 306 (ax (qO 317 [] [(4,0),(0,0)]) dC)) aw))) fun _ (z,c,(_,_),_)=>⟨[],[.agg (cellsOf (.nm .reply) ((bw (si c) c z).2))],some ((sU 0 ((bw (si c) c z).1)++[.box 35 (cellsOf (.nm .command) (c)),.box 306 ([.fn 317 [] [(4,0),(0,0)]])])),false⟩
theorem Lh:CK 301 BL:=ag fun _ (z,c,(_,_),_) _=>by
 obtain ⟨v,nx,kp,qt,se,op,sn⟩:=z;refine br jo [] Tryz.func301 (?_:(fun q1=>(fun q0=>(fun q3=>(fun q2=>I64 q1->(q1<0->I64 15->I64 0->15=q2.snd.code/\0=q2.snd.n/\bI q0 q2.fst (aP c c))/\(0<=q1->(0<=q1/\q1<(↑sn.length:Int))/\(I64 q3.code->I64 q3.n->q3.code=q2.snd.code/\q3.n=q2.snd.n/\bI (si c q0 q1.toNat).fst q2.fst (aP c c)))) (bw (si c) c q0)) (si c q0 q1.toNat).snd) (State.mk v nx kp qt se op sn)) (ak Snap.id c.id sn));(repeat' with_reducible first|apply aZ|refine aY ?_|intro)
 all_goals (first | exact bt | exact dX ab | (rw [sdY] <;> first | rfl | omega) | (rw [sdN] <;> first | rfl | omega))
def uD:Kn:=aK (ae (kC (aX 0 0)) (ae (kC (aX 4 0)) (ae (kC (aX 5 0)) ao))) (qw 0 (aC (ye 35 (.nm .command)) (aC (dG 306 (ax (qO 304 [] [(0,0),(6,0)]) dC)) (aC (dG 4 (ax cB dC)) aw)))) fun _ (z,c,(_,_),(b,_),_)=>⟨[],[.agg (cellsOf (.nm .reply) ((bw (gG b) c z).2))],some ((sU 0 ((bw (gG b) c z).1)++[.box 35 (cellsOf (.nm .command) (c)),.box 306 ([.fn 304 [] [(0,0),(6,0)]]),.box 4 ([.bool (.atom ((b)))])])),false⟩
theorem IP:CK 301 uD:=ag fun _ (z,c,(_,_),(b,_),_) _=>by
 obtain ⟨v,nx,kp,qt,se,op,sn⟩:=z;refine br jo [] Tryz.func301 (?_:(fun q1=>(fun q0=>(fun q3=>(fun q2=>I64 q1->(q1<0->I64 15->I64 0->15=q2.snd.code/\0=q2.snd.n/\bI q0 q2.fst (bm c c (b=b)))/\(0<=q1->(0<=q1/\q1<(↑sn.length:Int))/\(I64 q3.code->I64 q3.n->q3.code=q2.snd.code/\q3.n=q2.snd.n/\bI (gG b q0 q1.toNat).fst q2.fst (bm c c (b=b))))) (bw (gG b) c q0)) (gG b q0 q1.toNat).snd) (State.mk v nx kp qt se op sn)) (ak Snap.id c.id sn));(repeat' with_reducible first|apply aZ|refine aY ?_|intro)
 all_goals (first | exact bt | exact dX ab | (rw [sdY] <;> first | rfl | omega) | (rw [sdN] <;> first | rfl | omega))
def UK:bN:=(aO 301 uD (aO 301 BL (aO 301 vK (aO 301 rq (aO 303 OP WR)))))
theorem yx:ay Tryz.prog (al tyT) UK:=(ah IP (ah Lh (ah HX (ah Dy (ah YO jo)))))
def fG (s:State) (c:Command):Int:=if eE s s.version=0 then bF c s.version else 1
def Oh (s:State) (c:Command):State × Reply:=
 if c.kind=11 then bw (si c) c s
 else if c.kind=10 then bw (gG false) c s
 else if c.kind=9 then bw (gG true) c s
 else if c.kind=7 then bw fT c s
 else if c.kind=5 then bw eC c s
 else if c.kind=12 then ph c s
 else if c.kind=6 then sQ c s
 else if c.kind=4 then eP s c
 else if c.kind=3 then eJ s c
 else if c.kind=2 then eX s c
 else (s,⟨1,0⟩)
def fg (s:State) (c:Command):State × Reply:=if ¬ fG s c=0 then (s,⟨fG s c,0⟩) else Oh s c
theorem wH {α:Type} {key:α->Int} {most:Int}:∀ {l:List α} {a:Int},az key most a l=true->l=[]\/a+(l.length:Int)<=most
 | [],_,_=>.inl rfl
 | x :: l,a,h=>by
  simp only [az,Bool.and_eq_true] at h;have h1:=Ji h.1;rcases wH h.2 with h2 | h2
  ·subst h2; right; simp only [List.length_cons,List.length_nil]; omega
  right; simp only [List.length_cons]; omega
theorem gS {s:State} {v:Int} (h:eE s v=0):cj v 1 3=true/\lE s v=true/\yU s=true/\xl s=true/\fU s v=true:=by
 unfold eE at h;split at h
 ·omega
 rename_i h1;split at h
 ·omega
 rename_i h2;simp at h1 h2;exact ⟨h1,h2.1.1.1,h2.1.1.2,h2.1.2,h2.2⟩
theorem Xb {s:State} {v:Int} (h:eE s v=0):s.opens.length<=8:=by
 have h1:=(gS h).2.2.2.1;simp only [xl,Bool.and_eq_true] at h1;rcases wH h1.1 with h2 | h2
 ·rw [h2]; simp
 omega
theorem Zj {s:State} {v:Int} (h:eE s v=0):s.sess.length<=8:=by
 have h1:=(gS h).2.2.1;simp only [yU,Bool.and_eq_true] at h1;rcases wH h1.1 with h2 | h2
 ·rw [h2]; simp
 omega
theorem LV {s:State} {v:Int} (h:eE s v=0):s.snaps.length<=16/\az Snap.id (s.next - 1) 0 s.snaps=true/\∀ x ∈ s.snaps,dv v (xD v) x=true:=by
 have h1:=(gS h).2.2.2.2;simp only [fU,Bool.and_eq_true,aeu,Bool.or_eq_false_iff,aey,Bool.not_eq_false',aeD] at h1;exact ⟨by omega,h1.1.2,h1.2⟩
variable {t:Int}
theorem XZ {v:Int} (h:dv v t x=true):cA x.chunks=true:=by
 simp only [dv,Bool.and_eq_true,decide_eq_true_eq] at h;cases hr:cA x.chunks with
 | true=>rfl
 | false=>have:=ri (l:=x.chunks) hr; omega
theorem Mt:∀ {l:List Snap},(∀ x ∈ l,cA x.chunks=true)->nch l<=8*l.length
 | [],_=>Nat.le_refl _
 | x :: l,h=>by
  have h1:=Mt (l:=l) fun y hy=>h y (aa5 _ hy);have h2:=(EU (h x (aa_))).2;have e:nch (x :: l)=x.chunks.length+nch l:=by simp [nch]
  rw [e,List.length_cons]; omega
theorem RG {s:State} {v:Int} (h:eE s v=0):nch s.snaps<=128:=by
 have h1:=LV h;have:=Mt (l:=s.snaps) fun x hx=>XZ (h1.2.2 x hx);omega
theorem aay {s:State} {v:Int} (h:eE s v=0):1<=s.next/\s.next<=1048576:=by
 have h1:=(gS h).2.1;simp only [lE,Bool.and_eq_true] at h1;exact Ji h1.1.1.2
theorem CV {s:State} {c:Command} (h:(if eE s s.version=0 then bF c s.version else 1)=0):eE s s.version=0:=by
 split at h
 ·assumption
 omega
theorem Xz {s:State} {c:Command} (h:(if eE s s.version=0 then bF c s.version else 1)=0):nch s.snaps<=1048576:=by have:=RG (CV h); omega
theorem ab5 {s:State} {c:Command} (h:(if eE s s.version=0 then bF c s.version else 1)=0):s.opens.length<1048576:=by have:=Xb (CV h); omega
theorem We {s:State} {c:Command} (h:(if eE s s.version=0 then bF c s.version else 1)=0):s.sess.length<1048576:=by have:=Zj (CV h); omega
theorem aer {s:State} {c:Command} (h:(if eE s s.version=0 then bF c s.version else 1)=0):s.snaps.length<1048576:=by have:=(LV (CV h)).1; omega
theorem acY {s:State} {c:Command} (h:(if eE s s.version=0 then bF c s.version else 1)=0):0<=s.next:=by have:=aay (CV h); omega
theorem adr {s:State} {c:Command} (h:(if eE s s.version=0 then bF c s.version else 1)=0):fg s c=Oh s c:=by
 have h:fG s c=0:=h;rw [fg,h]; rfl
theorem af_ {s:State} {c:Command} (h:¬ (if eE s s.version=0 then bF c s.version else 1)=0):fg s c=(s,⟨(if eE s s.version=0 then bF c s.version else 1),0⟩):=by
 have h:¬ fG s c=0:=h;rw [fg,if_pos h]; rfl
def NA:Kn:=aK (ae (kT (.nm .state)) (ae (kT (.nm .command)) ao)) aw fun (st,c,_) _=>⟨[],[.agg ([.int (((fg st c).1.version)),.int (((fg st c).1.next)),.int (((fg st c).1.keep)),.int (((fg st c).1.quota)),.own 0,.own 1,.own 2]),.agg (cellsOf (.nm .reply) ((fg st c).2))],some ([.row 137 (.nm .sess) (((fg st c).1.sess)),.row 139 (.nm .opn) (((fg st c).1.opens)),.row 172 (.nm .snap) (((fg st c).1.snaps))]),true⟩
theorem YH:CK 281 NA:=ag fun (st,c,_) _ _=>by
 refine dD yx [] Tryz.func281 (?_:(fun q18=>(fun q17=>(fun q16=>(fun q15=>(fun q14=>(fun q13=>(fun q12=>(fun q11=>(fun q10=>(fun q9=>(fun q8=>(fun q7=>(fun q6=>(fun q5=>(fun q4=>(fun q3=>(fun q2=>(fun q1=>(fun q19=>(fun q0=>(fun q27=>(fun q26=>(fun q25=>(fun q24=>(fun q23=>(fun q22=>(fun q21=>(fun q20=>fN st (bB c (I64 q18->I64 st.next->I64 st.keep->I64 st.quota->I64 q2->(¬q2=q15->I64 q2->I64 q15->q18=q21/\st.next=q24/\st.keep=q23/\st.quota=q22/\q2=q19/\q20)/\(q2=q15->(q9=11->I64 q5.snd.code->I64 q5.snd.n->q5.fst.version=q21/\q5.fst.next=q24/\q5.fst.keep=q23/\q5.fst.quota=q22/\q5.snd.code=q19/\q5.snd.n=q1.n/\q5.fst.sess=q27/\q5.fst.opens=q25/\q5.fst.snaps=q26)/\(¬q9=11->(q9=10->I64 q3.snd.code->I64 q3.snd.n->q3.fst.version=q21/\q3.fst.next=q24/\q3.fst.keep=q23/\q3.fst.quota=q22/\q3.snd.code=q19/\q3.snd.n=q1.n/\q3.fst.sess=q27/\q3.fst.opens=q25/\q3.fst.snaps=q26)/\(¬q9=10->(q9=9->I64 q4.snd.code->I64 q4.snd.n->q4.fst.version=q21/\q4.fst.next=q24/\q4.fst.keep=q23/\q4.fst.quota=q22/\q4.snd.code=q19/\q4.snd.n=q1.n/\q4.fst.sess=q27/\q4.fst.opens=q25/\q4.fst.snaps=q26)/\(¬q9=9->(q9=7->I64 q6.snd.code->I64 q6.snd.n->q6.fst.version=q21/\q6.fst.next=q24/\q6.fst.keep=q23/\q6.fst.quota=q22/\q6.snd.code=q19/\q6.snd.n=q1.n/\q6.fst.sess=q27/\q6.fst.opens=q25/\q6.fst.snaps=q26)/\(¬q9=7->(q9=5->q16/\(I64 q7.snd.code->I64 q7.snd.n->q7.fst.version=q21/\q7.fst.next=q24/\q7.fst.keep=q23/\q7.fst.quota=q22/\q7.snd.code=q19/\q7.snd.n=q1.n/\q7.fst.sess=q27/\q7.fst.opens=q25/\q7.fst.snaps=q26))/\(¬q9=5->(q9=12->q16/\(I64 q12.snd.code->I64 q12.snd.n->q12.fst.version=q21/\q12.fst.next=q24/\q12.fst.keep=q23/\q12.fst.quota=q22/\q12.snd.code=q19/\q12.snd.n=q1.n/\q12.fst.sess=q27/\q12.fst.opens=q25/\q12.fst.snaps=q26))/\(¬q9=12->(q9=6->I64 q17.code->I64 q17.n->q13.version=q21/\q13.next=q24/\q13.keep=q23/\q13.quota=q22/\q17.code=q19/\q17.n=q1.n/\q13.sess=q27/\q13.opens=q25/\q13.snaps=q26)/\(¬q9=6->(q9=4->q14/\(I64 q10.snd.code->I64 q10.snd.n->q10.fst.version=q21/\q10.fst.next=q24/\q10.fst.keep=q23/\q10.fst.quota=q22/\q10.snd.code=q19/\q10.snd.n=q1.n/\q10.fst.sess=q27/\q10.fst.opens=q25/\q10.fst.snaps=q26))/\(¬q9=4->(q9=3->q16/\st.snaps.length<1048576/\q14/\q15<=st.next/\(I64 q8.snd.code->I64 q8.snd.n->q8.fst.version=q21/\q8.fst.next=q24/\q8.fst.keep=q23/\q8.fst.quota=q22/\q8.snd.code=q19/\q8.snd.n=q1.n/\q8.fst.sess=q27/\q8.fst.opens=q25/\q8.fst.snaps=q26))/\(¬q9=3->(q9=2->q14/\(I64 q11.snd.code->I64 q11.snd.n->q11.fst.version=q21/\q11.fst.next=q24/\q11.fst.keep=q23/\q11.fst.quota=q22/\q11.snd.code=q19/\q11.snd.n=q1.n/\q11.fst.sess=q27/\q11.fst.opens=q25/\q11.fst.snaps=q26))/\(¬q9=2->I64 1->I64 q15->q18=q21/\st.next=q24/\st.keep=q23/\st.quota=q22/\1=q19/\q20)))))))))))))) (q15=q1.n/\st.sess=q27/\st.opens=q25/\st.snaps=q26)) q0.version) q0.quota) q0.keep) q0.next) q0.opens) q0.snaps) q0.sess) (fg st c).fst) q1.code) (fg st c).snd) (if eE st q18=q15 then bF c q18 else 1)) (bw (gG false) c st)) (bw (gG true) c st)) (bw (si c) c st)) (bw fT c st)) (bw eC c st)) (eJ st c)) c.kind) (eP st c)) (eX st c)) (ph c st)) (sQ c st).fst) (st.opens.length<1048576)) (0:Int)) (nch st.snaps<=1048576)) (sQ c st).snd) st.version)
 (repeat' with_reducible first|apply aZ|refine aY ?_|intro)
 all_goals (first | exact bt | exact (Xz ab) | exact (ab5 ab) | exact (We ab) | exact (aer ab) | exact (acY ab) | (rw [af_ ab]; done) | (rw [adr ab]; simp only [Oh, *]; done) | (rw [adr ab]; simp [Oh, *]; done))
def Wr:bN:=(aO 281 NA UK)
theorem zK:ay Tryz.prog (al tyT) Wr:=(ah YH yx)
def cG (s:State) (c:Command):State × Reply:=
 if ak Sess.client c.client s.sess<0 then (s,⟨11,0⟩)
 else if c.seq=(s.sess.getD (ak Sess.client c.client s.sess).toNat (au (.nm .sess))).seq then (s,(s.sess.getD (ak Sess.client c.client s.sess).toNat (au (.nm .sess))).last)
 else if c.seq<(s.sess.getD (ak Sess.client c.client s.sess).toNat (au (.nm .sess))).seq then (s,⟨13,0⟩)
 else if (s.sess.getD (ak Sess.client c.client s.sess).toNat (au (.nm .sess))).seq+1<c.seq then (s,⟨14,0⟩)
 else ({ (fg s c).1 with sess:=(fg s c).1.sess.set (ak Sess.client c.client s.sess).toNat { (fg s c).1.sess.getD (ak Sess.client c.client s.sess).toNat (au (.nm .sess)) with seq:=c.seq,last:=(fg s c).2 } },(fg s c).2)
def qN (s:State) (c:Command):State × Reply:=
 if ¬ fG s c=0 then (s,⟨fG s c,0⟩)
 else if c.kind=8 then (if ¬ c.n=s.version+1 then (s,⟨1,0⟩) else ({ s with version:=c.n },⟨0,c.n⟩))
 else if c.kind=1 then (if 0<=ak Sess.client c.client s.sess then (s,⟨12,0⟩) else ({ s with sess:=yO s.sess (s.sess.takeWhile fun y=>decide (y.client<c.client)).length ⟨c.client,0,⟨0,0⟩⟩ },⟨0,0⟩))
 else cG s c
variable {Q:State × Reply->Prop}
theorem Tb {s:State} {c:Command} (h0:∀ e:Int,¬ e=0->Q (s,⟨e,0⟩))
  (hs:∀ f:State->Nat->State × Reply,fG s c=0->(f=si c\/(∃ b,f=gG b)\/f=fT\/f=eC)->Q (bw f c s))
  (hq:fG s c=0->Q (ph c s)) (hk:fG s c=0->Q (sQ c s)) (ha:fG s c=0->Q (eP s c)) (hc:fG s c=0->Q (eJ s c)) (hb:fG s c=0->Q (eX s c)):Q (fg s c):=by
 unfold fg;split
 ·exact h0 _ (by assumption)
 rename_i h;have h:fG s c=0:=abc.1 h;unfold Oh;split
 ·exact hs _ h (.inl rfl)
 split
 ·exact hs _ h (.inr (.inl ⟨_,rfl⟩))
 split
 ·exact hs _ h (.inr (.inl ⟨_,rfl⟩))
 split
 ·exact hs _ h (.inr (.inr (.inl rfl)))
 split
 ·exact hs _ h (.inr (.inr (.inr rfl)))
 split
 ·exact hq h
 split
 ·exact hk h
 split
 ·exact ha h
 split
 ·exact hc h
 split
 ·exact hb h
 exact h0 1 (by decide)
theorem Ix {f:State->Nat->State × Reply} {s:State} {c:Command} (h0:∀ e:Int,¬ e=0->Q (s,⟨e,0⟩)) (h:∀ n:Nat,(n:Int)=ak Snap.id c.id s.snaps->Q (f s n)):Q (bw f c s):=by
 unfold bw;split
 ·exact h0 15 (by decide)
 exact h _ aL
theorem Ia {s:State} {c:Command}:(fg s c).1.sess=s.sess:=by
 refine Tb (Q:=fun r=>r.1.sess=s.sess) (fun _ _=>rfl) (fun f _ hf=>?_) (fun _=>rfl) (fun _=>rfl) (fun _=>?_) (fun _=>?_) (fun _=>?_)
 ·refine Ix (Q:=fun r=>r.1.sess=s.sess) (fun _ _=>rfl) fun n _=>?_;rcases hf with rfl | ⟨b,rfl⟩ | rfl | rfl
  ·rfl
  ·unfold gG; split <;> rfl
  ·rfl
  unfold eC; split; rfl; split <;> rfl
 ·unfold eP; split <;> rfl
 ·unfold eJ; split; rfl; split; rfl; split <;> rfl
 unfold eX; split <;> rfl
theorem Bk {l:List Sess} {q:Int} {R:Reply} (h:k<l.length):(l.set k (Sess.mk (l.getD k (au (.nm .sess))).client q (l.getD k (au (.nm .sess))).last)).set k (Sess.mk ((l.set k (Sess.mk (l.getD k (au (.nm .sess))).client q (l.getD k (au (.nm .sess))).last)).getD k (au (.nm .sess))).client ((l.set k (Sess.mk (l.getD k (au (.nm .sess))).client q (l.getD k (au (.nm .sess))).last)).getD k (au (.nm .sess))).seq R)=l.set k { l.getD k (au (.nm .sess)) with seq:=q,last:=R }:=by
 have e:∀ x:Sess,(l.set k x).getD k (au (.nm .sess))=x:=fun x=>by
  rw [List.getD_eq_getElem?_getD,abb h]; rfl
 rw [e,List.set_set]
section
variable {v nx kp qt:Int} {se:List Sess} {op:List Opn} {sn:List Snap} {c:Command}
theorem as1 (h:ak Sess.client c.client se<0):cG (State.mk v nx kp qt se op sn) c=(State.mk v nx kp qt se op sn,⟨11,0⟩):=by
 simp only [cG,if_pos h]
theorem as2 (h:0<=ak Sess.client c.client se) (e:c.seq=(se.getD (ak Sess.client c.client se).toNat (au (.nm .sess))).seq):cG (State.mk v nx kp qt se op sn) c=(State.mk v nx kp qt se op sn,(se.getD (ak Sess.client c.client se).toNat (au (.nm .sess))).last):=by
 have h1:¬ ak Sess.client c.client se<0:=by omega
 simp only [cG,if_neg h1,if_pos e]
theorem as3 (h:0<=ak Sess.client c.client se) (e:¬ c.seq=(se.getD (ak Sess.client c.client se).toNat (au (.nm .sess))).seq) (l:c.seq<(se.getD (ak Sess.client c.client se).toNat (au (.nm .sess))).seq):cG (State.mk v nx kp qt se op sn) c=(State.mk v nx kp qt se op sn,⟨13,0⟩):=by
 have h1:¬ ak Sess.client c.client se<0:=by omega
 simp only [cG,if_neg h1,if_neg e,if_pos l]
theorem as4 (h:0<=ak Sess.client c.client se) (e:¬ c.seq=(se.getD (ak Sess.client c.client se).toNat (au (.nm .sess))).seq) (l:(se.getD (ak Sess.client c.client se).toNat (au (.nm .sess))).seq<=c.seq) (g:(se.getD (ak Sess.client c.client se).toNat (au (.nm .sess))).seq+1<c.seq):cG (State.mk v nx kp qt se op sn) c=(State.mk v nx kp qt se op sn,⟨14,0⟩):=by
 have h1:¬ ak Sess.client c.client se<0:=by omega
 have h2:¬ c.seq<(se.getD (ak Sess.client c.client se).toNat (au (.nm .sess))).seq:=by omega
 simp only [cG,if_neg h1,if_neg e,if_neg h2,if_pos g]
theorem as5 (h:0<=ak Sess.client c.client se) (e:¬ c.seq=(se.getD (ak Sess.client c.client se).toNat (au (.nm .sess))).seq) (l:(se.getD (ak Sess.client c.client se).toNat (au (.nm .sess))).seq<=c.seq) (g:c.seq<=(se.getD (ak Sess.client c.client se).toNat (au (.nm .sess))).seq+1):cG (State.mk v nx kp qt se op sn) c=({ (fg (State.mk v nx kp qt se op sn) c).1 with sess:=(fg (State.mk v nx kp qt se op sn) c).1.sess.set (ak Sess.client c.client se).toNat { (fg (State.mk v nx kp qt se op sn) c).1.sess.getD (ak Sess.client c.client se).toNat (au (.nm .sess)) with seq:=c.seq,last:=(fg (State.mk v nx kp qt se op sn) c).2 } },(fg (State.mk v nx kp qt se op sn) c).2):=by
 have h1:¬ ak Sess.client c.client se<0:=by omega
 have h2:¬ c.seq<(se.getD (ak Sess.client c.client se).toNat (au (.nm .sess))).seq:=by omega
 have h3:¬ (se.getD (ak Sess.client c.client se).toNat (au (.nm .sess))).seq+1<c.seq:=by omega
 simp only [cG,if_neg h1,if_neg e,if_neg h2,if_neg h3]
theorem OT (h:0<=ak Sess.client c.client se):ak Sess.client c.client se<((fg (State.mk v nx kp qt se op sn) c).1.sess.length:Int):=by rw [Ia]; exact dX h
theorem By (h:0<=ak Sess.client c.client se):(ak Sess.client c.client se).toNat<(fg (State.mk v nx kp qt se op sn) c).1.sess.length:=by have:=OT (v:=v) (nx:=nx) (kp:=kp) (qt:=qt) (op:=op) (sn:=sn) h; omega
theorem abG {x:Sess} (h:0<=ak Sess.client c.client se):ak Sess.client c.client se<(((fg (State.mk v nx kp qt se op sn) c).1.sess.set (ak Sess.client c.client se).toNat x).length:Int):=by rw [aef]; exact OT h
theorem ahM (h:fG (State.mk v nx kp qt se op sn) c=0) (h0:0<=ak Sess.client c.client se):I64 ((se.getD (ak Sess.client c.client se).toNat (au (.nm .sess))).seq+1):=by
 have h1:=(gS (CV h)).2.2.1;simp only [yU,Bool.and_eq_true,aeD] at h1;have h2:=h1.2 _ (abl (gd (d:=au (.nm .sess)) (k:=(ak Sess.client c.client se).toNat) (l:=se) (by have:=dX h0; omega)));simp only [dY,Bool.and_eq_true] at h2;have h3:=Ji h2.1.1;constructor <;> omega
end
def zn:Kn:=aK (ae (kG (ax cI (ax cI (ax cI (ax cI (ax (eV 0) (ax (eV 1) (ax (eV 2) dC)))))))) (ae (kT (.nm .command)) ao)) (aC (eW 137 (.nm .sess)) (aC (eW 139 (.nm .opn)) (aC (eW 172 (.nm .snap)) aw))) fun ((v,nx,kp,qt,_,_,_,_),c,_) (se,op,sn,_)=>⟨[fG (State.mk v nx kp qt se op sn) c=0],[.agg ([.int (((cG (State.mk v nx kp qt se op sn) c).1.version)),.int (((cG (State.mk v nx kp qt se op sn) c).1.next)),.int (((cG (State.mk v nx kp qt se op sn) c).1.keep)),.int (((cG (State.mk v nx kp qt se op sn) c).1.quota)),.own 0,.own 1,.own 2]),.agg (cellsOf (.nm .reply) ((cG (State.mk v nx kp qt se op sn) c).2))],some ([.row 137 (.nm .sess) (((cG (State.mk v nx kp qt se op sn) c).1.sess)),.row 139 (.nm .opn) (((cG (State.mk v nx kp qt se op sn) c).1.opens)),.row 172 (.nm .snap) (((cG (State.mk v nx kp qt se op sn) c).1.snaps))]),false⟩
theorem Pm:CK 264 zn:=ag fun ((v,nx,kp,qt,_,_,_,_),c,_) (se,op,sn,_) hp=>by
 have h0:=cc hp;refine br zK [] Tryz.func264 (?_:(fun q4=>(fun q3=>(fun q2=>(fun q1=>(fun q5=>(fun q6=>(fun q7=>(fun q0=>(fun q12=>(fun q11=>(fun q10=>(fun q13=>(fun q9=>(fun q8=>(fun q18=>(fun q17=>(fun q16=>(fun q15=>(fun q14=>(fun q19=>I64 v->I64 nx->I64 kp->I64 qt->bB c (I64 q1->(q1<q3->I64 11->I64 q3->q15/\q17/\q18/\q16/\11=q11.code/\q19)/\(q3<=q1->q3<=q1/\q1<(↑se.length:Int)/\jP q6 ((q4=q6.seq->q15/\q17/\q18/\q16/\q6.last.code=q11.code/\q6.last.n=q11.n/\q14)/\(¬q4=q6.seq->(q4<q6.seq->I64 13->I64 q3->q15/\q17/\q18/\q16/\13=q11.code/\q19)/\(q6.seq<=q4->I64 q7/\(q7<q4->I64 14->I64 q3->q15/\q17/\q18/\q16/\14=q11.code/\q19)/\(q4<=q7->I64 q10.version->I64 q10.next->I64 q10.keep->I64 q10.quota->I64 q12.code->I64 q12.n->(q3<=q1/\q1<(↑q10.sess.length:Int))/\jP q13 (q3<=q1/\q1<(↑q9.length:Int))/\jP q13 (jP (q9.getD q5 q2) (q10.version=q8.version/\q10.next=q8.next/\q10.keep=q8.keep/\q10.quota=q8.quota/\q12.code=q11.code/\q12.n=q11.n/\q9.set q5 (Sess.mk (q9.getD q5 q2).client (q9.getD q5 q2).seq q12)=q8.sess/\q10.opens=q8.opens/\q10.snaps=q8.snaps))))))))) (q3=q11.n/\q14)) (se=q8.sess/\op=q8.opens/\sn=q8.snaps)) (v=q8.version)) (qt=q8.quota)) (nx=q8.next)) (kp=q8.keep)) (cG q0 c).fst) (q10.sess.set q5 (Sess.mk q13.client q4 q13.last))) (q10.sess.getD q5 q2)) (fg q0 c).fst) (cG q0 c).snd) (fg q0 c).snd) (State.mk v nx kp qt se op sn)) (q6.seq+1)) (se.getD q5 q2)) q1.toNat) (ak Sess.client c.client se)) (au (Sh.nm NT.sess))) (0:Int)) c.seq);(repeat' with_reducible first|apply aZ|refine aY ?_|intro)
 all_goals (first | exact bt | exact dX ab | exact OT ab | exact abG ab | exact ahM ab ab | (rw [as1] <;> first | rfl | with_reducible assumption | exact Bk (By ab)) | (rw [as2] <;> first | rfl | with_reducible assumption | exact Bk (By ab)) | (rw [as3] <;> first | rfl | with_reducible assumption | exact Bk (By ab)) | (rw [as4] <;> first | rfl | with_reducible assumption | exact Bk (By ab)) | (rw [as5] <;> first | rfl | with_reducible assumption | exact Bk (By ab)))
def VP:bN:=(aO 264 zn Wr)
theorem zN:ay Tryz.prog (al tyT) VP:=(ah Pm zK)
section
variable {s:State} {c:Command}
theorem aht (h:(if eE s s.version=0 then bF c s.version else 1)=0):fG s c=0:=h
theorem afu (h:(if eE s s.version=0 then bF c s.version else 1)=0):I64 (s.version+1):=by
 have h1:=(gS (CV h)).2.1;simp only [lE,Bool.and_eq_true] at h1;have:=Ji h1.1.1.1;constructor <;> omega
theorem doE (h:¬ (if eE s s.version=0 then bF c s.version else 1)=0):qN s c=(s,⟨(if eE s s.version=0 then bF c s.version else 1),0⟩):=by
 have h:¬ fG s c=0:=h;rw [qN,if_pos h]; rfl
theorem doM (h:(if eE s s.version=0 then bF c s.version else 1)=0):qN s c=if c.kind=8 then (if ¬ c.n=s.version+1 then (s,⟨1,0⟩) else ({ s with version:=c.n },⟨0,c.n⟩))
 else if c.kind=1 then (if 0<=ak Sess.client c.client s.sess then (s,⟨12,0⟩) else ({ s with sess:=yO s.sess (s.sess.takeWhile fun y=>decide (y.client<c.client)).length ⟨c.client,0,⟨0,0⟩⟩ },⟨0,0⟩))
 else cG s c:=by
 have h:¬ ¬ fG s c=0:=fun k=>k h;rw [qN,if_neg h]
theorem ahp (h:(if eE s s.version=0 then bF c s.version else 1)=0) (k:c.kind=8) (n:¬ c.n=s.version+1):qN s c=(s,⟨1,0⟩):=by rw [doM h,if_pos k,if_pos n]
theorem afY (h:(if eE s s.version=0 then bF c s.version else 1)=0) (k:c.kind=8) (n:c.n=s.version+1):qN s c=({ s with version:=c.n },⟨0,c.n⟩):=by rw [doM h,if_pos k,if_neg (fun h=>h n)]
theorem ag2 (h:(if eE s s.version=0 then bF c s.version else 1)=0) (k:c.kind=1) (n:0<=ak Sess.client c.client s.sess):qN s c=(s,⟨12,0⟩):=by rw [doM h,if_neg (by omega),if_pos k,if_pos n]
theorem aeM (h:(if eE s s.version=0 then bF c s.version else 1)=0) (k:c.kind=1) (n:ak Sess.client c.client s.sess<0):qN s c=({ s with sess:=yO s.sess (s.sess.takeWhile fun y=>decide (y.client<c.client)).length ⟨c.client,0,⟨0,0⟩⟩ },⟨0,0⟩):=by rw [doM h,if_neg (by omega),if_pos k,if_neg (by omega)]
theorem doX (h:(if eE s s.version=0 then bF c s.version else 1)=0) (k:¬ c.kind=8) (n:¬ c.kind=1):qN s c=cG s c:=by rw [doM h,if_neg k,if_neg n]
variable {l:List Sess}
theorem pw {x:Sess} (hs:k<=l.length) (ha:(l.take k).all (fun y=>decide (y.client<c.client))=true) (hb:(l.length:Int)<=k\/c.client<=(l.getD k (au (.nm .sess))).client):l.take k++[x]++l.drop k=yO l (l.takeWhile fun y=>decide (y.client<c.client)).length x:=by
 have:k=(l.takeWhile fun y=>decide (y.client<c.client)).length:=by
  refine Jt ha hs ?_;by_cases hl:(l.length:Int)<=k
  ·exact .inl hl
  refine .inr ⟨by omega,_,gd (d:=au (.nm .sess)) (by omega),?_⟩;rcases hb with hb | hb
  ·omega
  exact aeF aL
 rw [<- this]; simp [yO]
theorem adx (ha:(l.take k).all (fun y=>decide (y.client<c.client))=true) (h:(k:Int)<l.length) (hb:(l.getD k (au (.nm .sess))).client<c.client):(l.take (k+1)).all (fun y=>decide (y.client<c.client))=true:=by
 rw [ai (gd (d:=au (.nm .sess)) h),agr,ha]; simp only [afB,List.all_nil,decide_eq_true hb]; rfl
end
def afK (st:State) (c:Command):List (Nat × LI):=[(15,{ σ:=Nat,F:=fun k=>([(2,one (.ptr 0 0)),(3,one (.ptr 1 0)),(4,one (.ptr 2 0)),(5,one (.ptr 3 0)),(7,one (.int k))],[.box 46 ([.int ((st.version)),.int ((st.next)),.int ((st.keep)),.int ((st.quota)),.own 4,.own 5,.own 6]),.box 35 (cellsOf (.nm .command) (c)),.box 46 ([.int ((0)),.int ((0)),.int ((0)),.int ((0)),.em true,.em true,.em true]),.box 78 ([.int ((0)),.int ((0))]),.row 137 (.nm .sess) ((st.sess)),.row 139 (.nm .opn) ((st.opens)),.row 172 (.nm .snap) ((st.snaps))]),J:=fun k=>k<=st.sess.length/\(st.sess.take k).all (fun y=>decide (y.client<c.client))=true,μ:=fun k=>st.sess.length - k })]
def Wn:Kn:=aK (ae (kT (.nm .state)) (ae (kT (.nm .command)) ao)) aw fun (st,c,_) _=>⟨[],[.agg ([.int (((qN st c).1.version)),.int (((qN st c).1.next)),.int (((qN st c).1.keep)),.int (((qN st c).1.quota)),.own 0,.own 1,.own 2]),.agg (cellsOf (.nm .reply) ((qN st c).2))],some ([.row 137 (.nm .sess) (((qN st c).1.sess)),.row 139 (.nm .opn) (((qN st c).1.opens)),.row 172 (.nm .snap) (((qN st c).1.snaps))]),true⟩
theorem ado:CK 227 Wn:=ag fun (st,c,_) _ _=>by
 refine dD zN (afK st c) Tryz.func227 (?_:(fun (q14:List Opn)=>(fun (q13:Int)=>(fun (q12:Int)=>(fun (q11:Reply)=>(fun (q10:Int)=>(fun (q9:den (Sh.nm NT.sess))=>(fun (q8:Int)=>(fun (q7:Int)=>(fun (q6:Reply)=>(fun (q5:State)=>(fun (q4:Int)=>(fun (q16:Int)=>(fun (q15:Int)=>(fun (q3:List Sess)=>(fun (q18:Int)=>(fun (q17:Int)=>(fun (q2:Int)=>(fun (q20:Prop)=>(fun (q19:Int)=>(fun (q1:Prop)=>(fun (q0:State)=>(fun (q26:Prop)=>(fun (q25:Prop)=>(fun (q24:Prop)=>(fun (q23:Prop)=>(fun (q22:Prop)=>(fun (q21:Prop)=>(fun (q27:Prop)=>fN st (bB c (I64 q4->I64 q13->I64 q12->I64 q10->I64 q19->(¬q19=q2->I64 q19->I64 q2->q25/\q23/\q24/\q22/\q19=q6.code/\q27)/\(q19=q2->(c.kind=8->I64 (q4+q7)/\(¬c.n=q4+q7->I64 q7->I64 q2->q25/\q23/\q24/\q22/\q7=q6.code/\q27)/\(c.n=q4+q7->c.n=q0.version/\q23/\q24/\q22/\q2=q6.code/\c.n=q6.n/\q21))/\(¬c.kind=8->(c.kind=q7->I64 q18->(q2<=q18->I64 12->I64 q2->q25/\q23/\q24/\q22/\12=q6.code/\q27)/\(q18<q2->∃ (s0:Nat),(q2=(↑s0:Int)/\q1)/\(s0<=q3.length/\((List.take s0 q3).all fun (y:Sess)=>decide (y.client<q8))=true)/\∀ (s:Nat),(fun (q29:Int)=>(fun (q28:den (Sh.nm NT.sess))=>s<=q3.length/\((List.take s q3).all fun (y:Sess)=>decide (y.client<q8))=true->(q29<q17->q2<=q29/\q29<q17)/\((q29<q17->I64 q28.client/\I64 q28.seq/\I64 q28.last.code/\I64 q28.last.n)->(q29<q17/\q28.client<q8->I64 (q29+q7)/\∃ (s':Nat),(q29+q7=(↑s':Int)/\q1)/\(s' <= q3.length/\((List.take s' q3).all fun (y:Sess)=>decide (y.client<q8))=true)/\q3.length - s' < q3.length - s)/\(q17<=q29\/q8<=q28.client->(q2<=q29/\q29<=q17)/\q3.length<1048576/\[Sess.mk q8 q2 (Reply.mk q2 q2)].length=1/\q25/\q23/\q24/\q22/\q2=q6.code/\q2=q6.n/\List.take s q3++[Sess.mk q8 q2 (Reply.mk q2 q2)]++List.drop s q3=q0.sess/\q26))) (q3.getD s q9)) (↑s:Int)))/\(¬c.kind=q7->fG st c=q2/\(I64 q5.version->I64 q5.next->I64 q5.keep->I64 q5.quota->I64 q11.code->I64 q11.n->q5.version=q0.version/\q5.next=q0.next/\q5.keep=q0.keep/\q5.quota=q0.quota/\q11.code=q6.code/\q11.n=q6.n/\q5.sess=q0.sess/\q5.opens=q0.opens/\q5.snaps=q0.snaps))))))) (q2=q6.n/\q21)) (q3=q0.sess/\q26)) (q10=q0.quota)) (q13=q0.next)) (q12=q0.keep)) (q4=q0.version)) (q14=q0.opens/\st.snaps=q0.snaps)) (qN st c).fst) (q4=q4/\q13=q13/\q12=q12/\q10=q10/\bm c c (q20/\q20/\q20/\q20/\q20/\q20/\q3=q3/\q14=q14/\st.snaps=st.snaps))) (if q15=q2 then q16 else q7)) (q2=q2)) 0) (↑q3.length:Int)) (ak Sess.client q8 q3)) st.sess) (eE st q4)) (bF c q4)) st.version) (cG st c).fst) (qN st c).snd) 1) c.client) (au (Sh.nm NT.sess))) st.quota) (cG st c).snd) st.keep) st.next) st.opens);iterate 3 ((all_goals (repeat' with_reducible first|apply aZ|refine aY ?_|intro)); (all_goals try (first | exact bt | exact rfl | exact aht ab | exact afu ab | exact We ab | exact adx ab ab ab | (rw [doE] <;> first | rfl | with_reducible assumption | exact pw aL ab (by assumption)) | (rw [ahp] <;> first | rfl | with_reducible assumption | exact pw aL ab (by assumption)) | (rw [afY] <;> first | rfl | with_reducible assumption | exact pw aL ab (by assumption)) | (rw [ag2] <;> first | rfl | with_reducible assumption | exact pw aL ab (by assumption)) | (rw [aeM] <;> first | rfl | with_reducible assumption | exact pw aL ab (by assumption)) | (rw [doX] <;> first | rfl | with_reducible assumption | exact pw aL ab (by assumption)))); all_goals try first | refine ⟨‹Nat› + 1,?_⟩ | refine ⟨0,?_⟩)
def VK:bN:=(aO 227 Wn VP)
theorem Ju:ay Tryz.prog (al tyT) VK:=(ah ado zN)
def Vl:bN:=VK
theorem Mr:ay Tryz.prog (al tyT) Vl:=Ju
def WJ:bN:=Vl
theorem MO:ay Tryz.prog (al tyT) WJ:=Mr
section
variable {s:State} {c:Command}
end
theorem Tp {c:Command} {v:Int} (h:bF c v=0):(1<=v/\v<=3)/\¬ cr c.kind=0/\cr c.kind<=v/\mn c=true:=by
 unfold bF at h;split at h
 ·cases h
 rename_i h1;rw [Bool.or_eq_true,not_or] at h1;simp only [aeu,Bool.not_eq_false,decide_eq_true_eq] at h1;split at h
 ·cases h
 split at h
 ·cases h
 rename_i h2 h3;exact ⟨Ji h1.1,h1.2,by omega,by simpa using h3⟩
section
variable {α:Type} {key:α->Int} {most:Int}
end
section
variable {α:Type} {key:α->Int} {most:Int}
end
section
variable {s:State} {c:Command}
end
section
variable {α:Type} {key:α->Int} {most:Int}
end
section
variable {s:State} {x:Snap} {i:Nat}
end
section
variable {s:State} {x:Snap} {i:Nat}
end
section
variable {s:State} {x:Snap} {i:Nat}
end
section
variable {s:State} {c:Command} {k:Nat}
end
section
variable {α:Type} {key:α->Int} {most:Int}
end
section
variable {s:State} {c:Command}
end
section
variable {α:Type} {key:α->Int} {x y d:α}
variable {l:List α} {k:Nat}
end
def Vr:bN:=WJ
theorem MX:ay Tryz.prog (al tyT) Vr:=MO
section
variable {st:State} {c:Command}
variable {i:Int} {x:Snap}
end
def WI:bN:=Vr
theorem PV:ay Tryz.prog (al tyT) WI:=MX
section
variable {st:State} {c:Command}
end
def Wb:bN:=WI
theorem PE:ay Tryz.prog (al tyT) Wb:=PV
section
variable {st:State} {c:Command}
end
def Vn:bN:=Wb
theorem BF:ay Tryz.prog (al tyT) Vn:=PE
def vX (l:List Int):Int:=match l.findIdx? (fun x=>!bK x) with
 | some i=>(i:Int)
 | none=>-1
section
variable {l:List Int} {k:Nat} {x:Int}
theorem wi:vX l=ak (fun x=>if bK x=true then 0 else 1) 1 l:=by
 have e:(fun x=>!bK x)=fun x:Int=>decide ((if bK x=true then (0:Int) else 1)=1):=by
  funext x;cases bK x <;> rfl
 unfold vX ak; rw [e]; rfl
theorem aap (h:vX (l.take k) = -1) (hx:l[k]? = some x) (hn:(!bK x)=false):vX (l.take (k+1)) = -1:=by
 rw [Bool.not_eq_false'] at hn;rw [wi] at h ⊢;exact n_ h hx (by rw [if_pos hn]; decide)
theorem UA (h:vX (l.take k) = -1) (hx:l[k]? = some x) (hn:(!bK x)=true):(k:Int)=vX l:=by
 rw [aeu] at hn;rw [wi] at h ⊢;exact lG h hx (by rw [hn]; rfl)
theorem aav (h:vX (l.take k) = -1) (hk:l.length<=k):-1=vX l:=by rw [List.take_of_length_le hk] at h; exact h.symm
theorem TS:decide (0<=vX l) = !l.all bK:=by
 cases e:l.findIdx? (fun x=>!bK x) with
 | none=>
  have h:=List.findIdx?_eq_none_iff.1 e;have:l.all bK=true:=aeD.2 fun x hx=>by simpa using h x hx
  unfold vX; rw [e,this]; rfl
 | some i=>
  obtain ⟨hi,hp,_⟩:=aeC.1 e;have:l.all bK=false:=by
   rw [List.all_eq_false];exact ⟨l[i],aeE hi,by simpa using hp⟩
  unfold vX; rw [e,this];show decide (0<=(i:Int))=true;rw [decide_eq_true_eq]; omega
end
def Bj:Kn:=aK (ae (kC cI) ao) aw fun (k,_) _=>⟨[],[.c (.bool (.atom ((bK k))))],none,false⟩
theorem Ps:CK 86 Bj:=ag fun (k,_) _ _=>by
 refine av BF [] Tryz.func86 (?_:I64 k->(decide (1<=k) && decide (k<=3))=bK k);grind [bK]
def Vh:bN:=(aO 86 Bj Vn)
theorem su:ay Tryz.prog (al tyT) Vh:=(ah Ps BF)
section
variable {st:State} {v:Int}
end
def vQ:Kn:=aK (ae (kC cI) (ae (kC cI) ao)) aw fun (a,b,_) _=>⟨[],[.c (.int ((bZ a b)))],none,false⟩
theorem Hd:CK 43 vQ:=ag fun (a,b,_) _ _=>by
 refine av su [] Tryz.func43 (?_:I64 a->I64 b->(bK a=false\/bK b=false->1=bZ a b)/\(bK a=true/\bK b=true->(a<b->32=bZ a b)/\(b<=a->0=bZ a b)));grind [bZ,bK]
def Av:Kn:=aK (ae (kC cI) ao) aw fun (n,_) _=>⟨[],[.c (.bool (.atom ((!bK n))))],none,false⟩
theorem ND:CK 157 Av:=ag fun (n,_) _ _=>by
 refine av su [] Tryz.func157 (?_:I64 n->(!bK n) = !bK n);grind
def Vc:bN:=(aO 157 Av (aO 43 vQ Vh))
theorem tP:ay Tryz.prog (al tyT) Vc:=(ah ND (ah Hd su))
variable {l:List Int}
theorem Te {s:Nat} {x:Int} (hx:l[((s:Int)+1).toNat]? = some x):min (iN l (s+1)) x=iN l (s+1+1):=Dl (by omega) (by rwa [show ((s:Int)+1).toNat=s+1 by omega] at hx)
def SV (l:List Int):List (Nat × LI):=[(2,{ σ:=Nat,F:=fun k=>([(0,one (.fz .int (l))),(1,one (.fn 157 [] [])),(7,one (.int (l).length)),(8,one (.int k))],[]),J:=fun k=>k<=l.length/\vX (l.take k) = -1,μ:=fun k=>(l).length - k })]
def ab2 (l:List Int):List (Nat × LI):=[(5,{ σ:=Nat,F:=fun k=>([(0,one (.fz .int (l))),(3,one (.int (iN l (k+1)))),(4,one (.int (k+1)))],[]),J:=fun k=>k+1<=l.length,μ:=fun k=>l.length - k })]
def yI:Kn:=aK (ae (kC (cL .int)) (ae (kC (qO 157 [] [])) ao)) aw fun (l,_,_) _=>⟨[],[.c (.int ((vX l)))],none,false⟩
theorem MV:CK 219 yI:=ag fun (l,_,_) _ _=>by
 refine av tP (SV l) Tryz.func219 (?_:(fun (q1:Int)=>(fun (q0:Nat)=>l.length*8<=140737488355328->∃ (s0:Nat),(l=l/\(↑l.length:Int)=(↑q0:Int)/\0=(↑s0:Int))/\(s0<=q0/\vX (List.take s0 l) = -q1)/\∀ (s:Nat),s<=q0/\vX (List.take s l) = -q1->((↑s:Int)<(↑q0:Int)->0<=(↑s:Int)/\(↑s:Int)<(↑l.length:Int)/\∀ (x:Int),l[s]? = some x->I64 x->((!bK x)=true->(↑s:Int)=vX l)/\((!bK x)=false->I64 ((↑s:Int)+q1)/\∃ (s':Nat),(l=l/\(↑q0:Int)=(↑q0:Int)/\(↑s:Int)+q1=(↑s':Int))/\(s' <= q0/\vX (List.take s' l) = -q1)/\q0 - s' < q0 - s))/\((↑q0:Int)<=(↑s:Int) -> -q1=vX l)) l.length) 1);iterate 3 ((all_goals (repeat' with_reducible first|apply aZ|refine aY ?_|intro)); (all_goals try (first | exact bt | exact rfl | exact (aap ab ab ab) | exact (UA ab ab ab) | exact (aav ab aL))); all_goals try first | refine ⟨‹Nat› + 1,?_⟩ | refine ⟨0,?_⟩)
def Ll:Kn:=aK (ae (kC (cL .int)) ao) aw fun (l,_) _=>⟨[0<l.length],[.c (.int ((At l)))],none,false⟩
theorem Xv:CK 159 Ll:=ag fun (l,_) _ hp=>by
 have h0:=cc hp;refine av tP (ab2 l) Tryz.func159 (?_:(fun q2=>(fun q1=>(fun q0=>l.length*(8:Nat)<=(140737488355328:Nat)->(q1<q0->False)/\(q0<=q1->(0:Int)<=(0:Int)/\(0:Int)<q1/\∀ (x:Int),l[(0:Nat)]? = some x->I64 x->∃ s0,(l=l/\x=iN l (s0+q2)/\q0=(↑s0:Int)+q0)/\s0+q2<=l.length/\∀ (s:Nat),(fun q3=>s+q2<=l.length->(q3<q1->(0:Int)<=q3/\q3<q1/\∀ (x:Int),l[q3.toNat]? = some x->I64 x->I64 (q3+q0)/\∃ s',(l=l/\min (iN l (s+q2)) x=iN l (s' + q2)/\q3+q0=(↑s':Int)+q0)/\s' + q2<=l.length/\l.length - s' < l.length - s)/\(q1<=q3->iN l (s+q2)=At l)) ((↑s:Int)+q0))) (1:Int)) (↑l.length:Int)) (1:Nat));iterate 3 ((all_goals (repeat' with_reducible first|apply aZ|refine aY ?_|intro)); (all_goals try (first | exact bt | exact (HO ab) | exact (Te ab) | exact (Hc aL))); all_goals try first | refine ⟨‹Nat› + 1,?_⟩ | refine ⟨0,?_⟩)
def Vs:bN:=(aO 159 Ll (aO 219 yI Vc))
theorem BH:ay Tryz.prog (al tyT) Vs:=(ah Xv (ah MV tP))
def Fg:Kn:=aK (ae (kC (cL .int)) (ae (kC (qO 157 [] [])) ao)) aw fun (l,_,_) _=>⟨[],[.c (.bool (.atom ((!l.all bK))))],none,false⟩
theorem Sq:CK 158 Fg:=ag fun (l,_,_) _ _=>by
 refine av BH [] Tryz.func158 (?_:l.length*8<=140737488355328->I64 (vX l)->decide (0<=vX l) = !l.all bK);(repeat' with_reducible first|apply aZ|refine aY ?_|intro)
 all_goals (first | exact bt | exact (TS))
def VD:bN:=(aO 158 Fg Vs)
theorem AU:ay Tryz.prog (al tyT) VD:=(ah Sq BH)
theorem aga (o:(l.length:Int)=0\/(!l.all bK)=true):0=iS l:=by
 have h:(decide (l.length=0) || !l.all bK)=true:=by
  rcases o with o | o
  ·rw [decide_eq_true (by omega)]; rfl
  rw [o,Bool.or_true]
 unfold iS; rw [if_pos h]
theorem ag0 (o:¬ (l.length:Int)=0) (h:(!l.all bK)=false):At l=iS l:=by
 have h:¬ (decide (l.length=0) || !l.all bK)=true:=by
  rw [h,aeF (by omega)]; decide
 unfold iS; rw [if_neg h]
def yr:Kn:=aK (ae (kC (cL .int)) ao) aw fun (l,_) _=>⟨[],[.c (.int ((iS l)))],none,false⟩
theorem LL:CK 92 yr:=ag fun (l,_) _ _=>by
 refine av AU [] Tryz.func92 (?_:l.length*8<=140737488355328->((↑l.length:Int)=0\/(!l.all bK)=true->0=iS l)/\(¬(↑l.length:Int)=0/\(!l.all bK)=false->0<l.length/\(I64 (At l)->At l=iS l)));(repeat' with_reducible first|apply aZ|refine aY ?_|intro)
 all_goals (first | exact bt | exact (aga (by assumption)) | exact (ag0 ab ab))
def Vb:bN:=(aO 92 yr VD)
theorem BP:ay Tryz.prog (al tyT) Vb:=(ah LL AU)
def yP:Kn:=aK (ae (kC cI) (ae (kC (cL .int)) ao)) aw fun (v,l,_) _=>⟨[],[.c (.bool (.atom ((kB v l))))],none,false⟩
theorem Mp:CK 53 yP:=ag fun (v,l,_) _ _=>by
 refine av BP [] Tryz.func53 (?_:I64 v->l.length*8<=140737488355328->(1<=v/\v<3->I64 (iS l))->(decide (1<=v) && decide (v<3) && decide (v<iS l))=kB v l);(repeat' with_reducible first|apply aZ|refine aY ?_|intro)
 all_goals (first | exact bt | rfl | grind [kB])
def VJ:bN:=(aO 53 yP Vb)
theorem L_:ay Tryz.prog (al tyT) VJ:=(ah Mp BP)
def VQ:bN:=VJ
theorem NF:ay Tryz.prog (al tyT) VQ:=L_
section
variable {s:State} {l:List Command} {x:Command} {k:Nat}
end
section
variable {s:State} {l:List Command} {x:Command} {k:Nat} {d:Command}
end
def Vz:bN:=VQ
theorem Ln:ay Tryz.prog (al tyT) Vz:=NF
def Wf:bN:=Vz
theorem dz:ay Tryz.prog (al tyT) Wf:=Ln
def ew (f:Field):Bool:=(decide (1<=f.num) && decide (f.num<=1000)) && (if f.wire=0 then decide (((f.b.length:Nat):Int)=0) else if f.wire=2 then decide ((f.n.n:Int)=0) else false)
def f_ (a f:Field):Bool:=if f.num=a.num then (decide (f.wire=2) && decide (a.wire=2)) else decide (a.num<f.num)
def qb (num wire:Int):Bool:=(decide (1<=num) && decide (num<=1000)) && (decide (wire=0) || decide (wire=2))
def nU (num wire:Int):List UInt8:=if qb num wire then cT ((8*num)+wire).toNat else []
def zo (num wire:Int):Int:=if qb num wire then 0 else 1
def cz (f:Field):List UInt8:=if f.wire=0 then nU f.num f.wire++cT f.n.n else (nU f.num f.wire++cT f.b.length)++f.b
def okP:Option Field->Field->Bool
 | none,_=>true
 | some q,f=>f_ q f
def stepT (p:Option Field) (f:Field):Int:=if ew f=false then 1 else if okP p f=false then 5 else if (16384:Int)<((f.b.length:Nat):Int) then 4 else 0
def eh:Option Field->List Field->Int
 | _,[]=>0
 | p,f :: r=>if stepT p f=0 then eh (some f) r else stepT p f
def ij (l:List Field):Nat:=(l.map fun f=>(cz f).length).sum
def cO (l:List Field):Int:=if eh none l=0 then (if (16384:Int)<((ij l:Nat):Int) then 4 else 0) else eh none l
def mo (l:List Field):List UInt8:=if cO l=0 then (l.map cz).flatten else []
def eY (l:List Field) (k:Nat):Option Field:=if k=0 then none else l[k - 1]?
def xX (l:List Field) (k:Nat) (x:Field):Prop:=(¬ 0<k)\/∃ y,l[k - 1]? = some y/\f_ y x=true
variable {wire num:Int}
theorem OY (h:(num<1\/1000<num)\/(¬ wire=0/\¬ wire=2)):qb num wire=false:=by
 rw [<- Bool.not_eq_true]; unfold qb; simp only [Bool.and_eq_true,Bool.or_eq_true,decide_eq_true_eq]; omega
theorem Gh (h:¬ ((num<1\/1000<num)\/(¬ wire=0/\¬ wire=2))):qb num wire=true:=by
 unfold qb; simp only [Bool.and_eq_true,Bool.or_eq_true,decide_eq_true_eq]; omega
theorem DR (h:(num<1\/1000<num)\/(¬ wire=0/\¬ wire=2)):[]=nU num wire:=by rw [nU,OY h]; rfl
theorem Ri (h:(num<1\/1000<num)\/(¬ wire=0/\¬ wire=2)):1=zo num wire:=by rw [zo,OY h]; rfl
theorem LN (h:¬ ((num<1\/1000<num)\/(¬ wire=0/\¬ wire=2))):cT ((8*num)+wire).toNat=nU num wire:=by rw [nU,Gh h]; rfl
theorem Py (h:¬ ((num<1\/1000<num)\/(¬ wire=0/\¬ wire=2))):0=zo num wire:=by rw [zo,Gh h]; rfl
theorem tg (num wire:Int):(nU num wire).length<=10:=by
 unfold nU;cases h:qb num wire with
 | false=>simp
 | true=>
  unfold qb at h; simp only [Bool.and_eq_true,Bool.or_eq_true,decide_eq_true_eq] at h;exact cV aL
variable {f:Field}
theorem rT (hb:f.b.length<=16384) (hn:f.n.n<18446744073709551616):(cz f).length<=16404:=by
 have h1:=tg f.num f.wire;unfold cz;split
 ·have:=cV hn; rw [List.length_append]; omega
 have:=cV (n:=f.b.length) (by omega); rw [List.length_append,List.length_append]; omega
theorem Us (h:f.wire=0):nU f.num f.wire++cT f.n.n=cz f:=by rw [cz,if_pos h]
theorem Tj (h:¬ f.wire=0):(nU f.num f.wire++cT f.b.length)++f.b=cz f:=by rw [cz,if_neg h]
variable {l:List Field} {x:Field}
theorem Jw (hx:l[k]? = some x):ij (l.take k)+(cz x).length=ij (l.take (k+1)):=by
 unfold ij; rw [ai hx,List.map_append,List.sum_append]; simp
theorem Fb (hp:xX l k x):okP (eY l k) x=true:=by
 unfold eY;rcases hp with h | ⟨y,hy,hr⟩
 ·rw [if_pos (by omega)]; rfl
 by_cases hk:k=0
 ·rw [if_pos hk]; rfl
 rw [if_neg hk,hy]; exact hr
theorem OU (hx:l[k]? = some x):eh (eY l k) (l.drop k)=if stepT (eY l k) x=0 then eh (some x) (l.drop (k+1)) else stepT (eY l k) x:=by
 obtain ⟨hk,he⟩:=aaA.1 hx;rw [aez hk,he]; rfl
variable {e:Int}
theorem Mu (hc:eh none l=eh (eY l k) (l.drop k)) (hx:l[k]? = some x) (he:stepT (eY l k) x=e) (h0:e≠0):e=cO l:=by
 have h1:eh none l=e:=by rw [hc,OU hx,he,if_neg h0]
 rw [cO,h1,if_neg h0]
theorem aak (hc:eh none l=eh (eY l k) (l.drop k)) (hx:l[k]? = some x) (ha:ew x=false):1=cO l:=Mu hc hx (by rw [stepT,if_pos ha]) (by decide)
theorem YI {y:Field} (hc:eh none l=eh (eY l k) (l.drop k)) (hx:l[k]? = some x) (ha:ew x=true) (h0:0<k) (hy:l[k - 1]? = some y) (hr:f_ y x=false):5=cO l:=
 Mu hc hx (by rw [stepT,if_neg (by rw [ha]; decide),if_pos]; unfold eY; rw [if_neg (by omega),hy]; exact hr) (by decide)
theorem ZS (hc:eh none l=eh (eY l k) (l.drop k)) (hx:l[k]? = some x) (ha:ew x=true) (hp:xX l k x) (hb:(16384:Int)<((x.b.length:Nat):Int)):4=cO l:=
 Mu hc hx (by rw [stepT,if_neg (by rw [ha]; decide),if_neg (by rw [Fb hp]; decide),if_pos hb]) (by decide)
theorem Jv (hc:eh none l=eh (eY l k) (l.drop k)) (hx:l[k]? = some x) (ha:ew x=true) (hp:xX l k x) (hb:¬ (16384:Int)<((x.b.length:Nat):Int)):eh none l=eh (eY l (k+1)) (l.drop (k+1)):=by
 rw [hc,OU hx,if_pos (by rw [stepT,if_neg (by rw [ha]; decide),if_neg (by rw [Fb hp]; decide),if_neg hb])];unfold eY; rw [if_neg (by omega),Nat.add_sub_cancel,hx]
theorem Fo (hc:eh none l=eh (eY l k) (l.drop k)) (hk:l.length<=k):eh none l=0:=by
 rw [hc,aeK hk]; rfl
theorem Pg (hc:eh none l=eh (eY l k) (l.drop k)) (hk:l.length<=k) (hs:(16384:Int)<((ij (l.take k):Nat):Int)):4=cO l:=by
 rw [List.take_of_length_le hk] at hs; rw [cO,if_pos (Fo hc hk),if_pos hs]
theorem LZ (hc:eh none l=eh (eY l k) (l.drop k)) (hk:l.length<=k) (hs:¬ (16384:Int)<((ij (l.take k):Nat):Int)):0=cO l:=by
 rw [List.take_of_length_le hk] at hs; rw [cO,if_pos (Fo hc hk),if_neg hs]
theorem Qv (h:cO l=0):ij l<=16384:=by
 unfold cO at h;split at h
 ·split at h
  ·cases h
  omega
 rename_i h0; exact absurd h h0
theorem UG (h:cO l=0):eh none l=0:=by
 unfold cO at h;split at h
 ·assumption
 exact h
theorem Gd:∀ {l:List Field} {p:Option Field},eh p l=0->∀ x ∈ l,x.b.length<=16384
 | [],_,_,x,hx=>by cases hx
 | f :: r,p,h,x,hx=>by
  unfold eh at h;split at h
  ·rename_i hs;rcases aa8.1 hx with rfl | hx
   ·unfold stepT at hs;split at hs
    ·cases hs
    split at hs
    ·cases hs
    split at hs
    ·cases hs
    omega
   exact Gd h x hx
  rename_i hs; exact absurd h hs
theorem xb (h:cO l=0) (hx:x ∈ l):x.b.length<=16384:=Gd (UG h) x hx
theorem GX (hx:l[k]? = some x):((l.take k).map cz).flatten++cz x=((l.take (k+1)).map cz).flatten:=by
 rw [ai hx,List.map_append,List.flatten_append]; simp
theorem LF (l:List Field):((l.map cz).flatten).length=ij l:=by
 unfold ij; rw [List.length_flatten,List.map_map]; rfl
theorem NI:ij (l.take k)<=ij l:=by
 have:ij l=ij (l.take k)+ij (l.drop k):=by unfold ij; rw [<- List.sum_append,<- List.map_append,List.take_append_drop]
 omega
theorem MY (h:cO l=0):((l.take k).map cz).flatten.length<=16384:=by
 have:=Qv h; have:=NI (l:=l) (k:=k); rw [LF]; omega
theorem RX (h:cO l=0) (hk:l.length<=k):((l.take k).map cz).flatten=mo l:=by rw [mo,if_pos h,List.take_of_length_le hk]
theorem Yz (h:¬ cO l=0):[]=mo l:=by rw [mo,if_neg h]
theorem KN (h:f.num<1\/1000<f.num):false=ew f:=by
 have:(decide (1<=f.num) && decide (f.num<=1000))=false:=by rw [<- Bool.not_eq_true]; simp only [Bool.and_eq_true,decide_eq_true_eq]; omega
 unfold ew; rw [this]; rfl
theorem LB (h:¬ (f.num<1\/1000<f.num)):ew f=(if f.wire=0 then decide (((f.b.length:Nat):Int)=0) else if f.wire=2 then decide ((f.n.n:Int)=0) else false):=by
 have:(decide (1<=f.num) && decide (f.num<=1000))=true:=by simp only [Bool.and_eq_true,decide_eq_true_eq]; omega
 unfold ew; rw [this]; rfl
def bM:List Spec:=([⟨1,0,1,true,false⟩,⟨2,0,1,false,false⟩,⟨3,0,1,false,false⟩,⟨4,0,1,false,false⟩,⟨5,0,1,false,false⟩,⟨6,0,1,false,false⟩,⟨7,2,1,false,false⟩,⟨8,2,3,false,false⟩]:List Spec)
def aS (v:Int):List Spec:=if v<1\/3<v then [] else bM.filter fun s=>decide (s.since<=v)
def cS (v:Int):Int:=(aS v).foldl (fun t s=>max t s.num) 0
variable {x:Spec}
theorem NO {v:Int} (hx:bM[k]? = some x) (h:x.since<=v):(bM.take k).filter (fun s=>decide (s.since<=v))++[x]=(bM.take (k+1)).filter (fun s=>decide (s.since<=v)):=by
 rw [ai hx,List.filter_append]; simp [h]
theorem QK {v:Int} (hx:bM[k]? = some x) (h:¬ x.since<=v):(bM.take k).filter (fun s=>decide (s.since<=v))=(bM.take (k+1)).filter (fun s=>decide (s.since<=v)):=by
 rw [ai hx,List.filter_append]; simp [h]
theorem HT {v:Int} (h:v<1\/3<v):[]=aS v:=by rw [aS,if_pos h]
theorem NW {v:Int} (h:¬ (v<1\/3<v)) (hk:bM.length<=k):(bM.take k).filter (fun s=>decide (s.since<=v))=aS v:=by rw [aS,if_neg h,List.take_of_length_le hk]
theorem MM {v:Int}:((bM.take k).filter (fun s=>decide (s.since<=v))).length<=8:=by
 have h1:=List.length_filter_le (fun s:Spec=>decide (s.since<=v)) (bM.take k);have h2:(bM.take k).length<=8:=by rw [List.length_take]; exact Nat.le_trans (Nat.min_le_right _ _) (by decide)
 omega
theorem Kb {v:Int} (hx:(aS v)[k]? = some x):max (((aS v).take k).foldl (fun t s=>max t s.num) 0) x.num=((aS v).take (k+1)).foldl (fun t s=>max t s.num) 0:=by
 rw [ai hx,List.foldl_append]; rfl
def pY (num n:Int):List Field:=if n=0 then [] else [⟨num,0,⟨n.toNat⟩,[]⟩]
def BX (num:Int) (b:List UInt8):List Field:=if 0<((b.length:Nat):Int) then [⟨num,2,⟨0⟩,b⟩] else []
def xu (c:Command):List Field:=(((((([]++pY 1 c.kind)++pY 2 c.client)++pY 3 c.seq)++pY 4 c.set)++pY 5 c.id)++pY 6 c.n)++BX 7 (eI c.chunks)
def dP (c:Command) (v:Int):List Field:=if 3<=v then xu c++BX 8 c.text.b else xu c
theorem gF (num n:Int):(pY num n).length<=1:=by unfold pY; split <;> simp
theorem Ck (num:Int) (b:List UInt8):(BX num b).length<=1:=by unfold BX; split <;> simp
variable {xs:List Field}
theorem zt (h:¬ n=0):xs++[⟨num,0,⟨n.toNat⟩,[]⟩]=xs++pY num n:=by rw [pY,if_neg h]
theorem A_ (h:n=0):xs=xs++pY num n:=by rw [pY,if_pos h,acq]
variable {b:List UInt8}
theorem yy (h:0<((b.length:Nat):Int)):xs++[⟨num,2,⟨0⟩,b⟩]=xs++BX num b:=by rw [BX,if_pos h]
theorem zE (h:¬ 0<((b.length:Nat):Int)):xs=xs++BX num b:=by rw [BX,if_neg h,acq]
theorem Cu (c:Command) (v:Int):(dP c v).length<=8:=by
 have h1:=gF 1 c.kind; have h2:=gF 2 c.client; have h3:=gF 3 c.seq; have h4:=gF 4 c.set; have h5:=gF 5 c.id; have h6:=gF 6 c.n;have h7:=Ck 7 (eI c.chunks); have h8:=Ck 8 c.text.b;unfold dP xu;split <;> simp only [List.length_append,List.length_nil] <;> omega
def dO (c:Command) (rest:List Field) (v:Int):Int:=if !(cj v 1 3) then 1 else if (gq c v=false/\¬ bF c v=0) then bF c v else if rest.any (fun f=>decide (f.num<=cS v)) then 6 else 0
def fx (c:Command) (rest:List Field) (v:Int):Int:=if dO c rest v=0 then cO (dP c v++rest) else dO c rest v
def gp (c:Command) (rest:List Field) (v:Int):List UInt8:=if dO c rest v=0 then mo (dP c v++rest) else []
theorem BZ {k:Int} (h:¬ cr k=0):1<=k/\k<=12:=Decidable.byContradiction fun h2=>h (R_ h2)
theorem ZL {c:Command} {v:Int} (h:gq c v=true):0<=c.kind/\0<=c.client/\0<=c.seq/\0<=c.set/\0<=c.id/\0<=c.n:=by
 unfold gq uU cj at h;simp only [Bool.and_eq_true,decide_eq_true_eq] at h;omega
theorem wZ {m:Int} {b:Bool} (h:nI n m b=true):0<=n:=by
 unfold nI at h; cases b <;> simp at h <;> omega
theorem TR {k:Int} (h:1<=k/\k<=12):0<=(wm k).1:=by
 have:k=1\/k=2\/k=3\/k=4\/k=5\/k=6\/k=7\/k=8\/k=9\/k=10\/k=11\/k=12:=by omega
 rcases this with rfl | rfl | rfl | rfl | rfl | rfl | rfl | rfl | rfl | rfl | rfl | rfl <;> decide
theorem NV {c:Command} {v:Int} (h:bF c v=0):(1<=v/\v<=3)/\¬ cr c.kind=0/\cr c.kind<=v/\mn c=true:=by
 unfold bF at h;split at h
 ·cases h
 rename_i h1;rw [Bool.or_eq_true,not_or] at h1;simp only [aeu,Bool.not_eq_false,decide_eq_true_eq] at h1;split at h
 ·cases h
 split at h
 ·cases h
 rename_i h2 h3;exact ⟨Ji h1.1,h1.2,by omega,by simpa using h3⟩
theorem XW {c:Command} {v:Int} (h:bF c v=0):0<=c.kind/\0<=c.client/\0<=c.seq/\0<=c.set/\0<=c.id/\0<=c.n:=by
 obtain ⟨_,hn,_,hf⟩:=NV h;have hr:=BZ hn;have hs:=TR hr;unfold mn at hf;simp only [Bool.and_eq_true,decide_eq_true_eq] at hf;obtain ⟨⟨⟨⟨⟨⟨⟨h1,h2⟩,_⟩,_⟩,h3⟩,h4⟩,h5⟩,h6⟩:=hf;exact ⟨by omega,wZ h3,wZ h4,wZ h5,wZ h6,by omega⟩
variable {rest:List Field}
theorem aeL {c:Command} {v:Int} (h:(!(cj v 1 3))=true):dO c rest v=1:=by rw [dO,if_pos h]
theorem ahZ {c:Command} {v:Int} (h:(!(cj v 1 3))=false) (h1:gq c v=false) (h2:¬ bF c v=0):dO c rest v=bF c v:=by rw [dO,h,if_neg (by decide),if_pos ⟨h1,h2⟩]
theorem ah5 {c:Command} {v:Int} {x:Field} (h:(!(cj v 1 3))=false) (h1:gq c v=true\/bF c v=0) (hx:rest[k]? = some x) (hn:x.num<=cS v):dO c rest v=6:=by
 have:(rest.any fun f=>decide (f.num<=cS v))=true:=List.any_eq_true.2 ⟨x,abl hx,decide_eq_true hn⟩;rw [dO,h,if_neg (by decide),if_neg (fun hh=>by rcases h1 with h1 | h1; rw [h1] at hh; cases hh.1; exact hh.2 h1),if_pos this]
theorem ahI {c:Command} {v:Int} (h:(!(cj v 1 3))=false) (h1:gq c v=true\/bF c v=0) (hall:∀ j y,j<k->rest[j]? = some y->¬ y.num<=cS v) (hk:rest.length<=k):dO c rest v=0:=by
 have:(rest.any fun f=>decide (f.num<=cS v))=false:=by
  rw [List.any_eq_false];intro y hy;obtain ⟨j,hj,rfl⟩:=List.getElem_of_mem hy;have:=hall j _ (by omega) (List.getElem?_eq_getElem hj);simpa using this
 rw [dO,h,if_neg (by decide),if_neg (fun hh=>by rcases h1 with h1 | h1; rw [h1] at hh; cases hh.1; exact hh.2 h1),this,if_neg (by decide)]
theorem Cm {c:Command} {v:Int} (h:dO c rest v=e) (h0:¬ e=0):e=fx c rest v:=by rw [fx,h,if_neg h0]
theorem Cs {c:Command} {v:Int} (h:dO c rest v=e) (h0:¬ e=0):[]=gp c rest v:=by rw [gp,h,if_neg h0]
theorem acs {c:Command} {v:Int} (h:dO c rest v=0):cO (dP c v++rest)=fx c rest v:=by rw [fx,if_pos h]
theorem acn {c:Command} {v:Int} (h:dO c rest v=0):mo (dP c v++rest)=gp c rest v:=by rw [gp,if_pos h]
theorem Iz {z:Field} (h:∀ j y,j<k->rest[j]? = some y->¬ y.num<=t) (hz:rest[k]? = some z) (hn:¬ z.num<=t):∀ j y,j<k+1->rest[j]? = some y->¬ y.num<=t:=by
 intro j y hj hy;by_cases hjk:j=k
 ·subst hjk; rw [hz] at hy; cases hy; exact hn
 exact h j y aL hy
theorem wV (n:Nat):cT n=((List.range (ba n)).map (mS n)).set (ba n - 1) (mS n (ba n - 1) &&& 127):=by unfold cT fu; simp
theorem KQ:∀ m:Fin 128,(UInt8.ofNat m.val ||| 128) &&& 127=UInt8.ofNat m.val:=by decide
theorem XH:∀ m:Fin 256,(UInt8.ofNat m.val ||| 128).toNat=m.val % 128+128:=by decide +kernel
variable {n:Nat}
theorem CW (h:n<128):cT n=[UInt8.ofNat n]:=by
 rw [wV,j_ h];have:=KQ ⟨n,h⟩;simp only [mS,Nat.pow_zero,Nat.div_one,List.range_one,aeJ,List.map_nil,Nat.sub_self,List.set_cons_zero] at *;rw [this]
theorem aed (n:Nat):(mS n 0).toNat=n % 128+128:=by
 have e:UInt8.ofNat n=UInt8.ofNat (n % 256):=UInt8.toNat_inj.1 (by simp [UInt8.toNat_ofNat']);have:=XH ⟨n % 256,Nat.mod_lt _ (by decide)⟩;simp only [mS,Nat.pow_zero,Nat.div_one];rw [e,this]; simp only; omega
theorem Kq (h:¬ n<128):cT n=mS n 0 :: cT (n / 128):=by
 have e:∀ i,mS n (i+1)=mS (n / 128) i:=fun i=>by unfold mS; rw [Nat.pow_succ,Nat.mul_comm,<- Nat.div_div_eq_div_mul]
 have hp:=jn (n / 128);obtain ⟨s,hs⟩:∃ s,ba (n / 128)=s+1:=⟨ba (n / 128) - 1,by omega⟩;rw [wV,wV (n / 128),mU h,hs];simp only [Nat.add_sub_cancel];rw [List.range_succ_eq_map,aeJ,List.map_map,List.set_cons_succ,e s,show mS n ∘ Nat.succ=mS (n / 128) from funext e]
def bS:Nat->Nat->List UInt8->Nat × Nat × Int
 | k,_,[]=>if 10<=k then (0,0,3) else (0,0,2)
 | k,n,x :: r=>if 10<=k then (0,0,3) else if (0<k/\x.toNat=0)\/(k=9/\1<x.toNat) then (0,0,3) else if x.toNat<128 then (n+(x &&& 127).toNat*2 ^ (7*k),k+1,0) else bS (k+1) (n+(x &&& 127).toNat*2 ^ (7*k)) r
termination_by _ _ l=>l.length
def aj (b:List UInt8):Nat × Nat × Int:=bS 0 0 b
theorem pd (x:UInt8):(x &&& 127).toNat=x.toNat % 128:=by rw [UInt8.toNat_and]; exact Nat.and_two_pow_sub_one_eq_mod x.toNat 7
variable {x:UInt8}
theorem Zo (hk:k<=9) (h:k=9->x.toNat<=1):(x &&& 127).toNat*2 ^ (7*k)<18446744073709551616:=by
 rw [pd];by_cases h9:k=9
 ·have:=h h9;subst h9;have:x.toNat % 128*2 ^ (7*9)<=1*2 ^ (7*9):=aes _ (by omega);exact aeH this (by decide)
 have h1:2 ^ (7*k)<=2 ^ 56:=Nat.pow_le_pow_right (by decide) (by omega);have:x.toNat % 128*2 ^ (7*k)<=127*2 ^ 56:=Nat.mul_le_mul (by omega) h1;exact aeH this (by decide)
variable {m:Nat}
theorem Zt (h:n<2 ^ (7*k)):n ||| m*2 ^ (7*k)=n+m*2 ^ (7*k):=by
 have:=Nat.two_pow_add_eq_or_of_lt h m;rw [Nat.or_comm,Nat.mul_comm m,<- this,Nat.add_comm]
theorem Q_ (h:n<2 ^ (7*k)):n+(x &&& 127).toNat*2 ^ (7*k)<2 ^ (7*(k+1)):=by
 rw [pd];have e:2 ^ (7*(k+1))=128*2 ^ (7*k):=by rw [show 7*(k+1)=7*k+7 by omega,Nat.pow_add,Nat.mul_comm]
 have:x.toNat % 128*2 ^ (7*k)<=127*2 ^ (7*k):=aes _ (by omega);rw [e]; omega
theorem Zm (hk:k<10) (hb:b.length<=k):bS k n (b.drop k)=(0,0,2):=by
 rw [aeK hb,bS,if_neg (by omega)]
theorem Yx (hk:10<=k):bS k n (b.drop k)=(0,0,3):=by
 cases h:b.drop k with
 | nil=>rw [bS,if_pos hk]
 | cons x r=>rw [bS,if_pos hk]
theorem Kd (hk:k<10) (hx:b[k]? = some x):bS k n (b.drop k)=if (0<k/\x.toNat=0)\/(k=9/\1<x.toNat) then (0,0,3) else if x.toNat<128 then (n+(x &&& 127).toNat*2 ^ (7*k),k+1,0) else bS (k+1) (n+(x &&& 127).toNat*2 ^ (7*k)) (b.drop (k+1)):=by
 obtain ⟨hkl,he⟩:=aaA.1 hx;rw [aez hkl,he,bS,if_neg (by omega)]
theorem RL (h:aj b=bS k n (b.drop k)) (hk:k<10) (hx:b[k]? = some x) (h1:¬ (0<k/\x.toNat=0)) (h2:¬ (k=9/\1<x.toNat)) (h3:¬ x.toNat<128):aj b=bS (k+1) (n+(x &&& 127).toNat*2 ^ (7*k)) (b.drop (k+1)):=by
 rw [h,Kd hk hx,if_neg (fun h=>h.elim h1 h2),if_neg h3]
theorem nk:∀ {l:List UInt8} {k n:Nat},k<=10->(bS k n l).2.1<=11/\(bS k n l).2.1<=k+l.length
 | [],k,n,h=>by rw [bS]; split <;> simp
 | x :: r,k,n,h=>by
  rw [bS];split
  ·simp
  split
  ·simp
  split
  ·simp; omega
  have:=nk (l:=r) (k:=k+1) (n:=n+(x &&& 127).toNat*2 ^ (7*k)) (by omega);simp only [List.length_cons]; omega
theorem Jm (h:aj b=bS k n (b.drop k)) (hk:k<10) (hx:b[k]? = some x) (h1:(0<k/\x.toNat=0)\/(k=9/\1<x.toNat)):aj b=(0,0,3):=by rw [h,Kd hk hx,if_pos h1]
theorem Uf (h:aj b=bS k n (b.drop k)) (hk:k<10) (hx:b[k]? = some x) (h1:¬ (0<k/\x.toNat=0)) (h2:¬ (k=9/\1<x.toNat)) (h3:x.toNat<128):aj b=(n+(x &&& 127).toNat*2 ^ (7*k),k+1,0):=by
 rw [h,Kd hk hx,if_neg (fun h=>h.elim h1 h2),if_pos h3]
theorem JY:∀ {l:List UInt8} {k n:Nat},1<=k->(bS k n l).2.2=0->2 ^ (7*k)<=(bS k n l).1
 | [],k,n,_,h=>by rw [bS] at h; split at h <;> cases h
 | x :: r,k,n,hk,h=>by
  rw [bS] at h ⊢;split
  ·rename_i h1; rw [if_pos h1] at h; cases h
  rename_i h1;rw [if_neg h1] at h;split
  ·rename_i h2; rw [if_pos h2] at h; cases h
  rename_i h2;rw [if_neg h2] at h;split
  ·rename_i h3;rw [pd];have:1<=x.toNat % 128:=by
    have:¬ x.toNat=0:=fun e=>h2 (.inl ⟨by omega,e⟩);omega
   have:=aes (2 ^ (7*k)) this;show 2 ^ (7*k)<=n+x.toNat % 128*2 ^ (7*k);omega
  rename_i h3;rw [if_neg h3] at h;exact Nat.le_trans (Nat.pow_le_pow_right (by decide) aL) (JY aL h)
theorem FK (x:UInt8) (r:List UInt8):aj (x :: r)=if x.toNat<128 then (x.toNat,1,0) else bS 1 (x.toNat % 128) r:=by
 unfold aj;rw [bS,if_neg (by decide),if_neg (by omega),pd];split
 ·rename_i h; rw [Nat.mod_eq_of_lt h]; simp
 simp
theorem BR (hk:k<b.length):(b.drop k).take (b.length - k)=b[k] :: b.drop (k+1):=by
 rw [List.take_of_length_le (by simp),aez hk]
theorem tk1 (hk:k<b.length) (he:(aj ((b.drop k).take (b.length - k))).2.2=0) (hn:¬ (64:Int)<(((aj ((b.drop k).take (b.length - k))).1:Nat):Int)) :
  ∃ x,b[k]? = some x/\aj ((b.drop k).take (b.length - k))=(x.toNat,1,0)/\x.toNat<=64:=by
 rw [BR hk,FK] at *;by_cases h:b[k].toNat<128
 ·rw [if_pos h] at *; exact ⟨_,List.getElem?_eq_getElem hk,rfl,by simp only at hn; omega⟩
 rw [if_neg h] at *;have:=JY (Nat.le_refl 1) he;omega
theorem tk2 (hk:k<b.length) (h:(¬ (aj ((b.drop k).take (b.length - k))).2.2=0)\/(64:Int)<(((aj ((b.drop k).take (b.length - k))).1:Nat):Int)):∃ x,b[k]? = some x/\64<x.toNat:=by
 refine ⟨b[k],List.getElem?_eq_getElem hk,?_⟩;rw [BR hk,FK] at h;by_cases h1:b[k].toNat<128
 ·rw [if_pos h1] at h; simp only [not_true_eq_false,false_or] at h; omega
 omega
def cH (b:List UInt8):List Int:=b.map fun x=>(x.toNat:Int)
def ld (b:List UInt8):List Int:=if cA (cH b) then cH b else []
def qm (b:List UInt8):Int:=if cA (cH b) then 0 else 6
theorem RK {p:Nat × Nat × Int} (hx:b[k]? = some x) (hp:p=(x.toNat,1,0)):cH (b.take k)++[((p.1:Nat):Int)]=cH (b.take (k+1)):=by
 subst hp; unfold cH; rw [ai hx,List.map_append]; rfl
theorem aab (hk:k<b.length) (h:(¬ (aj ((b.drop k).take (b.length - k))).2.2=0)\/(64:Int)<(((aj ((b.drop k).take (b.length - k))).1:Nat):Int)):cA (cH b)=false:=by
 obtain ⟨x,hx,h64⟩:=tk2 hk h;rw [<- Bool.not_eq_true];intro hr;have:=(xd hr (x.toNat:Int) (List.mem_map.2 ⟨x,abl hx,rfl⟩)).2;omega
theorem Dt (hk:b.length<=k):cH (b.take k)=cH b:=by rw [List.take_of_length_le hk]
theorem xK (h:cA (cH b)=false):[]=ld b:=by rw [ld,h]; rfl
theorem Pr (h:cA (cH b)=false):6=qm b:=by rw [qm,h]; rfl
theorem Tn (hk:b.length<=k) (h:cA (cH (b.take k))=true):cH (b.take k)=ld b:=by rw [Dt hk] at *; rw [ld,h]; rfl
theorem Qo (hk:b.length<=k) (h:cA (cH (b.take k))=true):0=qm b:=by rw [Dt hk] at *; rw [qm,h]; rfl
theorem Ca (hk:b.length<=k) (h:cA (cH (b.take k))=false):cA (cH b)=false:=by rw [Dt hk] at h; exact h
structure TagR where
 num:Int
 wire:Int
 k:Nat
 e:Int
def CY (n:Nat):Bool:=decide ((n / 8<1\/1000<n / 8)\/(¬ n % 8=0/\¬ n % 8=2))
def aR (b:List UInt8):TagR:=if (aj b).2.2=0 then (if CY (aj b).1=true then ⟨0,0,0,6⟩ else ⟨(((aj b).1 / 8:Nat):Int),(((aj b).1 % 8:Nat):Int),(aj b).2.1,0⟩) else ⟨0,0,0,(aj b).2.2⟩
theorem JW (h:¬ (aj b).2.2=0):aR b=⟨0,0,0,(aj b).2.2⟩:=by rw [aR,if_neg h]
theorem Ns (h:(aj b).2.2=0) (h2:((aj b).1 / 8<1\/1000<(aj b).1 / 8)\/(¬ (aj b).1 % 8=0/\¬ (aj b).1 % 8=2)):aR b=⟨0,0,0,6⟩:=by rw [aR,if_pos h,if_pos (show CY _=true from decide_eq_true h2)]
theorem OL (h:(aj b).2.2=0) (h2:¬ (((aj b).1 / 8<1\/1000<(aj b).1 / 8)\/(¬ (aj b).1 % 8=0/\¬ (aj b).1 % 8=2))):aR b=⟨(((aj b).1 / 8:Nat):Int),(((aj b).1 % 8:Nat):Int),(aj b).2.1,0⟩:=by
 rw [aR,if_pos h,if_neg (by unfold CY; simpa using h2)]
theorem qR (b:List UInt8):((aR b).k<=11/\(aR b).k<=b.length)/\(0<=(aR b).num/\(aR b).num<=1000)/\(0<=(aR b).wire/\(aR b).wire<=2):=by
 have hs:(aj b).2.1<=11/\(aj b).2.1<=0+b.length:=nk (l:=b) (k:=0) (n:=0) (by omega);by_cases h:(aj b).2.2=0
 ·by_cases h2:((aj b).1 / 8<1\/1000<(aj b).1 / 8)\/(¬ (aj b).1 % 8=0/\¬ (aj b).1 % 8=2)
  ·rw [Ns h h2]; simp
  rw [OL h h2]; dsimp only; omega
 rw [JW h]; simp
theorem PN:∀ {l:List UInt8} {k n:Nat},(bS k n l).2.2=0->1<=(bS k n l).2.1
 | [],k,n,h=>by rw [bS] at h; split at h <;> cases h
 | x :: r,k,n,h=>by
  rw [bS] at h ⊢;split
  ·rename_i h1; rw [if_pos h1] at h; cases h
  rename_i h1;rw [if_neg h1] at h;split
  ·rename_i h2; rw [if_pos h2] at h; cases h
  rename_i h2;rw [if_neg h2] at h;split
  ·simp
  rename_i h3; rw [if_neg h3] at h; exact PN h
def bf (b:List UInt8):Nat × Int:=
  if (aR b).e=0 then
    (if (aj (b.drop (aR b).k)).2.2=0 then
      (if (aR b).wire=0 then ((aR b).k+(aj (b.drop (aR b).k)).2.1,0)
       else if 16384<(aj (b.drop (aR b).k)).1 then (0,4)
       else if ((b.length:Nat):Int) - (((aR b).k+(aj (b.drop (aR b).k)).2.1:Nat):Int)<(((aj (b.drop (aR b).k)).1:Nat):Int) then (0,2)
       else ((aR b).k+(aj (b.drop (aR b).k)).2.1+(aj (b.drop (aR b).k)).1,0))
     else (0,(aj (b.drop (aR b).k)).2.2))
  else (0,(aR b).e)
theorem aip (h:¬ (aR b).e=0):bf b=(0,(aR b).e):=by rw [bf,if_neg h]
theorem aeP (h:(aR b).e=0) (h2:¬ (aj (b.drop (aR b).k)).2.2=0):bf b=(0,(aj (b.drop (aR b).k)).2.2):=by rw [bf,if_pos h,if_neg h2]
theorem agH (h:(aR b).e=0) (h2:(aj (b.drop (aR b).k)).2.2=0) (h3:(aR b).wire=0):bf b=((aR b).k+(aj (b.drop (aR b).k)).2.1,0):=by rw [bf,if_pos h,if_pos h2,if_pos h3]
theorem agC (h:(aR b).e=0) (h2:(aj (b.drop (aR b).k)).2.2=0) (h3:¬ (aR b).wire=0) (h4:16384<(aj (b.drop (aR b).k)).1):bf b=(0,4):=by rw [bf,if_pos h,if_pos h2,if_neg h3,if_pos h4]
theorem agy (h:(aR b).e=0) (h2:(aj (b.drop (aR b).k)).2.2=0) (h3:¬ (aR b).wire=0) (h4:¬ 16384<(aj (b.drop (aR b).k)).1) (h5:((b.length:Nat):Int) - (((aR b).k+(aj (b.drop (aR b).k)).2.1:Nat):Int)<(((aj (b.drop (aR b).k)).1:Nat):Int)):bf b=(0,2):=by rw [bf,if_pos h,if_pos h2,if_neg h3,if_neg h4,if_pos h5]
theorem agT (h:(aR b).e=0) (h2:(aj (b.drop (aR b).k)).2.2=0) (h3:¬ (aR b).wire=0) (h4:¬ 16384<(aj (b.drop (aR b).k)).1) (h5:¬ ((b.length:Nat):Int) - (((aR b).k+(aj (b.drop (aR b).k)).2.1:Nat):Int)<(((aj (b.drop (aR b).k)).1:Nat):Int)):bf b=((aR b).k+(aj (b.drop (aR b).k)).2.1+(aj (b.drop (aR b).k)).1,0):=by rw [bf,if_pos h,if_pos h2,if_neg h3,if_neg h4,if_neg h5]
theorem oy (b:List UInt8) (k:Nat):(aj (b.drop k)).2.1<=11/\(aj (b.drop k)).2.1+k<=max b.length k:=by
 have:=nk (l:=b.drop k) (k:=0) (n:=0) (by omega);unfold aj;rw [List.length_drop] at this;omega
theorem yH (b:List UInt8):(bf b).1<=b.length:=by
 have h1:=qR b; have h2:=oy b (aR b).k;unfold bf;split
 ·split
  ·split
   ·dsimp only; omega
   split
   ·simp
   split
   ·simp
   dsimp only; omega
  simp
 simp
theorem nz (h:(bf b).2=0):1<=(bf b).1:=by
 unfold bf at h ⊢;split
 ·rename_i h0;rw [if_pos h0] at h;split
  ·rename_i h1;rw [if_pos h1] at h;have:=PN (l:=b.drop (aR b).k) (k:=0) (n:=0) h1;split
   ·dsimp only; unfold aj; omega
   rename_i h2;rw [if_neg h2] at h;split
   ·rename_i h3; rw [if_pos h3] at h; cases h
   rename_i h3;rw [if_neg h3] at h;split
   ·rename_i h4; rw [if_pos h4] at h; cases h
   dsimp only; unfold aj; omega
  rename_i h1; rw [if_neg h1] at h; exact absurd h h1
 rename_i h0; rw [if_neg h0] at h; exact absurd h h0
def im (b:List UInt8):Field:=if (aR b).wire=0 then ⟨(aR b).num,(aR b).wire,⟨(aj (b.drop (aR b).k)).1⟩,[]⟩ else ⟨(aR b).num,(aR b).wire,⟨0⟩,b.drop ((aR b).k+(aj (b.drop (aR b).k)).2.1)⟩
theorem GJ (h:(aR b).wire=0):(⟨(aR b).num,(aR b).wire,⟨(aj (b.drop (aR b).k)).1⟩,[]⟩:Field)=im b:=by rw [im,if_pos h]
theorem FF (h:¬ (aR b).wire=0):(⟨(aR b).num,(aR b).wire,⟨0⟩,b.drop ((aR b).k+(aj (b.drop (aR b).k)).2.1)⟩:Field)=im b:=by rw [im,if_neg h]
def gf (acc:List Field) (x:Field):Bool:=match acc[acc.length - 1]? with | none=>true | some y=>f_ y x
def Bl:Nat->List Field->List UInt8->List Field × Int
 | 0,acc,_=>(acc,0)
 | f+1,acc,b=>if b.length=0 then (acc,0) else if (bf b).2=0 then (if gf acc (im (b.take (bf b).1))=true then Bl f (acc++[im (b.take (bf b).1)]) (b.drop (bf b).1) else ([],5)) else ([],(bf b).2)
def bD (b:List UInt8):List Field × Int:=if 16384<b.length then ([],4) else Bl b.length [] b
def jv (b:List UInt8) (i:Nat) (acc:List Field):Prop:=∃ f,b.length - i<=f/\bD b=Bl f acc (b.drop i)
theorem WY (h:16384<b.length):bD b=([],4):=by rw [bD,if_pos h]
theorem KZ (h:¬ 16384<b.length):jv b 0 []:=⟨b.length,by omega,by rw [bD,if_neg h]; rfl⟩
variable {acc:List Field}
theorem Ol (h:jv b i acc) (hi:i<b.length):∃ f,b.length - i<=f+1/\bD b=if (bf (b.drop i)).2=0 then (if gf acc (im ((b.drop i).take (bf (b.drop i)).1))=true then Bl f (acc++[im ((b.drop i).take (bf (b.drop i)).1)]) ((b.drop i).drop (bf (b.drop i)).1) else ([],5)) else ([],(bf (b.drop i)).2):=by
 obtain ⟨f,hf,e⟩:=h;cases f with
 | zero=>omega
 | succ f=>exact ⟨f,hf,by rw [e,Bl,if_neg (by rw [List.length_drop]; omega)]⟩
theorem SS (h:jv b i acc) (hi:i<b.length) (hs:¬ (bf (b.drop i)).2=0):bD b=([],(bf (b.drop i)).2):=by
 obtain ⟨f,_,e⟩:=Ol h hi; rw [e,if_neg hs]
theorem ZK (h:jv b i acc) (hi:b.length<=i):bD b=(acc,0):=by
 obtain ⟨f,_,e⟩:=h;rw [e,aeK hi];cases f <;> rfl
theorem zj:∀ {f:Nat} {acc:List Field} {b:List UInt8},(Bl f acc b).1.length<=acc.length+b.length
 | 0,acc,b=>by simp [Bl]
 | f+1,acc,b=>by
  unfold Bl;split
  ·simp
  split
  ·rename_i h0 h1;split
   ·have:=zj (f:=f) (acc:=acc++[im (b.take (bf b).1)]) (b:=b.drop (bf b).1);have h2:=nz h1;rw [List.length_append,List.length_drop] at this;simp only [List.length_cons,List.length_nil] at this;omega
   simp
  simp
theorem Se (b:List UInt8):(bD b).1.length<=16384:=by
 unfold bD;split
 ·simp
 have:=zj (f:=b.length) (acc:=[]) (b:=b);simp only [List.length_nil] at this;omega
def Nk (x:Field) (s:Spec) (n:Int):Bool:=if ¬ x.wire=s.wire\/(1<n/\s.many=false) then false else if x.wire=0 then !decide ((x.n.n:Int)=0) else decide (0<((x.b.length:Nat):Int))
def iI (l:List Field) (q:Int):Nat:=l.countP fun x=>decide (x.num=q)
theorem Rv (q:Int):iI (l.take k) q<=k:=Nat.le_trans List.countP_le_length (by rw [List.length_take]; exact Nat.min_le_left _ _)
variable {x:Field}
theorem LQ (hx:l[k]? = some x) (q:Int):iI (l.take (k+1)) q=if q=x.num then iI (l.take k) x.num+1 else iI (l.take k) q:=by
 unfold iI;rw [ai hx,List.countP_append];by_cases h:q=x.num
 ·subst h; simp
 have:¬ x.num=q:=fun e=>h e.symm;simp [h,this]
def t_ (l:List Field) (ss:List Spec) (k:Nat):Prop:=∀ j x,j<k->l[j]? = some x->∀ s ∈ ss,s.num=x.num->Nk x s ((iI (l.take (j+1)) x.num:Nat):Int)=true
def Jj (l:List Field) (ss:List Spec) (m:Nat):Prop:=∀ j y,j<m->ss[j]? = some y->y.need=true->¬ iI l y.num=0
def Ma (ss:List Spec) (x:Field) (n:Int) (m:Nat):Prop:=∀ j y,j<m->ss[j]? = some y->y.num=x.num->Nk x y n=true
variable {ss:List Spec} {n:Int}
theorem abf:Ma ss x n 0:=fun j y h=>by omega
theorem adk:t_ l ss 0:=fun j y h=>by omega
theorem ab4:Jj l ss 0:=fun j y h=>by omega
def AI (l:List Field) (v:Int):Prop:=t_ l (aS v) l.length/\Jj l (aS v) (aS v).length
open Classical in
noncomputable def gz (l:List Field) (v:Int):Int:=if (aS v).length=0 then 1 else if cO l=0 then (if AI l v then 0 else 6) else cO l
theorem afF {v:Int} (h:(aS v).length=0):1=gz l v:=by rw [gz,if_pos h]
theorem agm {v:Int} (h:¬ (aS v).length=0) (h2:¬ cO l=0):cO l=gz l v:=by rw [gz,if_neg h,if_neg h2]
theorem ack {v:Int} (h:¬ (aS v).length=0) (h2:cO l=0) (h3:¬ AI l v):6=gz l v:=by rw [gz,if_neg h,if_pos h2,if_neg h3]
theorem aeO {v:Int} (h:¬ (aS v).length=0) (h2:cO l=0) (h3:AI l v):0=gz l v:=by rw [gz,if_neg h,if_pos h2,if_pos h3]
theorem Oj {y:Spec} (h:Ma ss x n m) (hy:ss[m]? = some y) (hn:y.num=x.num->Nk x y n=true):Ma ss x n (m+1):=by
 intro j z hj hz;by_cases hjm:j=m
 ·subst hjm; rw [hy] at hz; cases hz; exact hn
 exact h j z aL hz
theorem Pa (h:t_ l ss k) (hx:l[k]? = some x) (hi:Ma ss x n m) (hm:ss.length<=m) (e:n=((iI (l.take (k+1)) x.num:Nat):Int)):t_ l ss (k+1):=by
 subst e;intro j z hj hz s hs hn;by_cases hjk:j=k
 ·subst hjk; rw [hx] at hz; cases hz;obtain ⟨p,hp,rfl⟩:=List.getElem_of_mem hs;exact hi p _ aL (List.getElem?_eq_getElem hp) hn
 exact h j z aL hz s hs hn
theorem Lx {y:Spec} (h:Jj l ss m) (hy:ss[m]? = some y) (hn:y.need=true->¬ iI l y.num=0):Jj l ss (m+1):=by
 intro j z hj hz;by_cases hjm:j=m
 ·subst hjm; rw [hy] at hz; cases hz; exact hn
 exact h j z aL hz
theorem Um {v:Int} {y:Spec} (hx:l[k]? = some x) (hy:(aS v)[m]? = some y) (hn:y.num=x.num/\Nk x y n=false) (e:n=((iI (l.take (k+1)) x.num:Nat):Int)):¬ AI l v:=by
 intro h;have:=h.1 k x (wY hx) hx y (abl hy) hn.1;rw [<- e,hn.2] at this; cases this
variable {n:Nat}
theorem RZ {v:Int} {y:Spec} (hy:(aS v)[m]? = some y) (hn:y.need=true/\((n:Nat):Int)=0) (e:n=iI l y.num):¬ AI l v:=
 fun h=>h.2 m y (wY hy) hy hn.1 (by omega)
theorem Tq {v:Int} (h1:t_ l (aS v) k) (hk:l.length<=k) (h2:Jj l (aS v) m) (hm:(aS v).length<=m):AI l v:=
 ⟨fun j x hj=>h1 j x (by omega),fun j y hj=>h2 j y (by omega)⟩
theorem SU {v:Int} (hx:l[k]? = some x) (h:x.num<=v):(l.take k).filter (fun f=>decide (f.num<=v))++[x]=(l.take (k+1)).filter (fun f=>decide (f.num<=v)):=by
 rw [ai hx,List.filter_append]; simp [h]
theorem X_ {v:Int} (hx:l[k]? = some x) (h:¬ x.num<=v):(l.take k).filter (fun f=>decide (f.num<=v))=(l.take (k+1)).filter (fun f=>decide (f.num<=v)):=by
 rw [ai hx,List.filter_append]; simp [h]
theorem Tv {v:Int} (hx:l[k]? = some x) (h:¬ x.num<=v):(l.take k).filter (fun f=>!decide (f.num<=v))++[x]=(l.take (k+1)).filter (fun f=>!decide (f.num<=v)):=by
 rw [ai hx,List.filter_append]; simp [h]
theorem XJ {v:Int} (hx:l[k]? = some x) (h:x.num<=v):(l.take k).filter (fun f=>!decide (f.num<=v))=(l.take (k+1)).filter (fun f=>!decide (f.num<=v)):=by
 rw [ai hx,List.filter_append]; simp [h]
theorem MG (l:List Field) (p:Field->Bool):(l.filter p).length<=l.length:=List.length_filter_le _ _
def dQ (l:List Field) (v:Int):List Field:=l.filter fun f=>decide (f.num<=v)
def ey (l:List Field) (v:Int):List Field:=l.filter fun f=>!decide (f.num<=v)
theorem Ut (l:List Field) (v:Int):(dQ l v).length<=l.length:=MG _ _
theorem FZ (l:List Field) (v:Int):(ey l v).length<=l.length:=MG _ _
theorem Iw {v:Int} (hk:l.length<=k):(l.take k).filter (fun f=>decide (f.num<=v))=dQ l v:=by rw [List.take_of_length_le hk]; rfl
theorem JU {v:Int} (hk:l.length<=k):(l.take k).filter (fun f=>!decide (f.num<=v))=ey l v:=by rw [List.take_of_length_le hk]; rfl
def Jf (f:Field):Int:=IntKind.i64.wrap ((f.n.n:Nat):Int)
def ft (c:Command) (f:Field):Command:=
 if f.num=1 then ⟨Jf f,c.client,c.seq,c.set,c.id,c.n,c.chunks,c.text⟩ else
 if f.num=2 then ⟨c.kind,Jf f,c.seq,c.set,c.id,c.n,c.chunks,c.text⟩ else
 if f.num=3 then ⟨c.kind,c.client,Jf f,c.set,c.id,c.n,c.chunks,c.text⟩ else
 if f.num=4 then ⟨c.kind,c.client,c.seq,Jf f,c.id,c.n,c.chunks,c.text⟩ else
 if f.num=5 then ⟨c.kind,c.client,c.seq,c.set,Jf f,c.n,c.chunks,c.text⟩ else
 if f.num=6 then ⟨c.kind,c.client,c.seq,c.set,c.id,Jf f,c.chunks,c.text⟩ else
 if f.num=7 then ⟨c.kind,c.client,c.seq,c.set,c.id,c.n,ld f.b,c.text⟩ else
 if f.num=8 then ⟨c.kind,c.client,c.seq,c.set,c.id,c.n,c.chunks,⟨f.b⟩⟩ else c
def cM:Command:=⟨0,0,0,0,0,0,[],⟨[]⟩⟩
def cR (l:List Field):Command:=l.foldl ft cM
theorem dJ (hx:l[k]? = some x):cR (l.take (k+1))=ft (cR (l.take k)) x:=by
 unfold cR; rw [ai hx,List.foldl_append]; rfl
theorem aib {c:Command} (h:f.num=1):(⟨Jf f,c.client,c.seq,c.set,c.id,c.n,c.chunks,c.text⟩:Command)=ft c f:=by rw [ft,if_pos h]
theorem ahS {c:Command} (h:f.num=2):(⟨c.kind,Jf f,c.seq,c.set,c.id,c.n,c.chunks,c.text⟩:Command)=ft c f:=by rw [ft,if_neg (by omega),if_pos h]
theorem ahm {c:Command} (h:f.num=3):(⟨c.kind,c.client,Jf f,c.set,c.id,c.n,c.chunks,c.text⟩:Command)=ft c f:=by rw [ft,if_neg (by omega),if_neg (by omega),if_pos h]
theorem ahx {c:Command} (h:f.num=4):(⟨c.kind,c.client,c.seq,Jf f,c.id,c.n,c.chunks,c.text⟩:Command)=ft c f:=by rw [ft,if_neg (by omega),if_neg (by omega),if_neg (by omega),if_pos h]
theorem afk {c:Command} (h:f.num=5):(⟨c.kind,c.client,c.seq,c.set,Jf f,c.n,c.chunks,c.text⟩:Command)=ft c f:=by rw [ft,if_neg (by omega),if_neg (by omega),if_neg (by omega),if_neg (by omega),if_pos h]
theorem afs {c:Command} (h:f.num=6):(⟨c.kind,c.client,c.seq,c.set,c.id,Jf f,c.chunks,c.text⟩:Command)=ft c f:=by rw [ft,if_neg (by omega),if_neg (by omega),if_neg (by omega),if_neg (by omega),if_neg (by omega),if_pos h]
theorem agi {c:Command} (h:f.num=7):(⟨c.kind,c.client,c.seq,c.set,c.id,c.n,ld f.b,c.text⟩:Command)=ft c f:=by rw [ft,if_neg (by omega),if_neg (by omega),if_neg (by omega),if_neg (by omega),if_neg (by omega),if_neg (by omega),if_pos h]
theorem ahY {c:Command} (h:f.num=8):(⟨c.kind,c.client,c.seq,c.set,c.id,c.n,c.chunks,⟨f.b⟩⟩:Command)=ft c f:=by rw [ft,if_neg (by omega),if_neg (by omega),if_neg (by omega),if_neg (by omega),if_neg (by omega),if_neg (by omega),if_neg (by omega),if_pos h]
theorem agD {c:Command} (h:¬ (1<=f.num/\f.num<=8)):c=ft c f:=by rw [ft,if_neg (by omega),if_neg (by omega),if_neg (by omega),if_neg (by omega),if_neg (by omega),if_neg (by omega),if_neg (by omega),if_neg (by omega)]
noncomputable def mV (b:List UInt8) (v:Int):Int:=if (bD b).2=0 then gz (bD b).1 v else (bD b).2
structure TkR where
 c:Command
 r:List Field
 e:Int
noncomputable def cE (b:List UInt8) (v:Int):TkR:=
 if 1<=v/\v<=3 then (if mV b v=0 then (if fx (cR (dQ (bD b).1 (cS v))) (ey (bD b).1 (cS v)) v=0/\gp (cR (dQ (bD b).1 (cS v))) (ey (bD b).1 (cS v)) v=b then ⟨cR (dQ (bD b).1 (cS v)),ey (bD b).1 (cS v),0⟩ else ⟨cM,[],6⟩) else ⟨cM,[],mV b v⟩) else ⟨cM,[],1⟩
theorem agA {v:Int} (h:¬ (1<=v/\v<=3)):cE b v=⟨cM,[],1⟩:=by rw [cE,if_neg h]
theorem ad8 {v:Int} (h:1<=v/\v<=3) (h2:¬ mV b v=0):cE b v=⟨cM,[],mV b v⟩:=by rw [cE,if_pos h,if_neg h2]
theorem ah6 {v:Int} (h:1<=v/\v<=3) (h2:mV b v=0) (h3:¬ fx (cR (dQ (bD b).1 (cS v))) (ey (bD b).1 (cS v)) v=0\/¬ gp (cR (dQ (bD b).1 (cS v))) (ey (bD b).1 (cS v)) v=b):cE b v=⟨cM,[],6⟩:=by
 rw [cE,if_pos h,if_pos h2,if_neg (fun h=>h3.elim (fun h4=>h4 h.1) (fun h4=>h4 h.2))]
theorem afN {v:Int} (h:1<=v/\v<=3) (h2:mV b v=0) (h3:fx (cR (dQ (bD b).1 (cS v))) (ey (bD b).1 (cS v)) v=0/\gp (cR (dQ (bD b).1 (cS v))) (ey (bD b).1 (cS v)) v=b):cE b v=⟨cR (dQ (bD b).1 (cS v)),ey (bD b).1 (cS v),0⟩:=by
 rw [cE,if_pos h,if_pos h2,if_pos h3]
theorem Uw {v:Int} (h:mV b v=0):(bD b).2=0/\cO (bD b).1=0:=by
 unfold mV at h;split at h
 ·rename_i h1;refine ⟨h1,?_⟩;unfold gz at h;split at h
  ·cases h
  split at h
  ·assumption
  exact h
 rename_i h1; exact absurd h h1
theorem XS {v:Int} {u:Int} (h:mV b v=0):∀ f ∈ dQ (bD b).1 u,f.b.length<=16384:=
 fun _ hf=>xb (Uw h).2 (List.mem_filter.1 hf).1
variable {x:UInt8}
theorem HZ (h:x.toNat<128):(x &&& 127).toNat=x.toNat:=by rw [pd]; omega
theorem Is:∀ (n:Nat) {k m:Nat} {r:List UInt8},k<=9->n*2 ^ (7*k)<18446744073709551616->(0<k->n≠0)->bS k m (cT n++r)=(m+n*2 ^ (7*k),k+(cT n).length,0):=by
 intro n;induction n using Nat.strongRecOn with
 | _ n ih=>
  intro k m r hk hn h0;by_cases hs:n<128
  ·rw [CW hs];have hx:(UInt8.ofNat n).toNat=n:=by rw [UInt8.toNat_ofNat']; omega
   simp only [List.cons_append,aid,List.length_cons,List.length_nil];have h9:¬ ((0<k/\(UInt8.ofNat n).toNat=0)\/(k=9/\1<(UInt8.ofNat n).toNat)):=by
    rw [hx];rintro (⟨h1,h2⟩ | ⟨rfl,h2⟩)
    ·exact h0 h1 h2
    have:2*2 ^ (7*9)<=n*2 ^ (7*9):=aes _ (by omega);have e:(2:Nat)*2 ^ (7*9)=18446744073709551616:=by decide
    omega
   rw [bS,if_neg (by omega),if_neg h9,if_pos (by omega),HZ (by omega),hx]
  rw [Kq hs];simp only [List.cons_append,List.length_cons];have hx:=aed n;have hk8:k<=8:=by
   rcases Nat.lt_or_ge k 9 with h | h
   ·omega
   have hk9:k=9:=by omega
   subst hk9;have:128*2 ^ (7*9)<=n*2 ^ (7*9):=aes _ (by omega);have e:(128:Nat)*2 ^ (7*9)=1180591620717411303424:=by decide
   omega
  have e7:(2:Nat) ^ (7*(k+1))=128*2 ^ (7*k):=by rw [show 7*(k+1)=7*k+7 by omega,Nat.pow_add,Nat.mul_comm]
  have hd:n / 128*2 ^ (7*(k+1))<=n*2 ^ (7*k):=by
   rw [e7,<- Nat.mul_assoc]; exact aes _ (Nat.div_mul_le_self _ _)
  rw [bS,if_neg (by omega),if_neg (by rw [hx]; rintro (⟨_,h⟩ | ⟨h,_⟩) <;> omega),if_neg (by omega),pd,hx];rw [ih (n / 128) (by omega) (k:=k+1) (by omega) (by omega) (fun _=>by omega)];have e:(n % 128+128) % 128=n % 128:=by omega
  have e2:n % 128*2 ^ (7*k)+n / 128*2 ^ (7*(k+1))=n*2 ^ (7*k):=by
   rw [e7,<- Nat.mul_assoc,<- ahf]; congr 1; omega
  rw [e,Nat.add_assoc,e2];congr 2;omega
theorem uK (h:n<18446744073709551616) (r:List UInt8):aj (cT n++r)=(n,(cT n).length,0):=by
 unfold aj;rw [Is n (by omega) (by simpa using h) (fun h=>absurd h (by omega))];simp
theorem tvX (hx:b[k]? = some x):b.getD k (au .u8)=x:=by rw [List.getD_eq_getElem?_getD,hx]; rfl
theorem tvA (h:aj b=bS k n (b.drop k)) (hk:(k:Int)<10) (hb:(k:Int)=(b.length:Int)):aj b=(0,0,2):=h.trans (Zm (by omega) (by omega))
theorem tvD (h:aj b=bS k n (b.drop k)) (hk:10<=(k:Int)):aj b=(0,0,3):=h.trans (Yx (by omega))
theorem tvG (h1:k<=b.length) (h2:¬ (k:Int)=(b.length:Int)):∃ x,b[k]? = some x:=⟨_,List.getElem?_eq_getElem (by omega)⟩
theorem tvB (h:aj b=bS k n (b.drop k)) (hk:(k:Int)<10) (hl:k<=b.length) (hb:¬ (k:Int)=(b.length:Int)) (h0:0<(k:Int)) (h1:((b.getD k (au .u8)).toNat:Int)=((UInt8.ofNat 0).toNat:Int)):aj b=(0,0,3):=by
 obtain ⟨x,hx⟩:=tvG hl hb;rw [tvX hx,show (UInt8.ofNat 0).toNat=0 from rfl] at h1;exact Jm h aL hx (.inl ⟨by omega,by omega⟩)
theorem tvC (h:aj b=bS k n (b.drop k)) (_hk:(k:Int)<10) (hl:k<=b.length) (hb:¬ (k:Int)=(b.length:Int)) (h0:(k:Int)=9) (h1:((UInt8.ofNat 1).toNat:Int)<((b.getD k (au .u8)).toNat:Int)):aj b=(0,0,3):=by
 obtain ⟨x,hx⟩:=tvG hl hb;rw [tvX hx,show (UInt8.ofNat 1).toNat=1 from rfl] at h1;exact Jm h aL hx (.inr ⟨by omega,by omega⟩)
def YE (n k:Nat) (x:UInt8):Nat:=n ||| (x &&& UInt8.ofNat 127).toNat*2 ^ (7*(k:Int)).toNat % 18446744073709551616
theorem tvN (hn:n<2 ^ (7*k)) (hk:k<=9) (h9:k=9->x.toNat<=1):YE n k x=n+(x &&& 127).toNat*2 ^ (7*k):=by
 unfold YE;rw [show (UInt8.ofNat 127)=127 from rfl,show (7*(k:Int)).toNat=7*k by omega,Nat.mod_eq_of_lt (Zo hk h9)];exact Zt hn
theorem tvZ (hx:b[k]? = some x) (h1:(k:Int)<=0\/¬ ((b.getD k (au .u8)).toNat:Int)=((UInt8.ofNat 0).toNat:Int)) (h2:¬ (k:Int)=9\/((b.getD k (au .u8)).toNat:Int)<=((UInt8.ofNat 1).toNat:Int)):(¬ (0<k/\x.toNat=0))/\¬ (k=9/\1<x.toNat):=by
 rw [tvX hx,show (UInt8.ofNat 0).toNat=0 from rfl] at h1;rw [tvX hx,show (UInt8.ofNat 1).toNat=1 from rfl] at h2;omega
theorem tvE {y:UInt8} (h:aj b=bS k n (b.drop k)) (hn:n<2 ^ (7*k)) (hk:(k:Int)<10) (hx:b[k]? = some x) (hy:b[k]? = some y) (h1:(k:Int)<=0\/¬ ((b.getD k (au .u8)).toNat:Int)=((UInt8.ofNat 0).toNat:Int)) (h2:¬ (k:Int)=9\/((b.getD k (au .u8)).toNat:Int)<=((UInt8.ofNat 1).toNat:Int)) (h3:(y.toNat:Int)<((UInt8.ofNat 128).toNat:Int)):aj b=(YE n k x,k+1,0):=by
 have hz:=tvZ hx h1 h2;rw [show (UInt8.ofNat 128).toNat=128 from rfl] at h3;rw [hx] at hy; cases hy;rw [tvN hn (by omega) (by omega)];exact Uf h aL hx hz.1 hz.2 aL
theorem tvF {y:UInt8} (h:aj b=bS k n (b.drop k)) (hn:n<2 ^ (7*k)) (hn2:n<18446744073709551616) (hk:(k:Int)<10) (hx:b[k]? = some x) (hy:b[k]? = some y) (h1:(k:Int)<=0\/¬ ((b.getD k (au .u8)).toNat:Int)=((UInt8.ofNat 0).toNat:Int)) (h2:¬ (k:Int)=9\/((b.getD k (au .u8)).toNat:Int)<=((UInt8.ofNat 1).toNat:Int)) (h3:((UInt8.ofNat 128).toNat:Int)<=(y.toNat:Int)):YE n k x<2 ^ (7*(k+1))/\YE n k x<18446744073709551616/\aj b=bS (k+1) (YE n k x) (b.drop (k+1)):=by
 have hz:=tvZ hx h1 h2;rw [show (UInt8.ofNat 128).toNat=128 from rfl] at h3;rw [hx] at hy; cases hy;have e:=tvN hn (show k<=9 by omega) (show k=9->x.toNat<=1 by omega);refine ⟨by rw [e]; exact Q_ hn,?_,by rw [e]; exact RL h (by omega) hx hz.1 hz.2 (by omega)⟩;unfold YE;exact Nat.or_lt_two_pow (n:=64) hn2 (Nat.mod_lt _ (by decide))
variable {x:Int}
theorem acJ {c:Command} {v:Int} (hx:[c.client,c.seq,c.set,c.id,c.n][k]? = some x) (h:x<0\/1048576<x):false=gq c v:=by
 refine Sc ?_;match k,hx with
 | 0,hx=>cases hx; exact .inl h
 | 1,hx=>cases hx; exact .inr (.inl h)
 | 2,hx=>cases hx; exact .inr (.inr (.inl h))
 | 3,hx=>cases hx; exact .inr (.inr (.inr (.inl h)))
 | 4,hx=>cases hx; exact .inr (.inr (.inr (.inr h)))
theorem adg {c:Command} (h:(k:Int)<5):[c.client,c.seq,c.set,c.id,c.n][k]? = some ([c.client,c.seq,c.set,c.id,c.n].getD k (au .int)):=by
 rw [List.getD_eq_getElem?_getD,List.getElem?_eq_getElem (by simp only [List.length_cons,List.length_nil]; omega)]; rfl
theorem ad4 {n:Int} {p:Prop} (h:n<=0\/p):(¬ 0<n)\/p:=h.imp_left (by omega)
theorem aeX {l:List Int} (h:((l.take k).all fun n=>cj n 0 1048576)=true) (hx:l[k]? = some x) (h0:0<=x) (h1:x<=1048576):((l.take (k+1)).all fun n=>cj n 0 1048576)=true:=by
 rw [ai hx,agr,h]; simp [cj]; omega
theorem abw {c:Command} (h:(([c.client,c.seq,c.set,c.id,c.n].take k).all fun n=>cj n 0 1048576)=true) (hk:5<=(k:Int)):¬ ((c.client<0\/1048576<c.client)\/(c.seq<0\/1048576<c.seq)\/(c.set<0\/1048576<c.set)\/(c.id<0\/1048576<c.id)\/(c.n<0\/1048576<c.n)):=by
 rw [List.take_of_length_le (by simp only [List.length_cons,List.length_nil]; omega)] at h;simp only [afB,List.all_nil,cj,Bool.and_eq_true,decide_eq_true_eq] at h;omega
def Xn (b:List UInt8):List (Nat × LI):=[(3,{ σ:=Nat × Nat,F:=fun s=>([(0,one (.fz .u8 (b))),(5,one (.u64 s.2)),(6,one (.int 0)),(7,one (.int 3)),(9,one (.int s.1))],[]),J:=fun s=>s.1<=10/\s.2<2 ^ (7*s.1)/\s.2<18446744073709551616/\aj b=bS s.1 s.2 (b.drop s.1)/\s.1<=b.length,μ:=fun s=>10 - s.1 })]
def Ih (c:Command) (v:Int):List (Nat × LI):=[(5,{ σ:=Nat,F:=fun k=>([(1,one (.int (v))),(2,one (.ptr 0 0)),(38,.one (.agg [.int c.client,.int c.seq,.int c.set,.int c.id,.int c.n])),(39,one (.int k))],[.box 35 (cellsOf (.nm .command) (c))]),J:=fun k=>k<=5/\([c.client,c.seq,c.set,c.id,c.n].take k).all (fun n=>cj n 0 1048576)=true,μ:=fun k=>5 - k })]
def Fa:Kn:=aK (ae (kC (cL .u8)) ao) aw fun (b,_) _=>⟨[],[.c (.u64 ((U64.mk (aj b).1)).n),.c (.int ((((aj b).2.1:Nat)))),.c (.int (((aj b).2.2)))],none,false⟩
theorem Ui:CK 210 Fa:=ag fun (b,_) _ _=>by
 refine av dz (Xn b) Tryz.func210 (?_:(fun (q14:UInt8)=>(fun (q13:Nat)=>(fun (q12:Nat)=>(fun (q11:Nat)=>(fun (q10:Int)=>(fun (q9:Nat)=>(fun (q8:Int)=>(fun (q7:Int)=>(fun (q6:Int)=>(fun (q5:Int)=>(fun (q4:Int)=>(fun (q3:Prop)=>(fun (q2:Int)=>(fun (q1:Int)=>(fun (q0:Int)=>(fun (q18:Prop)=>(fun (q17:Prop)=>(fun (q16:Prop)=>(fun (q15:Prop)=>b.length*1<=140737488355328->∃ (s0:Nat × Nat),(b=b/\0=s0.snd/\q17/\q4=q4/\q0=(↑s0.fst:Int))/\(s0.fst<=q12/\s0.snd<q11 ^ (7*s0.fst)/\s0.snd<q13/\aj b=bS s0.fst s0.snd (List.drop s0.fst b)/\s0.fst<=b.length)/\∀ (s:Nat × Nat),(fun (q23:Nat)=>(fun (q22:Int)=>(fun (q21:Prop)=>(fun (q20:Int)=>(fun (q25:Int)=>(fun (q24:Int)=>(fun (q19:Prop)=>q23<=q12/\s.snd<q11 ^ (7*q23)/\s.snd<q13/\aj b=bS q23 s.snd (List.drop q23 b)/\q23<=b.length->(q20<10->(q20=q5->(¬2=q0->q3/\q0=q1/\2=q2)/\(2=q0->s.snd=q9/\q15))/\(¬q20=q5->(q0<q20->q0<=q20/\q20<q5)/\(q0<q20/\q22=q6->(q0<q20/\q22=q6->q21)/\(q20<=q0\/¬q22=q6->q19))/\(q20<=q0\/¬q22=q6->(q20=9->q0<=q20/\q20<q5)/\(q20=9/\(↑(UInt8.ofNat 1).toNat:Int)<q22->q21)/\(¬q20=9\/q22<=(↑(UInt8.ofNat 1).toNat:Int)->q19))))/\(10<=q20->q21)) (q0<=q20/\q20<q5/\∀ (x:UInt8),b[q23]? = some x->I64 q24/\q0<=q24/\q24<64/\q0<=q20/\q20<q5/\∀ (x_1:UInt8),b[q23]? = some x_1->((↑x_1.toNat:Int)<q7->I64 q25/\(¬q17->q3/\q15)/\(q17->s.snd ||| (x &&& q14).toNat*q11 ^ q24.toNat % q13=q9/\q25=q1/\q0=q2))/\(q7<=(↑x_1.toNat:Int)->I64 q25/\∃ (s':Nat × Nat),(b=b/\s.snd ||| (x &&& q14).toNat*q11 ^ q24.toNat % q13=s'.snd/\q17/\q4=q4/\q25=(↑s'.fst:Int))/\(s'.fst<=q12/\s'.snd<q11 ^ (7*s'.fst)/\s'.snd<q13/\aj b=bS s'.fst s'.snd (List.drop s'.fst b)/\s'.fst<=b.length)/\q12 - s'.fst<q12 - q23))) (q8*q20)) (q20+q10)) (↑q23:Int)) ((¬q18->q16)/\(q18->s.snd=q9/\q15))) (↑(UInt8.toNat (b.getD q23 (au Sh.u8))):Int)) s.fst) (q0=q1/\q0=q2)) (q3/\q0=q1/\q4=q2)) (q0=q0)) (q4=q0)) 0) (↑(aj b).snd.fst:Int)) (aj b).snd.snd) (0=q9)) 3) (↑b.length:Int)) (↑(UInt8.ofNat 0).toNat:Int)) (↑(UInt8.ofNat 128).toNat:Int)) 7) (aj b).fst) 1) 2) 10) 18446744073709551616) (UInt8.ofNat 127));(repeat' with_reducible first|apply aZ|refine aY ?_|intro)
 all_goals try (first | exact bt | decide)
 all_goals (refine ⟨(0,0),⟨rfl,rfl,?_,?_,?_⟩,⟨by omega,by decide,by decide,rfl,by omega⟩,?_⟩)
 all_goals try (first | trivial | rfl)
 (repeat' with_reducible first|apply aZ|refine aY ?_|intro)
 all_goals try (first | exact bt | (rw [tvA ab ab ab] <;> rfl) | (rw [tvD ab ab] <;> rfl) | (rw [tvB ab ab ab ab ab ab] <;> rfl) | (rw [tvC ab ab ab ab ab ab] <;> rfl) | exact (congrArg Prod.fst (tvE ab ab ab ab ab ab ab ab)).symm | exact (congrArg (fun t=>((t.2.1:Nat):Int)) (tvE ab ab ab ab ab ab ab ab)).symm | exact (congrArg (fun t=>t.2.2) (tvE ab ab ab ab ab ab ab ab)).symm)
 all_goals (refine ⟨(‹Nat × Nat›.1+1,_),⟨rfl,rfl,?_⟩,?_⟩; (repeat' with_reducible first|apply aZ|refine aY ?_|intro))
 all_goals (first | exact bt | exact (tvF ab ab ab ab ab ab ab ab ab).1 | exact (tvF ab ab ab ab ab ab ab ab ab).2.1 | exact (tvF ab ab ab ab ab ab ab ab ab).2.2)
def Ax:Kn:=aK (ae (kT (.nm .field)) (ae (kT (.nm .field)) ao)) aw fun (x,y,_) _=>⟨[],[.c (.bool (.atom ((f_ x y))))],none,false⟩
theorem J_:CK 256 Ax:=ag fun (x,y,_) _ _=>by
 refine av dz [] Tryz.func256 (?_:I64 x.num->I64 x.wire->x.n.n<18446744073709551616->x.b.length*1<=140737488355328->I64 y.num->I64 y.wire->y.n.n<18446744073709551616->y.b.length*1<=140737488355328->(y.num=x.num->(decide (y.wire=2) && decide (x.wire=2))=f_ x y)/\(¬y.num=x.num->decide (x.num<y.num)=f_ x y));grind [f_]
def Bf:Kn:=aK (ae (kT (.nm .field)) ao) aw fun (x,_) _=>⟨[],[.c (.bool (.atom ((ew x))))],none,false⟩
theorem Jl:CK 255 Bf:=ag fun (x,_) _ _=>by
 refine av dz [] Tryz.func255 (?_:I64 x.num->I64 x.wire->x.n.n<(18446744073709551616:Nat)->x.b.length*(1:Nat)<=(140737488355328:Nat)->(x.num<(1:Int)\/(1000:Int)<x.num->false=ew x)/\((1:Int)<=x.num/\x.num<=(1000:Int)->(x.wire=(0:Int)->decide ((↑x.b.length:Int)=(0:Int))=ew x)/\(¬x.wire=(0:Int)->(x.wire=(2:Int)->decide ((↑x.n.n:Int)=(↑(0:Nat):Int))=ew x)/\(¬x.wire=(2:Int)->false=ew x))));grind [ew,KN,LB]
def yR:Kn:=aK (ae (kC (cL .u8)) (ae (kC (cL .u8)) ao)) aw fun (x,y,_) _=>⟨[],[.c (.bool (.atom ((decide (x=y)))))],none,false⟩
theorem MU:CK 146 yR:=ag fun (x,y,_) _ _=>by
 refine av dz [] Tryz.func146 (?_:x.length*1<=140737488355328->y.length*1<=140737488355328->decide (Str.mk x=Str.mk y)=decide (x=y));grind
def AY:Kn:=aK (ae (kC (cL .u8)) ao) aw fun (x,_) _=>⟨[],[.c (.fz .u8 ((x)))],none,false⟩
theorem Nx:CK 332 AY:=ag fun (x,_) _ _=>by
 refine av dz [] Tryz.func332 (?_:(fun q0=>q0->∀ (b:Bool),(b=true->x=[])->(b=true->x=[])/\(b=false->q0/\x=x)) (x.length*1<=140737488355328));grind
def Wi:Kn:=aK (ae (kC cI) (ae (kC cI) ao)) aw fun (k,l,_) _=>⟨[],[.agg (cellsOf (.nm .spec) (⟨k,0,l,false,false⟩))],none,false⟩
theorem aem:CK 271 Wi:=ag fun (k,l,_) _ _=>by
 refine av dz [] Tryz.func271 (?_:I64 k->I64 l->k=k/\(0:Int)=0/\l=l/\false=false/\false=false);grind
def VC:Kn:=aK (ae (kC cI) (ae (kC cI) ao)) aw fun (k,l,_) _=>⟨[],[.agg (cellsOf (.nm .spec) (⟨k,2,l,false,false⟩))],none,false⟩
theorem ach:CK 272 VC:=ag fun (k,l,_) _ _=>by
 refine av dz [] Tryz.func272 (?_:I64 k->I64 l->k=k/\(2:Int)=2/\l=l/\false=false/\false=false);grind
def WK:Kn:=aK (ae (kT (.nm .spec)) ao) aw fun (x,_) _=>⟨[],[.agg (cellsOf (.nm .spec) ({ x with need:=true }))],none,false⟩
theorem abQ:CK 273 WK:=ag fun (x,_) _ _=>by
 refine av dz [] Tryz.func273 (?_:mP x (x.num=x.num/\x.wire=x.wire/\x.since=x.since/\true=true/\x.many=x.many));grind
def VW:Kn:=aK (ae (kT (.nm .spec)) ao) aw fun (x,_) _=>⟨[],[.agg (cellsOf (.nm .spec) ({ x with many:=true }))],none,false⟩
theorem adV:CK 274 VW:=ag fun (x,_) _ _=>by
 refine av dz [] Tryz.func274 (?_:mP x (x.num=x.num/\x.wire=x.wire/\x.since=x.since/\x.need=x.need/\true=true));grind
def Na:Kn:=aK (ae (kT (.nm .field)) (ae (kT (.nm .spec)) (ae (kC cI) ao))) aw fun (x,s,n,_) _=>⟨[],[.c (.bool (.atom ((Nk x s n))))],none,false⟩
theorem aar:CK 331 Na:=ag fun (x,s,n,_) _ _=>by
 refine av dz [] Tryz.func331 (?_:I64 x.num->I64 x.wire->x.n.n<(18446744073709551616:Nat)->x.b.length*(1:Nat)<=(140737488355328:Nat)->mP s (I64 n->(¬x.wire=s.wire\/(1:Int)<n/\s.many=false->false=Nk x s n)/\(x.wire=s.wire/\(n<=(1:Int)\/s.many=true)->(x.wire=(0:Int)->(!decide ((↑x.n.n:Int)=(↑(0:Nat):Int)))=Nk x s n)/\(¬x.wire=(0:Int)->decide ((0:Int)<(↑x.b.length:Int))=Nk x s n))));grind [Nk]
def Nj:Kn:=aK (ae (kC cI) (ae (kC cI) ao)) aw fun (num,wire,_) _=>⟨[],[.c (.own 0),.c (.int ((zo num wire)))],some ([.row 5 .u8 ((nU num wire))]),true⟩
theorem Zb:CK 257 Nj:=ag fun (num,wire,_) _ _=>by
 refine dD dz [] Tryz.func257 (?_:(fun q0=>I64 num->I64 wire->((num<1\/1000<num)\/¬wire=0/\¬wire=2->1=zo num wire/\nU num wire=[])/\((1<=num/\num<=1000)/\(wire=0\/wire=2)->I64 (8*num)/\I64 q0/\0<=q0/\0=zo num wire/\cT q0.toNat=nU num wire)) (8*num+wire));(repeat' with_reducible first|apply aZ|refine aY ?_|intro)
 all_goals (first | exact bt | exact (Ri aL) | exact (Py aL) | exact (DR aL).symm | exact (DR aL) | exact (LN aL))
def tk:Kn:=aK (ae (kT (.nm .command)) (ae (kC cI) ao)) aw fun (c,v,_) _=>⟨[],[.c (.bool (.atom ((gq c v))))],none,false⟩
theorem Cq:CK 160 tk:=ag fun (c,v,_) _ _=>by
 refine av dz (Ih c v) Tryz.func160 (?_:(fun (q5:Prop)=>(fun (q4:Nat)=>(fun (q3:Int)=>(fun (q2:Int)=>(fun (q1:List Int)=>(fun (q0:List (den Sh.int))=>bB c (I64 v->I64 q3->((c.kind<1\/99<c.kind)\/¬q3=q2/\q3<=v->q5)/\((1<=c.kind/\c.kind<=99)/\(q3=q2\/v<q3)->∃ (s0:Nat),(v=v/\c.client=c.client/\c.seq=c.seq/\c.set=c.set/\c.id=c.id/\c.n=c.n/\q2=(↑s0:Int)/\aP c c)/\(s0<=q4/\((List.take s0 q1).all fun (n:Int)=>cj n q2 1048576)=true)/\∀ (s:Nat),(fun (q6:den Sh.int)=>s<=q4/\((List.take s q1).all fun (n:Int)=>cj n q2 1048576)=true->((↑s:Int)<5->q2<=(↑s:Int)/\(↑s:Int)<(↑q4:Int)/\(I64 q6->(q6<q2\/1048576<q6->q5)/\(q2<=q6/\q6<=1048576->I64 ((↑s:Int)+1)/\∃ (s':Nat),(v=v/\c.client=c.client/\c.seq=c.seq/\c.set=c.set/\c.id=c.id/\c.n=c.n/\(↑s:Int)+1=(↑s':Int)/\aP c c)/\(s' <= q4/\((List.take s' q1).all fun (n:Int)=>cj n q2 1048576)=true)/\q4 - s' < q4 - s)))/\(5<=(↑s:Int)->(q2<(↑c.chunks.length:Int)/\cA c.chunks=false->q5)/\((↑c.chunks.length:Int)<=q2\/cA c.chunks=true->(v<3->decide (c.text=Str.mk [])=gq c v)/\(3<=v->decide ((↑c.text.b.length:Int)<=16)=gq c v)))) (q0.getD s (au Sh.int))))) [c.client,c.seq,c.set,c.id,c.n]) [c.client,c.seq,c.set,c.id,c.n]) 0) (cr c.kind)) 5) (false=gq c v));iterate 3 ((all_goals (repeat' with_reducible first|apply aZ|refine aY ?_|intro)); (all_goals try (first | exact bt | exact rfl | exact (ML aL) | exact (acJ (adg aL) ab) | exact (aeX ab (adg aL) ab ab) | exact (Ti (And.intro ab ab)) | exact (Xm aL (abw ab aL) (ad4 (by assumption)) aL) | exact (YC aL (abw ab aL) (ad4 (by assumption)) aL))); all_goals try first | refine ⟨‹Nat› + 1,?_⟩ | refine ⟨0,?_⟩)
def acZ:bN:=(aO 160 tk (aO 257 Nj (aO 331 Na (aO 274 VW (aO 273 WK (aO 272 VC (aO 271 Wi (aO 332 AY (aO 146 yR (aO 255 Bf (aO 256 Ax (aO 210 Fa Wf))))))))))))
theorem nj:ay Tryz.prog (al tyT) acZ:=(ah Cq (ah Zb (ah aar (ah adV (ah abQ (ah ach (ah aem (ah Nx (ah MU (ah Jl (ah J_ (ah Ui dz))))))))))))
theorem ng (h:m<9223372036854775808):eU m=(m:Int):=by rw [eU,if_pos h]
theorem Ei:(b.drop k).take (b.length - k)=b.drop k:=List.take_of_length_le (by rw [List.length_drop]; exact Nat.le_refl _)
theorem uk1 (hk:(k:Int)<(b.length:Int)) (he:(aj (b.drop k)).2.2=0) (hn:(((aj (b.drop k)).1:Nat):Int)<=((64:Nat):Int)):∃ x,b[k]? = some x/\aj (b.drop k)=(x.toNat,1,0)/\x.toNat<=64:=by
 have h:=tk1 (b:=b) (k:=k) (by omega) (by rw [Ei]; exact he) (by rw [Ei]; omega);rw [Ei] at h; exact h
theorem ukS (hk:(k:Int)<(b.length:Int)) (he:(aj (b.drop k)).2.2=0) (hn:(((aj (b.drop k)).1:Nat):Int)<=((64:Nat):Int)):(k:Int)+((aj (b.drop k)).2.1:Nat)=((k+1:Nat):Int)/\cH (b.take k)++[eU (aj (b.drop k)).1]=cH (b.take (k+1)):=by
 obtain ⟨x,hx,hp,h64⟩:=uk1 hk he hn;have h:=RK hx hp;rw [hp] at h ⊢;exact ⟨rfl,by rw [<- h,ng (by show x.toNat<_; omega)]⟩
theorem ukR (hk:(k:Int)<(b.length:Int)) (h:(¬ (aj (b.drop k)).2.2=0)\/((64:Nat):Int)<(((aj (b.drop k)).1:Nat):Int)):cA (cH b)=false:=aab (k:=k) (by omega) (by rw [Ei]; exact h)
theorem Yj (h:k<=b.length) (hb:b.length<=100000):((cH (b.take k)).length+1)*8<=140737488355328:=by
 unfold cH; rw [List.length_map,List.length_take]; omega
def abH (b:List UInt8):List (Nat × LI):=[(3,{ σ:=Nat,F:=fun k=>([(0,one (.fz .u8 (b))),(4,one (.own 0)),(5,one (.int k))],[.row 3 .int ((cH (b.take k)))]),J:=fun k=>k<=b.length,μ:=fun k=>b.length - k })]
def JJ:Kn:=aK (ae (kC (cL .u8)) ao) aw fun (b,_) _=>⟨[],[.c (.int (((aR b).num))),.c (.int (((aR b).wire))),.c (.int ((((aR b).k:Nat)))),.c (.int (((aR b).e)))],none,false⟩
theorem aax:CK 355 JJ:=ag fun (b,_) _ _=>by
 refine av nj [] Tryz.func355 (?_:(fun (q6:Int)=>(fun (q5:Int)=>(fun (q4:TagR)=>(fun (q3:Int)=>(fun (q2:Prop)=>(fun (q1:Nat)=>(fun (q7:Prop)=>(fun (q0:Int)=>(fun (q8:Prop)=>b.length*(1:Nat)<=(140737488355328:Nat)->(aj b).fst<(18446744073709551616:Nat)->I64 (↑(aj b).snd.fst:Int)->I64 q5->(¬q5=q3->q3=q4.num/\q3=q4.wire/\q3=(↑q4.k:Int)/\q5=q4.e)/\(q5=q3->q2/\(q6<=q0->q2)/\(q8->q2/\(¬q7->q2))/\((q0<q6\/(↑(1000:Nat):Int)<q0)\/¬q7/\¬(↑q1:Int)=(↑(2:Nat):Int)->q3=q4.num/\q3=q4.wire/\q3=(↑q4.k:Int)/\(6:Int)=q4.e)/\(q8/\(q7\/(↑q1:Int)=(↑(2:Nat):Int))->q2/\q2/\eU ((aj b).fst / (8:Nat))=q4.num/\eU q1=q4.wire/\(↑(aj b).snd.fst:Int)=(↑q4.k:Int)/\q3=q4.e))) (q6<=q0/\q0<=(↑(1000:Nat):Int))) (↑((aj b).fst / (8:Nat)):Int)) ((↑q1:Int)=(↑(0:Nat):Int))) ((aj b).fst % (8:Nat))) ((0:Nat)<(8:Nat))) (0:Int)) (aR b)) (aj b).snd.snd) (↑(1:Nat):Int));(repeat' with_reducible first|apply aZ|refine aY ?_|intro)
 all_goals (first | exact bt | (rw [JW ab] <;> rfl) | (rw [Ns ab aL] <;> rfl) | (rw [OL ab aL] <;> first | rfl | exact ng aL) | (have:=(nk (l:=b) (k:=0) (n:=0) aL).1; change (aj b).2.1<=11 at this; omega))
def NK:Kn:=aK (ae (kT (.nm .field)) ao) aw fun (f,_) _=>⟨[f.b.length<=16384],[.c (.own 0)],some ([.row 5 .u8 ((cz f))]),true⟩
theorem WU:CK 222 NK:=ag fun (f,_) _ hp=>by
 have h0:=cc hp;refine dD nj [] Tryz.func222 (?_:(fun (q1:Nat)=>(fun (q0:List UInt8)=>I64 f.num->I64 f.wire->f.n.n<18446744073709551616->q1*1<=140737488355328->I64 (zo f.num f.wire)->(f.wire=0->(q0.length+(cT f.n.n).length)*1<=140737488355328/\q0++cT f.n.n=cz f)/\(¬f.wire=0->0<=(↑q1:Int)/\(q0.length+(cT q1).length)*1<=140737488355328/\((q0++cT q1).length+q1)*1<=140737488355328/\q0++cT q1++f.b=cz f)) (nU f.num f.wire)) f.b.length);(repeat' with_reducible first|apply aZ|refine aY ?_|intro)
 all_goals (first | exact bt | exact (Us ab) | exact (Tj ab) | (have:=tg f.num f.wire; have:=cV (n:=f.n.n) ab; omega) | (have:=tg f.num f.wire; have:=cV (n:=f.b.length) aL; (try simp only [List.length_append]); omega))
def KX:Kn:=aK (ae (kC cI) ao) aw fun (q,_) _=>⟨[q=1],[.c (.fz (.nm .spec) ((bM)))],none,false⟩
theorem aad:CK 254 KX:=ag fun (q,_) _ hp=>by
 have h0:=cc hp;refine av nj [] Tryz.func254 (?_:(fun q7=>(fun q6=>(fun q5=>(fun q4=>(fun q3=>(fun q8=>(fun q2=>(fun q9=>(fun q1=>(fun q10=>(fun q0=>(fun q14=>(fun q13=>(fun q12=>(fun q11=>I64 q->q11->q10->q11->q11->q10->q11->q9->q10->q11->q8->q10->q11->I64 q4->q10->q11->I64 q5->q10->q11->I64 q6->q10->q11->I64 q7->q9->q11->I64 8->q9->q8->q11->q10->q11->q11->q10->q11->q9->q10->q11->q9->q10->q11->q8->q9->q11->q8->q9->q11->I64 q4->q10->q9->I64 q5->q9->q8->q11->q10->q11->q11->q10->q11->q9->q10->q11->q9->q10->q11->q11->q10->q11->q11->q10->q11->q9->q10->q11->q8->q10->q11->I64 q4->q10->q11->q11->q10->q11->q11->q10->q11->q9->q10->q11->q9->q10->q11->q8->q10->q11->I64 q4->q9->q11->I64 q4->q9->q11->I64 q5->q9->q11->I64 q5->q9->q11->I64 q6->q9->q11->I64 q6->q9->q11->I64 q7->q10->q8->q11->q10->q11->q11->q10->q11->q9->q10->q11->q9->q10->q11->q8->q10->q11->q8->q10->q11->I64 q4->q10->q11->I64 q4->q10->q11->I64 q5->q10->q11->I64 q6->q10->q11->I64 q7->q10->q11->I64 8->q10->q11->I64 9->q10->q11->I64 10->q9->q11->I64 10->q9->q11->q11->q10->q11->q11->q10->q11->q9->q9->q11->(if q=q7 then some [q12,Spec.mk q2 q2 q0 false false] else if q=q6 then some [q12,q13,Spec.mk q3 q1 q0 true false,Spec.mk q4 q1 q0 true false,Spec.mk q5 q1 q0 false false,Spec.mk q6 q1 q0 false false,Spec.mk q7 q1 q0 false false,Spec.mk 8 q1 q0 false false,Spec.mk 9 q1 q0 false false,Spec.mk 10 q2 q0 false true] else if q=q5 then some [q12,q13,q14,Spec.mk q4 q2 q0 false true,Spec.mk q5 q2 q0 false true,Spec.mk q6 q2 q0 false true,Spec.mk q7 q1 q3 false false] else if q=q4 then some [q12,Spec.mk q2 q1 q0 false false,q14,Spec.mk q4 q1 q0 false false] else if q=q3 then some [q12,q13] else if q=q2 then some [q12,q13,Spec.mk q3 q2 q0 true false,Spec.mk q4 q1 q2 false false,Spec.mk q5 q2 q3 false false] else if q=q0 then some [q12,Spec.mk q2 q1 q0 false false,q14,Spec.mk q4 q1 q0 false false,Spec.mk q5 q1 q0 false false,Spec.mk q6 q1 q0 false false,Spec.mk q7 q2 q0 false false,Spec.mk 8 q2 q3 false false] else none).getD (au (Sh.nm NT.spec).lst)=bM) (I64 q0)) (Spec.mk q0 q1 q0 true false)) (Spec.mk q2 q1 q0 true false)) (Spec.mk q3 q1 q0 false false)) (1:Int)) (I64 q1)) (0:Int)) (I64 q2)) (2:Int)) (I64 q3)) (3:Int)) (4:Int)) (5:Int)) (6:Int)) (7:Int));subst h0; (repeat' with_reducible first|apply aZ|refine aY ?_|intro);all_goals (first | exact bt | exact rfl)
def JX:Kn:=aK (ae (kC (cL .u8)) ao) aw fun (b,_) _=>⟨[b.length<=100000],[.c (.fz .int ((ld b))),.c (.int ((qm b)))],none,false⟩
theorem Zn:CK 333 JX:=ag fun (b,_) _ hp=>by
 have h0:=cc hp;refine av nj (abH b) Tryz.func333 (?_:(fun (q0:Prop)=>b.length*(1:Nat)<=(140737488355328:Nat)->∃ (s0:Nat),(b=b/\(0:Int)=(↑s0:Int)/\cH (List.take s0 b)=[])/\s0<=b.length/\∀ (s:Nat),(fun (q2:List Int)=>(fun (q1:Nat × Nat × Int)=>s<=b.length->((↑s:Int)<(↑b.length:Int)->(0:Int)<=(↑s:Int)/\(↑s:Int)<=(↑b.length:Int)/\(q1.fst<(18446744073709551616:Nat)->I64 (↑q1.snd.fst:Int)->I64 q1.snd.snd->(¬q1.snd.snd=(0:Int)\/(↑(64:Nat):Int)<(↑q1.fst:Int)->q0)/\(q1.snd.snd=(0:Int)/\(↑q1.fst:Int)<=(↑(64:Nat):Int)->(q2.length+[eU q1.fst].length)*(8:Nat)<=(140737488355328:Nat)/\I64 ((↑s:Int)+(↑q1.snd.fst:Int))/\∃ (s':Nat),(b=b/\(↑s:Int)+(↑q1.snd.fst:Int)=(↑s':Int)/\q2++[eU q1.fst]=cH (List.take s' b))/\s' <= b.length/\b.length - s' < b.length - s)))/\((↑b.length:Int)<=(↑s:Int)->(cA q2=false->q0)/\(cA q2=true->q2=ld b/\(0:Int)=qm b))) (aj (List.drop s b))) (cH (List.take s b))) (ld b=[]/\(6:Int)=qm b));iterate 3 ((all_goals (repeat' with_reducible first|apply aZ|refine aY ?_|intro)); (all_goals try (first | exact bt | exact rfl | exact (xK (ukR ab (by assumption))) | exact (Pr (ukR ab (by assumption))) | exact (xK (ukR ab (by assumption))).symm | exact (xK (Ca (k:=‹Nat›) aL ab)).symm | exact (xK (Ca (k:=‹Nat›) aL ab)) | exact (Pr (Ca (k:=‹Nat›) aL ab)) | exact (Tn aL ab) | exact (Qo (k:=‹Nat›) aL ab) | exact (ukS ab ab ab).1 | exact (ukS ab ab ab).2 | exact (Yj aL aL) | (have:=(ukS ab ab ab).1; refine bT ?_ ?_ <;> omega))); all_goals try first | refine ⟨‹Nat› + 1,?_⟩ | refine ⟨0,?_⟩)
def acr:bN:=(aO 333 JX (aO 254 KX (aO 222 NK (aO 355 JJ acZ))))
theorem ke:ay Tryz.prog (al tyT) acr:=(ah Zn (ah aad (ah WU (ah aax nj))))
theorem aej (hk:k<=l.length) (h0:0<(k:Int)):l[k - 1]? = some (l.getD ((k:Int) - 1).toNat (au (.nm .field))):=by
 rw [show ((k:Int) - 1).toNat=k - 1 by omega,List.getD_eq_getElem?_getD,List.getElem?_eq_getElem (by omega)]; rfl
variable {x:Field}
theorem VZ (h:(k:Int)<=0\/f_ (l.getD ((k:Int) - 1).toNat (au (.nm .field))) x=true) (hk:k<=l.length):xX l k x:=by
 by_cases h0:0<(k:Int)
 ·exact .inr ⟨_,aej hk h0,h.resolve_left aL⟩
 exact .inl aL
theorem aco {v:Int}:(((bM.take k).filter (fun s=>decide (s.since<=v))).length+1)*32<=140737488355328:=by
 have:=MM (v:=v) (k:=k); omega
theorem acC {v:Int} (h1:1<=v) (h3:v<=3) (hk:8<=(k:Int)):(bM.take k).filter (fun s=>decide (s.since<=v))=aS v:=NW (by omega) (by show 8<=k; omega)
theorem aff {v:Int}:dQ (l.take 0) v=[]:=rfl
theorem aiB {v:Int}:ey (l.take 0) v=[]:=rfl
theorem ah3 {v:Int} (hx:l[k]? = some x) (h:x.num<=v):dQ (l.take k) v++[x]=dQ (l.take (k+1)) v:=SU hx h
theorem agM {v:Int} (hx:l[k]? = some x) (h:¬ x.num<=v):dQ (l.take k) v=dQ (l.take (k+1)) v:=X_ hx h
theorem afa {v:Int} (hx:l[k]? = some x) (h:¬ x.num<=v):ey (l.take k) v++[x]=ey (l.take (k+1)) v:=Tv hx h
theorem ahL {v:Int} (hx:l[k]? = some x) (h:x.num<=v):ey (l.take k) v=ey (l.take (k+1)) v:=XJ hx h
theorem ahF {v:Int} (hk:l.length<=k):dQ (l.take k) v=dQ l v:=Iw hk
theorem afA {v:Int} (hk:l.length<=k):ey (l.take k) v=ey l v:=JU hk
attribute [local irreducible] dQ ey
def aa1 (l:List Field):List (Nat × LI):=[(3,{ σ:=Nat,F:=fun k=>([(0,one (.fz (.nm .field) (l))),(3,one (.int (ij (l.take k):Nat))),(6,one (.fz (.nm .field) (l))),(7,one (.int (l).length)),(8,one (.int k))],[]),J:=fun k=>k<=l.length/\eh none l=eh (eY l k) (l.drop k)/\ij (l.take k)<=k*16404,μ:=fun k=>(l).length - k })]
def YZ (q:Int) (v:Int):List (Nat × LI):=[(5,{ σ:=Nat,F:=fun k=>([(1,one (.int (v))),(5,one (.own 0)),(15,one (.fz (.nm .spec) bM)),(16,one (.int 8)),(17,one (.int k))],[.row 255 (.nm .spec) (((bM.take k).filter (fun (s:Spec)=>decide (s.since<=v))))]),J:=fun k=>k<=8,μ:=fun k=>8 - k })]
def Su (l:List Field) (v:Int):List (Nat × LI):=[(2,{ σ:=Nat,F:=fun k=>([(1,one (.int (v))),(4,one (.own 0)),(5,one (.own 1)),(8,one (.fz (.nm .field) (l))),(9,one (.int (l).length)),(10,one (.int k))],[.row 219 (.nm .field) ((dQ (l.take k) v)),.row 219 (.nm .field) ((ey (l.take k) v))]),J:=fun k=>k<=l.length,μ:=fun k=>(l).length - k })]
def Xa (l:List Field):List (Nat × LI):=[(3,{ σ:=Nat,F:=fun k=>([(2,one (.ptr 0 0)),(3,one (.ptr 1 0)),(6,one (.fz (.nm .field) (l))),(7,one (.int (l).length)),(8,one (.int k))],[.box 35 (cellsOf (.nm .command) (cM)),.box 35 (cellsOf (.nm .command) ((cR (l.take k))))]),J:=fun k=>k<=l.length,μ:=fun k=>(l).length - k })]
def GD:Kn:=aK (ae (kC (aX 0 0)) (ae (kC (aX 1 0)) ao)) (aC (dG 50 (ax (cL .u8) dC)) (aC (dG 3 (ax cI dC)) aw)) fun _ ((b,_),(s,_),_)=>⟨[0<=s,s<=(b.length:Int),b.length*1<=140737488355328],[.c (.u64 ((U64.mk (aj (b.drop s.toNat)).1)).n),.c (.int (((aj (b.drop s.toNat)).2.2)))],some ([.box 50 ([.fz .u8 ((b))]),.box 3 ([.int ((s+((aj (b.drop s.toNat)).2.1:Nat)))])]),false⟩
theorem Sy:CK 356 GD:=ag fun _ ((b,_),(s,_),_) hp=>by
 have h0:=cc hp;have h1:=cc (eT hp);have h2:=cc (eT (eT hp));refine br ke [] Tryz.func356 (?_:(fun q0=>0<=s/\s<=(↑b.length:Int)/\(q0.fst<18446744073709551616->I64 (↑q0.snd.fst:Int)->I64 q0.snd.snd->I64 (s+(↑q0.snd.fst:Int))/\q0.fst=(aj (List.drop s.toNat b)).fst/\q0.snd.snd=(aj (List.drop s.toNat b)).snd.snd/\b=b/\s+(↑q0.snd.fst:Int)=s+(↑(aj (List.drop s.toNat b)).snd.fst:Int))) (aj (List.drop s.toNat b)));(repeat' with_reducible first|apply aZ|refine aY ?_|intro)
 all_goals (first | exact bt | (have:=(oy b s.toNat).1; refine bT ?_ ?_ <;> omega))
def zu:Kn:=aK (ae (kC (cL .u8)) ao) aw fun (b,_) _=>⟨[],[.agg (cellsOf (.nm .field) (im b))],none,false⟩
theorem P_:CK 330 zu:=ag fun (b,_) _ _=>by
 refine av ke [] Tryz.func330 (?_:(fun q1=>(fun q2=>(fun q0=>b.length*1<=140737488355328->I64 q1.num->I64 q1.wire->I64 (↑q1.k:Int)->I64 q1.e->0<=(↑q1.k:Int)/\(↑q1.k:Int)<=(↑b.length:Int)/\(q2.fst<18446744073709551616->I64 (↑q2.snd.fst:Int)->I64 q2.snd.snd->(q1.wire=0->q1.num=(im b).num/\q1.wire=(im b).wire/\q2.fst=(im b).n.n/\(im b).b=[])/\(¬q1.wire=0->I64 q0/\0<=q0/\q0<=(↑b.length:Int)/\(List.drop q0.toNat b).length*1<=140737488355328/\q1.num=(im b).num/\q1.wire=(im b).wire/\0=(im b).n.n/\List.drop q0.toNat b=(im b).b))) ((↑q1.k:Int)+(↑q2.snd.fst:Int))) (aj (List.drop q1.k b))) (aR b));(repeat' with_reducible first|apply aZ|refine aY ?_|intro)
 all_goals (first | exact bt | exact (congrArg Field.num (GJ ab)) | exact (congrArg Field.wire (GJ ab)) | exact (congrArg (fun f=>f.n.n) (GJ ab)) | exact (congrArg Field.b (GJ ab)).symm | exact (congrArg Field.num (FF ab)) | exact (congrArg Field.wire (FF ab)) | exact (congrArg (fun f=>f.n.n) (FF ab)) | exact (congrArg Field.b (FF ab)) | (have h1:=qR b; have h2:=oy b (aR b).k; first | omega | (refine bT ?_ ?_ <;> omega) | (rw [List.length_drop]; omega)))
def EV:Kn:=aK (ae (kC (cL (.nm .field))) ao) aw fun (l,_) _=>⟨[],[.c (.int ((cO l)))],none,false⟩
theorem Sn:CK 221 EV:=ag fun (l,_) _ _=>by
 refine av ke (aa1 l) Tryz.func221 (?_:(fun (q3:den (Sh.nm NT.field))=>(fun (q2:Nat)=>(fun (q1:Int)=>(fun (q0:Int)=>l.length*48<=140737488355328->∃ (s0:Nat),(l=l/\q1=(↑(ij (List.take s0 l)):Int)/\l=l/\(↑l.length:Int)=(↑q2:Int)/\q1=(↑s0:Int))/\(s0<=q2/\eh none l=eh (eY l s0) (List.drop s0 l)/\ij (List.take s0 l)<=s0*16404)/\∀ (s:Nat),(fun (q6:Int)=>(fun (q5:Int)=>(fun (q4:den (Sh.nm NT.field))=>s<=q2/\eh none l=eh (eY l s) (List.drop s l)/\ij (List.take s l)<=s*16404->(q5<(↑q2:Int)->q1<=q5/\q5<(↑l.length:Int)/\∀ (x:Field),l[s]? = some x->I64 x.num->I64 x.wire->x.n.n<18446744073709551616->x.b.length*1<=140737488355328->(ew x=false->q0=cO l)/\(ew x=true->(q1<q5->I64 (q5 - q0))/\(q1<q5->q1<=q5 - q0/\q5 - q0<(↑l.length:Int))/\((q1<q5->I64 q4.num/\I64 q4.wire/\q4.n.n<18446744073709551616/\q4.b.length*1<=140737488355328)->(q1<q5/\f_ q4 x=false->5=cO l)/\(q5<=q1\/f_ q4 x=true->(16384<(↑x.b.length:Int)->4=cO l)/\((↑x.b.length:Int)<=16384->x.b.length<=16384/\I64 (q6+(↑(cz x).length:Int))/\I64 (q5+q0)/\∃ (s':Nat),(l=l/\q6+(↑(cz x).length:Int)=(↑(ij (List.take s' l)):Int)/\l=l/\(↑q2:Int)=(↑q2:Int)/\q5+q0=(↑s':Int))/\(s' <= q2/\eh none l=eh (eY l s') (List.drop s' l)/\ij (List.take s' l)<=s' * 16404)/\q2 - s' < q2 - s)))))/\((↑q2:Int)<=q5->(16384<q6->4=cO l)/\(q6<=16384->q1=cO l))) (l.getD (q5 - q0).toNat q3)) (↑s:Int)) (↑(ij (List.take s l)):Int)) 1) 0) l.length) (au (Sh.nm NT.field)));iterate 3 ((all_goals (repeat' with_reducible first|apply aZ|refine aY ?_|intro)); (all_goals try (first | exact bt | exact rfl | exact (Nat.le_refl 0) | exact (aak ab ab ab) | exact (YI ab ab ab aL (aej aL ab) ab) | exact (ZS ab ab ab (VZ (by assumption) aL) ab) | exact (Jv ab ab ab (VZ (by assumption) aL) aL) | exact (Pg ab aL ab) | exact (LZ ab aL aL) | (have h1:=rT (f:=‹Field›) aL ab; have h2:=Jw (show l[_]? = some ‹Field› by with_reducible assumption); first | omega | (refine bT ?_ ?_ <;> omega)))); all_goals try first | refine ⟨‹Nat› + 1,?_⟩ | refine ⟨0,?_⟩)
def EW:Kn:=aK (ae (kC cI) (ae (kC cI) ao)) aw fun (q,v,_) _=>⟨[q=1],[.c (.fz (.nm .spec) ((aS v)))],none,false⟩
theorem SL:CK 220 EW:=ag fun (q,v,_) _ hp=>by
 have h0:=cc hp;refine av ke (YZ q v) Tryz.func220 (?_:(fun (q2:Int)=>(fun (q1:Int)=>(fun (q0:Nat)=>I64 q->I64 v->(v<q1\/3<v->aS v=[])/\(q1<=v/\v<=3->q=q1/\(bM.length*32<=140737488355328->∃ (s0:Nat),(v=v/\bM=bM/\(↑bM.length:Int)=q2/\0=(↑s0:Int)/\List.filter (fun (s:Spec)=>decide (s.since<=v)) (List.take s0 bM)=[])/\s0<=q0/\∀ (s:Nat),(fun (q4:Int)=>(fun (q3:List (den (Sh.nm NT.spec)))=>s<=q0->((↑s:Int)<q2->0<=(↑s:Int)/\(↑s:Int)<(↑bM.length:Int)/\∀ (x:Spec),bM[s]? = some x->mP x ((x.since<=v->(q3.length+[x].length)*32<=140737488355328/\I64 q4/\∃ (s':Nat),(v=v/\bM=bM/\q2=q2/\q4=(↑s':Int)/\q3++[x]=List.filter (fun (s:Spec)=>decide (s.since<=v)) (List.take s' bM))/\s' <= q0/\q0 - s' < q0 - s)/\(v<x.since->I64 q4/\∃ (s':Nat),(v=v/\bM=bM/\q2=q2/\q4=(↑s':Int)/\q3=List.filter (fun (s:Spec)=>decide (s.since<=v)) (List.take s' bM))/\s' <= q0/\q0 - s' < q0 - s)))/\(q2<=(↑s:Int)->q3=aS v)) (List.filter (fun (s:Spec)=>decide (s.since<=v)) (List.take s bM))) ((↑s:Int)+q1)))) 8) 1) 8);iterate 3 ((all_goals (repeat' with_reducible first|apply aZ|refine aY ?_|intro)); (all_goals try (first | exact bt | exact rfl | exact (HT ab).symm | exact (NO ab ab) | exact (QK ab aL) | exact aco | exact (acC aL aL aL) | (have hl:bM.length=8:=rfl; omega))); all_goals try first | refine ⟨‹Nat› + 1,?_⟩ | refine ⟨0,?_⟩)
def yC:Kn:=aK (ae (kC (cL (.nm .field))) (ae (kC cI) ao)) aw fun (l,v,_) _=>⟨[],[.c (.fz (.nm .field) ((dQ l v))),.c (.fz (.nm .field) ((ey l v)))],none,false⟩
theorem Pe:CK 288 yC:=ag fun (l,v,_) _ _=>by
 refine av ke (Su l v) Tryz.func288 (?_:(fun (q0:Nat)=>(fun (q1:Int)=>l.length*48<=140737488355328->I64 v->∃ (s0:Nat),(v=v/\l=l/\(↑l.length:Int)=q1/\0=(↑s0:Int)/\dQ (List.take s0 l) v=[]/\ey (List.take s0 l) v=[])/\s0<=q0/\∀ (s:Nat),(fun (q3:List Field)=>(fun (q2:Int)=>s<=q0->((↑s:Int)<q1->0<=(↑s:Int)/\(↑s:Int)<(↑l.length:Int)/\∀ (x:Field),(fun (q4:Prop)=>l[s]? = some x->I64 x.num->I64 x.wire->x.n.n<18446744073709551616->q4->q4->(x.num<=v->((dQ q3 v).length+[x].length)*48<=140737488355328/\I64 q2/\∃ (s':Nat),(v=v/\l=l/\q1=q1/\q2=(↑s':Int)/\dQ q3 v++[x]=dQ (List.take s' l) v/\ey q3 v=ey (List.take s' l) v)/\s' <= q0/\q0 - s' < q0 - s)/\(v<x.num->((ey q3 v).length+[x].length)*48<=140737488355328/\I64 q2/\∃ (s':Nat),(v=v/\l=l/\q1=q1/\q2=(↑s':Int)/\dQ q3 v=dQ (List.take s' l) v/\ey q3 v++[x]=ey (List.take s' l) v)/\s' <= q0/\q0 - s' < q0 - s)) (x.b.length*1<=140737488355328))/\(q1<=(↑s:Int)->dQ q3 v=dQ l v/\ey q3 v=ey l v)) ((↑s:Int)+1)) (List.take s l)) (↑q0:Int)) l.length);iterate 3 ((all_goals (repeat' with_reducible first|apply aZ|refine aY ?_|intro)); (all_goals try (first | exact bt | exact aff | exact aiB | exact (ah3 ab ab) | exact (agM ab aL) | exact (afa ab aL) | exact (ahL ab ab) | exact (ahF aL) | exact (afA aL) | (have h1:=Ut (l.take ‹Nat›) v; have h2:=FZ (l.take ‹Nat›) v; rw [List.length_take] at h1 h2; simp only [List.length_cons,List.length_nil]; omega))); all_goals try first | refine ⟨‹Nat› + 1,?_⟩ | refine ⟨0,?_⟩)
def DL:Kn:=aK (ae (kC (cL (.nm .field))) ao) aw fun (l,_) _=>⟨[∀ f ∈ l,f.b.length<=16384],[.agg (cellsOf (.nm .command) (cR l))],none,false⟩
theorem SP:CK 289 DL:=ag fun (l,_) _ hp=>by
 have h0:=cc hp;refine av ke (Xa l) Tryz.func289 (?_:(fun (q3:Prop)=>(fun (q2:Int)=>(fun (q1:Int)=>(fun (q0:Nat)=>(fun (q4:Prop)=>l.length*48<=140737488355328->∃ (s0:Nat),(fun (q5:Command)=>(q3/\(↑l.length:Int)=(↑q0:Int)/\q2=(↑s0:Int)/\q2=cM.kind/\q2=cM.client/\q2=cM.seq/\q2=cM.set/\q2=cM.id/\q2=cM.n/\cM.chunks=[]/\Str.mk []=cM.text/\q2=q5.kind/\q2=q5.client/\q2=q5.seq/\q2=q5.set/\q2=q5.id/\q2=q5.n/\q5.chunks=[]/\Str.mk []=q5.text)/\s0<=q0/\∀ (s:Nat),(fun (q8:Nat)=>(fun (q7:Int)=>(fun (q9:Prop)=>(fun (q6:Command)=>(fun (q13:Str)=>(fun (q12:Int)=>(fun (q11:List Int)=>(fun (q10:Int)=>s<=q0->((↑s:Int)<(↑q0:Int)->q2<=(↑s:Int)/\(↑s:Int)<(↑l.length:Int)/\∀ (x:Field),(fun (q15:Int)=>(fun (q14:Int)=>l[s]? = some x->I64 q14->I64 x.wire->x.n.n<18446744073709551616->x.b.length*1<=140737488355328->(q14=q1->q9/\∃ (s':Nat),(q3/\q4/\q7=(↑s':Int)/\bm cM cM (aP (Command.mk q15 q10 q6.seq q6.set q6.id q6.n q11 q13) (cR (List.take s' l))))/\s' <= q0/\q0 - s' < q8)/\(¬q14=q1->(q14=2->q9/\∃ (s':Nat),(q3/\q4/\q7=(↑s':Int)/\bm cM cM (aP (Command.mk q12 q15 q6.seq q6.set q6.id q6.n q11 q13) (cR (List.take s' l))))/\s' <= q0/\q0 - s' < q8)/\(¬q14=2->(q14=3->q9/\∃ (s':Nat),(q3/\q4/\q7=(↑s':Int)/\bm cM cM (aP (Command.mk q12 q10 q15 q6.set q6.id q6.n q11 q13) (cR (List.take s' l))))/\s' <= q0/\q0 - s' < q8)/\(¬q14=3->(q14=4->q9/\∃ (s':Nat),(q3/\q4/\q7=(↑s':Int)/\bm cM cM (aP (Command.mk q12 q10 q6.seq q15 q6.id q6.n q11 q13) (cR (List.take s' l))))/\s' <= q0/\q0 - s' < q8)/\(¬q14=4->(q14=5->q9/\∃ (s':Nat),(q3/\q4/\q7=(↑s':Int)/\bm cM cM (aP (Command.mk q12 q10 q6.seq q6.set q15 q6.n q11 q13) (cR (List.take s' l))))/\s' <= q0/\q0 - s' < q8)/\(¬q14=5->(q14=6->q9/\∃ (s':Nat),(q3/\q4/\q7=(↑s':Int)/\bm cM cM (aP (Command.mk q12 q10 q6.seq q6.set q6.id q15 q11 q13) (cR (List.take s' l))))/\s' <= q0/\q0 - s' < q8)/\(¬q14=6->(q14=7->x.b.length<=100000/\((ld x.b).length*8<=140737488355328->I64 (qm x.b)->q9/\∃ (s':Nat),(q3/\q4/\q7=(↑s':Int)/\bm cM cM (aP (Command.mk q12 q10 q6.seq q6.set q6.id q6.n (ld x.b) q13) (cR (List.take s' l))))/\s' <= q0/\q0 - s' < q8))/\(¬q14=7->(q14=8->q9/\∃ (s':Nat),(q3/\q4/\q7=(↑s':Int)/\bm cM cM (aP (Command.mk q12 q10 q6.seq q6.set q6.id q6.n q11 (Str.mk x.b)) (cR (List.take s' l))))/\s' <= q0/\q0 - s' < q8)/\(¬q14=8->q9/\∃ (s':Nat),(q3/\q4/\q7=(↑s':Int)/\bm cM cM (aP q6 (cR (List.take s' l))))/\s' <= q0/\q0 - s' < q8))))))))) x.num) (eU x.n.n))/\((↑q0:Int)<=(↑s:Int)->aP q6 (cR l))) q6.client) q6.chunks) q6.kind) q6.text) (cR (List.take s l))) (I64 q7)) ((↑s:Int)+q1)) (q0 - s)) (cR (List.take s0 l))) ((↑q0:Int)=(↑q0:Int))) l.length) 1) 0) (l=l));iterate 3 ((all_goals (repeat' with_reducible first|apply aZ|refine aY ?_|intro)); (all_goals try (first | exact bt | exact rfl | (have:=h0 _ (abl ab); omega) | (rw [dJ ab,<- aib ab] <;> first | rfl | exact (dW ab).symm) | (rw [dJ ab,<- ahS ab] <;> first | rfl | exact (dW ab).symm) | (rw [dJ ab,<- ahm ab] <;> first | rfl | exact (dW ab).symm) | (rw [dJ ab,<- ahx ab] <;> first | rfl | exact (dW ab).symm) | (rw [dJ ab,<- afk ab] <;> first | rfl | exact (dW ab).symm) | (rw [dJ ab,<- afs ab] <;> first | rfl | exact (dW ab).symm) | (rw [dJ ab,<- agi ab] <;> first | rfl | exact (dW ab).symm) | (rw [dJ ab,<- ahY ab] <;> first | rfl | exact (dW ab).symm) | (rw [dJ ab,<- agD aL] <;> first | rfl | exact (dW ab).symm) | (rw [List.take_of_length_le aL]))); all_goals try first | refine ⟨‹Nat› + 1,?_⟩ | refine ⟨0,?_⟩)
def abr:bN:=(aO 289 DL (aO 288 yC (aO 220 EW (aO 221 EV (aO 330 zu (aO 356 GD acr))))))
theorem nB:ay Tryz.prog (al tyT) abr:=(ah SP (ah Pe (ah SL (ah Sn (ah P_ (ah Sy ke))))))
end Go.Proofs.YticbaadnibdbkaaGreat
