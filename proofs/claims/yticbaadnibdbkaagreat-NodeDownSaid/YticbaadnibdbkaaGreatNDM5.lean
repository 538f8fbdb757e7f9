/- What leads to the law, part 5. Conditions: each lemma's own. -/
import Derived.Test.YticbaadnibdbkaaGreatNDM4
set_option linter.unusedVariables false
set_option linter.unusedSimpArgs false
set_option maxHeartbeats 2000000
set_option linter.defProp false
noncomputable section
namespace Go.Proofs.YticbaadnibdbkaaGreat
open Go.RowKit
def ah7:=@List.take_succ_cons
def adv:=@Classical.not_not
theorem adJ (k:Int):(if k=12 then some (Span.mk 0 64) else if k=8 then some (Span.mk 2 3) else if k=6 then some (Span.mk 0 8) else none).getD (aj (.nm .span))=⟨(vS k).1,(vS k).2⟩:=by
 by_cases a:k=12
 ·subst a; rfl
 by_cases b:k=8
 ·subst b; rfl
 by_cases c:k=6
 ·subst c; rfl
 simp [vS,vE,a,b,c,aj]; rfl
def MT:Kn:=aO (ae (kT (.nm .command)) al) av fun (c,_) _=>⟨[],[.c (.bool (.atom ((mo c))))],none,false⟩
theorem abw:CK 91 MT:=ah fun (c,_) _ _=>by
 refine ao yD [] Tryz.func91 (?_:(fun a=>(fun d=>(fun i=>(fun j=>(fun k=>(fun l=>(fun h=>(fun e=>(fun m=>(fun o=>(fun g=>(fun f=>bB c ((d=3->(f=true->(cJ c.chunks=true->g)/\(cJ c.chunks=false->e))/\(f=false->e))/\(¬d=3->(d=11->(f=true->(h->((↑c.text.b.length:Int)<=16->o)/\(16<(↑c.text.b.length:Int)->e))/\(¬h->e))/\(f=false->e))/\(¬d=11->(f=true->(h->g)/\(¬h->e))/\(f=false->e))))) (decide (m.lo<=c.n) && decide (c.n<=m.hi))) ((i->o)/\(¬i->e))) ((j=true->(k=true->(l=true->oA c.id 1048576 ([5,7,9,10,11].contains d)=mo c)/\(l=false->e))/\(k=false->e))/\(j=false->e))) ((if d=12 then some (Span.mk 0 64) else if d=a then some (Span.mk 2 3) else if d=6 then some (Span.mk 0 a) else none).getD (aj (Sh.nm NT.span)))) (false=mo c)) ((↑c.chunks.length:Int)=0)) (oA c.set a ([2,3,4].contains d))) (oA c.seq 1048576 ![1,a].contains d)) (oA c.client a ![a].contains d)) (c.text=Str.mk [])) c.kind) (8:Int));simp only [adJ];(repeat' with_reducible first|apply a_|refine aY ?_|intro)
 all_goals ((unfold mo chF txF; simp_all) <;> (intros; omega))
def Ij:Kn:=aO (ae (kT (.nm .state)) (ae (kC cI) al)) av fun (s,v,_) _=>⟨[1<=s.next/\s.next<=1048576],[.c (.bool (.atom ((gh s v))))],none,false⟩
theorem Tm:CK 298 Ij:=ah fun (s,v,_) _ c=>by
 have d:=cg c;refine ao yD [] Tryz.func298 (?_:(fun b=>(fun a=>eN s (I64 v->(b<=16->I64 a/\a<=1048576)/\(16<b\/aA Snap.id a 0 s.snaps=false->false=gh s v)/\(b<=16/\aA Snap.id a 0 s.snaps=true->(v<3->s.snaps.all (dG v 0)=gh s v)/\(3<=v->s.snaps.all (dG v 16)=gh s v)))) (s.next - 1)) (↑s.snaps.length:Int));(repeat' with_reducible first|apply a_|refine aY ?_|intro)
 all_goals (first | exact bq | ((simp only [gh,yI]; simp_all) <;> (intros; omega)) | (simp only [gh,yI]; grind))
def afu:bH:=(aP 298 Ij (aP 91 MT ae3))
def ES:aw Tryz.prog (ak tyT) afu:=(ag Tm (ag abw yD))
def eE (s:State) (a:Nat) (k:Nat):Int:=(((s.snaps.drop (a+1)).take k).filter fun x=>decide (x.set=(s.snaps.getD a (aj (.nm .snap))).set)).length
def mD (s:State) (a:Int):Bool:=if a<0\/(s.snaps.length:Int)<=a then false else decide (eE s a.toNat s.snaps.length<s.keep)
def nch (l:List Snap):Nat:=(l.flatMap Snap.chunks).length
def Ed (c:Int) (l:List Snap):Nat:=(l.flatMap Snap.chunks).count c
def br (id:Int) (l:List Snap):List Snap:=l.filter fun x=>!decide (x.id=id)
variable {k:Nat} {α:Type}
def gd {l:List α} {d:α} (h:(k:Int)<l.length):l[k]? = some (l.getD k d):=by
 have a:k<l.length:=by omega
 rw [List.getD_eq_getElem?_getD,List.getElem?_eq_getElem a]; rfl
variable {a:Nat}
def ZI {s:State}:0=eE s a 0:=by simp [eE]
def SY {s:State}:eE s a k<=(k:Int):=by
 have b:=List.length_filter_le (fun x:Snap=>decide (x.set=(s.snaps.getD a (aj (.nm .snap))).set)) ((s.snaps.drop (a+1)).take k);have c:((s.snaps.drop (a+1)).take k).length<=k:=by rw [List.length_take]; omega
 unfold eE; omega
def TQ {s:State}:0<=eE s a k:=by unfold eE; omega
def acX {s:State} (h:a+1+k<=s.snaps.length) (b:s.snaps.length*64<=140737488355328):I64 (eE s a k+1):=by
 have c:=SY (s:=s) (a:=a) (k:=k);have d:=TQ (s:=s) (a:=a) (k:=k);constructor <;> omega
variable {x:Snap}
def abQ {s:State} (b:(s.snaps.drop (a+1))[k]? = some x) (h:x.set=(s.snaps.getD a (aj (.nm .snap))).set):eE s a k+1=eE s a (k+1):=by
 unfold eE;rw [ai b,List.filter_append,List.length_append];simp [h]
def aa6 {s:State} (b:(s.snaps.drop (a+1))[k]? = some x) (h:¬ x.set=(s.snaps.getD a (aj (.nm .snap))).set):eE s a k=eE s a (k+1):=by
 unfold eE;rw [ai b,List.filter_append,List.length_append];rw [show List.filter (fun x:Snap=>decide (x.set=(s.snaps.getD a (aj (.nm .snap))).set)) [x]=[] by simp only [List.filter_cons,h,decide_false,List.filter_nil]; rfl];simp
variable {a:Int}
def QF {s:State} (b:0<=a) (c:a<s.snaps.length) (h:(s.snaps.length:Int)<=a+1+k):decide (eE s a.toNat k<s.keep)=mD s a:=by
 unfold mD;rw [if_neg aI];have e:∀ m:Nat,(s.snaps.length:Int)<=a+1+m->eE s a.toNat m=eE s a.toNat s.snaps.length:=fun m d=>by
  unfold eE;rw [List.take_of_length_le (by rw [List.length_drop]; omega),List.take_of_length_le (by rw [List.length_drop]; omega)]
 rw [e k h]
def Qm {s:State} (h:a<0\/(s.snaps.length:Int)<=a):false=mD s a:=by unfold mD; rw [if_pos h]
variable {l:List Snap} {id:Int}
def adY {y:Snap} (h:¬ x.id=id) (b:l[k]? = some x) (c:l[k]? = some y):br id (l.take k)++[y]=br id (l.take (k+1)):=by
 rw [b] at c; cases c;unfold br; rw [ai b,List.filter_append]; simp [h]
def afS (b:l[k]? = some x) (h:x.id=id):br id (l.take k)=br id (l.take (k+1)):=by
 unfold br; rw [ai b,List.filter_append]; simp [h]
def ack (h:(l.length:Int)<=k):br id (l.take k)=br id l:=by rw [List.take_of_length_le aI]
def ZM (h:(k:Int)<l.length) (c:l.length*64<=140737488355328):((br id (l.take k)).length+[x].length)*64<=140737488355328:=by
 have b:=List.length_filter_le (fun x:Snap=>!decide (x.id=id)) (l.take k);rw [List.length_take] at b;unfold br;simp only [List.length_cons,List.length_nil];omega
def adH (st:State) (b:Int):List (Nat × LI):=[(5,{ σ:=Nat,F:=fun k=>([(1,one (.int (b))),(2,one (.ptr 0 0)),(5,one (.int (eE st b.toNat k))),(21,one (.fz (.nm .snap) (st.snaps.drop (b+1).toNat))),(22,one (.int (st.snaps.drop (b+1).toNat).length)),(23,one (.int k))],[.box 46 (cellsOf (.nm .state) (st))]),J:=fun k=>b.toNat+1+k<=st.snaps.length/\0<=b,μ:=fun k=>st.snaps.length - k })]
def Rg:Kn:=aO (ae (kT (.nm .state)) (ae (kC cI) al)) av fun (st,b,_) _=>⟨[],[.c (.bool (.atom ((mD st b))))],none,false⟩
theorem aaX:CK 347 Rg:=ah fun (st,b,_) _ _=>by
 refine ao ES (adH st b) Tryz.func347 (?_:(fun j=>(fun i=>(fun m=>(fun n=>(fun p=>(fun o=>(fun r=>(fun q=>(fun h=>(fun u=>(fun c=>(fun d=>eN st (I64 b->(b<j\/q<=b->false=mD st b)/\(m/\b<q->I64 (b+i)/\j<=b+i/\b+i<=q/\∃ t,(b=b/\j=eE st n t/\c=c/\(↑c.length:Int)=d/\j=(↑t:Int)/\dj st st)/\(p+t<=h/\m)/\∀ (s:Nat),(fun e=>(fun f=>p+s<=h/\m->((↑s:Int)<d->j<=(↑s:Int)/\(↑s:Int)<(↑c.length:Int)/\∀ (x:Snap),c[s]? = some x->dS x (m/\b<q/\dS r ((x.set=r.set->I64 (e+i)/\I64 f/\∃ g,(b=b/\e+i=eE st n g /\ c=c/\d=d/\f=(↑g:Int)/\dj st st)/\(p+g <= h/\m)/\h - g < h - s)/\(¬x.set=r.set->I64 f/\∃ g,(b=b/\e=eE st n g /\ c=c/\d=d/\f=(↑g:Int)/\dj st st)/\(p+g <= h/\m)/\h - g < h - s))))/\(d<=(↑s:Int)->decide (e<st.keep)=mD st b)) ((↑s:Int)+i)) (eE st n s)))) (↑(List.drop u o).length:Int)) (List.drop u o)) (b+i).toNat) o.length) (↑o.length:Int)) (o.getD n (aj (Sh.nm NT.snap)))) st.snaps) (n+1)) b.toNat) (j<=b)) (1:Int)) (0:Int));iterate 3 ((all_goals (repeat' with_reducible first|apply a_|refine aY ?_|intro)); (all_goals try (first | exact bq | exact ZI | exact (Qm ap) | exact (acX aI aI) | exact (QF aI aI (by rw [List.length_drop] at *; omega)) | exact (abQ (by rw [show (b+1).toNat=b.toNat+1 by omega] at *; assumption) ab) | exact (by have:=‹_<((List.length (List.drop _ _):Nat):Int)›; rw [List.length_drop] at this; omega) | exact (aa6 (by rw [show (b+1).toNat=b.toNat+1 by omega] at *; assumption) ab))); all_goals try first | refine ⟨‹Nat› + 1,?_⟩ | refine ⟨0,?_⟩)
def ae7:bH:=(aP 347 Rg afu)
def om:aw Tryz.prog (ak tyT) ae7:=(ag aaX ES)
theorem aa_ {l:List α} {d:α} (h:(k:Int)<l.length):l.set k (l.getD k d)=l:=by simp_all
def Lr (l:List Snap) (k:Nat):Nat:=((List.range k).filter fun (i:Nat)=>decide (0<Ed ((i:Int)+1) l)).length
def kY (l:List Snap):Nat:=Lr l 64
def acH (st:State):List (Nat × LI):=[(5,{ σ:=Nat,F:=fun k=>([(1,one (.ptr 0 0)),(2,one (.ptr 1 0)),(18,one (.int st.snaps.length)),(19,one (.int k))],[.box 46 ([.int ((st.version)),.int ((st.next)),.int ((st.keep)),.int ((st.quota)),.own 2,.own 3,.own 4]),.box 46 ([.int ((0)),.int ((0)),.int ((0)),.int ((0)),.em true,.em true,.em true]),.row 137 (.nm .sess) ((st.sess)),.row 139 (.nm .opn) ((st.opens)),.row 172 (.nm .snap) ((st.snaps))]),J:=fun k=>k<=st.snaps.length,μ:=fun k=>st.snaps.length - k })]
def PI:Kn:=aO (ae (kT (.nm .state)) (ae (kC cI) al)) av fun (st,v,_) _=>⟨[],[.c (.int ((eK st v)))],none,false⟩
theorem acG:CK 276 PI:=ah fun (st,v,_) _ _=>by
 refine ao om [] Tryz.func276 (?_:(fun c=>(fun i=>(fun s=>(fun h=>(fun g=>(fun f=>(fun j=>(fun e=>(fun d=>(fun m=>(fun n=>(fun o=>(fun p=>(fun t=>(fun u=>(fun w=>(fun y=>(fun q=>(fun r=>eN st (I64 v->(cn v f h=false->f=c)/\(cn v f h=true->(v<h->e<=g/\e<=g/\(r->j)/\((((t\/m=false)\/p)\/o)\/gh st v=false->6=c)/\(r/\gh st v=true->d=c))/\(h<=v->e<=g/\e<=g/\(q->j)/\((((t\/n=false)\/p)\/o)\/gh st v=false->6=c)/\(q/\gh st v=true->d=c))))) (((y/\m=true)/\w)/\u)) (((y/\n=true)/\w)/\u)) ((cn st.version f h=true/\cn st.next f g=true)/\cn st.keep d e=true)) (aA Sess.client e d st.sess=true/\i=true)) (aA Opn.set e d st.opens=true/\s=true)) ((cn st.version f h=false\/cn st.next f g=false)\/cn st.keep d e=false)) (aA Sess.client e d st.sess=false\/i=false)) (aA Opn.set e d st.opens=false\/s=false)) (cn st.quota d 64)) (cn st.quota d d)) (0:Int)) (8:Int)) (f<=st.next/\st.next<=g)) (1:Int)) (1048576:Int)) (3:Int)) (st.opens.all eI)) (st.sess.all ej)) (eK st v));(repeat' with_reducible first|apply a_|refine aY ?_|intro)
 all_goals (first | exact bq | exact (KW (a:=1) (b:=1048576) ab).1 | exact (KW (a:=1) (b:=1048576) ab).2 | (simp only [eK,lK,Cs,yB]; grind))
def FX:Kn:=aO (ae (kT (.nm .command)) (ae (kC cI) al)) av fun (c,v,_) _=>⟨[],[.c (.int ((bQ c v)))],none,false⟩
theorem Tp:CK 52 FX:=ah fun (c,v,_) _ _=>by
 refine ao om [] Tryz.func52 (?_:(fun b=>bB c (I64 v->I64 b->(cD v=false\/b=0->1=bQ c v)/\(cD v=true/\¬b=0->(v<b->10=bQ c v)/\(b<=v->(mo c=false->1=bQ c v)/\(mo c=true->0=bQ c v))))) (cF c.kind));rw [show cD v=cn v 1 3 from rfl];(repeat' with_reducible first|apply a_|refine aY ?_|intro)
 all_goals (first | exact bq | (simp only [bQ]; grind))
def Fl:Kn:=aO (ae (kT (.nm .state)) al) av fun (st,_) _=>⟨[],[.agg ([.int ((st.version)),.int ((st.next)),.int ((st.keep)),.int ((st.quota)),.own 0,.own 1,.own 2])],some ([.row 137 (.nm .sess) ((st.sess)),.row 139 (.nm .opn) ((st.opens)),.row 172 (.nm .snap) ((st.snaps))]),true⟩
theorem Wg:CK 61 Fl:=ah fun (st,_) _ _=>by
 refine dF om (acH st) Tryz.func61 (?_:(fun (c:List Snap)=>(fun (b:Nat)=>(fun (d:Prop)=>eN st (∃ (g:Nat),((↑c.length:Int)=(↑b:Int)/\0=(↑g:Int)/\st.version=st.version/\st.next=st.next/\st.keep=st.keep/\st.quota=st.quota/\d/\d/\d/\d/\st.sess=st.sess/\st.opens=st.opens/\c=c)/\g<=b/\∀ (s:Nat),(fun (e:den (Sh.nm NT.snap))=>s<=b->((↑s:Int)<(↑b:Int)->0<=(↑s:Int)/\(↑s:Int)<(↑c.length:Int)/\0<=(↑s:Int)/\(↑s:Int)<(↑c.length:Int)/\dS e (e.chunks.length*8<=140737488355328->dS e (I64 ((↑s:Int)+1)/\∃ (f:Nat),((↑b:Int)=(↑b:Int)/\(↑s:Int)+1=(↑f:Int)/\st.version=st.version/\st.next=st.next/\st.keep=st.keep/\st.quota=st.quota/\d/\d/\d/\d/\st.sess=st.sess/\st.opens=st.opens/\c.set s e=c)/\f <= b/\b - f < b - s)))/\((↑b:Int)<=(↑s:Int)->dj st st)) (c.getD s (aj (Sh.nm NT.snap))))) ((0:Int)=0)) c.length) st.snaps);iterate 3 ((all_goals (repeat' with_reducible first|apply a_|refine aY ?_|intro)); (all_goals try (first | exact bq | exact rfl | exact (aa_ aI))); all_goals try first | refine ⟨‹Nat› + 1,?_⟩ | refine ⟨0,?_⟩)
def GX:Kn:=aO (ae (kT (.nm .snap)) (ae (kT (.nm .snap)) al)) av fun (x,y,_) _=>⟨[],[.c (.bool (.atom ((decide (x=y)))))],none,false⟩
theorem Vz:CK 119 GX:=ah fun (x,y,_) _ _=>by
 refine ao om [] Tryz.func119 (?_:dS x (dS y ((decide (x.chunks=y.chunks) && decide (x.id=y.id) && decide (x.set=y.set) && x.held == y.held && decide (x.tag=y.tag))=decide (x=y))));intros; cases x; cases y; simp only [Snap.mk.injEq]; grind
def Xz:bH:=(aP 119 GX (aP 61 Fl (aP 52 FX (aP 276 PI ae7))))
def pb:aw Tryz.prog (ak tyT) Xz:=(ag Vz (ag Wg (ag Tp (ag acG om))))
def H_ (l:List Snap) (id:Int) (k:Nat):List Int:=((List.range k).filter fun (i:Nat)=>decide (0<Ed ((i:Int)+1) l) && decide (Ed ((i:Int)+1) (br id l)=0)).map fun (i:Nat)=>(i:Int)+1
def eC (b:List Int) (l:List Int):List Int:=l.foldl (fun b n=>if 1<=n/\n<=64 then b.set n.toNat (b.getD n.toNat 0+1) else b) b
variable {a b:List Snap}
def afr (h:a.take k=b.take k) (e:decide (a.getD k (aj (.nm .snap))=b.getD k (aj (.nm .snap)))=true) (c:(k:Int)<a.length) (d:(k:Int)<b.length):a.take (k+1)=b.take (k+1):=Bl h aI aI (adw e)
def ae5 (e:decide (a.getD k (aj (.nm .snap))=b.getD k (aj (.nm .snap)))=false) (_:(k:Int)<a.length) (_:(k:Int)<b.length):false=decide (a=b):=by
 symm; apply ahP; rintro rfl; simp at e
theorem abF (h:nch l<=1048576):nch (br id l)<=1048576:=by
 refine Nat.le_trans ?_ h;unfold nch br;induction l with
 | nil=>exact Nat.le_refl _
 | cons x l c=>
  have d:(l.flatMap Snap.chunks).length<=1048576:=by unfold nch at h; rw [List.flatMap_cons,List.length_append] at h; omega
  have:=c d;grind
def nC (l:List Snap) (id:Int):List Int:=H_ l id 64
def Gn (c l:List Int):Prop:=∀ i,0<=c.getD i 0/\c.getD i 0+l.length<=4611686018427387904
variable {xs:List Int} {i:Nat}
theorem Lb {j:Nat} {v:Int}:(xs.set j v).getD i 0=if j=i/\j<xs.length then v else xs.getD i 0:=by grind
theorem DP:∀ (l xs:List Int) (i:Nat),xs.getD i 0<=(eC xs l).getD i 0/\(eC xs l).getD i 0<=xs.getD i 0+l.length
 | [],xs,i=>by simp [eC]
 | n :: l,xs,i=>by
  have h:=DP l (if 1<=n/\n<=64 then xs.set n.toNat (xs.getD n.toNat 0+1) else xs) i;have e:eC xs (n :: l)=eC (if 1<=n/\n<=64 then xs.set n.toNat (xs.getD n.toNat 0+1) else xs) l:=rfl;have c:xs.getD i 0<=(if 1<=n/\n<=64 then xs.set n.toNat (xs.getD n.toNat 0+1) else xs).getD i 0/\(if 1<=n/\n<=64 then xs.set n.toNat (xs.getD n.toNat 0+1) else xs).getD i 0<=xs.getD i 0+1:=by
   split
   ·rw [Lb]; split
    ·grind
    omega
   omega
  grind
variable {l:List Int} {n:Int}
def BQ (c:l[k]? = some n):eC xs (l.take (k+1))=if 1<=n/\n<=64 then (eC xs (l.take k)).set n.toNat ((eC xs (l.take k)).getD n.toNat 0+1) else eC xs (l.take k):=by
 rw [ai c,eC,List.foldl_append]; rfl
def afs (c:l[k]? = some n) (h:1<=n/\n<=64):(eC xs (l.take k)).set n.toNat ((eC xs (l.take k)).getD n.toNat (aj .int)+1)=eC xs (l.take (k+1)):=by rw [BQ c,if_pos h]; rfl
def afq (c:l[k]? = some n) (h:¬ (1<=n/\n<=64)):eC xs (l.take k)=eC xs (l.take (k+1)):=by rw [BQ c,if_neg h]
def afU (h:Gn xs l):I64 ((eC xs (l.take k)).getD n.toNat (aj .int)+1):=by
 have c:=DP (l.take k) xs n.toNat;have d:=h n.toNat;rw [List.length_take] at c;show I64 ((eC xs (l.take k)).getD n.toNat 0+1);constructor <;> omega
def Jg (a:List Snap) (b:List Snap):List (Nat × LI):=[(4,{ σ:=Nat,F:=fun k=>([(0,one (.fz (.nm .snap) (a))),(1,one (.fz (.nm .snap) (b))),(5,one (.int k))],[]),J:=fun k=>k<=a.length/\a.length=b.length/\a.take k=b.take k,μ:=fun k=>a.length - k })]
def ahp (l:List Int) (xs:List Int):List (Nat × LI):=[(1,{ σ:=Nat,F:=fun k=>([(0,one (.ptr 0 0)),(6,one (.fz .int (l))),(7,one (.int (l).length)),(8,one (.int k))],[.arr 338 .int 65 ((eC xs (l.take k)))]),J:=fun k=>k<=l.length,μ:=fun k=>(l).length - k })]
def Pr:Kn:=aO (ae (kT (.nm .state)) (ae (kT (.nm .command)) al)) av fun (st,c,_) _=>⟨[],[.c (.int ((if eK st st.version=0 then bQ c st.version else 1)))],none,false⟩
theorem acA:CK 260 Pr:=ah fun (st,c,_) _ _=>by
 refine ao pb [] Tryz.func260 (?_:(fun e=>(fun d=>(fun f=>eN st (bB c (I64 d->(¬d=0->1=f)/\(d=0->I64 e->e=f)))) (if d=0 then e else 1)) (eK st st.version)) (bQ c st.version));grind
def sK:Kn:=aO (ae (kC (cL (.nm .snap))) (ae (kC (cL (.nm .snap))) al)) av fun (a,b,_) _=>⟨[],[.c (.bool (.atom ((decide (a=b)))))],none,false⟩
theorem Eo:CK 70 sK:=ah fun (a,b,_) _ _=>by
 refine ao pb (Jg a b) Tryz.func70 (?_:(fun (c:Nat)=>(fun (f:den (Sh.nm NT.snap))=>(fun (d:Int)=>a.length*64<=140737488355328->b.length*64<=140737488355328->(¬d=(↑b.length:Int)->false=decide (a=b))/\(d=(↑b.length:Int)->∃ (g:Nat),(a=a/\b=b/\0=(↑g:Int))/\(g<=c/\c=b.length/\List.take g a=List.take g b)/\∀ (s:Nat),(fun (h:Bool)=>s<=c/\c=b.length/\List.take s a=List.take s b->((↑s:Int)<d->0<=(↑s:Int)/\(↑s:Int)<d/\0<=(↑s:Int)/\(↑s:Int)<(↑b.length:Int)/\dS (a.getD s f) (dS (b.getD s f) ((h=false->false=decide (a=b))/\(h=true->I64 ((↑s:Int)+1)/\∃ (e:Nat),(a=a/\b=b/\(↑s:Int)+1=(↑e:Int))/\(e <= c/\c=b.length/\List.take e a=List.take e b)/\c - e < c - s))))/\(d<=(↑s:Int)->true=decide (a=b))) (decide (a.getD s f=b.getD s f)))) (↑a.length:Int)) (aj (Sh.nm NT.snap))) a.length);iterate 3 ((all_goals (repeat' with_reducible first|apply a_|refine aY ?_|intro)); (all_goals try (first | exact bq | exact rfl | exact (ZH ab) | exact (afr ab ab ab aI) | exact (ae5 ab aI aI) | exact (Qc aI ab aI))); all_goals try first | refine ⟨‹Nat› + 1,?_⟩ | refine ⟨0,?_⟩)
def Yv:Kn:=aO (ae (kC (ba 0 0)) (ae (kC (cL .int)) al)) (aH (Ex 338 .int 65) av) fun (_,l,_) (xs,_)=>⟨[Gn xs l],[],some ([.arr 338 .int 65 ((eC xs l))]),false⟩
theorem agp:CK 360 Yv:=ah fun (_,l,_) (xs,_) o=>by
 have p:=cg o;refine bA pb (ahp l xs) Tryz.func360 (?_:(fun (f:Int)=>(fun (c:Nat)=>(fun (e:Int)=>l.length*(8:Nat)<=(140737488355328:Nat)->∃ (j:Nat),(l=l/\(↑l.length:Int)=e/\(0:Int)=(↑j:Int)/\xs=eC xs (List.take j l))/\j<=c/\∀ (s:Nat),(fun (g:Int)=>(fun (h:List Int)=>s<=c->((↑s:Int)<e->(0:Int)<=(↑s:Int)/\(↑s:Int)<(↑l.length:Int)/\∀ (x:Int),(fun (m:den Sh.int)=>l[s]? = some x->I64 x->(f<=x/\x<=(64:Int)->(0:Int)<=x/\x<(↑(65:Nat):Int)/\x.toNat<(65:Nat)/\I64 (m+f)/\(0:Int)<=x/\x<(↑(65:Nat):Int)/\(I64 m->x.toNat<(65:Nat)/\I64 g/\∃ (d:Nat),(l=l/\e=e/\g=(↑d:Int)/\h.set x.toNat (m+f)=eC xs (List.take d l))/\d <= c/\c - d < c - s))/\(x<f\/(64:Int)<x->I64 g/\∃ (d:Nat),(l=l/\e=e/\g=(↑d:Int)/\h=eC xs (List.take d l))/\d <= c/\c - d < c - s)) (h.getD x.toNat (aj Sh.int)))/\(e<=(↑s:Int)->h=eC xs l)) (eC xs (List.take s l))) ((↑s:Int)+f)) (↑c:Int)) l.length) (1:Int));iterate 3 ((all_goals (repeat' with_reducible first|apply a_|refine aY ?_|intro)); (all_goals try (first | exact bq | exact rfl | exact (afs ab (by constructor <;> omega)) | exact (afq ab aI) | exact (by rw [List.take_of_length_le aI]) | exact (afU ab))); all_goals try first | refine ⟨‹Nat› + 1,?_⟩ | refine ⟨0,?_⟩)
def XA:bH:=(aP 360 Yv (aP 70 sK (aP 260 Pr Xz)))
def LQ:aw Tryz.prog (ak tyT) XA:=(ag agp (ag Eo (ag acA pb)))
section
variable {B:Bool} {k:Nat}
variable {st:State} {v:Int}
end
def Yz:bH:=XA
def zp:aw Tryz.prog (ak tyT) Yz:=LQ
variable {a b:State}
def akC (h:((((¬ a.version=b.version\/¬ a.next=b.next)\/¬ a.keep=b.keep)\/¬ a.quota=b.quota)\/¬ ((a.sess.length:Nat):Int)=(b.sess.length:Nat))\/¬ ((a.opens.length:Nat):Int)=(b.opens.length:Nat)):false=decide (a=b):=by
 symm; apply ahP; rintro rfl; simp at h
def aiq {s:Nat} (h:¬ (a.sess.getD s (aj (.nm .sess))).client=(b.sess.getD s (aj (.nm .sess))).client\/¬ (a.sess.getD s (aj (.nm .sess))).seq=(b.sess.getD s (aj (.nm .sess))).seq\/¬ (a.sess.getD s (aj (.nm .sess))).last.code=(b.sess.getD s (aj (.nm .sess))).last.code\/¬ (a.sess.getD s (aj (.nm .sess))).last.n=(b.sess.getD s (aj (.nm .sess))).last.n):false=decide (a=b):=by
 symm; apply ahP; rintro rfl; simp at h
def aky {s:Nat} (h:¬ (a.opens.getD s (aj (.nm .opn))).set=(b.opens.getD s (aj (.nm .opn))).set\/¬ (a.opens.getD s (aj (.nm .opn))).client=(b.opens.getD s (aj (.nm .opn))).client):false=decide (a=b):=by
 symm; apply ahP; rintro rfl; simp at h
theorem SX {x y:Sess} (e:x.client=y.client) (f:x.seq=y.seq) (g:x.last.code=y.last.code) (h:x.last.n=y.last.n):x=y:=by
 obtain ⟨a,b,⟨c,d⟩⟩:=x; obtain ⟨j,m,⟨o,p⟩⟩:=y; simp_all
theorem aao {x y:Opn} (c:x.set=y.set) (d:x.client=y.client):x=y:=by cases x; cases y; simp_all
def aej {a b:List Sess} {s:Nat} (h:a.take s=b.take s) (c:(a.getD s (aj (.nm .sess))).client=(b.getD s (aj (.nm .sess))).client) (d:(a.getD s (aj (.nm .sess))).seq=(b.getD s (aj (.nm .sess))).seq) (e:(a.getD s (aj (.nm .sess))).last.code=(b.getD s (aj (.nm .sess))).last.code) (f:(a.getD s (aj (.nm .sess))).last.n=(b.getD s (aj (.nm .sess))).last.n) (g:s<a.length) (j:s<b.length):a.take (s+1)=b.take (s+1):=Bl h g j (SX c d e f)
def aeg {a b:List Opn} {s:Nat} (h:a.take s=b.take s) (c:(a.getD s (aj (.nm .opn))).set=(b.getD s (aj (.nm .opn))).set) (d:(a.getD s (aj (.nm .opn))).client=(b.getD s (aj (.nm .opn))).client) (e:s<a.length) (f:s<b.length):a.take (s+1)=b.take (s+1):=Bl h e f (aao c d)
theorem ake {s q:Nat} (j:a.version=b.version) (m:a.next=b.next) (o:a.keep=b.keep) (p:a.quota=b.quota) (c:a.sess.take s=b.sess.take s) (d:a.opens.take q=b.opens.take q) (e:a.sess.length<=s) (f:b.sess.length<=s) (g:a.opens.length<=q) (h:b.opens.length<=q):decide (a.snaps=b.snaps)=decide (a=b):=by
 rw [List.take_of_length_le e,List.take_of_length_le f] at c;rw [List.take_of_length_le g,List.take_of_length_le h] at d;cases a; cases b; simp_all
def aas (a:State) (b:State):List (Nat × LI):=[(4,{ σ:=Nat,F:=fun k=>([(2,one (.ptr 0 0)),(3,one (.ptr 1 0)),(5,one (.int k))],[.box 46 (cellsOf (.nm .state) (a)),.box 46 (cellsOf (.nm .state) (b))]),J:=fun k=>k<=a.sess.length/\a.sess.take k=b.sess.take k,μ:=fun k=>a.sess.length - k }),(9,{ σ:=Nat,F:=fun k=>([(2,one (.ptr 0 0)),(3,one (.ptr 1 0)),(6,one (.int k))],[.box 46 (cellsOf (.nm .state) (a)),.box 46 (cellsOf (.nm .state) (b))]),J:=fun k=>k<=a.opens.length/\a.opens.take k=b.opens.take k,μ:=fun k=>a.opens.length - k })]
def EY:Kn:=aO (ae (kT (.nm .state)) (ae (kT (.nm .state)) al)) av fun (a,b,_) _=>⟨[],[.c (.bool (.atom ((decide (a=b)))))],none,false⟩
theorem T_:CK 28 EY:=ah fun (a,b,_) _ _=>by
 refine ao zp (aas a b) Tryz.func28 (?_:(fun (r:Int)=>(fun (p:List Sess)=>(fun (v:Prop)=>(fun (q:List Opn)=>(fun (u:Prop)=>(fun (j:List Sess)=>(fun (t:Int)=>(fun (m:List Opn)=>(fun (g:Int)=>(fun (y:den (Sh.nm NT.opn))=>(fun (z:den (Sh.nm NT.sess))=>eN a (eN b ((((((¬a.version=b.version\/¬a.next=b.next)\/¬a.keep=b.keep)\/¬a.quota=b.quota)\/¬t=(↑p.length:Int))\/¬g=(↑q.length:Int)->v)/\(((((a.version=b.version/\a.next=b.next)/\a.keep=b.keep)/\a.quota=b.quota)/\t=(↑p.length:Int))/\g=(↑q.length:Int)->∃ (o:Nat),(r=(↑o:Int)/\u)/\(o<=j.length/\List.take o j=List.take o p)/\∀ (s:Nat),(fun (c:den (Sh.nm NT.sess))=>(fun (d:den (Sh.nm NT.sess))=>s<=j.length/\List.take s j=List.take s p->((↑s:Int)<t->r<=(↑s:Int)/\(↑s:Int)<t/\r<=(↑s:Int)/\(↑s:Int)<(↑p.length:Int)/\iu c (iu d ((¬c.client=d.client\/¬c.seq=d.seq\/¬c.last.code=d.last.code\/¬c.last.n=d.last.n->v)/\(ada c d->I64 ((↑s:Int)+1)/\∃ (h:Nat),((↑s:Int)+1=(↑h:Int)/\u)/\(h <= j.length/\List.take h j=List.take h p)/\j.length - h < j.length - s))))/\(t<=(↑s:Int)->∃ (o:Nat),(r=(↑o:Int)/\u)/\(o<=m.length/\List.take o m=List.take o q)/\∀ (s:Nat),(fun (e:den (Sh.nm NT.opn))=>(fun (f:den (Sh.nm NT.opn))=>s<=m.length/\List.take s m=List.take s q->((↑s:Int)<g->r<=(↑s:Int)/\(↑s:Int)<g/\r<=(↑s:Int)/\(↑s:Int)<(↑q.length:Int)/\(I64 e.set->I64 e.client->I64 f.set->I64 f.client->(¬e.set=f.set\/¬e.client=f.client->v)/\(e.set=f.set/\e.client=f.client->I64 ((↑s:Int)+1)/\∃ (h:Nat),((↑s:Int)+1=(↑h:Int)/\u)/\(h <= m.length/\List.take h m=List.take h q)/\m.length - h < m.length - s)))/\(g<=(↑s:Int)->decide (a.snaps=b.snaps)=decide (a=b))) (q.getD s y)) (m.getD s y))) (p.getD s z)) (j.getD s z))))) (aj (Sh.nm NT.sess))) (aj (Sh.nm NT.opn))) (↑m.length:Int)) a.opens) (↑j.length:Int)) a.sess) (bJ a a (dj b b))) b.opens) (false=decide (a=b))) b.sess) 0);(repeat' with_reducible first|apply a_|refine aY ?_|intro)
 all_goals try (refine ⟨0,?_⟩; (repeat' with_reducible first|apply a_|refine aY ?_|intro))
 all_goals try (have w:(‹Nat›:Int)<(a.sess.length:Int):=aI; clear w; refine ⟨‹Nat› + 1,?_⟩; (repeat' with_reducible first|apply a_|refine aY ?_|intro))
 all_goals try (have w:((a.sess.length:Nat):Int)<=(‹Nat›:Int):=aI; clear w; refine ⟨0,?_⟩; (repeat' with_reducible first|apply a_|refine aY ?_|intro))
 all_goals try (refine ⟨‹Nat› + 1,?_⟩; (repeat' with_reducible first|apply a_|refine aY ?_|intro))
 all_goals (first | exact bq | exact rfl | exact (akC ap) | exact (aiq ap) | exact (aky ap) | exact (aej ab ab ab ab ab aI aI) | exact (aeg ab ab ab aI aI) | exact (ake ab ab ab ab ab ab aI aI aI aI))
def YR:bH:=(aP 28 EY Yz)
def lJ:aw Tryz.prog (ak tyT) YR:=(ag T_ zp)
def fQ (xs:List Int) (c:Int):Bool:=decide (0<xs.getD c.toNat (aj .int))
def fP (xs d:List Int) (c:Int):Bool:=decide (0<xs.getD c.toNat (aj .int)) && decide (d.getD c.toNat (aj .int)=0)
def ln (p:Int->Bool) (k:Nat):List Int:=((List.range k).map fun (i:Nat)=>(i:Int)+1).filter p
def aeY {p:Int->Bool} (h:p ((k:Int)+1)=true):ln p k++[(k:Int)+1]=ln p (k+1):=by
 unfold ln; rw [List.range_succ,List.map_append,List.filter_append]; simp [h]
def aea {p:Int->Bool} (h:p ((k:Int)+1)=false):ln p k=ln p (k+1):=by
 unfold ln; rw [List.range_succ,List.map_append,List.filter_append]; simp [h]
def aeT {p:Int->Bool} (h:k<=64) (c:64<(k:Int)+1):ln p k=ln p 64:=by rw [show k=64 by omega]
def Rc {p:Int->Bool} (h:k<=64):((ln p k).length+[n].length)*8<=140737488355328:=by
 have:=List.length_filter_le p ((List.range k).map fun (i:Nat)=>(i:Int)+1);rw [List.length_map,alK] at this;unfold ln; simp only [List.length_cons,List.length_nil]; omega
def cj (l:List Snap):List Int:=l.foldl (fun t x=>eC t x.chunks) (List.replicate 65 0)
theorem tK:∀ (l xs:List Int),(eC xs l).length=xs.length
 | [],_=>rfl
 | n :: l,xs=>by
  show (eC (if 1<=n/\n<=64 then xs.set n.toNat (xs.getD n.toNat 0+1) else xs) l).length=_;rw [tK l]; split
  ·grind
  rfl
variable {l:List Snap}
def ld:cj (l++[x])=eC (cj l) x.chunks:=by unfold cj; rw [List.foldl_append]; rfl
def abT (c:l[k]? = some x):eC (cj (l.take k)) x.chunks=cj (l.take (k+1)):=by rw [ai c,ld]
theorem yc {p:List Snap->Prop} (c:p []) (d:∀ l x,p l->p (l++[x])) (l:List Snap):p l:=by
 have:∀ r:List Snap,p r.reverse:=fun r=>by
  induction r with
  | nil=>exact c
  | cons x r e=>rw [List.reverse_cons]; exact d _ _ e
 have h:=this l.reverse;grind
def jI (l:List Snap):(cj l).length=65:=by
 refine yc (p:=fun l=>(cj l).length=65) rfl (fun l x h=>?_) l;rw [ld,tK,h]
def Cd:nch (l++[x])=nch l+x.chunks.length:=by unfold nch; simp
theorem L_ (l:List Snap) (i:Nat):0<=(cj l).getD i 0/\(cj l).getD i 0<=nch l:=by
 refine yc (p:=fun l=>0<=(cj l).getD i 0/\(cj l).getD i 0<=nch l) ?_ (fun l x h=>?_) l
 ·show 0<=(List.replicate 65 (0:Int)).getD i 0/\(List.replicate 65 (0:Int)).getD i 0<=_;grind
 have:=DP x.chunks (cj l) i;rw [ld,Cd]; omega
def EV (c:l[k]? = some x) (h:nch l<=1048576):Gn (cj (l.take k)) x.chunks:=fun i=>by
 have e:=L_ (l.take k) i;have d:nch (l.take (k+1))<=nch l:=by
  unfold nch; rw [<- List.take_append_drop (k+1) l,List.flatMap_append,List.length_append,List.take_append_drop]; omega
 rw [ai c,Cd] at d;omega
def GP {m:List Int} {s:Sh} (h:nch l<=1048576) (c:m.length*8<=140737488355328):Gn (Dk .int (cj l) 0 65) m:=fun i=>by
 rw [jW (jI l)];have d:=L_ l i;omega
theorem HW:∀ (l xs:List Int) (c:Int),1<=c->c<=64->xs.length=65->(eC xs l).getD c.toNat 0=xs.getD c.toNat 0+(l.count c:Nat)
 | [],_,_,_,_,_=>by simp [eC]
 | n :: l,xs,c,e,f,d=>by
  show (eC (if 1<=n/\n<=64 then xs.set n.toNat (xs.getD n.toNat 0+1) else xs) l).getD c.toNat 0=_;rw [HW l _ c e f (by split; rw [aeD,d]; exact d),List.count_cons];split
  ·grind
  grind
def DU (l:List Snap) (c:Int) (d:1<=c) (e:c<=64):(cj l).getD c.toNat 0=(Ed c l:Nat):=by
 refine yc (p:=fun l=>(cj l).getD c.toNat 0=(Ed c l:Nat)) ?_ (fun l x h=>?_) l
 ·show (List.replicate 65 (0:Int)).getD c.toNat 0=_;rw [List.getD_eq_getElem?_getD,List.getElem?_replicate]; split <;> simp [Ed]
 rw [ld,HW _ _ _ d e (jI l),h];unfold Ed; simp
theorem Fj (l:List Snap):((ln (fQ (cj l)) 64).length:Int)=(kY l:Int):=by
 unfold ln kY Lr;rw [List.filter_map,List.length_map];congr 2;apply List.filter_congr;intro i c;rw [List.mem_range] at c;have:=DU l ((i:Int)+1) aI aI;simp only [Function.comp,fQ];rw [show (aj .int)=(0:Int) from rfl,this];grind
theorem Lw (l m:List Snap) (id:Int) (e:m=br id l):ln (fP (cj l) (cj m)) 64=nC l id:=by
 subst e;unfold ln nC H_;rw [List.filter_map];congr 1;apply List.filter_congr;intro i c;rw [List.mem_range] at c;have d:=DU l ((i:Int)+1) aI aI;have f:=DU (br id l) ((i:Int)+1) aI aI;simp only [Function.comp,fP];rw [show (aj .int)=(0:Int) from rfl,d,f];grind
def adt (l:List Snap):List (Nat × LI):=[(3,{ σ:=Nat,F:=fun k=>([(2,one (.ptr 0 0)),(3,one (.ptr 1 0)),(6,one (.fz (.nm .snap) (l))),(7,one (.int (l).length)),(8,one (.int k))],[.arr 338 .int 65 ((List.replicate 65 0)),.arr 338 .int 65 ((cj (l.take k)))]),J:=fun k=>k<=l.length,μ:=fun k=>l.length - k })]
def Of (l:List Snap) (id:Int):List (Nat × LI):=[(3,{ σ:=Nat,F:=fun k=>([(1,one (.int (id))),(5,one (.own 0)),(8,one (.fz (.nm .snap) (l))),(9,one (.int (l).length)),(10,one (.int k))],[.row 172 (.nm .snap) ((br id (l.take k)))]),J:=fun k=>k<=l.length,μ:=fun k=>l.length - k })]
def Hx:Kn:=aO (ae (kC cI) (ae (kC (ba 0 0)) al)) (aH (Ex 338 .int 65) av) fun (n,_,_) (xs,_)=>⟨[0<=n/\n<65],[.c (.bool (.atom ((fQ xs n))))],none,false⟩
theorem SU:CK 362 Hx:=ah fun (n,_,_) (xs,_) c=>by
 have d:=cg c;refine ao lJ [] Tryz.func362 (?_:I64 n->(0:Int)<=n/\n<(↑(65:Nat):Int)/\n.toNat<(65:Nat)/\(I64 (xs.getD n.toNat (aj Sh.int))->decide ((0:Int)<xs.getD n.toNat (aj Sh.int))=fQ xs n));(repeat' with_reducible first|apply a_|refine aY ?_|intro) <;> first | (first | with_reducible rfl | with_reducible assumption | omega | (refine bw ?_ ?_ <;> omega)) | rfl
def Da:Kn:=aO (ae (kC cI) (ae (kC (ba 0 0)) (ae (kC (ba 1 0)) al))) (aH (Ex 338 .int 65) (aH (Ex 338 .int 65) av)) fun (n,_,_,_) (xs,d,_)=>⟨[0<=n/\n<65],[.c (.bool (.atom ((fP xs d n))))],none,false⟩
theorem O_:CK 363 Da:=ah fun (n,_,_,_) (xs,e,_) f=>by
 have g:=cg f;refine ao lJ [] Tryz.func363 (?_:(fun c=>(fun d=>I64 n->c<=n/\n<(↑(65:Nat):Int)/\n.toNat<(65:Nat)/\(I64 d->(c<d->c<=n/\n<(↑(65:Nat):Int)/\n.toNat<(65:Nat))/\((c<d->I64 (e.getD n.toNat (aj Sh.int)))->(decide (c<d) && decide (e.getD n.toNat (aj Sh.int)=c))=fP xs e n))) (xs.getD n.toNat (aj Sh.int))) (0:Int));(repeat' with_reducible first|apply a_|refine aY ?_|intro) <;> first | (first | with_reducible rfl | with_reducible assumption | omega | (refine bw ?_ ?_ <;> omega)) | rfl
def Fk:Kn:=aO (ae (kC (cL (.nm .snap))) al) av fun (l,_) _=>⟨[nch l<=1048576],[.agg (xR .int ((cj l)) 0 65)],none,false⟩
theorem TG:CK 346 Fk:=ah fun (l,_) _ r=>by
 have t:=cg r;refine ao lJ (adt l) Tryz.func346 (?_:(fun (g:Nat)=>(fun (e:List Int)=>(fun (o:Nat)=>(fun (h:Nat)=>(fun (d:Int)=>(fun (c:den Sh.int)=>(fun (q:List (den Sh.int))=>l.length*64<=140737488355328->∃ (p:Nat),(l=l/\(↑l.length:Int)=(↑g:Int)/\d=(↑p:Int)/\q=List.replicate h (0:den Sh.int)/\q=cj (List.take p l))/\p<=g/\∀ (s:Nat),(fun (j:List Int)=>(fun (f:List (den Sh.int))=>s<=g->((↑s:Int)<(↑g:Int)->d<=(↑s:Int)/\(↑s:Int)<(↑l.length:Int)/\∀ (x:Snap),l[s]? = some x->dS x ((∀ (i:Nat),d<=j.getD i d/\j.getD i d+(↑x.chunks.length:Int)<=4611686018427387904)/\I64 ((↑s:Int)+1)/\∃ (m:Nat),(l=l/\(↑g:Int)=(↑g:Int)/\(↑s:Int)+1=(↑m:Int)/\List.replicate h (0:den Sh.int)=List.replicate h (0:den Sh.int)/\eC j x.chunks=cj (List.take m l))/\m <= g/\g - m < g - s))/\((↑g:Int)<=(↑s:Int)->f.getD o c=e.getD o c/\f.getD 1 c=e.getD 1 c/\f.getD 2 c=e.getD 2 c/\f.getD 3 c=e.getD 3 c/\f.getD 4 c=e.getD 4 c/\f.getD 5 c=e.getD 5 c/\f.getD 6 c=e.getD 6 c/\f.getD 7 c=e.getD 7 c/\f.getD 8 c=e.getD 8 c/\f.getD 9 c=e.getD 9 c/\f.getD 10 c=e.getD 10 c/\f.getD 11 c=e.getD 11 c/\f.getD 12 c=e.getD 12 c/\f.getD 13 c=e.getD 13 c/\f.getD 14 c=e.getD 14 c/\f.getD 15 c=e.getD 15 c/\f.getD 16 c=e.getD 16 c/\f.getD 17 c=e.getD 17 c/\f.getD 18 c=e.getD 18 c/\f.getD 19 c=e.getD 19 c/\f.getD 20 c=e.getD 20 c/\f.getD 21 c=e.getD 21 c/\f.getD 22 c=e.getD 22 c/\f.getD 23 c=e.getD 23 c/\f.getD 24 c=e.getD 24 c/\f.getD 25 c=e.getD 25 c/\f.getD 26 c=e.getD 26 c/\f.getD 27 c=e.getD 27 c/\f.getD 28 c=e.getD 28 c/\f.getD 29 c=e.getD 29 c/\f.getD 30 c=e.getD 30 c/\f.getD 31 c=e.getD 31 c/\f.getD 32 c=e.getD 32 c/\f.getD 33 c=e.getD 33 c/\f.getD 34 c=e.getD 34 c/\f.getD 35 c=e.getD 35 c/\f.getD 36 c=e.getD 36 c/\f.getD 37 c=e.getD 37 c/\f.getD 38 c=e.getD 38 c/\f.getD 39 c=e.getD 39 c/\f.getD 40 c=e.getD 40 c/\f.getD 41 c=e.getD 41 c/\f.getD 42 c=e.getD 42 c/\f.getD 43 c=e.getD 43 c/\f.getD 44 c=e.getD 44 c/\f.getD 45 c=e.getD 45 c/\f.getD 46 c=e.getD 46 c/\f.getD 47 c=e.getD 47 c/\f.getD 48 c=e.getD 48 c/\f.getD 49 c=e.getD 49 c/\f.getD 50 c=e.getD 50 c/\f.getD 51 c=e.getD 51 c/\f.getD 52 c=e.getD 52 c/\f.getD 53 c=e.getD 53 c/\f.getD 54 c=e.getD 54 c/\f.getD 55 c=e.getD 55 c/\f.getD 56 c=e.getD 56 c/\f.getD 57 c=e.getD 57 c/\f.getD 58 c=e.getD 58 c/\f.getD 59 c=e.getD 59 c/\f.getD 60 c=e.getD 60 c/\f.getD 61 c=e.getD 61 c/\f.getD 62 c=e.getD 62 c/\f.getD 63 c=e.getD 63 c/\f.getD 64 c=e.getD 64 c)) (Dk Sh.int j o h)) (cj (List.take s l))) [d,d,d,d,d,d,d,d,d,d,d,d,d,d,d,d,d,d,d,d,d,d,d,d,d,d,d,d,d,d,d,d,d,d,d,d,d,d,d,d,d,d,d,d,d,d,d,d,d,d,d,d,d,d,d,d,d,d,d,d,d,d,d,d,d]) (aj Sh.int)) 0) 65) 0) (cj l)) l.length);iterate 3 ((all_goals (repeat' with_reducible first|apply a_|refine aY ?_|intro)); (all_goals try (first | exact bq | exact rfl | exact (abT ab) | exact (EV ab ab _).1 | exact (EV ab ab _).2 | exact (by rw [jW (jI _),List.take_of_length_le aI]))); all_goals try first | refine ⟨‹Nat› + 1,?_⟩ | refine ⟨0,?_⟩)
def vC:Kn:=aO (ae (kC (cL (.nm .snap))) (ae (kC cI) al)) av fun (l,id,_) _=>⟨[],[.c (.own 0)],some ([.row 172 (.nm .snap) ((br id l))]),true⟩
theorem IZ:CK 349 vC:=ah fun (l,id,_) _ _=>by
 refine dF lJ (Of l id) Tryz.func349 (?_:(fun (c:Nat)=>(fun (e:Int)=>l.length*64<=140737488355328->I64 id->∃ (h:Nat),(id=id/\l=l/\(↑l.length:Int)=e/\0=(↑h:Int)/\br id (List.take h l)=[])/\h<=c/\∀ (s:Nat),(fun (f:List Snap)=>(fun (g:Int)=>s<=c->((↑s:Int)<e->0<=(↑s:Int)/\(↑s:Int)<(↑l.length:Int)/\∀ (x:Snap),l[s]? = some x->dS x ((¬x.id=id->x.chunks.length*8<=140737488355328->(f.length+[x].length)*64<=140737488355328/\I64 g/\∃ (d:Nat),(id=id/\l=l/\e=e/\g=(↑d:Int)/\f++[x]=br id (List.take d l))/\d <= c/\c - d < c - s)/\(x.id=id->I64 g/\∃ (d:Nat),(id=id/\l=l/\e=e/\g=(↑d:Int)/\f=br id (List.take d l))/\d <= c/\c - d < c - s)))/\(e<=(↑s:Int)->f=br id l)) ((↑s:Int)+1)) (br id (List.take s l))) (↑c:Int)) l.length);iterate 3 ((all_goals (repeat' with_reducible first|apply a_|refine aY ?_|intro)); (all_goals try (first | exact bq | exact rfl | exact (adY ab ab ab) | exact (afS ab ab) | exact (ack aI) | exact (ZM aI aI))); all_goals try first | refine ⟨‹Nat› + 1,?_⟩ | refine ⟨0,?_⟩)
def Yo:bH:=(aP 349 vC (aP 346 Fk (aP 363 Da (aP 362 Hx YR))))
def tj:aw Tryz.prog (ak tyT) Yo:=(ag IZ (ag TG (ag O_ (ag SU lJ))))
def Oh (xs:List Int):List (Nat × LI):=[(3,{ σ:=Nat,F:=fun k=>([(0,one (.fn 362 [] [(0,0)])),(3,one (.own 1)),(4,one (.int (k+1)))],[.arr 338 .int 65 ((xs)),.row 3 .int ((ln (fQ xs) k))]),J:=fun k=>k<=64,μ:=fun k=>64 - k })]
def Ms (xs:List Int) (c:List Int):List (Nat × LI):=[(3,{ σ:=Nat,F:=fun k=>([(0,one (.fn 363 [] [(0,0),(1,0)])),(3,one (.own 2)),(4,one (.int (k+1)))],[.arr 338 .int 65 ((xs)),.arr 338 .int 65 ((c)),.row 3 .int ((ln (fP xs c) k))]),J:=fun k=>k<=64,μ:=fun k=>64 - k })]
def vR:Kn:=aO (ae (kC (rL 362 [] [(0,0)])) al) (aH (Ex 338 .int 65) av) fun _ (xs,_)=>⟨[],[.c (.fz .int ((ln (fQ xs) 64)))],none,false⟩
theorem J_:CK 361 vR:=ah fun _ (xs,_) _=>by
 refine ao tj (Oh xs) Tryz.func361 (?_:(fun (d:Nat)=>(fun (e:Int)=>∃ (h:Nat),(e=(↑h:Int)+e/\xs=xs/\ln (fQ xs) h=[])/\h<=d/\∀ (s:Nat),(fun (g:List Int)=>(fun (c:Int)=>s<=d->(c<=64->(0<=c/\c<65)/\(fQ xs c=true->(g.length+[c].length)*8<=140737488355328/\I64 (c+e)/\∃ (f:Nat),(c+e=(↑f:Int)+e/\xs=xs/\g++[c]=ln (fQ xs) f)/\f <= d/\d - f < d - s)/\(fQ xs c=false->I64 (c+e)/\∃ (f:Nat),(c+e=(↑f:Int)+e/\xs=xs/\g=ln (fQ xs) f)/\f <= d/\d - f < d - s))/\(64<c->g=ln (fQ xs) d)) ((↑s:Int)+e)) (ln (fQ xs) s)) 1) 64);iterate 3 ((all_goals (repeat' with_reducible first|apply a_|refine aY ?_|intro)); (all_goals try (first | exact bq | exact rfl | exact (aeY ab) | exact (aea ab) | exact (aeT aI aI) | exact (Rc aI) | exact (And.intro aI aI))); all_goals try first | refine ⟨‹Nat› + 1,?_⟩ | refine ⟨0,?_⟩)
def xh:Kn:=aO (ae (kC (rL 363 [] [(0,0),(1,0)])) al) (aH (Ex 338 .int 65) (aH (Ex 338 .int 65) av)) fun _ (xs,d,_)=>⟨[],[.c (.fz .int ((ln (fP xs d) 64)))],none,false⟩
theorem Kx:CK 361 xh:=ah fun _ (xs,c,_) _=>by
 refine ao tj (Ms xs c) Tryz.func361 (?_:(fun (e:Nat)=>(fun (f:Int)=>∃ (j:Nat),(f=(↑j:Int)+f/\xs=xs/\c=c/\ln (fP xs c) j=[])/\j<=e/\∀ (s:Nat),(fun (h:List Int)=>(fun (d:Int)=>s<=e->(d<=64->(0<=d/\d<65)/\(fP xs c d=true->(h.length+[d].length)*8<=140737488355328/\I64 (d+f)/\∃ (g:Nat),(d+f=(↑g:Int)+f/\xs=xs/\c=c/\h++[d]=ln (fP xs c) g)/\g <= e/\e - g < e - s)/\(fP xs c d=false->I64 (d+f)/\∃ (g:Nat),(d+f=(↑g:Int)+f/\xs=xs/\c=c/\h=ln (fP xs c) g)/\g <= e/\e - g < e - s))/\(64<d->h=ln (fP xs c) e)) ((↑s:Int)+f)) (ln (fP xs c) s)) 1) 64);iterate 3 ((all_goals (repeat' with_reducible first|apply a_|refine aY ?_|intro)); (all_goals try (first | exact bq | exact rfl | exact (aeY ab) | exact (aea ab) | exact (aeT aI aI) | exact (Rc aI) | exact (And.intro aI aI))); all_goals try first | refine ⟨‹Nat› + 1,?_⟩ | refine ⟨0,?_⟩)
def XM:bH:=(aP 361 xh (aP 361 vR Yo))
def uq:aw Tryz.prog (ak tyT) XM:=(ag Kx (ag J_ tj))
def MC:Kn:=aO (ae (kA .int 65) al) av fun (xs,_) _=>⟨[xs.length=65],[.c (.fz .int ((ln (fQ xs) 64)))],none,false⟩
theorem acI:CK 345 MC:=ah fun (xs,_) _ f=>by
 have d:=cg f;refine ao uq [] Tryz.func345 (?_:(fun e=>(fun c=>I64 (xs.getD 0 c)->I64 (xs.getD 1 c)->I64 (xs.getD 2 c)->I64 (xs.getD 3 c)->I64 (xs.getD 4 c)->I64 (xs.getD 5 c)->I64 (xs.getD 6 c)->I64 (xs.getD 7 c)->I64 (xs.getD 8 c)->I64 (xs.getD 9 c)->I64 (xs.getD 10 c)->I64 (xs.getD 11 c)->I64 (xs.getD 12 c)->I64 (xs.getD 13 c)->I64 (xs.getD 14 c)->I64 (xs.getD 15 c)->I64 (xs.getD 16 c)->I64 (xs.getD 17 c)->I64 (xs.getD 18 c)->I64 (xs.getD 19 c)->I64 (xs.getD 20 c)->I64 (xs.getD 21 c)->I64 (xs.getD 22 c)->I64 (xs.getD 23 c)->I64 (xs.getD 24 c)->I64 (xs.getD 25 c)->I64 (xs.getD 26 c)->I64 (xs.getD 27 c)->I64 (xs.getD 28 c)->I64 (xs.getD 29 c)->I64 (xs.getD 30 c)->I64 (xs.getD 31 c)->I64 (xs.getD 32 c)->I64 (xs.getD 33 c)->I64 (xs.getD 34 c)->I64 (xs.getD 35 c)->I64 (xs.getD 36 c)->I64 (xs.getD 37 c)->I64 (xs.getD 38 c)->I64 (xs.getD 39 c)->I64 (xs.getD 40 c)->I64 (xs.getD 41 c)->I64 (xs.getD 42 c)->I64 (xs.getD 43 c)->I64 (xs.getD 44 c)->I64 (xs.getD 45 c)->I64 (xs.getD 46 c)->I64 (xs.getD 47 c)->I64 (xs.getD 48 c)->I64 (xs.getD 49 c)->I64 (xs.getD 50 c)->I64 (xs.getD 51 c)->I64 (xs.getD 52 c)->I64 (xs.getD 53 c)->I64 (xs.getD 54 c)->I64 (xs.getD 55 c)->I64 (xs.getD 56 c)->I64 (xs.getD 57 c)->I64 (xs.getD 58 c)->I64 (xs.getD 59 c)->I64 (xs.getD 60 c)->I64 (xs.getD 61 c)->I64 (xs.getD 62 c)->I64 (xs.getD 63 c)->I64 (xs.getD 64 c)->e.length*8<=140737488355328->e=ln (fQ xs) 64) (aj Sh.int)) (ln (fQ (Dk Sh.int xs 0 65)) 64));(repeat' with_reducible first|apply a_|refine aY ?_|intro)
 all_goals (first | exact bq | exact (by rw [jW d]) | exact (by rw [jW d]; assumption))
def Aw:Kn:=aO (ae (kC (cL (.nm .snap))) (ae (kC cI) al)) av fun (l,id,_) _=>⟨[nch l<=1048576],[.c (.fz .int ((nC l id)))],none,false⟩
def Oo:CK 348 Aw:=ah fun (l,id,_) _ h=>by
 have j:=cg h;refine ao uq [] Tryz.func348 (?_:(fun f=>(fun d=>(fun c=>(fun e=>(fun g=>l.length*64<=140737488355328->I64 id->nch l<=1048576/\(I64 (d.getD f c)->I64 (d.getD 1 c)->I64 (d.getD 2 c)->I64 (d.getD 3 c)->I64 (d.getD 4 c)->I64 (d.getD 5 c)->I64 (d.getD 6 c)->I64 (d.getD 7 c)->I64 (d.getD 8 c)->I64 (d.getD 9 c)->I64 (d.getD 10 c)->I64 (d.getD 11 c)->I64 (d.getD 12 c)->I64 (d.getD 13 c)->I64 (d.getD 14 c)->I64 (d.getD 15 c)->I64 (d.getD 16 c)->I64 (d.getD 17 c)->I64 (d.getD 18 c)->I64 (d.getD 19 c)->I64 (d.getD 20 c)->I64 (d.getD 21 c)->I64 (d.getD 22 c)->I64 (d.getD 23 c)->I64 (d.getD 24 c)->I64 (d.getD 25 c)->I64 (d.getD 26 c)->I64 (d.getD 27 c)->I64 (d.getD 28 c)->I64 (d.getD 29 c)->I64 (d.getD 30 c)->I64 (d.getD 31 c)->I64 (d.getD 32 c)->I64 (d.getD 33 c)->I64 (d.getD 34 c)->I64 (d.getD 35 c)->I64 (d.getD 36 c)->I64 (d.getD 37 c)->I64 (d.getD 38 c)->I64 (d.getD 39 c)->I64 (d.getD 40 c)->I64 (d.getD 41 c)->I64 (d.getD 42 c)->I64 (d.getD 43 c)->I64 (d.getD 44 c)->I64 (d.getD 45 c)->I64 (d.getD 46 c)->I64 (d.getD 47 c)->I64 (d.getD 48 c)->I64 (d.getD 49 c)->I64 (d.getD 50 c)->I64 (d.getD 51 c)->I64 (d.getD 52 c)->I64 (d.getD 53 c)->I64 (d.getD 54 c)->I64 (d.getD 55 c)->I64 (d.getD 56 c)->I64 (d.getD 57 c)->I64 (d.getD 58 c)->I64 (d.getD 59 c)->I64 (d.getD 60 c)->I64 (d.getD 61 c)->I64 (d.getD 62 c)->I64 (d.getD 63 c)->I64 (d.getD 64 c)->nch (br id l)<=1048576/\(I64 (e.getD f c)->I64 (e.getD 1 c)->I64 (e.getD 2 c)->I64 (e.getD 3 c)->I64 (e.getD 4 c)->I64 (e.getD 5 c)->I64 (e.getD 6 c)->I64 (e.getD 7 c)->I64 (e.getD 8 c)->I64 (e.getD 9 c)->I64 (e.getD 10 c)->I64 (e.getD 11 c)->I64 (e.getD 12 c)->I64 (e.getD 13 c)->I64 (e.getD 14 c)->I64 (e.getD 15 c)->I64 (e.getD 16 c)->I64 (e.getD 17 c)->I64 (e.getD 18 c)->I64 (e.getD 19 c)->I64 (e.getD 20 c)->I64 (e.getD 21 c)->I64 (e.getD 22 c)->I64 (e.getD 23 c)->I64 (e.getD 24 c)->I64 (e.getD 25 c)->I64 (e.getD 26 c)->I64 (e.getD 27 c)->I64 (e.getD 28 c)->I64 (e.getD 29 c)->I64 (e.getD 30 c)->I64 (e.getD 31 c)->I64 (e.getD 32 c)->I64 (e.getD 33 c)->I64 (e.getD 34 c)->I64 (e.getD 35 c)->I64 (e.getD 36 c)->I64 (e.getD 37 c)->I64 (e.getD 38 c)->I64 (e.getD 39 c)->I64 (e.getD 40 c)->I64 (e.getD 41 c)->I64 (e.getD 42 c)->I64 (e.getD 43 c)->I64 (e.getD 44 c)->I64 (e.getD 45 c)->I64 (e.getD 46 c)->I64 (e.getD 47 c)->I64 (e.getD 48 c)->I64 (e.getD 49 c)->I64 (e.getD 50 c)->I64 (e.getD 51 c)->I64 (e.getD 52 c)->I64 (e.getD 53 c)->I64 (e.getD 54 c)->I64 (e.getD 55 c)->I64 (e.getD 56 c)->I64 (e.getD 57 c)->I64 (e.getD 58 c)->I64 (e.getD 59 c)->I64 (e.getD 60 c)->I64 (e.getD 61 c)->I64 (e.getD 62 c)->I64 (e.getD 63 c)->I64 (e.getD 64 c)->g.length*8<=140737488355328->g=nC l id))) (ln (fP (Dk Sh.int d f 65) (Dk Sh.int e f 65)) 64)) (cj (br id l))) (aj Sh.int)) (cj l)) (0:Nat))
 (repeat' with_reducible first|apply a_|refine aY ?_|intro)
 all_goals (first | exact bq | exact (abF ap) | exact (by rw [jW (jI _),jW (jI _)]; exact Lw _ _ _ rfl))
def XV:bH:=(aP 348 Aw (aP 345 MC XM))
def uz:aw Tryz.prog (ak tyT) XV:=(ag Oo (ag acI uq))
def qK:Kn:=aO (ae (kC (cL (.nm .snap))) al) av fun (l,_) _=>⟨[nch l<=1048576],[.c (.int (((kY l:Int))))],none,false⟩
def zR:CK 313 qK:=ah fun (l,_) _ f=>by
 have g:=cg f;refine ao uz [] Tryz.func313 (?_:(fun (d:den Sh.int)=>(fun (c:List Int)=>(fun (e:Nat)=>l.length*64<=140737488355328->nch l<=1048576/\(I64 (c.getD 0 d)->I64 (c.getD 1 d)->I64 (c.getD 2 d)->I64 (c.getD 3 d)->I64 (c.getD 4 d)->I64 (c.getD 5 d)->I64 (c.getD 6 d)->I64 (c.getD 7 d)->I64 (c.getD 8 d)->I64 (c.getD 9 d)->I64 (c.getD 10 d)->I64 (c.getD 11 d)->I64 (c.getD 12 d)->I64 (c.getD 13 d)->I64 (c.getD 14 d)->I64 (c.getD 15 d)->I64 (c.getD 16 d)->I64 (c.getD 17 d)->I64 (c.getD 18 d)->I64 (c.getD 19 d)->I64 (c.getD 20 d)->I64 (c.getD 21 d)->I64 (c.getD 22 d)->I64 (c.getD 23 d)->I64 (c.getD 24 d)->I64 (c.getD 25 d)->I64 (c.getD 26 d)->I64 (c.getD 27 d)->I64 (c.getD 28 d)->I64 (c.getD 29 d)->I64 (c.getD 30 d)->I64 (c.getD 31 d)->I64 (c.getD 32 d)->I64 (c.getD 33 d)->I64 (c.getD 34 d)->I64 (c.getD 35 d)->I64 (c.getD 36 d)->I64 (c.getD 37 d)->I64 (c.getD 38 d)->I64 (c.getD 39 d)->I64 (c.getD 40 d)->I64 (c.getD 41 d)->I64 (c.getD 42 d)->I64 (c.getD 43 d)->I64 (c.getD 44 d)->I64 (c.getD 45 d)->I64 (c.getD 46 d)->I64 (c.getD 47 d)->I64 (c.getD 48 d)->I64 (c.getD 49 d)->I64 (c.getD 50 d)->I64 (c.getD 51 d)->I64 (c.getD 52 d)->I64 (c.getD 53 d)->I64 (c.getD 54 d)->I64 (c.getD 55 d)->I64 (c.getD 56 d)->I64 (c.getD 57 d)->I64 (c.getD 58 d)->I64 (c.getD 59 d)->I64 (c.getD 60 d)->I64 (c.getD 61 d)->I64 (c.getD 62 d)->I64 (c.getD 63 d)->I64 (c.getD 64 d)->(Dk Sh.int c 0 65).length=65/\(e*8<=140737488355328->(↑e:Int)=(↑(kY l):Int)))) (ln (fQ (Dk Sh.int c 0 65)) 64).length) (cj l)) (aj Sh.int));(repeat' with_reducible first|apply a_|refine aY ?_|intro)
 all_goals (first | exact bq | exact (rF 65 0) | exact (by rw [jW (jI _)]; exact Fj _))
def Hh:Kn:=aO (ae (kC (cL (.nm .snap))) (ae (kC (cL .int)) al)) av fun (l,m,_) _=>⟨[nch l<=1048576],[.c (.int (((kY (l++[⟨0,0,m,false,⟨[]⟩⟩]):Int))))],none,false⟩
def VW:CK 343 Hh:=ah fun (l,m,_) _ j=>by
 have o:=cg j;refine ao uz [] Tryz.func343 (?_:(fun e=>(fun f=>(fun d=>(fun c=>(fun g=>l.length*64<=140737488355328->m.length*8<=140737488355328->nch l<=1048576/\(I64 (c.getD f d)->I64 (c.getD 1 d)->I64 (c.getD 2 d)->I64 (c.getD 3 d)->I64 (c.getD 4 d)->I64 (c.getD 5 d)->I64 (c.getD 6 d)->I64 (c.getD 7 d)->I64 (c.getD 8 d)->I64 (c.getD 9 d)->I64 (c.getD 10 d)->I64 (c.getD 11 d)->I64 (c.getD 12 d)->I64 (c.getD 13 d)->I64 (c.getD 14 d)->I64 (c.getD 15 d)->I64 (c.getD 16 d)->I64 (c.getD 17 d)->I64 (c.getD 18 d)->I64 (c.getD 19 d)->I64 (c.getD 20 d)->I64 (c.getD 21 d)->I64 (c.getD 22 d)->I64 (c.getD 23 d)->I64 (c.getD 24 d)->I64 (c.getD 25 d)->I64 (c.getD 26 d)->I64 (c.getD 27 d)->I64 (c.getD 28 d)->I64 (c.getD 29 d)->I64 (c.getD 30 d)->I64 (c.getD 31 d)->I64 (c.getD 32 d)->I64 (c.getD 33 d)->I64 (c.getD 34 d)->I64 (c.getD 35 d)->I64 (c.getD 36 d)->I64 (c.getD 37 d)->I64 (c.getD 38 d)->I64 (c.getD 39 d)->I64 (c.getD 40 d)->I64 (c.getD 41 d)->I64 (c.getD 42 d)->I64 (c.getD 43 d)->I64 (c.getD 44 d)->I64 (c.getD 45 d)->I64 (c.getD 46 d)->I64 (c.getD 47 d)->I64 (c.getD 48 d)->I64 (c.getD 49 d)->I64 (c.getD 50 d)->I64 (c.getD 51 d)->I64 (c.getD 52 d)->I64 (c.getD 53 d)->I64 (c.getD 54 d)->I64 (c.getD 55 d)->I64 (c.getD 56 d)->I64 (c.getD 57 d)->I64 (c.getD 58 d)->I64 (c.getD 59 d)->I64 (c.getD 60 d)->I64 (c.getD 61 d)->I64 (c.getD 62 d)->I64 (c.getD 63 d)->I64 (c.getD 64 d)->(∀ (i:Nat),(fun h=>0<=h/\h+(↑m.length:Int)<=4611686018427387904) ((Dk Sh.int c f e).getD i 0))/\g.length=e/\((ln (fQ g) 64).length*8<=140737488355328->(↑(ln (fQ g) 64).length:Int)=(↑(kY (l++[Snap.mk 0 0 m false (Str.mk [])])):Int)))) (Dk Sh.int (eC (Dk Sh.int c f e) m) f e)) (cj l)) (aj Sh.int)) (0:Nat)) (65:Nat));(repeat' with_reducible first|apply a_|refine aY ?_|intro)
 all_goals (first | exact bq | exact (rF 65 0) | exact (GP (s:=.int) ap ap _).1 | exact (GP (s:=.int) ap ap _).2 | exact (by rw [jW (s:=.int) (xs:=eC _ _) (by rw [tK,rF]),jW (jI l)]; have:=Fj (l++[Snap.mk 0 0 m false ⟨[]⟩]); rw [ld] at this; exact this))
def Zz:bH:=(aP 343 Hh (aP 313 qK XV))
def gG:aw Tryz.prog (ak tyT) Zz:=(ag VW (ag zR uz))
def C_ {α:Type} (l:List α) (i:Nat) (x:α):List α:=l.take i++x :: l.drop i
def WK {α:Type} (l:List α) (i:Int):List α:=l.take i.toNat++l.drop (i+1).toNat
def cA (s:State) (c:Command):Int:=if 0<=aq Opn.set c.set s.opens/\¬ (s.opens.getD (aq Opn.set c.set s.opens).toNat (aj (.nm .opn))).client=c.client then -1 else aq Opn.set c.set s.opens
def fa (s:State) (c:Command):State × Reply:=if 0<=aq Opn.set c.set s.opens then (s,⟨16,(s.opens.getD (aq Opn.set c.set s.opens).toNat (aj (.nm .opn))).client⟩)
 else ({ s with opens:=C_ s.opens (s.opens.takeWhile fun y=>decide (y.set<c.set)).length ⟨c.set,c.client⟩ },⟨0,0⟩)
def fb (s:State) (c:Command):State × Reply:=if cA s c<0 then (s,⟨15,0⟩) else ({ s with opens:=WK s.opens (cA s c) },⟨0,0⟩)
def eO (s:State) (c:Command):State × Reply:=
 if cA s c<0 then (s,⟨15,0⟩)
 else if 16<=(s.snaps.length:Int)\/1048576<=s.next then (s,⟨20,0⟩)
 else if ¬ s.quota=0/\s.quota<(kY (s.snaps++[⟨0,0,c.chunks,false,⟨[]⟩⟩]):Int) then (s,⟨19,0⟩)
 else ({ s with next:=s.next+1,opens:=WK s.opens (cA s c),snaps:=s.snaps++[⟨s.next,c.set,c.chunks,false,⟨[]⟩⟩] },⟨0,s.next⟩)
def eD (s:State) (c:Nat):State × Reply:=
 if (s.snaps.getD c (aj (.nm .snap))).held=true then (s,⟨17,0⟩)
 else if mD s c=true then (s,⟨18,0⟩)
 else ({ s with snaps:=br (s.snaps.getD c (aj (.nm .snap))).id s.snaps },⟨0,(nC s.snaps (s.snaps.getD c (aj (.nm .snap))).id).length⟩)
def gl (s:State) (c:Nat):State × Reply:=(s,⟨0,(s.snaps.getD c (aj (.nm .snap))).chunks.length⟩)
def gM (b:Bool) (s:State) (c:Nat):State × Reply:=
 if (s.snaps.getD c (aj (.nm .snap))).held=b then (s,⟨0,0⟩)
 else ({ s with snaps:=s.snaps.set c { s.snaps.getD c (aj (.nm .snap)) with held:=b } },⟨0,1⟩)
def td (c:Command) (s:State) (d:Nat):State × Reply:=({ s with snaps:=s.snaps.set d { s.snaps.getD d (aj (.nm .snap)) with tag:=c.text } },⟨0,0⟩)
def tx (c:Command) (s:State):State × Reply:=({ s with keep:=c.n },⟨0,0⟩)
def pQ (c:Command) (s:State):State × Reply:=({ s with quota:=c.n },⟨0,kY s.snaps⟩)
def d_ {d:α->Int} {c:Int} {l:List α} (h:0<=aq d c l):aq d c l<(l.length:Int):=by
 unfold aq at *;split
 ·rename_i i e;have:=(ahe.1 e).1;omega
 omega
theorem Sf {s:State} {c:Command} (h:0<=cA s c):cA s c+1<=(s.opens.length:Int):=by
 unfold cA at *;split
 ·grind
 rename_i d; rw [if_neg d] at h;have:=d_ h;omega
def KR (i:Int) (m:List Opn) (l:List Opn) (d:0<=i/\i<=(l.length:Int)) (e:l.length<1048576) (f:m.length=1):Sat Tryz.prog (ak tyT) 341 [.c (.own 0),.c (.int (i)),.c (.fz (.nm .opn) (m))] [.row 139 (.nm .opn) (l)] ⟨[0<=i/\i<=(l.length:Int),l.length<1048576,m.length=1],[.c (.own 0)],some ([.row 139 (.nm .opn) ((l.take i.toNat++m++l.drop i.toNat))]),false⟩:=yh i l m d e f
def vx:Kn:=aO (ae (kC (fg 0)) (ae (kC cI) (ae (kC (cL (.nm .opn))) al))) (aH (e_ 139 (.nm .opn)) av) fun (_,i,m,_) (l,_)=>⟨[0<=i/\i<=(l.length:Int),l.length<1048576,m.length=1],[.c (.own 0)],some ([.row 139 (.nm .opn) ((l.take i.toNat++m++l.drop i.toNat))]),false⟩
def KI:CK 341 vx:=ah fun (_,i,m,_) (l,_) c=>KR i m l (cg c) (cg (eW c)) (cg (eW (eW c)))
def Dx (i:Int) (l:List Sess) (m:List Sess) (d:0<=i/\i<=(l.length:Int)) (e:l.length<1048576) (f:m.length=1):Sat Tryz.prog (ak tyT) 263 [.c (.own 0),.c (.int (i)),.c (.own 1)] [.row 137 (.nm .sess) (l),.row 137 (.nm .sess) (m)] ⟨[0<=i/\i<=(l.length:Int),l.length<1048576,m.length=1],[.c (.own 0)],some ([.row 137 (.nm .sess) ((l.take i.toNat++m++l.drop i.toNat)),.row 137 (.nm .sess) ((m))]),false⟩:=xW i l m d e f
def uE:Kn:=aO (ae (kC (fg 0)) (ae (kC cI) (ae (kC (fg 1)) al))) (aH (e_ 137 (.nm .sess)) (aH (e_ 137 (.nm .sess)) av)) fun (_,i,_,_) (l,m,_)=>⟨[0<=i/\i<=(l.length:Int),l.length<1048576,m.length=1],[.c (.own 0)],some ([.row 137 (.nm .sess) ((l.take i.toNat++m++l.drop i.toNat)),.row 137 (.nm .sess) ((m))]),false⟩
def DD:CK 263 uE:=ah fun (_,i,_,_) (l,m,_) c=>Dx i l m (cg c) (cg (eW c)) (cg (eW (eW c)))
def IG (i:Int) (j:Int) (l:List Opn) (d:0<=i/\i<(l.length:Int)/\j=i+1):Sat Tryz.prog (ak tyT) 344 [.c (.own 0),.c (.int (i)),.c (.int (j))] [.row 139 (.nm .opn) (l)] ⟨[0<=i/\i<(l.length:Int)/\j=i+1],[.c (.own 0)],some ([.row 139 (.nm .opn) ((l.take i.toNat++l.drop j.toNat))]),false⟩:=AA i j l d
def wg:Kn:=aO (ae (kC (fg 0)) (ae (kC cI) (ae (kC cI) al))) (aH (e_ 139 (.nm .opn)) av) fun (_,i,j,_) (l,_)=>⟨[0<=i/\i<(l.length:Int)/\j=i+1],[.c (.own 0)],some ([.row 139 (.nm .opn) ((l.take i.toNat++l.drop j.toNat))]),false⟩
def Js:CK 344 wg:=ah fun (_,i,j,_) (l,_) c=>IG i j l (cg c)
def vu:Kn:=aO (ae (kC (ba 0 0)) (ae (kT (.nm .command)) al)) (qU 0 av) fun (_,c,_) (z,_)=>⟨[],[.c (.int ((cA z c)))],none,false⟩
theorem Jj:CK 342 vu:=ah fun (_,c,_) (z,_) _=>by
 obtain ⟨v,j,m,o,p,e,q⟩:=z;refine ao gG [] Tryz.func342 (?_:(fun h=>(fun d=>(fun f=>(fun g=>bB c (I64 d->(f->f/\d<(↑e.length:Int))/\((f->I64 g.set/\I64 g.client)->(f/\¬g.client=c.client -> -1=h)/\(d<0\/g.client=c.client->d=h)))) (e.getD d.toNat (aj (Sh.nm NT.opn)))) (0<=d)) (aq Opn.set c.set e)) (cA (State.mk v j m o p e q) c));(repeat' with_reducible first|apply a_|refine aY ?_|intro)
 all_goals (first | exact bq | exact d_ ab | (unfold cA; grind))
def PB:Kn:=aO (ae (kC (ba 0 0)) (ae (kC (ba 1 0)) al)) (aH (yW 35 (.nm .command)) (qU 1 av)) fun _ (c,z,_)=>⟨[],[.agg (cellsOf (.nm .reply) ((tx c z).2))],some (([.box 35 (cellsOf (.nm .command) (c))]++tF 1 ((tx c z).1))),false⟩
def acm:CK 311 PB:=ah fun _ (c,z,_) _=>by
 obtain ⟨v,e,m,f,g,h,j⟩:=z;refine bA gG [] Tryz.func311 (?_:(fun d=>0=d.snd.code/\0=d.snd.n/\bt c c (dj (State.mk v e c.n f g h j) d.fst)) (tx c (State.mk v e m f g h j)));(repeat' with_reducible first|apply a_|refine aY ?_|intro)
 all_goals (first | exact bq | exact rfl)
def RO:Kn:=aO (ae (kC (ba 0 0)) (ae (kC (ba 1 0)) al)) (aH (yW 35 (.nm .command)) (qU 1 av)) fun _ (c,z,_)=>⟨[nch z.snaps<=1048576],[.agg (cellsOf (.nm .reply) ((pQ c z).2))],some (([.box 35 (cellsOf (.nm .command) (c))]++tF 1 ((pQ c z).1))),false⟩
def ZV:CK 312 RO:=ah fun _ (c,z,_) m=>by
 obtain ⟨v,f,g,o,h,j,d⟩:=z;have p:nch d<=1048576:=cg m;refine bA gG [] Tryz.func312 (?_:(fun e=>nch d<=1048576/\(I64 (↑(kY d):Int)->0=e.snd.code/\(↑(kY d):Int)=e.snd.n/\bt c c (dj (State.mk v f g c.n h j d) e.fst))) (pQ c (State.mk v f g o h j d)));(repeat' with_reducible first|apply a_|refine aY ?_|intro)
 all_goals (first | exact bq | exact rfl)
def GO:Kn:=aO (ae (kC (ba 0 0)) (ae (kC cI) al)) (qU 0 av) fun (_,i,_) (z,_)=>⟨[0<=i/\i<(z.snaps.length:Int),nch z.snaps<=1048576],[.agg (cellsOf (.nm .reply) ((eD z i.toNat).2))],some ((tF 0 ((eD z i.toNat).1))),false⟩
theorem US:CK 315 GO:=ah fun (_,i,_) (z,_) h=>by
 obtain ⟨v,j,m,o,p,q,c⟩:=z;have t:0<=i/\i<(c.length:Int):=cg h;have u:nch c<=1048576:=cg (eW h);refine bA gG [] Tryz.func315 (?_:(fun f=>(fun g=>(fun e=>(fun d=>(fun r=>I64 i->f<=i/\i<(↑c.length:Int)/\dS e ((e.held=true->I64 17->I64 f->17=d.snd.code/\r)/\(e.held=false->(mD g i=true->I64 18->I64 f->18=d.snd.code/\r)/\(mD g i=false->nch c<=1048576/\((nC c e.id).length*8<=140737488355328->f=d.snd.code/\(↑(nC c e.id).length:Int)=d.snd.n/\dj (State.mk v j m o p q (br e.id c)) d.fst))))) (f=d.snd.n/\dj g d.fst)) (eD g i.toNat)) (c.getD i.toNat (aj (Sh.nm NT.snap)))) (State.mk v j m o p q c)) (0:Int));have s:((i.toNat:Nat):Int)=i:=by omega
 (repeat' with_reducible first|apply a_|refine aY ?_|intro)
 all_goals (first | exact bq | ((simp only [eD,s]; simp_all) <;> (intros; omega)) | (simp only [eD,s]; grind))
def MB:Kn:=aO (ae (kC cI) (ae (kC (ba 0 0)) al)) (qU 0 av) fun (i,_,_) (z,_)=>⟨[0<=i/\i<(z.snaps.length:Int)],[.agg (cellsOf (.nm .reply) ((gl z i.toNat).2))],some ((tF 0 ((gl z i.toNat).1))),false⟩
def ab2:CK 316 MB:=ah fun (i,_,_) (z,_) e=>by
 obtain ⟨v,f,g,h,j,m,c⟩:=z;have o:0<=i/\i<(c.length:Int):=cg e;refine bA gG [] Tryz.func316 (?_:(fun d=>I64 i->0<=i/\i<(↑c.length:Int)/\dS (c.getD i.toNat (aj (Sh.nm NT.snap))) (0=(gl d i.toNat).snd.code/\(↑(c.getD i.toNat (aj (Sh.nm NT.snap))).chunks.length:Int)=(gl d i.toNat).snd.n/\dj d (gl d i.toNat).fst)) (State.mk v f g h j m c));(repeat' with_reducible first|apply a_|refine aY ?_|intro)
 all_goals (first | exact bq | rfl)
def Ii:Kn:=aO (ae (kC cI) (ae (kC (ba 0 0)) (ae (kC (ba 1 0)) al))) (aH (yW 35 (.nm .command)) (qU 1 av)) fun (i,_,_,_) (c,z,_)=>⟨[0<=i/\i<(z.snaps.length:Int)],[.agg (cellsOf (.nm .reply) ((td c z i.toNat).2))],some (([.box 35 (cellsOf (.nm .command) (c))]++tF 1 ((td c z i.toNat).1))),false⟩
def Ws:CK 317 Ii:=ah fun (i,_,_,_) (c,z,_) p=>by
 obtain ⟨v,g,h,j,m,o,d⟩:=z;have q:0<=i/\i<(d.length:Int):=cg p;refine bA gG [] Tryz.func317 (?_:(fun f=>(fun e=>I64 i->0<=i/\i<(↑d.length:Int)/\dS e (0=f.snd.code/\0=f.snd.n/\bt c c (dj (State.mk v g h j m o (d.set i.toNat (Snap.mk e.id e.set e.chunks e.held c.text))) f.fst))) (d.getD i.toNat (aj (Sh.nm NT.snap)))) (td c (State.mk v g h j m o d) i.toNat));(repeat' with_reducible first|apply a_|refine aY ?_|intro)
 all_goals (first | exact bq | exact rfl)
def zG:Kn:=aO (ae (kC cI) (ae (kC (ba 0 0)) (ae (kC (ba 4 0)) al))) (qU 0 (aH (dN 4 (ax cB dK)) av)) fun (i,_,_,_) (z,(b,_),_)=>⟨[0<=i/\i<(z.snaps.length:Int)],[.agg (cellsOf (.nm .reply) ((gM b z i.toNat).2))],some ((tF 0 ((gM b z i.toNat).1)++[.box 4 ([.bool (.atom ((b)))])])),false⟩
theorem RH:CK 304 zG:=ah fun (i,_,_,_) (z,(b,_),_) o=>by
 obtain ⟨v,f,g,h,j,m,d⟩:=z;have p:0<=i/\i<(d.length:Int):=cg o;refine bA gG [] Tryz.func304 (?_:(fun c=>(fun e=>I64 i->0<=i/\i<(↑d.length:Int)/\dS c (((c.held == b)=true->0=e.snd.code/\0=e.snd.n/\bJ (State.mk v f g h j m d) e.fst (b=b))/\((c.held == b)=false->0=e.snd.code/\1=e.snd.n/\bJ (State.mk v f g h j m (d.set i.toNat (Snap.mk c.id c.set c.chunks b c.tag))) e.fst (b=b)))) (gM b (State.mk v f g h j m d) i.toNat)) (d.getD i.toNat (aj (Sh.nm NT.snap))));(repeat' with_reducible first|apply a_|refine aY ?_|intro)
 all_goals (first | exact bq | ((simp only [gM]; simp_all) <;> (intros; omega)) | (simp only [gM]; grind))
def XY:bH:=(aP 304 zG (aP 317 Ii (aP 316 MB (aP 315 GO (aP 312 RO (aP 311 PB (aP 342 vu (aP 344 wg (aP 263 uE (aP 341 vx Zz))))))))))
def lp:aw Tryz.prog (ak tyT) XY:=(ag RH (ag Ws (ag ab2 (ag US (ag ZV (ag acm (ag Jj (ag Js (ag DD (ag KI gG))))))))))
theorem M_ {p:α->Bool} {l:List α} (h:(l.take k).all p=true) (d:k<=l.length) (c:(l.length:Int)<=k\/(k:Int)<l.length/\∃ x,l[k]? = some x/\p x=false):k=(l.takeWhile p).length:=by
 induction l generalizing k with
 | nil=>simp at d; simp [d]
 | cons a l e=>
  cases k with
  | zero=>
   rcases c with c | ⟨_,x,f,g⟩
   ·grind
   simp_all
  | succ k=>
   simp only [ah7,aik,Bool.and_eq_true] at h;rw [List.takeWhile_cons,h.1,if_pos rfl,List.length_cons];congr 1;refine e h.2 (by simpa using d) ?_;rcases c with c | ⟨j,x,f,g⟩
   ·grind
   grind
variable {op:List Opn}
theorem aeE {v d e f:Int} {g:List Sess} {j:List Snap} {c:Command} {s:Nat} (h:aq Opn.set c.set op<0) (m:s<=op.length) (o:(op.take s).all (fun y=>decide (y.set<c.set))=true) (q:(op.length:Int)<=s\/c.set<=(op.getD s (aj (.nm .opn))).set):op.take s++[Opn.mk c.set c.client]++op.drop s=(fa (State.mk v d e f g op j) c).1.opens:=by
 have p:¬ 0<=aq Opn.set c.set op:=by omega
 simp only [fa,if_neg p];have:s=(op.takeWhile fun y=>decide (y.set<c.set)).length:=by
  refine M_ o m ?_;grind
 rw [<- this]; simp [C_]
def afV {c:Command} {s:Nat} (e:(op.take s).all (fun y=>decide (y.set<c.set))=true) (h:(s:Int)<op.length) (f:(op.getD s (aj (.nm .opn))).set<c.set):(op.take (s+1)).all (fun y=>decide (y.set<c.set))=true:=by
 rw [ai (gd (d:=aj (.nm .opn)) h),aiU,e]; simp only [aik,decide_eq_true f]; rfl
section
variable {v nx kp qt:Int} {se:List Sess} {op:List Opn} {sn:List Snap} {c:Command}
def bgN (h:aq Opn.set c.set op<0):fa (State.mk v nx kp qt se op sn) c=(State.mk v nx kp qt se (C_ op (op.takeWhile fun y=>decide (y.set<c.set)).length ⟨c.set,c.client⟩) sn,⟨0,0⟩):=by
 have d:¬ 0<=aq Opn.set c.set op:=by omega
 simp only [fa,if_neg d]
def bgY (h:0<=aq Opn.set c.set op):fa (State.mk v nx kp qt se op sn) c=(State.mk v nx kp qt se op sn,⟨16,(op.getD (aq Opn.set c.set op).toNat (aj (.nm .opn))).client⟩):=by
 simp only [fa,if_pos h]
def abY (h:cA (State.mk v nx kp qt se op sn) c<0):fb (State.mk v nx kp qt se op sn) c=(State.mk v nx kp qt se op sn,⟨15,0⟩):=by
 simp only [fb,if_pos h]
def abN (h:0<=cA (State.mk v nx kp qt se op sn) c):fb (State.mk v nx kp qt se op sn) c=(State.mk v nx kp qt se (op.take (cA (State.mk v nx kp qt se op sn) c).toNat++op.drop (cA (State.mk v nx kp qt se op sn) c+1).toNat) sn,⟨0,0⟩):=by
 have d:¬ cA (State.mk v nx kp qt se op sn) c<0:=by omega
 simp only [fb,if_neg d,WK]
end
def UW (c:Command) (v:Int) (d:Int) (e:Int) (f:Int) (g:List Sess) (op:List Opn) (h:List Snap):List (Nat × LI):=[(5,{ σ:=Nat,F:=fun k=>([(0,one (.ptr 0 0)),(3,one (.ptr 4 0)),(4,one (.ptr 5 0)),(6,one (.int k))],(tF 0 (State.mk v d e f g op h)++[.box 35 (cellsOf (.nm .command) (c)),.box 78 ([.int ((0)),.int ((0))])])),J:=fun k=>k<=op.length/\(op.take k).all (fun y=>decide (y.set<c.set))=true,μ:=fun k=>op.length - k })]
def BW:Kn:=aO (ae (kC (ba 0 0)) (ae (kT (.nm .command)) al)) (qU 0 av) fun (_,c,_) (z,_)=>⟨[z.opens.length<1048576],[.agg (cellsOf (.nm .reply) ((fa z c).2))],some ((tF 0 ((fa z c).1))),false⟩
theorem Po:CK 306 BW:=ah fun (_,c,_) (z,_) B=>by
 obtain ⟨v,h,j,m,o,op,p⟩:=z;have C:op.length<1048576:=cg B;refine bA lp (UW c v h j m o op p) Tryz.func306 (?_:(fun (r:den (Sh.nm NT.opn))=>(fun (g:Int)=>(fun (d:Int)=>(fun (f:Int)=>(fun (q:State × Reply)=>(fun (A:Prop)=>bB c (I64 f->(d<=f->d<=f/\f<g/\(I64 (op.getD f.toNat r).set->I64 (op.getD f.toNat r).client->16=q.snd.code/\(op.getD f.toNat r).client=q.snd.n/\dj (State.mk v h j m o op p) q.fst))/\(f<d->∃ (u:Nat),(d=(↑u:Int)/\A)/\(u<=op.length/\((List.take u op).all fun (y:Opn)=>decide (y.set<c.set))=true)/\∀ (s:Nat),(fun (w:Int)=>(fun (e:Int)=>s<=op.length/\((List.take s op).all fun (y:Opn)=>decide (y.set<c.set))=true->(e<g->d<=e/\e<g)/\((e<g->I64 w/\I64 (op.getD s r).client)->(e<g/\w<c.set->I64 (e+1)/\∃ (t:Nat),(e+1=(↑t:Int)/\A)/\(t <= op.length/\((List.take t op).all fun (y:Opn)=>decide (y.set<c.set))=true)/\op.length - t < op.length - s)/\(g<=e\/c.set<=w->((d<=e/\e<=g)/\op.length<1048576/\[Opn.mk c.set c.client].length=1)/\d=q.snd.code/\d=q.snd.n/\dj (State.mk v h j m o (List.take s op++[Opn.mk c.set c.client]++List.drop s op) p) q.fst))) (↑s:Int)) (op.getD s r).set))) (v=v/\h=h/\j=j/\m=m/\o=o/\op=op/\p=p/\bt c c (d=d/\d=d))) (fa (State.mk v h j m o op p) c)) (aq Opn.set c.set op)) 0) (↑op.length:Int)) (aj (Sh.nm NT.opn)));iterate 3 ((all_goals (repeat' with_reducible first|apply a_|refine aY ?_|intro)); (all_goals try (first | exact bq | exact rfl | exact d_ ab | exact (afV ab ab ab) | exact (aeE ab aI ab ap) | (rw [bgN]; omega) | (rw [bgY]; omega))); all_goals try first | refine ⟨‹Nat› + 1,?_⟩ | refine ⟨0,?_⟩)
def Bv:Kn:=aO (ae (kC (ba 0 0)) (ae (kT (.nm .command)) al)) (qU 0 av) fun (_,c,_) (z,_)=>⟨[z.opens.length<1048576],[.agg (cellsOf (.nm .reply) ((fb z c).2))],some ((tF 0 ((fb z c).1))),false⟩
def RY:CK 310 Bv:=ah fun (_,c,_) (z,_) s=>by
 obtain ⟨v,g,j,m,o,op,p⟩:=z;have t:op.length<1048576:=cg s;refine bA lp [] Tryz.func310 (?_:(fun d=>(fun f=>(fun q=>(fun e=>(fun r=>bB c (I64 e->(e<d->I64 15->I64 d->15=q.code/\d=q.n/\dj f (fb f c).fst)/\(d<=e->I64 r/\(d<=e/\e<(↑op.length:Int)/\r=r)/\d=q.code/\d=q.n/\dj (State.mk v g j m o (List.take e.toNat op++List.drop r.toNat op) p) (fb f c).fst))) (e+1)) (cA f c)) (fb f c).snd) (State.mk v g j m o op p)) (0:Int));have u:0<=cA (State.mk v g j m o op p) c->cA (State.mk v g j m o op p) c+1<=(op.length:Int):=fun h=>Sf h;(repeat' with_reducible first|apply a_|refine aY ?_|intro)
 all_goals (first | exact bq | (rw [abN]; omega) | (rw [abY]; omega))
def wh:Kn:=aO (ae (kC (ba 0 0)) (ae (kT (.nm .command)) al)) (qU 0 av) fun (_,c,_) (z,_)=>⟨[nch z.snaps<=1048576,z.snaps.length<1048576,z.opens.length<1048576,0<=z.next],[.agg (cellsOf (.nm .reply) ((eO z c).2))],some ((tF 0 ((eO z c).1))),false⟩
theorem IQ:CK 308 wh:=ah fun (_,c,_) (z,_) q=>by
 obtain ⟨v,f,r,g,s,op,e⟩:=z;have y:nch e<=1048576:=cg q;have A:e.length<1048576:=cg (eW q);have B:op.length<1048576:=cg (eW (eW q));have C:0<=f:=cg (eW (eW (eW q)));refine bA lp [] Tryz.func308 (?_:(fun w=>(fun m=>(fun d=>(fun t=>(fun p=>(fun o=>(fun j=>(fun u=>bB c (I64 j->(j<d->I64 15->I64 d->15=o.code/\u)/\(d<=j->(16<=(↑e.length:Int)\/1048576<=f->I64 20->I64 d->20=o.code/\u)/\((↑e.length:Int)<16/\f<1048576->(¬g=d->nch e<=1048576)/\((¬g=d->I64 t)->(¬g=d/\g<t->I64 19->I64 d->19=o.code/\u)/\(g=d\/t<=g->c.chunks.length*8<=140737488355328->(e.length+[w].length)*64<=140737488355328/\I64 (f+m)/\I64 (j+m)/\(d<=j/\j<(↑op.length:Int)/\j+m=j+m)/\d=o.code/\f=o.n/\dj (State.mk v (f+m) r g s (List.take j.toNat op++List.drop (j+m).toNat op) (e++[w])) (eO p c).fst)))))) (d=o.n/\dj p (eO p c).fst)) (cA p c)) (eO p c).snd) (State.mk v f r g s op e)) (↑(kY (e++[Snap.mk d d c.chunks false (Str.mk [])])):Int)) (0:Int)) (1:Int)) (Snap.mk f c.set c.chunks false (Str.mk [])));have D:0<=cA (State.mk v f r g s op e) c->cA (State.mk v f r g s op e) c+1<=(op.length:Int):=fun h=>Sf h;(repeat' with_reducible first|apply a_|refine aY ?_|intro)
 all_goals (first | exact bq | (simp only [eO,WK]; grind) | (simp only [List.length_cons,List.length_nil]; omega))
def OF:Kn:=aO (ae (kC cI) (ae (kC (ba 0 0)) al)) (qU 0 av) fun (i,_,_) (z,_)=>⟨[0<=i/\i<(z.snaps.length:Int),nch z.snaps<=1048576],[.agg (cellsOf (.nm .reply) ((eD z i.toNat).2))],some ((tF 0 ((eD z i.toNat).1))),false⟩
def aaa:CK 314 OF:=ah fun (i,_,_) (z,_) e=>by
 obtain ⟨v,f,g,h,j,op,d⟩:=z;have m:0<=i/\i<(d.length:Int):=cg e;have o:nch d<=1048576:=cg (eW e);refine bA lp [] Tryz.func314 (?_:(fun c=>I64 i->(0<=i/\i<(↑d.length:Int))/\nch d<=1048576/\(I64 c.snd.code->I64 c.snd.n->c.snd.code=c.snd.code/\c.snd.n=c.snd.n/\dj c.fst c.fst)) (eD (State.mk v f g h j op d) i.toNat));(repeat' with_reducible first|apply a_|refine aY ?_|intro)
 all_goals (first | exact bq | exact rfl)
def YQ:bH:=(aP 314 OF (aP 308 wh (aP 310 Bv (aP 306 BW XY))))
def gv:aw Tryz.prog (ak tyT) YQ:=(ag aaa (ag IQ (ag RY (ag Po lp))))
def bG (f:State->Nat->State × Reply) (c:Command) (s:State):State × Reply:=if aq Snap.id c.id s.snaps<0 then (s,⟨15,0⟩) else f s (aq Snap.id c.id s.snaps).toNat
section
variable {v nx kp qt:Int} {se:List Sess} {op:List Opn} {sn:List Snap} {c:Command} {f:State->Nat->State × Reply}
def sdY (h:aq Snap.id c.id sn<0):bG f c (State.mk v nx kp qt se op sn)=(State.mk v nx kp qt se op sn,⟨15,0⟩):=by
 simp only [bG,if_pos h]
def sdN (h:0<=aq Snap.id c.id sn):bG f c (State.mk v nx kp qt se op sn)=f (State.mk v nx kp qt se op sn) (aq Snap.id c.id sn).toNat:=by
 have d:¬ aq Snap.id c.id sn<0:=by omega
 simp only [bG,if_neg d]
end
def MV:Kn:=aO (ae (kC (ba 0 0)) (ae (kC (ba 4 0)) al)) (qU 0 (aH (yW 35 (.nm .command)) av)) fun _ (z,c,_)=>⟨[z.opens.length<1048576],[.agg (cellsOf (.nm .reply) ((fa z c).2))],some ((tF 0 ((fa z c).1)++[.box 35 (cellsOf (.nm .command) (c))])),false⟩
def aaw:CK 305 MV:=ah fun _ (z,c,_) e=>by
 obtain ⟨v,f,g,h,j,op,m⟩:=z;have o:op.length<1048576:=cg e;refine bA gv [] Tryz.func305 (?_:(fun d=>op.length<1048576/\(I64 d.snd.code->I64 d.snd.n->d.snd.code=d.snd.code/\d.snd.n=d.snd.n/\bJ d.fst d.fst (aS c c))) (fa (State.mk v f g h j op m) c));(repeat' with_reducible first|apply a_|refine aY ?_|intro)
 all_goals (first | exact bq | exact rfl)
def Qh:Kn:=aO (ae (kC (ba 0 0)) (ae (kC (ba 4 0)) al)) (qU 0 (aH (yW 35 (.nm .command)) av)) fun _ (z,c,_)=>⟨[nch z.snaps<=1048576,z.snaps.length<1048576,z.opens.length<1048576,0<=z.next],[.agg (cellsOf (.nm .reply) ((eO z c).2))],some ((tF 0 ((eO z c).1)++[.box 35 (cellsOf (.nm .command) (c))])),false⟩
def aaO:CK 307 Qh:=ah fun _ (z,c,_) f=>by
 obtain ⟨v,g,h,j,m,op,e⟩:=z;have o:nch e<=1048576:=cg f;have p:e.length<1048576:=cg (eW f);have q:op.length<1048576:=cg (eW (eW f));have r:0<=g:=cg (eW (eW (eW f)));refine bA gv [] Tryz.func307 (?_:(fun d=>nch e<=1048576/\e.length<1048576/\op.length<1048576/\0<=g/\(I64 d.snd.code->I64 d.snd.n->d.snd.code=d.snd.code/\d.snd.n=d.snd.n/\bJ d.fst d.fst (aS c c))) (eO (State.mk v g h j m op e) c));(repeat' with_reducible first|apply a_|refine aY ?_|intro)
 all_goals (first | exact bq | exact rfl)
def RG:Kn:=aO (ae (kC (ba 0 0)) (ae (kC (ba 4 0)) al)) (qU 0 (aH (yW 35 (.nm .command)) av)) fun _ (z,c,_)=>⟨[z.opens.length<1048576],[.agg (cellsOf (.nm .reply) ((fb z c).2))],some ((tF 0 ((fb z c).1)++[.box 35 (cellsOf (.nm .command) (c))])),false⟩
def ZR:CK 309 RG:=ah fun _ (z,c,_) e=>by
 obtain ⟨v,f,g,h,j,op,m⟩:=z;have o:op.length<1048576:=cg e;refine bA gv [] Tryz.func309 (?_:(fun d=>op.length<1048576/\(I64 d.snd.code->I64 d.snd.n->d.snd.code=d.snd.code/\d.snd.n=d.snd.n/\bJ d.fst d.fst (aS c c))) (fb (State.mk v f g h j op m) c));(repeat' with_reducible first|apply a_|refine aY ?_|intro)
 all_goals (first | exact bq | exact rfl)
def nM:Kn:=aO (ae (kC (rL 314 [] [(0,0)])) (ae (kC (ba 0 0)) (ae (kC (ba 4 0)) al))) (qU 0 (aH (yW 35 (.nm .command)) av)) fun _ (z,c,_)=>⟨[],[.c (.fn 301 [] [(0,0),(4,0),(5,0)])],some ((tF 0 z++[.box 35 (cellsOf (.nm .command) (c)),.box 306 ([.fn 314 [] [(0,0)]])])),true⟩
def yn:CK 300 nM:=ah fun _ (z,c,_) _=>by
 obtain ⟨v,d,e,f,g,op,h⟩:=z;refine dF gv [] Tryz.func300 (?_:v=v/\d=d/\e=e/\f=f/\g=g/\op=op/\h=h/\aS c c);(repeat' with_reducible first|apply a_|refine aY ?_|intro)
 all_goals (first | exact bq | exact rfl)
def qA:Kn:=aO (ae (kC (rL 316 [] [(0,0)])) (ae (kC (ba 0 0)) (ae (kC (ba 4 0)) al))) (qU 0 (aH (yW 35 (.nm .command)) av)) fun _ (z,c,_)=>⟨[],[.c (.fn 301 [] [(0,0),(4,0),(5,0)])],some ((tF 0 z++[.box 35 (cellsOf (.nm .command) (c)),.box 306 ([.fn 316 [] [(0,0)]])])),true⟩
def zE:CK 300 qA:=ah fun _ (z,c,_) _=>by
 obtain ⟨v,d,e,f,g,op,h⟩:=z;refine dF gv [] Tryz.func300 (?_:v=v/\d=d/\e=e/\f=f/\g=g/\op=op/\h=h/\aS c c);(repeat' with_reducible first|apply a_|refine aY ?_|intro)
 all_goals (first | exact bq | exact rfl)
def tn:Kn:=aO (ae (kC (rL 317 [] [(0,0),(1,0)])) (ae (kC (ba 1 0)) (ae (kC (ba 0 0)) al))) (aH (yW 35 (.nm .command)) (qU 1 av)) fun _ (c,z,_)=>⟨[],[.c (.fn 301 [] [(1,0),(0,0),(5,0)])],some (([.box 35 (cellsOf (.nm .command) (c))]++tF 1 z++[.box 306 ([.fn 317 [] [(0,0),(1,0)]])])),true⟩
def Dn:CK 300 tn:=ah fun _ (c,z,_) _=>by
 obtain ⟨v,d,e,f,g,op,h⟩:=z;refine dF gv [] Tryz.func300 (?_:bt c c (v=v/\d=d/\e=e/\f=f/\g=g/\op=op/\h=h));(repeat' with_reducible first|apply a_|refine aY ?_|intro)
 all_goals (first | exact bq | exact rfl)
def qL:Kn:=aO (ae (kC (rL 304 [] [(0,0),(4,0)])) (ae (kC (ba 0 0)) (ae (kC (ba 5 0)) al))) (qU 0 (aH (dN 4 (ax cB dK)) (aH (yW 35 (.nm .command)) av))) fun _ (z,(b,_),c,_)=>⟨[],[.c (.fn 301 [] [(0,0),(5,0),(6,0)])],some ((tF 0 z++[.box 4 ([.bool (.atom ((b)))]),.box 35 (cellsOf (.nm .command) (c)),.box 306 ([.fn 304 [] [(0,0),(4,0)]])])),true⟩
def BX:CK 300 qL:=ah fun _ (z,(b,_),c,_) _=>by
 obtain ⟨v,d,e,f,g,op,h⟩:=z;refine dF gv [] Tryz.func300 (?_:v=v/\d=d/\e=e/\f=f/\g=g/\op=op/\h=h/\b=b/\aS c c);(repeat' with_reducible first|apply a_|refine aY ?_|intro)
 all_goals (first | exact bq | exact rfl)
def Zn:bH:=(aP 300 qL (aP 300 tn (aP 300 qA (aP 300 nM (aP 309 RG (aP 307 Qh (aP 305 MV YQ)))))))
def jq:aw Tryz.prog (ak tyT) Zn:=(ag BX (ag Dn (ag zE (ag yn (ag ZR (ag aaO (ag aaw gv)))))))
def Qp:Kn:=aO (ae (kC cB) (ae (kC (ba 0 0)) (ae (kC (ba 1 0)) al))) (aH (dN 308 (ax (rL 300 [] [(1,0),(5,0)]) dK)) (qU 1 (aH (yW 35 (.nm .command)) av))) fun (b,_,_,_) ((_,_),z,c,_)=>⟨[],[.c (.fn 301 [] [(1,0),(5,0),(7,0)])],some (([.box 308 ([.fn 300 [] [(1,0),(5,0)]])]++tF 1 z++[.box 35 (cellsOf (.nm .command) (c)),.box 4 ([.bool (.atom ((b)))]),.box 306 ([.fn 304 [] [(1,0),(6,0)]])])),true⟩
def abj:CK 303 Qp:=ah fun (b,_,_,_) ((_,_),z,c,_) _=>by
 obtain ⟨v,d,e,f,g,op,h⟩:=z;refine dF jq [] Tryz.func303 (?_:v=v/\d=d/\e=e/\f=f/\g=g/\op=op/\h=h/\bt c c (b=b));(repeat' with_reducible first|apply a_|refine aY ?_|intro)
 all_goals (first | exact bq | exact rfl)
def si:Kn:=aO (ae (kC (ba 0 0)) (ae (kC (ba 4 0)) (ae (kC (ba 5 0)) al))) (qU 0 (aH (yW 35 (.nm .command)) (aH (dN 306 (ax (rL 314 [] [(0,0)]) dK)) av))) fun _ (z,c,(_,_),_)=>⟨[nch z.snaps<=1048576],[.agg (cellsOf (.nm .reply) ((bG eD c z).2))],some ((tF 0 ((bG eD c z).1)++[.box 35 (cellsOf (.nm .command) (c)),.box 306 ([.fn 314 [] [(0,0)]])])),false⟩
def Dz:CK 301 si:=ah fun _ (z,c,(_,_),_) j=>by
 obtain ⟨v,m,o,p,q,op,f⟩:=z;have r:nch f<=1048576:=cg j;refine bA jq [] Tryz.func301 (?_:(fun d=>(fun g=>(fun h=>(fun e=>I64 d->(d<0->I64 15->I64 0->15=e.snd.code/\0=e.snd.n/\bJ g e.fst (aS c c))/\(0<=d->(0<=d/\d<(↑f.length:Int))/\nch f<=1048576/\(I64 h.code->I64 h.n->h.code=e.snd.code/\h.n=e.snd.n/\bJ (eD g d.toNat).fst e.fst (aS c c)))) (bG eD c g)) (eD g d.toNat).snd) (State.mk v m o p q op f)) (aq Snap.id c.id f));(repeat' with_reducible first|apply a_|refine aY ?_|intro)
 all_goals (first | exact bq | exact d_ ab | (rw [sdY] <;> first | rfl | omega) | (rw [sdN] <;> first | rfl | omega))
def wI:Kn:=aO (ae (kC (ba 0 0)) (ae (kC (ba 4 0)) (ae (kC (ba 5 0)) al))) (qU 0 (aH (yW 35 (.nm .command)) (aH (dN 306 (ax (rL 316 [] [(0,0)]) dK)) av))) fun _ (z,c,(_,_),_)=>⟨[],[.agg (cellsOf (.nm .reply) ((bG gl c z).2))],some ((tF 0 ((bG gl c z).1)++[.box 35 (cellsOf (.nm .command) (c)),.box 306 ([.fn 316 [] [(0,0)]])])),false⟩
def JG:CK 301 wI:=ah fun _ (z,c,(_,_),_) _=>by
 obtain ⟨v,j,m,o,p,op,h⟩:=z;refine bA jq [] Tryz.func301 (?_:(fun d=>(fun f=>(fun g=>(fun e=>I64 d->(d<0->I64 15->I64 0->15=e.snd.code/\0=e.snd.n/\bJ f e.fst (aS c c))/\(0<=d->(0<=d/\d<(↑h.length:Int))/\(I64 g.code->I64 g.n->g.code=e.snd.code/\g.n=e.snd.n/\bJ (gl f d.toNat).fst e.fst (aS c c)))) (bG gl c f)) (gl f d.toNat).snd) (State.mk v j m o p op h)) (aq Snap.id c.id h));(repeat' with_reducible first|apply a_|refine aY ?_|intro)
 all_goals (first | exact bq | exact d_ ab | (rw [sdY] <;> first | rfl | omega) | (rw [sdN] <;> first | rfl | omega))
def Bf:Kn:=aO (ae (kC (ba 0 0)) (ae (kC (ba 4 0)) (ae (kC (ba 5 0)) al))) (qU 0 (aH (yW 35 (.nm .command)) (aH (dN 306 (ax (rL 317 [] [(4,0),(0,0)]) dK)) av))) fun _ (z,c,(_,_),_)=>⟨[],[.agg (cellsOf (.nm .reply) ((bG (td c) c z).2))],some ((tF 0 ((bG (td c) c z).1)++[.box 35 (cellsOf (.nm .command) (c)),.box 306 ([.fn 317 [] [(4,0),(0,0)]])])),false⟩
def Mh:CK 301 Bf:=ah fun _ (z,c,(_,_),_) _=>by
 obtain ⟨v,j,m,o,p,op,h⟩:=z;refine bA jq [] Tryz.func301 (?_:(fun d=>(fun f=>(fun g=>(fun e=>I64 d->(d<0->I64 15->I64 0->15=e.snd.code/\0=e.snd.n/\bJ f e.fst (aS c c))/\(0<=d->(0<=d/\d<(↑h.length:Int))/\(I64 g.code->I64 g.n->g.code=e.snd.code/\g.n=e.snd.n/\bJ (td c f d.toNat).fst e.fst (aS c c)))) (bG (td c) c f)) (td c f d.toNat).snd) (State.mk v j m o p op h)) (aq Snap.id c.id h));(repeat' with_reducible first|apply a_|refine aY ?_|intro)
 all_goals (first | exact bq | exact d_ ab | (rw [sdY] <;> first | rfl | omega) | (rw [sdN] <;> first | rfl | omega))
def wj:Kn:=aO (ae (kC (ba 0 0)) (ae (kC (ba 4 0)) (ae (kC (ba 5 0)) al))) (qU 0 (aH (yW 35 (.nm .command)) (aH (dN 306 (ax (rL 304 [] [(0,0),(6,0)]) dK)) (aH (dN 4 (ax cB dK)) av)))) fun _ (z,c,(_,_),(b,_),_)=>⟨[],[.agg (cellsOf (.nm .reply) ((bG (gM b) c z).2))],some ((tF 0 ((bG (gM b) c z).1)++[.box 35 (cellsOf (.nm .command) (c)),.box 306 ([.fn 304 [] [(0,0),(6,0)]]),.box 4 ([.bool (.atom ((b)))])])),false⟩
def Jz:CK 301 wj:=ah fun _ (z,c,(_,_),(b,_),_) _=>by
 obtain ⟨v,j,m,o,p,op,h⟩:=z;refine bA jq [] Tryz.func301 (?_:(fun d=>(fun f=>(fun g=>(fun e=>I64 d->(d<0->I64 15->I64 0->15=e.snd.code/\0=e.snd.n/\bJ f e.fst (bt c c (b=b)))/\(0<=d->(0<=d/\d<(↑h.length:Int))/\(I64 g.code->I64 g.n->g.code=e.snd.code/\g.n=e.snd.n/\bJ (gM b f d.toNat).fst e.fst (bt c c (b=b))))) (bG (gM b) c f)) (gM b f d.toNat).snd) (State.mk v j m o p op h)) (aq Snap.id c.id h));(repeat' with_reducible first|apply a_|refine aY ?_|intro)
 all_goals (first | exact bq | exact d_ ab | (rw [sdY] <;> first | rfl | omega) | (rw [sdN] <;> first | rfl | omega))
def Zu:bH:=(aP 301 wj (aP 301 Bf (aP 301 wI (aP 301 si (aP 303 Qp Zn)))))
def CI:aw Tryz.prog (ak tyT) Zu:=(ag Jz (ag Mh (ag JG (ag Dz (ag abj jq)))))
def fL (s:State) (c:Command):Int:=if eK s s.version=0 then bQ c s.version else 1
def Oy (s:State) (c:Command):State × Reply:=
 if c.kind=11 then bG (td c) c s
 else if c.kind=10 then bG (gM false) c s
 else if c.kind=9 then bG (gM true) c s
 else if c.kind=7 then bG gl c s
 else if c.kind=5 then bG eD c s
 else if c.kind=12 then pQ c s
 else if c.kind=6 then tx c s
 else if c.kind=4 then fb s c
 else if c.kind=3 then eO s c
 else if c.kind=2 then fa s c
 else (s,⟨1,0⟩)
def fp (s:State) (c:Command):State × Reply:=if ¬ fL s c=0 then (s,⟨fL s c,0⟩) else Oy s c
theorem yG {α:Type} {d:α->Int} {c:Int}:∀ {l:List α} {a:Int},aA d c a l=true->l=[]\/a+(l.length:Int)<=c
 | [],_,_=>.inl rfl
 | x :: l,a,h=>by
  simp only [aA,Bool.and_eq_true] at h;have e:=KW h.1;rcases yG h.2 with h2 | h2
  ·grind
  grind
theorem gW {s:State} {v:Int} (h:eK s v=0):cn v 1 3=true/\lK s v=true/\Cs s=true/\yB s=true/\gh s v=true:=by
 unfold eK at h;grind
theorem ZP {s:State} {v:Int} (h:eK s v=0):s.opens.length<=8:=by
 have c:=(gW h).2.2.2.1;simp only [yB,Bool.and_eq_true] at c;rcases yG c.1 with h2 | h2
 ·grind
 omega
theorem acL {s:State} {v:Int} (h:eK s v=0):s.sess.length<=8:=by
 have c:=(gW h).2.2.1;simp only [Cs,Bool.and_eq_true] at c;rcases yG c.1 with h2 | h2
 ·grind
 omega
theorem QR {s:State} {v:Int} (h:eK s v=0):s.snaps.length<=16/\aA Snap.id (s.next - 1) 0 s.snaps=true/\∀ x ∈ s.snaps,dG v (yI v) x=true:=by
 have c:=(gW h).2.2.2.2;simp only [gh] at c;grind
variable {t:Int}
def ZN {v:Int} (h:dG v t x=true):cJ x.chunks=true:=by
 simp only [dG,Bool.and_eq_true,decide_eq_true_eq] at h;cases c:cJ x.chunks with
 | true=>rfl
 | false=>have:=sL (l:=x.chunks) c; omega
theorem QZ:∀ {l:List Snap},(∀ x ∈ l,cJ x.chunks=true)->nch l<=8*l.length
 | [],_=>Nat.le_refl _
 | x :: l,h=>by
  have d:=QZ (l:=l) fun y c=>h y (abM _ c);have f:=(HB (h x (adx))).2;have e:nch (x :: l)=x.chunks.length+nch l:=by simp [nch]
  grind
def TE {s:State} {v:Int} (h:eK s v=0):nch s.snaps<=128:=by
 have c:=QR h;have:=QZ (l:=s.snaps) fun x d=>ZN (c.2.2 x d);omega
def aat {s:State} {v:Int} (h:eK s v=0):1<=s.next/\s.next<=1048576:=by
 have c:=(gW h).2.1;simp only [lK,Bool.and_eq_true] at c;exact KW c.1.1.2
theorem Ee {s:State} {c:Command} (h:(if eK s s.version=0 then bQ c s.version else 1)=0):eK s s.version=0:=by grind
def acU {s:State} {c:Command} (h:(if eK s s.version=0 then bQ c s.version else 1)=0):nch s.snaps<=1048576:=by have:=TE (Ee h); omega
def agJ {s:State} {c:Command} (h:(if eK s s.version=0 then bQ c s.version else 1)=0):s.opens.length<1048576:=by have:=ZP (Ee h); omega
def Xn {s:State} {c:Command} (h:(if eK s s.version=0 then bQ c s.version else 1)=0):s.sess.length<1048576:=by have:=acL (Ee h); omega
def ael {s:State} {c:Command} (h:(if eK s s.version=0 then bQ c s.version else 1)=0):s.snaps.length<1048576:=by have:=(QR (Ee h)).1; omega
def afy {s:State} {c:Command} (h:(if eK s s.version=0 then bQ c s.version else 1)=0):0<=s.next:=by have:=aat (Ee h); omega
def aef {s:State} {c:Command} (h:(if eK s s.version=0 then bQ c s.version else 1)=0):fp s c=Oy s c:=by
 have h:fL s c=0:=h;rw [fp,h]; rfl
def aj9 {s:State} {c:Command} (h:¬ (if eK s s.version=0 then bQ c s.version else 1)=0):fp s c=(s,⟨(if eK s s.version=0 then bQ c s.version else 1),0⟩):=by
 have h:¬ fL s c=0:=h;rw [fp,if_pos h]; rfl
def RW:Kn:=aO (ae (kT (.nm .state)) (ae (kT (.nm .command)) al)) av fun (st,c,_) _=>⟨[],[.agg ([.int (((fp st c).1.version)),.int (((fp st c).1.next)),.int (((fp st c).1.keep)),.int (((fp st c).1.quota)),.own 0,.own 1,.own 2]),.agg (cellsOf (.nm .reply) ((fp st c).2))],some ([.row 137 (.nm .sess) (((fp st c).1.sess)),.row 139 (.nm .opn) (((fp st c).1.opens)),.row 172 (.nm .snap) (((fp st c).1.snaps))]),true⟩
def ac4:CK 281 RW:=ah fun (st,c,_) _ _=>by
 refine dF CI [] Tryz.func281 (?_:(fun y=>(fun G=>(fun H=>(fun u=>(fun I=>(fun v=>(fun j=>(fun m=>(fun o=>(fun s=>(fun z=>(fun A=>(fun B=>(fun C=>(fun D=>(fun F=>(fun K=>(fun w=>(fun d=>(fun J=>(fun p=>(fun q=>(fun r=>(fun e=>(fun f=>(fun g=>(fun h=>(fun L=>eN st (bB c (I64 y->I64 st.next->I64 st.keep->I64 st.quota->I64 K->(¬K=u->I64 K->I64 u->y=h/\st.next=e/\st.keep=f/\st.quota=g/\K=d/\L)/\(K=u->(s=11->I64 C.snd.code->I64 C.snd.n->C.fst.version=h/\C.fst.next=e/\C.fst.keep=f/\C.fst.quota=g/\C.snd.code=d/\C.snd.n=w.n/\C.fst.sess=p/\C.fst.opens=r/\C.fst.snaps=q)/\(¬s=11->(s=10->I64 F.snd.code->I64 F.snd.n->F.fst.version=h/\F.fst.next=e/\F.fst.keep=f/\F.fst.quota=g/\F.snd.code=d/\F.snd.n=w.n/\F.fst.sess=p/\F.fst.opens=r/\F.fst.snaps=q)/\(¬s=10->(s=9->I64 D.snd.code->I64 D.snd.n->D.fst.version=h/\D.fst.next=e/\D.fst.keep=f/\D.fst.quota=g/\D.snd.code=d/\D.snd.n=w.n/\D.fst.sess=p/\D.fst.opens=r/\D.fst.snaps=q)/\(¬s=9->(s=7->I64 B.snd.code->I64 B.snd.n->B.fst.version=h/\B.fst.next=e/\B.fst.keep=f/\B.fst.quota=g/\B.snd.code=d/\B.snd.n=w.n/\B.fst.sess=p/\B.fst.opens=r/\B.fst.snaps=q)/\(¬s=7->(s=5->H/\(I64 A.snd.code->I64 A.snd.n->A.fst.version=h/\A.fst.next=e/\A.fst.keep=f/\A.fst.quota=g/\A.snd.code=d/\A.snd.n=w.n/\A.fst.sess=p/\A.fst.opens=r/\A.fst.snaps=q))/\(¬s=5->(s=12->H/\(I64 j.snd.code->I64 j.snd.n->j.fst.version=h/\j.fst.next=e/\j.fst.keep=f/\j.fst.quota=g/\j.snd.code=d/\j.snd.n=w.n/\j.fst.sess=p/\j.fst.opens=r/\j.fst.snaps=q))/\(¬s=12->(s=6->I64 G.code->I64 G.n->v.version=h/\v.next=e/\v.keep=f/\v.quota=g/\G.code=d/\G.n=w.n/\v.sess=p/\v.opens=r/\v.snaps=q)/\(¬s=6->(s=4->I/\(I64 o.snd.code->I64 o.snd.n->o.fst.version=h/\o.fst.next=e/\o.fst.keep=f/\o.fst.quota=g/\o.snd.code=d/\o.snd.n=w.n/\o.fst.sess=p/\o.fst.opens=r/\o.fst.snaps=q))/\(¬s=4->(s=3->H/\st.snaps.length<1048576/\I/\u<=st.next/\(I64 z.snd.code->I64 z.snd.n->z.fst.version=h/\z.fst.next=e/\z.fst.keep=f/\z.fst.quota=g/\z.snd.code=d/\z.snd.n=w.n/\z.fst.sess=p/\z.fst.opens=r/\z.fst.snaps=q))/\(¬s=3->(s=2->I/\(I64 m.snd.code->I64 m.snd.n->m.fst.version=h/\m.fst.next=e/\m.fst.keep=f/\m.fst.quota=g/\m.snd.code=d/\m.snd.n=w.n/\m.fst.sess=p/\m.fst.opens=r/\m.fst.snaps=q))/\(¬s=2->I64 1->I64 u->y=h/\st.next=e/\st.keep=f/\st.quota=g/\1=d/\L)))))))))))))) (u=w.n/\st.sess=p/\st.opens=r/\st.snaps=q)) J.version) J.quota) J.keep) J.next) J.opens) J.snaps) J.sess) (fp st c).fst) w.code) (fp st c).snd) (if eK st y=u then bQ c y else 1)) (bG (gM false) c st)) (bG (gM true) c st)) (bG (td c) c st)) (bG gl c st)) (bG eD c st)) (eO st c)) c.kind) (fb st c)) (fa st c)) (pQ c st)) (tx c st).fst) (st.opens.length<1048576)) (0:Int)) (nch st.snaps<=1048576)) (tx c st).snd) st.version)
 (repeat' with_reducible first|apply a_|refine aY ?_|intro)
 all_goals (first | exact bq | exact (acU ab) | exact (agJ ab) | exact (Xn ab) | exact (ael ab) | exact (afy ab) | (rw [aj9 ab]; done) | (rw [aef ab]; simp only [Oy, *]; done) | (rw [aef ab]; simp [Oy, *]; done))
def Zh:bH:=(aP 281 RW Zu)
def Dd:aw Tryz.prog (ak tyT) Zh:=(ag ac4 CI)
def cM (s:State) (c:Command):State × Reply:=
 if aq Sess.client c.client s.sess<0 then (s,⟨11,0⟩)
 else if c.seq=(s.sess.getD (aq Sess.client c.client s.sess).toNat (aj (.nm .sess))).seq then (s,(s.sess.getD (aq Sess.client c.client s.sess).toNat (aj (.nm .sess))).last)
 else if c.seq<(s.sess.getD (aq Sess.client c.client s.sess).toNat (aj (.nm .sess))).seq then (s,⟨13,0⟩)
 else if (s.sess.getD (aq Sess.client c.client s.sess).toNat (aj (.nm .sess))).seq+1<c.seq then (s,⟨14,0⟩)
 else ({ (fp s c).1 with sess:=(fp s c).1.sess.set (aq Sess.client c.client s.sess).toNat { (fp s c).1.sess.getD (aq Sess.client c.client s.sess).toNat (aj (.nm .sess)) with seq:=c.seq,last:=(fp s c).2 } },(fp s c).2)
def rz (s:State) (c:Command):State × Reply:=
 if ¬ fL s c=0 then (s,⟨fL s c,0⟩)
 else if c.kind=8 then (if ¬ c.n=s.version+1 then (s,⟨1,0⟩) else ({ s with version:=c.n },⟨0,c.n⟩))
 else if c.kind=1 then (if 0<=aq Sess.client c.client s.sess then (s,⟨12,0⟩) else ({ s with sess:=C_ s.sess (s.sess.takeWhile fun y=>decide (y.client<c.client)).length ⟨c.client,0,⟨0,0⟩⟩ },⟨0,0⟩))
 else cM s c
variable {Q:State × Reply->Prop}
def Xd {s:State} {c:Command} (g:∀ e:Int,¬ e=0->Q (s,⟨e,0⟩))
  (d:∀ f:State->Nat->State × Reply,fL s c=0->(f=td c\/(∃ b,f=gM b)\/f=gl\/f=eD)->Q (bG f c s))
  (j:fL s c=0->Q (pQ c s)) (m:fL s c=0->Q (tx c s)) (o:fL s c=0->Q (fb s c)) (p:fL s c=0->Q (eO s c)) (q:fL s c=0->Q (fa s c)):Q (fp s c):=by
 unfold fp;split
 ·exact g _ ap
 rename_i h;have h:fL s c=0:=adv.1 h;unfold Oy;split
 ·exact d _ h (.inl rfl)
 split
 ·exact d _ h (.inr (.inl ⟨_,rfl⟩))
 split
 ·exact d _ h (.inr (.inl ⟨_,rfl⟩))
 split
 ·exact d _ h (.inr (.inr (.inl rfl)))
 split
 ·exact d _ h (.inr (.inr (.inr rfl)))
 split
 ·exact j h
 split
 ·exact m h
 split
 ·exact o h
 split
 ·exact p h
 split
 ·exact q h
 exact g 1 am
theorem Kg {f:State->Nat->State × Reply} {s:State} {c:Command} (d:∀ e:Int,¬ e=0->Q (s,⟨e,0⟩)) (h:∀ n:Nat,(n:Int)=aq Snap.id c.id s.snaps->Q (f s n)):Q (bG f c s):=by
 unfold bG;grind
def Ku {s:State} {c:Command}:(fp s c).1.sess=s.sess:=by
 refine Xd (Q:=fun r=>r.1.sess=s.sess) (fun _ _=>rfl) (fun f _ d=>?_) (fun _=>rfl) (fun _=>rfl) (fun _=>?_) (fun _=>?_) (fun _=>?_)
 ·refine Kg (Q:=fun r=>r.1.sess=s.sess) (fun _ _=>rfl) fun n _=>?_;rcases d with rfl | ⟨b,rfl⟩ | rfl | rfl
  ·rfl
  ·unfold gM; split <;> rfl
  ·rfl
  unfold eD; split; rfl; split <;> rfl
 ·unfold fb; split <;> rfl
 ·unfold eO; split; rfl; split; rfl; split <;> rfl
 unfold fa; split <;> rfl
theorem zb {l:List Sess} {q:Int} {R:Reply} (h:k<l.length):(l.set k (Sess.mk (l.getD k (aj (.nm .sess))).client q (l.getD k (aj (.nm .sess))).last)).set k (Sess.mk ((l.set k (Sess.mk (l.getD k (aj (.nm .sess))).client q (l.getD k (aj (.nm .sess))).last)).getD k (aj (.nm .sess))).client ((l.set k (Sess.mk (l.getD k (aj (.nm .sess))).client q (l.getD k (aj (.nm .sess))).last)).getD k (aj (.nm .sess))).seq R)=l.set k { l.getD k (aj (.nm .sess)) with seq:=q,last:=R }:=by simp_all
section
variable {v nx kp qt:Int} {se:List Sess} {op:List Opn} {sn:List Snap} {c:Command}
def as1 (h:aq Sess.client c.client se<0):cM (State.mk v nx kp qt se op sn) c=(State.mk v nx kp qt se op sn,⟨11,0⟩):=by
 simp only [cM,if_pos h]
def as2 (h:0<=aq Sess.client c.client se) (e:c.seq=(se.getD (aq Sess.client c.client se).toNat (aj (.nm .sess))).seq):cM (State.mk v nx kp qt se op sn) c=(State.mk v nx kp qt se op sn,(se.getD (aq Sess.client c.client se).toNat (aj (.nm .sess))).last):=by
 have d:¬ aq Sess.client c.client se<0:=by omega
 simp only [cM,if_neg d,if_pos e]
def as3 (h:0<=aq Sess.client c.client se) (e:¬ c.seq=(se.getD (aq Sess.client c.client se).toNat (aj (.nm .sess))).seq) (l:c.seq<(se.getD (aq Sess.client c.client se).toNat (aj (.nm .sess))).seq):cM (State.mk v nx kp qt se op sn) c=(State.mk v nx kp qt se op sn,⟨13,0⟩):=by
 have d:¬ aq Sess.client c.client se<0:=by omega
 simp only [cM,if_neg d,if_neg e,if_pos l]
def as4 (h:0<=aq Sess.client c.client se) (e:¬ c.seq=(se.getD (aq Sess.client c.client se).toNat (aj (.nm .sess))).seq) (l:(se.getD (aq Sess.client c.client se).toNat (aj (.nm .sess))).seq<=c.seq) (g:(se.getD (aq Sess.client c.client se).toNat (aj (.nm .sess))).seq+1<c.seq):cM (State.mk v nx kp qt se op sn) c=(State.mk v nx kp qt se op sn,⟨14,0⟩):=by
 have d:¬ aq Sess.client c.client se<0:=by omega
 have f:¬ c.seq<(se.getD (aq Sess.client c.client se).toNat (aj (.nm .sess))).seq:=by omega
 simp only [cM,if_neg d,if_neg e,if_neg f,if_pos g]
def as5 (h:0<=aq Sess.client c.client se) (e:¬ c.seq=(se.getD (aq Sess.client c.client se).toNat (aj (.nm .sess))).seq) (l:(se.getD (aq Sess.client c.client se).toNat (aj (.nm .sess))).seq<=c.seq) (g:c.seq<=(se.getD (aq Sess.client c.client se).toNat (aj (.nm .sess))).seq+1):cM (State.mk v nx kp qt se op sn) c=({ (fp (State.mk v nx kp qt se op sn) c).1 with sess:=(fp (State.mk v nx kp qt se op sn) c).1.sess.set (aq Sess.client c.client se).toNat { (fp (State.mk v nx kp qt se op sn) c).1.sess.getD (aq Sess.client c.client se).toNat (aj (.nm .sess)) with seq:=c.seq,last:=(fp (State.mk v nx kp qt se op sn) c).2 } },(fp (State.mk v nx kp qt se op sn) c).2):=by
 have d:¬ aq Sess.client c.client se<0:=by omega
 have f:¬ c.seq<(se.getD (aq Sess.client c.client se).toNat (aj (.nm .sess))).seq:=by omega
 have j:¬ (se.getD (aq Sess.client c.client se).toNat (aj (.nm .sess))).seq+1<c.seq:=by omega
 simp only [cM,if_neg d,if_neg e,if_neg f,if_neg j]
def OO (h:0<=aq Sess.client c.client se):aq Sess.client c.client se<((fp (State.mk v nx kp qt se op sn) c).1.sess.length:Int):=by rw [Ku]; exact d_ h
def Bh (h:0<=aq Sess.client c.client se):(aq Sess.client c.client se).toNat<(fp (State.mk v nx kp qt se op sn) c).1.sess.length:=by have:=OO (v:=v) (nx:=nx) (kp:=kp) (qt:=qt) (op:=op) (sn:=sn) h; omega
def afl {x:Sess} (h:0<=aq Sess.client c.client se):aq Sess.client c.client se<(((fp (State.mk v nx kp qt se op sn) c).1.sess.set (aq Sess.client c.client se).toNat x).length:Int):=by rw [aeD]; exact OO h
def akb (h:fL (State.mk v nx kp qt se op sn) c=0) (g:0<=aq Sess.client c.client se):I64 ((se.getD (aq Sess.client c.client se).toNat (aj (.nm .sess))).seq+1):=by
 have e:=(gW (Ee h)).2.2.1;simp only [Cs,Bool.and_eq_true,ahW] at e;have f:=e.2 _ (adB (gd (d:=aj (.nm .sess)) (k:=(aq Sess.client c.client se).toNat) (l:=se) (by have:=d_ g; omega)));simp only [ej,Bool.and_eq_true] at f;have j:=KW f.1.1;constructor <;> omega
end
def Bj:Kn:=aO (ae (kG (ax cI (ax cI (ax cI (ax cI (ax (fg 0) (ax (fg 1) (ax (fg 2) dK)))))))) (ae (kT (.nm .command)) al)) (aH (e_ 137 (.nm .sess)) (aH (e_ 139 (.nm .opn)) (aH (e_ 172 (.nm .snap)) av))) fun ((v,d,e,f,_,_,_,_),c,_) (g,op,h,_)=>⟨[fL (State.mk v d e f g op h) c=0],[.agg ([.int (((cM (State.mk v d e f g op h) c).1.version)),.int (((cM (State.mk v d e f g op h) c).1.next)),.int (((cM (State.mk v d e f g op h) c).1.keep)),.int (((cM (State.mk v d e f g op h) c).1.quota)),.own 0,.own 1,.own 2]),.agg (cellsOf (.nm .reply) ((cM (State.mk v d e f g op h) c).2))],some ([.row 137 (.nm .sess) (((cM (State.mk v d e f g op h) c).1.sess)),.row 139 (.nm .opn) (((cM (State.mk v d e f g op h) c).1.opens)),.row 172 (.nm .snap) (((cM (State.mk v d e f g op h) c).1.snaps))]),false⟩
theorem LB:CK 264 Bj:=ah fun ((v,F,G,H,_,_,_,_),c,_) (z,op,J,_) K=>by
 have L:=cg K;refine bA Dd [] Tryz.func264 (?_:(fun u=>(fun j=>(fun A=>(fun h=>(fun w=>(fun s=>(fun I=>(fun D=>(fun g=>(fun e=>(fun d=>(fun m=>(fun B=>(fun f=>(fun o=>(fun p=>(fun q=>(fun r=>(fun C=>(fun y=>I64 v->I64 F->I64 G->I64 H->bB c (I64 h->(h<j->I64 11->I64 j->r/\p/\o/\q/\11=e.code/\y)/\(j<=h->j<=h/\h<(↑z.length:Int)/\iu s ((u=s.seq->r/\p/\o/\q/\s.last.code=e.code/\s.last.n=e.n/\C)/\(¬u=s.seq->(u<s.seq->I64 13->I64 j->r/\p/\o/\q/\13=e.code/\y)/\(s.seq<=u->I64 I/\(I<u->I64 14->I64 j->r/\p/\o/\q/\14=e.code/\y)/\(u<=I->I64 d.version->I64 d.next->I64 d.keep->I64 d.quota->I64 g.code->I64 g.n->(j<=h/\h<(↑d.sess.length:Int))/\iu m (j<=h/\h<(↑B.length:Int))/\iu m (iu (B.getD w A) (d.version=f.version/\d.next=f.next/\d.keep=f.keep/\d.quota=f.quota/\g.code=e.code/\g.n=e.n/\B.set w (Sess.mk (B.getD w A).client (B.getD w A).seq g)=f.sess/\d.opens=f.opens/\d.snaps=f.snaps))))))))) (j=e.n/\C)) (z=f.sess/\op=f.opens/\J=f.snaps)) (v=f.version)) (H=f.quota)) (F=f.next)) (G=f.keep)) (cM D c).fst) (d.sess.set w (Sess.mk m.client u m.last))) (d.sess.getD w A)) (fp D c).fst) (cM D c).snd) (fp D c).snd) (State.mk v F G H z op J)) (s.seq+1)) (z.getD w A)) h.toNat) (aq Sess.client c.client z)) (aj (Sh.nm NT.sess))) (0:Int)) c.seq);(repeat' with_reducible first|apply a_|refine aY ?_|intro)
 all_goals (first | exact bq | exact d_ ab | exact OO ab | exact afl ab | exact akb ab ab | (rw [as1] <;> first | rfl | with_reducible assumption | exact zb (Bh ab)) | (rw [as2] <;> first | rfl | with_reducible assumption | exact zb (Bh ab)) | (rw [as3] <;> first | rfl | with_reducible assumption | exact zb (Bh ab)) | (rw [as4] <;> first | rfl | with_reducible assumption | exact zb (Bh ab)) | (rw [as5] <;> first | rfl | with_reducible assumption | exact zb (Bh ab)))
def Zt:bH:=(aP 264 Bj Zh)
def B_:aw Tryz.prog (ak tyT) Zt:=(ag LB Dd)
section
variable {s:State} {c:Command}
def aju (h:(if eK s s.version=0 then bQ c s.version else 1)=0):fL s c=0:=h
def ain (h:(if eK s s.version=0 then bQ c s.version else 1)=0):I64 (s.version+1):=by
 have d:=(gW (Ee h)).2.1;simp only [lK,Bool.and_eq_true] at d;have:=KW d.1.1.1;constructor <;> omega
def doE (h:¬ (if eK s s.version=0 then bQ c s.version else 1)=0):rz s c=(s,⟨(if eK s s.version=0 then bQ c s.version else 1),0⟩):=by
 have h:¬ fL s c=0:=h;rw [rz,if_pos h]; rfl
def doM (h:(if eK s s.version=0 then bQ c s.version else 1)=0):rz s c=if c.kind=8 then (if ¬ c.n=s.version+1 then (s,⟨1,0⟩) else ({ s with version:=c.n },⟨0,c.n⟩))
 else if c.kind=1 then (if 0<=aq Sess.client c.client s.sess then (s,⟨12,0⟩) else ({ s with sess:=C_ s.sess (s.sess.takeWhile fun y=>decide (y.client<c.client)).length ⟨c.client,0,⟨0,0⟩⟩ },⟨0,0⟩))
 else cM s c:=by
 have h:¬ ¬ fL s c=0:=fun k=>k h;rw [rz,if_neg h]
def ajZ (h:(if eK s s.version=0 then bQ c s.version else 1)=0) (k:c.kind=8) (n:¬ c.n=s.version+1):rz s c=(s,⟨1,0⟩):=by rw [doM h,if_pos k,if_pos n]
def aiP (h:(if eK s s.version=0 then bQ c s.version else 1)=0) (k:c.kind=8) (n:c.n=s.version+1):rz s c=({ s with version:=c.n },⟨0,c.n⟩):=by rw [doM h,if_pos k,if_neg (fun h=>h n)]
def ali (h:(if eK s s.version=0 then bQ c s.version else 1)=0) (k:c.kind=1) (n:0<=aq Sess.client c.client s.sess):rz s c=(s,⟨12,0⟩):=by rw [doM h,if_neg aI,if_pos k,if_pos n]
def ajW (h:(if eK s s.version=0 then bQ c s.version else 1)=0) (k:c.kind=1) (n:aq Sess.client c.client s.sess<0):rz s c=({ s with sess:=C_ s.sess (s.sess.takeWhile fun y=>decide (y.client<c.client)).length ⟨c.client,0,⟨0,0⟩⟩ },⟨0,0⟩):=by rw [doM h,if_neg aI,if_pos k,if_neg aI]
def doX (h:(if eK s s.version=0 then bQ c s.version else 1)=0) (k:¬ c.kind=8) (n:¬ c.kind=1):rz s c=cM s c:=by rw [doM h,if_neg k,if_neg n]
variable {l:List Sess}
theorem pf {x:Sess} (d:k<=l.length) (e:(l.take k).all (fun y=>decide (y.client<c.client))=true) (f:(l.length:Int)<=k\/c.client<=(l.getD k (aj (.nm .sess))).client):l.take k++[x]++l.drop k=C_ l (l.takeWhile fun y=>decide (y.client<c.client)).length x:=by
 have:k=(l.takeWhile fun y=>decide (y.client<c.client)).length:=by
  refine M_ e d ?_;grind
 rw [<- this]; simp [C_]
def agA (e:(l.take k).all (fun y=>decide (y.client<c.client))=true) (h:(k:Int)<l.length) (f:(l.getD k (aj (.nm .sess))).client<c.client):(l.take (k+1)).all (fun y=>decide (y.client<c.client))=true:=by
 rw [ai (gd (d:=aj (.nm .sess)) h),aiU,e]; simp only [aik,decide_eq_true f]; rfl
end
def ai2 (st:State) (c:Command):List (Nat × LI):=[(15,{ σ:=Nat,F:=fun k=>([(2,one (.ptr 0 0)),(3,one (.ptr 1 0)),(4,one (.ptr 2 0)),(5,one (.ptr 3 0)),(7,one (.int k))],[.box 46 ([.int ((st.version)),.int ((st.next)),.int ((st.keep)),.int ((st.quota)),.own 4,.own 5,.own 6]),.box 35 (cellsOf (.nm .command) (c)),.box 46 ([.int ((0)),.int ((0)),.int ((0)),.int ((0)),.em true,.em true,.em true]),.box 78 ([.int ((0)),.int ((0))]),.row 137 (.nm .sess) ((st.sess)),.row 139 (.nm .opn) ((st.opens)),.row 172 (.nm .snap) ((st.snaps))]),J:=fun k=>k<=st.sess.length/\(st.sess.take k).all (fun y=>decide (y.client<c.client))=true,μ:=fun k=>st.sess.length - k })]
def Xm:Kn:=aO (ae (kT (.nm .state)) (ae (kT (.nm .command)) al)) av fun (st,c,_) _=>⟨[],[.agg ([.int (((rz st c).1.version)),.int (((rz st c).1.next)),.int (((rz st c).1.keep)),.int (((rz st c).1.quota)),.own 0,.own 1,.own 2]),.agg (cellsOf (.nm .reply) ((rz st c).2))],some ([.row 137 (.nm .sess) (((rz st c).1.sess)),.row 139 (.nm .opn) (((rz st c).1.opens)),.row 172 (.nm .snap) (((rz st c).1.snaps))]),true⟩
theorem aew:CK 227 Xm:=ah fun (st,c,_) _ _=>by
 refine dF B_ (ai2 st c) Tryz.func227 (?_:(fun (H:List Opn)=>(fun (z:Int)=>(fun (A:Int)=>(fun (B:Reply)=>(fun (C:Int)=>(fun (U:den (Sh.nm NT.sess))=>(fun (G:Int)=>(fun (v:Int)=>(fun (w:Reply)=>(fun (o:State)=>(fun (D:Int)=>(fun (O:Int)=>(fun (P:Int)=>(fun (f:List Sess)=>(fun (I:Int)=>(fun (h:Int)=>(fun (d:Int)=>(fun (j:Prop)=>(fun (p:Int)=>(fun (T:Prop)=>(fun (g:State)=>(fun (K:Prop)=>(fun (F:Prop)=>(fun (q:Prop)=>(fun (r:Prop)=>(fun (u:Prop)=>(fun (L:Prop)=>(fun (J:Prop)=>eN st (bB c (I64 D->I64 z->I64 A->I64 C->I64 p->(¬p=d->I64 p->I64 d->F/\r/\q/\u/\p=w.code/\J)/\(p=d->(c.kind=8->I64 (D+v)/\(¬c.n=D+v->I64 v->I64 d->F/\r/\q/\u/\v=w.code/\J)/\(c.n=D+v->c.n=g.version/\r/\q/\u/\d=w.code/\c.n=w.n/\L))/\(¬c.kind=8->(c.kind=v->I64 I->(d<=I->I64 12->I64 d->F/\r/\q/\u/\12=w.code/\J)/\(I<d->∃ (S:Nat),(d=(↑S:Int)/\T)/\(S<=f.length/\((List.take S f).all fun (y:Sess)=>decide (y.client<G))=true)/\∀ (s:Nat),(fun (e:Int)=>(fun (m:den (Sh.nm NT.sess))=>s<=f.length/\((List.take s f).all fun (y:Sess)=>decide (y.client<G))=true->(e<h->d<=e/\e<h)/\((e<h->I64 m.client/\I64 m.seq/\I64 m.last.code/\I64 m.last.n)->(e<h/\m.client<G->I64 (e+v)/\∃ (N:Nat),(e+v=(↑N:Int)/\T)/\(N <= f.length/\((List.take N f).all fun (y:Sess)=>decide (y.client<G))=true)/\f.length - N < f.length - s)/\(h<=e\/G<=m.client->(d<=e/\e<=h)/\f.length<1048576/\[Sess.mk G d (Reply.mk d d)].length=1/\F/\r/\q/\u/\d=w.code/\d=w.n/\List.take s f++[Sess.mk G d (Reply.mk d d)]++List.drop s f=g.sess/\K))) (f.getD s U)) (↑s:Int)))/\(¬c.kind=v->fL st c=d/\(I64 o.version->I64 o.next->I64 o.keep->I64 o.quota->I64 B.code->I64 B.n->o.version=g.version/\o.next=g.next/\o.keep=g.keep/\o.quota=g.quota/\B.code=w.code/\B.n=w.n/\o.sess=g.sess/\o.opens=g.opens/\o.snaps=g.snaps))))))) (d=w.n/\L)) (f=g.sess/\K)) (C=g.quota)) (z=g.next)) (A=g.keep)) (D=g.version)) (H=g.opens/\st.snaps=g.snaps)) (rz st c).fst) (D=D/\z=z/\A=A/\C=C/\bt c c (j/\j/\j/\j/\j/\j/\f=f/\H=H/\st.snaps=st.snaps))) (if P=d then O else v)) (d=d)) 0) (↑f.length:Int)) (aq Sess.client G f)) st.sess) (eK st D)) (bQ c D)) st.version) (cM st c).fst) (rz st c).snd) 1) c.client) (aj (Sh.nm NT.sess))) st.quota) (cM st c).snd) st.keep) st.next) st.opens);iterate 3 ((all_goals (repeat' with_reducible first|apply a_|refine aY ?_|intro)); (all_goals try (first | exact bq | exact rfl | exact aju ab | exact ain ab | exact Xn ab | exact agA ab ab ab | (rw [doE] <;> first | rfl | with_reducible assumption | exact pf aI ab ap) | (rw [ajZ] <;> first | rfl | with_reducible assumption | exact pf aI ab ap) | (rw [aiP] <;> first | rfl | with_reducible assumption | exact pf aI ab ap) | (rw [ali] <;> first | rfl | with_reducible assumption | exact pf aI ab ap) | (rw [ajW] <;> first | rfl | with_reducible assumption | exact pf aI ab ap) | (rw [doX] <;> first | rfl | with_reducible assumption | exact pf aI ab ap))); all_goals try first | refine ⟨‹Nat› + 1,?_⟩ | refine ⟨0,?_⟩)
def YH:bH:=(aP 227 Xm Zt)
def AW:aw Tryz.prog (ak tyT) YH:=(ag aew B_)
def Bw:Kn:=aO al av fun _ _=>⟨[],[.agg (cellsOf (.nm .state) (⟨1,1,0,0,[],[],[]⟩))],none,false⟩
def Oq:CK 27 Bw:=ah fun _ _ _=>by
 refine ao AW [] Tryz.func27 (?_:(1:Int)=1/\(1:Int)=1/\(0:Int)=0/\(0:Int)=0 /\ @Eq (List (den (Sh.nm NT.sess))) [] [] /\ @Eq (List (den (Sh.nm NT.opn))) [] [] /\ @Eq (List (den (Sh.nm NT.snap))) [] []);(repeat' with_reducible first|apply a_|refine aY ?_|intro)
 all_goals (first | exact bq | exact rfl)
def XW:bH:=(aP 27 Bw YH)
def OV:aw Tryz.prog (ak tyT) XW:=(ag Oq AW)
def YZ:bH:=XW
def MN:aw Tryz.prog (ak tyT) YZ:=OV
section
variable {s:State} {c:Command}
end
def Vu {c:Command} {v:Int} (h:bQ c v=0):(1<=v/\v<=3)/\¬ cF c.kind=0/\cF c.kind<=v/\mo c=true:=by
 unfold bQ at h;split at h
 ·cases h
 rename_i d;rw [Bool.or_eq_true,not_or] at d;simp only [ag5,Bool.not_eq_false,decide_eq_true_eq] at d;split at h
 ·cases h
 split at h
 ·cases h
 rename_i f e;exact ⟨KW d.1,d.2,aI,by simpa using e⟩
section
variable {α:Type} {key:α->Int} {most:Int}
end
section
variable {α:Type} {key:α->Int} {most:Int}
end
section
variable {s:State} {c:Command}
end
section
variable {α:Type} {key:α->Int} {most:Int}
end
section
variable {s:State} {x:Snap} {i:Nat}
end
section
variable {s:State} {x:Snap} {i:Nat}
end
section
variable {s:State} {x:Snap} {i:Nat}
end
section
variable {s:State} {c:Command} {k:Nat}
end
section
variable {α:Type} {key:α->Int} {most:Int}
end
section
variable {s:State} {c:Command}
end
section
variable {α:Type} {key:α->Int} {x y d:α}
variable {l:List α} {k:Nat}
end
def YT:bH:=YZ
def NP:aw Tryz.prog (ak tyT) YT:=MN
section
variable {st:State} {c:Command}
variable {i:Int} {x:Snap}
end
def Yl:bH:=YT
def Ps:aw Tryz.prog (ak tyT) Yl:=NP
section
variable {st:State} {c:Command}
end
def YA:bH:=Yl
def Ox:aw Tryz.prog (ak tyT) YA:=Ps
section
variable {st:State} {c:Command}
end
def YB:bH:=YA
def Br:aw Tryz.prog (ak tyT) YB:=Ox
def wZ (l:List Int):Int:=match l.findIdx? (fun x=>!bU x) with
 | some i=>(i:Int)
 | none=>-1
section
variable {l:List Int} {k:Nat} {x:Int}
def xe:wZ l=aq (fun x=>if bU x=true then 0 else 1) 1 l:=by
 have e:(fun x=>!bU x)=fun x:Int=>decide ((if bU x=true then (0:Int) else 1)=1):=by
  funext x;cases bU x <;> rfl
 unfold wZ aq; rw [e]; rfl
def aaB (h:wZ (l.take k) = -1) (d:l[k]? = some x) (c:(!bU x)=false):wZ (l.take (k+1)) = -1:=by
 rw [Bool.not_eq_false'] at c;rw [xe] at h ⊢;exact nG h d (by rw [if_pos c]; decide)
def WD (h:wZ (l.take k) = -1) (d:l[k]? = some x) (c:(!bU x)=true):(k:Int)=wZ l:=by
 rw [ag5] at c;rw [xe] at h ⊢;exact lS h d (by rw [c]; rfl)
def aaW (h:wZ (l.take k) = -1) (c:l.length<=k):-1=wZ l:=by rw [List.take_of_length_le c] at h; exact h.symm
def Wi:decide (0<=wZ l) = !l.all bU:=by
 cases e:l.findIdx? (fun x=>!bU x) with
 | none=>
  have h:=List.findIdx?_eq_none_iff.1 e;have:l.all bU=true:=ahW.2 fun x c=>by simpa using h x c
  unfold wZ; rw [e,this]; rfl
 | some i=>
  obtain ⟨d,f,_⟩:=ahe.1 e;have:l.all bU=false:=by
   rw [List.all_eq_false];exact ⟨l[i],aha d,by simpa using f⟩
  unfold wZ; rw [e,this];show decide (0<=(i:Int))=true;rw [decide_eq_true_eq]; omega
end
def zH:Kn:=aO (ae (kC cI) al) av fun (k,_) _=>⟨[],[.c (.bool (.atom ((bU k))))],none,false⟩
theorem PZ:CK 86 zH:=ah fun (k,_) _ _=>by
 refine ao Br [] Tryz.func86 (?_:I64 k->(decide (1<=k) && decide (k<=3))=bU k);grind [bU]
def XU:bH:=(aP 86 zH YB)
def uG:aw Tryz.prog (ak tyT) XU:=(ag PZ Br)
section
variable {st:State} {v:Int}
end
def xi:Kn:=aO (ae (kC cI) (ae (kC cI) al)) av fun (a,b,_) _=>⟨[],[.c (.int ((bW a b)))],none,false⟩
theorem Jn:CK 43 xi:=ah fun (a,b,_) _ _=>by
 refine ao uG [] Tryz.func43 (?_:I64 a->I64 b->(bU a=false\/bU b=false->1=bW a b)/\(bU a=true/\bU b=true->(a<b->32=bW a b)/\(b<=a->0=bW a b)));grind [bW,bU]
def BM:Kn:=aO (ae (kC cI) al) av fun (n,_) _=>⟨[],[.c (.bool (.atom ((!bU n))))],none,false⟩
theorem Sj:CK 157 BM:=ah fun (n,_) _ _=>by
 refine ao uG [] Tryz.func157 (?_:I64 n->(!bU n) = !bU n);grind
def XL:bH:=(aP 157 BM (aP 43 xi XU))
def ug:aw Tryz.prog (ak tyT) XL:=(ag Sj (ag Jn uG))
variable {l:List Int}
def Wc {s:Nat} {x:Int} (c:l[((s:Int)+1).toNat]? = some x):min (iT l (s+1)) x=iT l (s+1+1):=DS aI (by rwa [show ((s:Int)+1).toNat=s+1 by omega] at c)
def Uo (l:List Int):List (Nat × LI):=[(2,{ σ:=Nat,F:=fun k=>([(0,one (.fz .int (l))),(1,one (.fn 157 [] [])),(7,one (.int (l).length)),(8,one (.int k))],[]),J:=fun k=>k<=l.length/\wZ (l.take k) = -1,μ:=fun k=>(l).length - k })]
def aee (l:List Int):List (Nat × LI):=[(5,{ σ:=Nat,F:=fun k=>([(0,one (.fz .int (l))),(3,one (.int (iT l (k+1)))),(4,one (.int (k+1)))],[]),J:=fun k=>k+1<=l.length,μ:=fun k=>l.length - k })]
def zK:Kn:=aO (ae (kC (cL .int)) (ae (kC (rL 157 [] [])) al)) av fun (l,_,_) _=>⟨[],[.c (.int ((wZ l)))],none,false⟩
theorem OU:CK 219 zK:=ah fun (l,_,_) _ _=>by
 refine ao ug (Uo l) Tryz.func219 (?_:(fun (d:Int)=>(fun (c:Nat)=>l.length*8<=140737488355328->∃ (f:Nat),(l=l/\(↑l.length:Int)=(↑c:Int)/\0=(↑f:Int))/\(f<=c/\wZ (List.take f l) = -d)/\∀ (s:Nat),s<=c/\wZ (List.take s l) = -d->((↑s:Int)<(↑c:Int)->0<=(↑s:Int)/\(↑s:Int)<(↑l.length:Int)/\∀ (x:Int),l[s]? = some x->I64 x->((!bU x)=true->(↑s:Int)=wZ l)/\((!bU x)=false->I64 ((↑s:Int)+d)/\∃ (e:Nat),(l=l/\(↑c:Int)=(↑c:Int)/\(↑s:Int)+d=(↑e:Int))/\(e <= c/\wZ (List.take e l) = -d)/\c - e < c - s))/\((↑c:Int)<=(↑s:Int) -> -d=wZ l)) l.length) 1);iterate 3 ((all_goals (repeat' with_reducible first|apply a_|refine aY ?_|intro)); (all_goals try (first | exact bq | exact rfl | exact (aaB ab ab ab) | exact (WD ab ab ab) | exact (aaW ab aI))); all_goals try first | refine ⟨‹Nat› + 1,?_⟩ | refine ⟨0,?_⟩)
def Ns:Kn:=aO (ae (kC (cL .int)) al) av fun (l,_) _=>⟨[0<l.length],[.c (.int ((AP l)))],none,false⟩
theorem aaT:CK 159 Ns:=ah fun (l,_) _ j=>by
 have m:=cg j;refine ao ug (aee l) Tryz.func159 (?_:(fun d=>(fun f=>(fun c=>l.length*(8:Nat)<=(140737488355328:Nat)->(f<c->False)/\(c<=f->(0:Int)<=(0:Int)/\(0:Int)<f/\∀ (x:Int),l[(0:Nat)]? = some x->I64 x->∃ h,(l=l/\x=iT l (h+d)/\c=(↑h:Int)+c)/\h+d<=l.length/\∀ (s:Nat),(fun e=>s+d<=l.length->(e<f->(0:Int)<=e/\e<f/\∀ (x:Int),l[e.toNat]? = some x->I64 x->I64 (e+c)/\∃ g,(l=l/\min (iT l (s+d)) x=iT l (g + d)/\e+c=(↑g:Int)+c)/\g + d<=l.length/\l.length - g < l.length - s)/\(f<=e->iT l (s+d)=AP l)) ((↑s:Int)+c))) (1:Int)) (↑l.length:Int)) (1:Nat));iterate 3 ((all_goals (repeat' with_reducible first|apply a_|refine aY ?_|intro)); (all_goals try (first | exact bq | exact (Jk ab) | exact (Wc ab) | exact (IH aI))); all_goals try first | refine ⟨‹Nat› + 1,?_⟩ | refine ⟨0,?_⟩)
def YO:bH:=(aP 159 Ns (aP 219 zK XL))
def zi:aw Tryz.prog (ak tyT) YO:=(ag aaT (ag OU ug))
def Ia:Kn:=aO (ae (kC (cL .int)) (ae (kC (rL 157 [] [])) al)) av fun (l,_,_) _=>⟨[],[.c (.bool (.atom ((!l.all bU))))],none,false⟩
def Ur:CK 158 Ia:=ah fun (l,_,_) _ _=>by
 refine ao zi [] Tryz.func158 (?_:l.length*8<=140737488355328->I64 (wZ l)->decide (0<=wZ l) = !l.all bU);(repeat' with_reducible first|apply a_|refine aY ?_|intro)
 all_goals (first | exact bq | exact (Wi))
def Xu:bH:=(aP 158 Ia YO)
def BZ:aw Tryz.prog (ak tyT) Xu:=(ag Ur zi)
def ajS (o:(l.length:Int)=0\/(!l.all bU)=true):0=ja l:=by
 have h:(decide (l.length=0) || !l.all bU)=true:=by
  rcases o with o | o
  ·rw [decide_eq_true aI]; rfl
  rw [o,Bool.or_true]
 unfold ja; rw [if_pos h]
def aiv (o:¬ (l.length:Int)=0) (h:(!l.all bU)=false):AP l=ja l:=by
 have h:¬ (decide (l.length=0) || !l.all bU)=true:=by
  rw [h,ahP aI]; decide
 unfold ja; rw [if_neg h]
def zJ:Kn:=aO (ae (kC (cL .int)) al) av fun (l,_) _=>⟨[],[.c (.int ((ja l)))],none,false⟩
def RN:CK 92 zJ:=ah fun (l,_) _ _=>by
 refine ao BZ [] Tryz.func92 (?_:l.length*8<=140737488355328->((↑l.length:Int)=0\/(!l.all bU)=true->0=ja l)/\(¬(↑l.length:Int)=0/\(!l.all bU)=false->0<l.length/\(I64 (AP l)->AP l=ja l)));(repeat' with_reducible first|apply a_|refine aY ?_|intro)
 all_goals (first | exact bq | exact (ajS ap) | exact (aiv ab ab))
def Yn:bH:=(aP 92 zJ Xu)
def Db:aw Tryz.prog (ak tyT) Yn:=(ag RN BZ)
def CW:Kn:=aO (ae (kC cI) (ae (kC (cL .int)) al)) av fun (v,l,_) _=>⟨[],[.c (.bool (.atom ((lI v l))))],none,false⟩
theorem RR:CK 53 CW:=ah fun (v,l,_) _ _=>by
 refine ao Db [] Tryz.func53 (?_:I64 v->l.length*8<=140737488355328->(1<=v/\v<3->I64 (ja l))->(decide (1<=v) && decide (v<3) && decide (v<ja l))=lI v l);(repeat' with_reducible first|apply a_|refine aY ?_|intro)
 all_goals (first | exact bq | rfl | grind [lI])
def Zx:bH:=(aP 53 CW Yn)
def RD:aw Tryz.prog (ak tyT) Zx:=(ag RR Db)
def Zp:bH:=Zx
def Lq:aw Tryz.prog (ak tyT) Zp:=RD
section
variable {s:State} {l:List Command} {x:Command} {k:Nat}
end
section
variable {s:State} {l:List Command} {x:Command} {k:Nat} {d:Command}
end
def XS:bH:=Zp
def ON:aw Tryz.prog (ak tyT) XS:=Lq
def Xl:bH:=XS
def dI:aw Tryz.prog (ak tyT) Xl:=ON
def eJ (f:Field):Bool:=(decide (1<=f.num) && decide (f.num<=1000)) && (if f.wire=0 then decide (((f.b.length:Nat):Int)=0) else if f.wire=2 then decide ((f.n.n:Int)=0) else false)
def gj (a f:Field):Bool:=if f.num=a.num then (decide (f.wire=2) && decide (a.wire=2)) else decide (a.num<f.num)
def qJ (num c:Int):Bool:=(decide (1<=num) && decide (num<=1000)) && (decide (c=0) || decide (c=2))
def nP (num c:Int):List UInt8:=if qJ num c then bk ((8*num)+c).toNat else []
def Bb (num c:Int):Int:=if qJ num c then 0 else 1
def cH (f:Field):List UInt8:=if f.wire=0 then nP f.num f.wire++bk f.n.n else (nP f.num f.wire++bk f.b.length)++f.b
def okP:Option Field->Field->Bool
 | none,_=>true
 | some q,f=>gj q f
def stepT (p:Option Field) (f:Field):Int:=if eJ f=false then 1 else if okP p f=false then 5 else if (16384:Int)<((f.b.length:Nat):Int) then 4 else 0
def ez:Option Field->List Field->Int
 | _,[]=>0
 | p,f :: r=>if stepT p f=0 then ez (some f) r else stepT p f
def iC (l:List Field):Nat:=(l.map fun f=>(cH f).length).sum
def cZ (l:List Field):Int:=if ez none l=0 then (if (16384:Int)<((iC l:Nat):Int) then 4 else 0) else ez none l
def mP (l:List Field):List UInt8:=if cZ l=0 then (l.map cH).flatten else []
def fh (l:List Field) (k:Nat):Option Field:=if k=0 then none else l[k - 1]?
def xl (l:List Field) (k:Nat) (x:Field):Prop:=(¬ 0<k)\/∃ y,l[k - 1]? = some y/\gj y x=true
variable {wire num:Int}
def Qr (h:(num<1\/1000<num)\/(¬ wire=0/\¬ wire=2)):qJ num wire=false:=by
 rw [<- Bool.not_eq_true]; unfold qJ; simp only [Bool.and_eq_true,Bool.or_eq_true,decide_eq_true_eq]; omega
def Fm (h:¬ ((num<1\/1000<num)\/(¬ wire=0/\¬ wire=2))):qJ num wire=true:=by
 unfold qJ; simp only [Bool.and_eq_true,Bool.or_eq_true,decide_eq_true_eq]; omega
def Gt (h:(num<1\/1000<num)\/(¬ wire=0/\¬ wire=2)):[]=nP num wire:=by rw [nP,Qr h]; rfl
def Vb (h:(num<1\/1000<num)\/(¬ wire=0/\¬ wire=2)):1=Bb num wire:=by rw [Bb,Qr h]; rfl
def SC (h:¬ ((num<1\/1000<num)\/(¬ wire=0/\¬ wire=2))):bk ((8*num)+wire).toNat=nP num wire:=by rw [nP,Fm h]; rfl
def MP (h:¬ ((num<1\/1000<num)\/(¬ wire=0/\¬ wire=2))):0=Bb num wire:=by rw [Bb,Fm h]; rfl
def rS (num wire:Int):(nP num wire).length<=10:=by
 unfold nP;cases h:qJ num wire with
 | false=>simp
 | true=>
  unfold qJ at h; simp only [Bool.and_eq_true,Bool.or_eq_true,decide_eq_true_eq] at h;exact cN aI
variable {f:Field}
def tD (d:f.b.length<=16384) (c:f.n.n<18446744073709551616):(cH f).length<=16404:=by
 have e:=rS f.num f.wire;unfold cH;split
 ·have:=cN c; rw [List.length_append]; omega
 have:=cN (n:=f.b.length) aI; rw [List.length_append,List.length_append]; omega
def VS (h:f.wire=0):nP f.num f.wire++bk f.n.n=cH f:=by rw [cH,if_pos h]
def Un (h:¬ f.wire=0):(nP f.num f.wire++bk f.b.length)++f.b=cH f:=by rw [cH,if_neg h]
variable {l:List Field} {x:Field}
def ML (c:l[k]? = some x):iC (l.take k)+(cH x).length=iC (l.take (k+1)):=by
 unfold iC; rw [ai c,List.map_append,List.sum_append]; simp
def Gd (d:xl l k x):okP (fh l k) x=true:=by
 unfold fh;rcases d with h | ⟨y,e,g⟩
 ·rw [if_pos aI]; rfl
 by_cases c:k=0
 ·rw [if_pos c]; rfl
 rw [if_neg c,e]; exact g
def NV (c:l[k]? = some x):ez (fh l k) (l.drop k)=if stepT (fh l k) x=0 then ez (some x) (l.drop (k+1)) else stepT (fh l k) x:=by
 obtain ⟨d,e⟩:=aad.1 c;rw [ag2 d,e]; rfl
variable {e:Int}
def LY (d:ez none l=ez (fh l k) (l.drop k)) (g:l[k]? = some x) (h:stepT (fh l k) x=e) (c:e≠0):e=cZ l:=by
 have j:ez none l=e:=by rw [d,NV g,h,if_neg c]
 rw [cZ,j,if_neg c]
def acJ (c:ez none l=ez (fh l k) (l.drop k)) (d:l[k]? = some x) (g:eJ x=false):1=cZ l:=LY c d (by rw [stepT,if_pos g]) am
def ac_ {y:Field} (c:ez none l=ez (fh l k) (l.drop k)) (d:l[k]? = some x) (g:eJ x=true) (m:0<k) (h:l[k - 1]? = some y) (j:gj y x=false):5=cZ l:=
 LY c d (by rw [stepT,if_neg (by rw [g]; decide),if_pos]; unfold fh; rw [if_neg aI,h]; exact j) am
def acr (c:ez none l=ez (fh l k) (l.drop k)) (d:l[k]? = some x) (g:eJ x=true) (h:xl l k x) (j:(16384:Int)<((x.b.length:Nat):Int)):4=cZ l:=
 LY c d (by rw [stepT,if_neg (by rw [g]; decide),if_neg (by rw [Gd h]; decide),if_pos j]) am
def RP (d:ez none l=ez (fh l k) (l.drop k)) (c:l[k]? = some x) (g:eJ x=true) (h:xl l k x) (j:¬ (16384:Int)<((x.b.length:Nat):Int)):ez none l=ez (fh l (k+1)) (l.drop (k+1)):=by
 rw [d,NV c,if_pos (by rw [stepT,if_neg (by rw [g]; decide),if_neg (by rw [Gd h]; decide),if_neg j])];unfold fh; rw [if_neg aI,Nat.add_sub_cancel,c]
def Gh (c:ez none l=ez (fh l k) (l.drop k)) (d:l.length<=k):ez none l=0:=by
 rw [c,ag8 d]; rfl
def OE (g:ez none l=ez (fh l k) (l.drop k)) (c:l.length<=k) (d:(16384:Int)<((iC (l.take k):Nat):Int)):4=cZ l:=by
 rw [List.take_of_length_le c] at d; rw [cZ,if_pos (Gh g c),if_pos d]
def Sn (g:ez none l=ez (fh l k) (l.drop k)) (c:l.length<=k) (d:¬ (16384:Int)<((iC (l.take k):Nat):Int)):0=cZ l:=by
 rw [List.take_of_length_le c] at d; rw [cZ,if_pos (Gh g c),if_neg d]
theorem SP (h:cZ l=0):iC l<=16384:=by
 unfold cZ at h;grind
theorem Wp (h:cZ l=0):ez none l=0:=by
 unfold cZ at h;grind
theorem FV:∀ {l:List Field} {p:Option Field},ez p l=0->∀ x ∈ l,x.b.length<=16384
 | f :: r,p,h,x,hx=>by
  unfold ez at h;split at h
  ·rename_i c;rcases ado.1 hx with rfl | hx
   ·unfold stepT at c;grind
   exact FV h x hx
  grind
def yq (h:cZ l=0) (c:x ∈ l):x.b.length<=16384:=FV (Wp h) x c
def JW (c:l[k]? = some x):((l.take k).map cH).flatten++cH x=((l.take (k+1)).map cH).flatten:=by
 rw [ai c,List.map_append,List.flatten_append]; simp
def Ok (l:List Field):((l.map cH).flatten).length=iC l:=by
 unfold iC; rw [List.length_flatten,List.map_map]; rfl
def Nx:iC (l.take k)<=iC l:=by
 have:iC l=iC (l.take k)+iC (l.drop k):=by unfold iC; rw [<- List.sum_append,<- List.map_append,List.take_append_drop]
 omega
def RU (h:cZ l=0):((l.take k).map cH).flatten.length<=16384:=by
 have:=SP h; have:=Nx (l:=l) (k:=k); rw [Ok]; omega
def UM (h:cZ l=0) (c:l.length<=k):((l.take k).map cH).flatten=mP l:=by rw [mP,if_pos h,List.take_of_length_le c]
def aap (h:¬ cZ l=0):[]=mP l:=by rw [mP,if_neg h]
theorem Nv (h:f.num<1\/1000<f.num):false=eJ f:=by
 have:(decide (1<=f.num) && decide (f.num<=1000))=false:=by rw [<- Bool.not_eq_true]; simp only [Bool.and_eq_true,decide_eq_true_eq]; omega
 unfold eJ; rw [this]; rfl
theorem SB (h:¬ (f.num<1\/1000<f.num)):eJ f=(if f.wire=0 then decide (((f.b.length:Nat):Int)=0) else if f.wire=2 then decide ((f.n.n:Int)=0) else false):=by
 have:(decide (1<=f.num) && decide (f.num<=1000))=true:=by simp only [Bool.and_eq_true,decide_eq_true_eq]; omega
 unfold eJ; rw [this]; rfl
def bV:List Spec:=([⟨1,0,1,true,false⟩,⟨2,0,1,false,false⟩,⟨3,0,1,false,false⟩,⟨4,0,1,false,false⟩,⟨5,0,1,false,false⟩,⟨6,0,1,false,false⟩,⟨7,2,1,false,false⟩,⟨8,2,3,false,false⟩]:List Spec)
def aW (v:Int):List Spec:=if v<1\/3<v then [] else bV.filter fun s=>decide (s.since<=v)
def di (v:Int):Int:=(aW v).foldl (fun t s=>max t s.num) 0
variable {x:Spec}
def Lu {v:Int} (c:bV[k]? = some x) (h:x.since<=v):(bV.take k).filter (fun s=>decide (s.since<=v))++[x]=(bV.take (k+1)).filter (fun s=>decide (s.since<=v)):=by
 rw [ai c,List.filter_append]; simp [h]
def WU {v:Int} (c:bV[k]? = some x) (h:¬ x.since<=v):(bV.take k).filter (fun s=>decide (s.since<=v))=(bV.take (k+1)).filter (fun s=>decide (s.since<=v)):=by
 rw [ai c,List.filter_append]; simp [h]
def Jh {v:Int} (h:v<1\/3<v):[]=aW v:=by rw [aW,if_pos h]
def Ld {v:Int} (h:¬ (v<1\/3<v)) (c:bV.length<=k):(bV.take k).filter (fun s=>decide (s.since<=v))=aW v:=by rw [aW,if_neg h,List.take_of_length_le c]
def LF {v:Int}:((bV.take k).filter (fun s=>decide (s.since<=v))).length<=8:=by
 have c:=List.length_filter_le (fun s:Spec=>decide (s.since<=v)) (bV.take k);have d:(bV.take k).length<=8:=by rw [List.length_take]; exact Nat.le_trans (Nat.min_le_right _ _) am
 omega
def OW {v:Int} (c:(aW v)[k]? = some x):max (((aW v).take k).foldl (fun t s=>max t s.num) 0) x.num=((aW v).take (k+1)).foldl (fun t s=>max t s.num) 0:=by
 rw [ai c,List.foldl_append]; rfl
def qz (num n:Int):List Field:=if n=0 then [] else [⟨num,0,⟨n.toNat⟩,[]⟩]
def Dj (num:Int) (b:List UInt8):List Field:=if 0<((b.length:Nat):Int) then [⟨num,2,⟨0⟩,b⟩] else []
def xo (c:Command):List Field:=(((((([]++qz 1 c.kind)++qz 2 c.client)++qz 3 c.seq)++qz 4 c.set)++qz 5 c.id)++qz 6 c.n)++Dj 7 (eQ c.chunks)
def dX (c:Command) (v:Int):List Field:=if 3<=v then xo c++Dj 8 c.text.b else xo c
def gL (num n:Int):(qz num n).length<=1:=by unfold qz; split <;> simp
def Du (num:Int) (b:List UInt8):(Dj num b).length<=1:=by unfold Dj; split <;> simp
variable {xs:List Field}
def CY (h:¬ n=0):xs++[⟨num,0,⟨n.toNat⟩,[]⟩]=xs++qz num n:=by rw [qz,if_neg h]
def BJ (h:n=0):xs=xs++qz num n:=by rw [qz,if_pos h,adD]
variable {b:List UInt8}
def CU (h:0<((b.length:Nat):Int)):xs++[⟨num,2,⟨0⟩,b⟩]=xs++Dj num b:=by rw [Dj,if_pos h]
def zC (h:¬ 0<((b.length:Nat):Int)):xs=xs++Dj num b:=by rw [Dj,if_neg h,adD]
def Ev (c:Command) (v:Int):(dX c v).length<=8:=by
 have d:=gL 1 c.kind; have g:=gL 2 c.client; have h:=gL 3 c.seq; have j:=gL 4 c.set; have m:=gL 5 c.id; have o:=gL 6 c.n;have p:=Du 7 (eQ c.chunks); have q:=Du 8 c.text.b;unfold dX xo;split <;> simp only [List.length_append,List.length_nil] <;> omega
def dR (c:Command) (d:List Field) (v:Int):Int:=if !(cn v 1 3) then 1 else if (gB c v=false/\¬ bQ c v=0) then bQ c v else if d.any (fun f=>decide (f.num<=di v)) then 6 else 0
def fx (c:Command) (d:List Field) (v:Int):Int:=if dR c d v=0 then cZ (dX c v++d) else dR c d v
def gC (c:Command) (d:List Field) (v:Int):List UInt8:=if dR c d v=0 then mP (dX c v++d) else []
def Ez {k:Int} (h:¬ cF k=0):1<=k/\k<=12:=Decidable.byContradiction fun c=>h (Ta c)
def abv {c:Command} {v:Int} (h:gB c v=true):0<=c.kind/\0<=c.client/\0<=c.seq/\0<=c.set/\0<=c.id/\0<=c.n:=by
 unfold gB xd cn at h;simp only [Bool.and_eq_true,decide_eq_true_eq] at h;omega
def xY {m:Int} {b:Bool} (h:oA n m b=true):0<=n:=by
 unfold oA at h; cases b <;> simp at h <;> omega
def Tq {k:Int} (h:1<=k/\k<=12):0<=(vS k).1:=by
 have:k=1\/k=2\/k=3\/k=4\/k=5\/k=6\/k=7\/k=8\/k=9\/k=10\/k=11\/k=12:=by omega
 rcases this with rfl | rfl | rfl | rfl | rfl | rfl | rfl | rfl | rfl | rfl | rfl | rfl <;> decide
def QJ {c:Command} {v:Int} (h:bQ c v=0):(1<=v/\v<=3)/\¬ cF c.kind=0/\cF c.kind<=v/\mo c=true:=by
 unfold bQ at h;split at h
 ·cases h
 rename_i d;rw [Bool.or_eq_true,not_or] at d;simp only [ag5,Bool.not_eq_false,decide_eq_true_eq] at d;split at h
 ·cases h
 split at h
 ·cases h
 rename_i j g;exact ⟨KW d.1,d.2,aI,by simpa using g⟩
def acR {c:Command} {v:Int} (h:bQ c v=0):0<=c.kind/\0<=c.client/\0<=c.seq/\0<=c.set/\0<=c.id/\0<=c.n:=by
 obtain ⟨_,g,_,d⟩:=QJ h;have j:=Ez g;have r:=Tq j;unfold mo at d;simp only [Bool.and_eq_true,decide_eq_true_eq] at d;obtain ⟨⟨⟨⟨⟨⟨⟨s,u⟩,_⟩,_⟩,m⟩,o⟩,p⟩,q⟩:=d;exact ⟨aI,xY m,xY o,xY p,xY q,aI⟩
variable {rest:List Field}
def aiM {c:Command} {v:Int} (h:(!(cn v 1 3))=true):dR c rest v=1:=by rw [dR,if_pos h]
def akv {c:Command} {v:Int} (h:(!(cn v 1 3))=false) (d:gB c v=false) (g:¬ bQ c v=0):dR c rest v=bQ c v:=by rw [dR,h,if_neg am,if_pos ⟨d,g⟩]
def aim {c:Command} {v:Int} {x:Field} (h:(!(cn v 1 3))=false) (h1:gB c v=true\/bQ c v=0) (g:rest[k]? = some x) (j:x.num<=di v):dR c rest v=6:=by
 have:(rest.any fun f=>decide (f.num<=di v))=true:=List.any_eq_true.2 ⟨x,adB g,decide_eq_true j⟩;rw [dR,h,if_neg am,if_neg (fun d=>by rcases h1 with h1 | h1; rw [h1] at d; cases d.1; exact d.2 h1),if_pos this]
def aiG {c:Command} {v:Int} (h:(!(cn v 1 3))=false) (h1:gB c v=true\/bQ c v=0) (d:∀ j y,j<k->rest[j]? = some y->¬ y.num<=di v) (p:rest.length<=k):dR c rest v=0:=by
 have:(rest.any fun f=>decide (f.num<=di v))=false:=by
  rw [List.any_eq_false];intro y m;obtain ⟨j,o,rfl⟩:=List.getElem_of_mem m;have:=d j _ aI (List.getElem?_eq_getElem o);simpa using this
 rw [dR,h,if_neg am,if_neg (fun g=>by rcases h1 with h1 | h1; rw [h1] at g; cases g.1; exact g.2 h1),this,if_neg am]
def Ds {c:Command} {v:Int} (h:dR c rest v=e) (d:¬ e=0):e=fx c rest v:=by rw [fx,h,if_neg d]
def EL {c:Command} {v:Int} (h:dR c rest v=e) (d:¬ e=0):[]=gC c rest v:=by rw [gC,h,if_neg d]
def agh {c:Command} {v:Int} (h:dR c rest v=0):cZ (dX c v++rest)=fx c rest v:=by rw [fx,if_pos h]
def adQ {c:Command} {v:Int} (h:dR c rest v=0):mP (dX c v++rest)=gC c rest v:=by rw [gC,if_pos h]
def JC {z:Field} (h:∀ j y,j<k->rest[j]? = some y->¬ y.num<=t) (g:rest[k]? = some z) (m:¬ z.num<=t):∀ j y,j<k+1->rest[j]? = some y->¬ y.num<=t:=by
 intro j y o c;by_cases d:j=k
 ·subst d; rw [g] at c; cases c; exact m
 exact h j y aI c
def xI (n:Nat):bk n=((List.range (bf n)).map (mi n)).set (bf n - 1) (mi n (bf n - 1) &&& 127):=by unfold bk fB; simp
def Mf:∀ m:Fin 128,(UInt8.ofNat m.val ||| 128) &&& 127=UInt8.ofNat m.val:=by decide
def aan:∀ m:Fin 256,(UInt8.ofNat m.val ||| 128).toNat=m.val % 128+128:=by decide +kernel
variable {n:Nat}
def mY (h:n<128):bk n=[UInt8.ofNat n]:=by
 rw [xI,kq h];have:=Mf ⟨n,h⟩;simp only [mi,Nat.pow_zero,Nat.div_one,List.range_one,ahd,List.map_nil,Nat.sub_self,List.set_cons_zero] at *;rw [this]
def Ys (n:Nat):(mi n 0).toNat=n % 128+128:=by
 have e:UInt8.ofNat n=UInt8.ofNat (n % 256):=UInt8.toNat_inj.1 (by simp [UInt8.toNat_ofNat']);have:=aan ⟨n % 256,ahk _ am⟩;simp only [mi,Nat.pow_zero,Nat.div_one];rw [e,this]; simp only; omega
def um (h:¬ n<128):bk n=mi n 0 :: bk (n / 128):=by
 have e:∀ i,mi n (i+1)=mi (n / 128) i:=fun i=>by unfold mi; rw [Nat.pow_succ,Nat.mul_comm,<- Nat.div_div_eq_div_mul]
 have d:=jG (n / 128);obtain ⟨s,c⟩:∃ s,bf (n / 128)=s+1:=⟨bf (n / 128) - 1,aI⟩;rw [xI,xI (n / 128),m_ h,c];simp only [Nat.add_sub_cancel];rw [List.range_succ_eq_map,ahd,List.map_map,List.set_cons_succ,e s,show mi n ∘ Nat.succ=mi (n / 128) from funext e]
def bL:Nat->Nat->List UInt8->Nat × Nat × Int
 | k,_,[]=>if 10<=k then (0,0,3) else (0,0,2)
 | k,n,x :: r=>if 10<=k then (0,0,3) else if (0<k/\x.toNat=0)\/(k=9/\1<x.toNat) then (0,0,3) else if x.toNat<128 then (n+(x &&& 127).toNat*2 ^ (7*k),k+1,0) else bL (k+1) (n+(x &&& 127).toNat*2 ^ (7*k)) r
termination_by _ _ l=>l.length
def takeF (b:List UInt8):Nat × Nat × Int:=bL 0 0 b
def kV (x:UInt8):(x &&& 127).toNat=x.toNat % 128:=by rw [UInt8.toNat_and]; exact Nat.and_two_pow_sub_one_eq_mod x.toNat 7
variable {x:UInt8}
def OB (g:k<=9) (h:k=9->x.toNat<=1):(x &&& 127).toNat*2 ^ (7*k)<18446744073709551616:=by
 rw [kV];by_cases c:k=9
 ·have:=h c;subst c;have:x.toNat % 128*2 ^ (7*9)<=1*2 ^ (7*9):=ag0 _ aI;exact ag9 this am
 have d:2 ^ (7*k)<=2 ^ 56:=Nat.pow_le_pow_right am aI;have:x.toNat % 128*2 ^ (7*k)<=127*2 ^ 56:=Nat.mul_le_mul aI d;exact ag9 this am
variable {m:Nat}
def Sm (h:n<2 ^ (7*k)):n ||| m*2 ^ (7*k)=n+m*2 ^ (7*k):=by
 have:=Nat.two_pow_add_eq_or_of_lt h m;rw [Nat.or_comm,Nat.mul_comm m,<- this,Nat.add_comm]
def Gv (h:n<2 ^ (7*k)):n+(x &&& 127).toNat*2 ^ (7*k)<2 ^ (7*(k+1)):=by
 rw [kV];have e:2 ^ (7*(k+1))=128*2 ^ (7*k):=by rw [show 7*(k+1)=7*k+7 by omega,Nat.pow_add,Nat.mul_comm]
 have:x.toNat % 128*2 ^ (7*k)<=127*2 ^ (7*k):=ag0 _ aI;rw [e]; omega
def Ql (d:k<10) (c:b.length<=k):bL k n (b.drop k)=(0,0,2):=by
 rw [ag8 c,bL,if_neg aI]
def acx (c:10<=k):bL k n (b.drop k)=(0,0,3):=by
 cases h:b.drop k with
 | nil=>rw [bL,if_pos c]
 | cons x r=>rw [bL,if_pos c]
def LZ (h:k<10) (d:b[k]? = some x):bL k n (b.drop k)=if (0<k/\x.toNat=0)\/(k=9/\1<x.toNat) then (0,0,3) else if x.toNat<128 then (n+(x &&& 127).toNat*2 ^ (7*k),k+1,0) else bL (k+1) (n+(x &&& 127).toNat*2 ^ (7*k)) (b.drop (k+1)):=by
 obtain ⟨c,g⟩:=aad.1 d;rw [ag2 c,g,bL,if_neg aI]
def GG (h:takeF b=bL k n (b.drop k)) (c:k<10) (d:b[k]? = some x) (g:¬ (0<k/\x.toNat=0)) (j:¬ (k=9/\1<x.toNat)) (o:¬ x.toNat<128):takeF b=bL (k+1) (n+(x &&& 127).toNat*2 ^ (7*k)) (b.drop (k+1)):=by
 rw [h,LZ c d,if_neg (fun h=>h.elim g j),if_neg o]
theorem oV:∀ {l:List UInt8} {k n:Nat},k<=10->(bL k n l).2.1<=11/\(bL k n l).2.1<=k+l.length
 | [],k,n,h=>by rw [bL]; split <;> simp
 | x :: r,k,n,h=>by
  rw [bL];split
  ·simp
  split
  ·simp
  split
  ·simp; omega
  have:=oV (l:=r) (k:=k+1) (n:=n+(x &&& 127).toNat*2 ^ (7*k)) aI;simp only [List.length_cons]; omega
def yS (h:takeF b=bL k n (b.drop k)) (c:k<10) (d:b[k]? = some x) (g:(0<k/\x.toNat=0)\/(k=9/\1<x.toNat)):takeF b=(0,0,3):=by rw [h,LZ c d,if_pos g]
def Gb (h:takeF b=bL k n (b.drop k)) (c:k<10) (d:b[k]? = some x) (g:¬ (0<k/\x.toNat=0)) (j:¬ (k=9/\1<x.toNat)) (o:x.toNat<128):takeF b=(n+(x &&& 127).toNat*2 ^ (7*k),k+1,0):=by
 rw [h,LZ c d,if_neg (fun h=>h.elim g j),if_pos o]
theorem Nt:∀ {l:List UInt8} {k n:Nat},1<=k->(bL k n l).2.2=0->2 ^ (7*k)<=(bL k n l).1
 | [],k,n,_,h=>by rw [bL] at h; split at h <;> cases h
 | x :: r,k,n,j,h=>by
  rw [bL] at h ⊢;split
  ·rename_i d; rw [if_pos d] at h; cases h
  rename_i d;rw [if_neg d] at h;split
  ·rename_i c; rw [if_pos c] at h; cases h
  rename_i c;rw [if_neg c] at h;split
  ·rename_i g;rw [kV];have:1<=x.toNat % 128:=by
    have:¬ x.toNat=0:=fun e=>c (.inl ⟨aI,e⟩);omega
   have:=ag0 (2 ^ (7*k)) this;show 2 ^ (7*k)<=n+x.toNat % 128*2 ^ (7*k);omega
  rename_i g;rw [if_neg g] at h;exact Nat.le_trans (Nat.pow_le_pow_right am aI) (Nt aI h)
def Fp (x:UInt8) (r:List UInt8):takeF (x :: r)=if x.toNat<128 then (x.toNat,1,0) else bL 1 (x.toNat % 128) r:=by
 unfold takeF;rw [bL,if_neg am,if_neg aI,kV];split
 ·rename_i h; rw [Nat.mod_eq_of_lt h]; simp
 simp
def Bz (c:k<b.length):(b.drop k).take (b.length - k)=b[k] :: b.drop (k+1):=by
 rw [List.take_of_length_le aa,ag2 c]
def tk1 (c:k<b.length) (d:(takeF ((b.drop k).take (b.length - k))).2.2=0) (g:¬ (64:Int)<(((takeF ((b.drop k).take (b.length - k))).1:Nat):Int)) :
  ∃ x,b[k]? = some x/\takeF ((b.drop k).take (b.length - k))=(x.toNat,1,0)/\x.toNat<=64:=by
 rw [Bz c,Fp] at *;by_cases h:b[k].toNat<128
 ·rw [if_pos h] at *; exact ⟨_,List.getElem?_eq_getElem c,rfl,by simp only at g; omega⟩
 rw [if_neg h] at *;have:=Nt (Nat.le_refl 1) d;omega
def tk2 (c:k<b.length) (h:(¬ (takeF ((b.drop k).take (b.length - k))).2.2=0)\/(64:Int)<(((takeF ((b.drop k).take (b.length - k))).1:Nat):Int)):∃ x,b[k]? = some x/\64<x.toNat:=by
 refine ⟨b[k],List.getElem?_eq_getElem c,?_⟩;rw [Bz c,Fp] at h;by_cases d:b[k].toNat<128
 ·rw [if_pos d] at h; simp only [not_true_eq_false,false_or] at h; omega
 omega
def cO (b:List UInt8):List Int:=b.map fun x=>(x.toNat:Int)
def lA (b:List UInt8):List Int:=if cJ (cO b) then cO b else []
def qp (b:List UInt8):Int:=if cJ (cO b) then 0 else 6
def Xi {p:Nat × Nat × Int} (c:b[k]? = some x) (d:p=(x.toNat,1,0)):cO (b.take k)++[((p.1:Nat):Int)]=cO (b.take (k+1)):=by
 subst d; unfold cO; rw [ai c,List.map_append]; rfl
def adn (c:k<b.length) (h:(¬ (takeF ((b.drop k).take (b.length - k))).2.2=0)\/(64:Int)<(((takeF ((b.drop k).take (b.length - k))).1:Nat):Int)):cJ (cO b)=false:=by
 obtain ⟨x,d,g⟩:=tk2 c h;rw [<- Bool.not_eq_true];intro j;have:=(xQ j (x.toNat:Int) (alb.2 ⟨x,adB d,rfl⟩)).2;omega
def EB (c:b.length<=k):cO (b.take k)=cO b:=by rw [List.take_of_length_le c]
def yU (h:cJ (cO b)=false):[]=lA b:=by rw [lA,h]; rfl
def Nl (h:cJ (cO b)=false):6=qp b:=by rw [qp,h]; rfl
def Ud (c:b.length<=k) (h:cJ (cO (b.take k))=true):cO (b.take k)=lA b:=by rw [EB c] at *; rw [lA,h]; rfl
def SM (c:b.length<=k) (h:cJ (cO (b.take k))=true):0=qp b:=by rw [EB c] at *; rw [qp,h]; rfl
def DH (c:b.length<=k) (h:cJ (cO (b.take k))=false):cJ (cO b)=false:=by rw [EB c] at h; exact h
def HZ (n:Nat):mi n 0=UInt8.ofNat (n % 128+128):=UInt8.toNat_inj.1 (by rw [Ys,UInt8.toNat_ofNat']; omega)
variable {r:Nat}
def Kz {p:List UInt8} (h:p++bk r=bk n) (c:¬ r<128):(p++[UInt8.ofNat (r % 128+128)])++bk (r / 128)=bk n:=by
 rw [<- h,um c,HZ,List.append_assoc]; rfl
def P_ {p:List UInt8} (h:p++bk r=bk n) (c:r<128):p++[UInt8.ofNat r]=bk n:=by rw [<- h,mY c]
def Qo {p:List UInt8} (h:p++bk r=bk n) (c:n<18446744073709551616):p.length<=10:=by
 have:=congrArg List.length h; rw [List.length_append] at this; have:=cN c; omega
structure TagR where
 num:Int
 wire:Int
 k:Nat
 e:Int
def Dy (n:Nat):Bool:=decide ((n / 8<1\/1000<n / 8)\/(¬ n % 8=0/\¬ n % 8=2))
def aU (b:List UInt8):TagR:=if (takeF b).2.2=0 then (if Dy (takeF b).1=true then ⟨0,0,0,6⟩ else ⟨(((takeF b).1 / 8:Nat):Int),(((takeF b).1 % 8:Nat):Int),(takeF b).2.1,0⟩) else ⟨0,0,0,(takeF b).2.2⟩
def Sr (h:¬ (takeF b).2.2=0):aU b=⟨0,0,0,(takeF b).2.2⟩:=by rw [aU,if_neg h]
def RZ (h:(takeF b).2.2=0) (c:((takeF b).1 / 8<1\/1000<(takeF b).1 / 8)\/(¬ (takeF b).1 % 8=0/\¬ (takeF b).1 % 8=2)):aU b=⟨0,0,0,6⟩:=by rw [aU,if_pos h,if_pos (show Dy _=true from decide_eq_true c)]
def Mr (h:(takeF b).2.2=0) (c:¬ (((takeF b).1 / 8<1\/1000<(takeF b).1 / 8)\/(¬ (takeF b).1 % 8=0/\¬ (takeF b).1 % 8=2))):aU b=⟨(((takeF b).1 / 8:Nat):Int),(((takeF b).1 % 8:Nat):Int),(takeF b).2.1,0⟩:=by
 rw [aU,if_pos h,if_neg (by unfold Dy; simpa using c)]
def rf (b:List UInt8):((aU b).k<=11/\(aU b).k<=b.length)/\(0<=(aU b).num/\(aU b).num<=1000)/\(0<=(aU b).wire/\(aU b).wire<=2):=by
 have d:(takeF b).2.1<=11/\(takeF b).2.1<=0+b.length:=oV (l:=b) (k:=0) (n:=0) aI;by_cases h:(takeF b).2.2=0
 ·by_cases c:((takeF b).1 / 8<1\/1000<(takeF b).1 / 8)\/(¬ (takeF b).1 % 8=0/\¬ (takeF b).1 % 8=2)
  ·rw [RZ h c]; simp
  rw [Mr h c]; dsimp only; omega
 rw [Sr h]; simp
theorem Pt:∀ {l:List UInt8} {k n:Nat},(bL k n l).2.2=0->1<=(bL k n l).2.1
 | [],k,n,h=>by rw [bL] at h; split at h <;> cases h
 | x :: r,k,n,h=>by
  rw [bL] at h ⊢;split
  ·grind
  rename_i c;rw [if_neg c] at h;split
  ·grind
  rename_i d;rw [if_neg d] at h;split
  ·simp
  rename_i g; rw [if_neg g] at h; exact Pt h
def bm (b:List UInt8):Nat × Int:=
  if (aU b).e=0 then
    (if (takeF (b.drop (aU b).k)).2.2=0 then
      (if (aU b).wire=0 then ((aU b).k+(takeF (b.drop (aU b).k)).2.1,0)
       else if 16384<(takeF (b.drop (aU b).k)).1 then (0,4)
       else if ((b.length:Nat):Int) - (((aU b).k+(takeF (b.drop (aU b).k)).2.1:Nat):Int)<(((takeF (b.drop (aU b).k)).1:Nat):Int) then (0,2)
       else ((aU b).k+(takeF (b.drop (aU b).k)).2.1+(takeF (b.drop (aU b).k)).1,0))
     else (0,(takeF (b.drop (aU b).k)).2.2))
  else (0,(aU b).e)
def ajy (h:¬ (aU b).e=0):bm b=(0,(aU b).e):=by rw [bm,if_neg h]
def aj_ (h:(aU b).e=0) (c:¬ (takeF (b.drop (aU b).k)).2.2=0):bm b=(0,(takeF (b.drop (aU b).k)).2.2):=by rw [bm,if_pos h,if_neg c]
def ak8 (h:(aU b).e=0) (c:(takeF (b.drop (aU b).k)).2.2=0) (d:(aU b).wire=0):bm b=((aU b).k+(takeF (b.drop (aU b).k)).2.1,0):=by rw [bm,if_pos h,if_pos c,if_pos d]
def ajr (h:(aU b).e=0) (c:(takeF (b.drop (aU b).k)).2.2=0) (d:¬ (aU b).wire=0) (g:16384<(takeF (b.drop (aU b).k)).1):bm b=(0,4):=by rw [bm,if_pos h,if_pos c,if_neg d,if_pos g]
def ahx (h:(aU b).e=0) (c:(takeF (b.drop (aU b).k)).2.2=0) (d:¬ (aU b).wire=0) (g:¬ 16384<(takeF (b.drop (aU b).k)).1) (j:((b.length:Nat):Int) - (((aU b).k+(takeF (b.drop (aU b).k)).2.1:Nat):Int)<(((takeF (b.drop (aU b).k)).1:Nat):Int)):bm b=(0,2):=by rw [bm,if_pos h,if_pos c,if_neg d,if_neg g,if_pos j]
def ahL (h:(aU b).e=0) (c:(takeF (b.drop (aU b).k)).2.2=0) (d:¬ (aU b).wire=0) (g:¬ 16384<(takeF (b.drop (aU b).k)).1) (j:¬ ((b.length:Nat):Int) - (((aU b).k+(takeF (b.drop (aU b).k)).2.1:Nat):Int)<(((takeF (b.drop (aU b).k)).1:Nat):Int)):bm b=((aU b).k+(takeF (b.drop (aU b).k)).2.1+(takeF (b.drop (aU b).k)).1,0):=by rw [bm,if_pos h,if_pos c,if_neg d,if_neg g,if_neg j]
theorem oC (b:List UInt8) (k:Nat):(takeF (b.drop k)).2.1<=11/\(takeF (b.drop k)).2.1+k<=max b.length k:=by
 have:=oV (l:=b.drop k) (k:=0) (n:=0) aI;unfold takeF;grind
theorem Ag (b:List UInt8):(bm b).1<=b.length:=by
 have c:=rf b; have d:=oC b (aU b).k;unfold bm;grind
theorem nH (h:(bm b).2=0):1<=(bm b).1:=by
 unfold bm at h ⊢;split
 ·rename_i d;rw [if_pos d] at h;split
  ·rename_i c;rw [if_pos c] at h;have:=Pt (l:=b.drop (aU b).k) (k:=0) (n:=0) c;split
   ·dsimp only; unfold takeF; omega
   rename_i g;rw [if_neg g] at h;split
   ·grind
   rename_i j;rw [if_neg j] at h;split
   ·grind
   dsimp only; unfold takeF; omega
  grind
 grind
def iy (b:List UInt8):Field:=if (aU b).wire=0 then ⟨(aU b).num,(aU b).wire,⟨(takeF (b.drop (aU b).k)).1⟩,[]⟩ else ⟨(aU b).num,(aU b).wire,⟨0⟩,b.drop ((aU b).k+(takeF (b.drop (aU b).k)).2.1)⟩
def Ik (h:(aU b).wire=0):(⟨(aU b).num,(aU b).wire,⟨(takeF (b.drop (aU b).k)).1⟩,[]⟩:Field)=iy b:=by rw [iy,if_pos h]
def Ha (h:¬ (aU b).wire=0):(⟨(aU b).num,(aU b).wire,⟨0⟩,b.drop ((aU b).k+(takeF (b.drop (aU b).k)).2.1)⟩:Field)=iy b:=by rw [iy,if_neg h]
def gi (c:List Field) (x:Field):Bool:=match c[c.length - 1]? with | none=>true | some y=>gj y x
def Bk:Nat->List Field->List UInt8->List Field × Int
 | 0,c,_=>(c,0)
 | f+1,c,b=>if b.length=0 then (c,0) else if (bm b).2=0 then (if gi c (iy (b.take (bm b).1))=true then Bk f (c++[iy (b.take (bm b).1)]) (b.drop (bm b).1) else ([],5)) else ([],(bm b).2)
def bO (b:List UInt8):List Field × Int:=if 16384<b.length then ([],4) else Bk b.length [] b
def jz (b:List UInt8) (i:Nat) (c:List Field):Prop:=∃ f,b.length - i<=f/\bO b=Bk f c (b.drop i)
def aaZ (h:16384<b.length):bO b=([],4):=by rw [bO,if_pos h]
def Qz (h:¬ 16384<b.length):jz b 0 []:=⟨b.length,aI,by rw [bO,if_neg h]; rfl⟩
variable {acc:List Field}
def QI (h:jz b i acc) (d:i<b.length):∃ f,b.length - i<=f+1/\bO b=if (bm (b.drop i)).2=0 then (if gi acc (iy ((b.drop i).take (bm (b.drop i)).1))=true then Bk f (acc++[iy ((b.drop i).take (bm (b.drop i)).1)]) ((b.drop i).drop (bm (b.drop i)).1) else ([],5)) else ([],(bm (b.drop i)).2):=by
 obtain ⟨f,c,e⟩:=h;cases f with
 | zero=>omega
 | succ f=>exact ⟨f,c,by rw [e,Bk,if_neg (by rw [List.length_drop]; omega)]⟩
def UR (h:jz b i acc) (c:i<b.length) (d:¬ (bm (b.drop i)).2=0):bO b=([],(bm (b.drop i)).2):=by
 obtain ⟨f,_,e⟩:=QI h c; rw [e,if_neg d]
def aau (h:jz b i acc) (c:b.length<=i):bO b=(acc,0):=by
 obtain ⟨f,_,e⟩:=h;rw [e,ag8 c];cases f <;> rfl
theorem AT:∀ {f:Nat} {acc:List Field} {b:List UInt8},(Bk f acc b).1.length<=acc.length+b.length
 | 0,acc,b=>by simp [Bk]
 | f+1,acc,b=>by
  unfold Bk;split
  ·simp
  split
  ·rename_i d c;split
   ·have:=AT (f:=f) (acc:=acc++[iy (b.take (bm b).1)]) (b:=b.drop (bm b).1);have g:=nH c;rw [List.length_append,List.length_drop] at this;simp only [List.length_cons,List.length_nil] at this;omega
   simp
  simp
def Wx (b:List UInt8):(bO b).1.length<=16384:=by
 unfold bO;split
 ·simp
 have:=AT (f:=b.length) (acc:=[]) (b:=b);simp only [List.length_nil] at this;omega
def Nb (x:Field) (s:Spec) (n:Int):Bool:=if ¬ x.wire=s.wire\/(1<n/\s.many=false) then false else if x.wire=0 then !decide ((x.n.n:Int)=0) else decide (0<((x.b.length:Nat):Int))
def iN (l:List Field) (q:Int):Nat:=l.countP fun x=>decide (x.num=q)
def WR (q:Int):iN (l.take k) q<=k:=Nat.le_trans List.countP_le_length (by rw [List.length_take]; exact Nat.min_le_left _ _)
variable {x:Field}
def Rz (c:l[k]? = some x) (q:Int):iN (l.take (k+1)) q=if q=x.num then iN (l.take k) x.num+1 else iN (l.take k) q:=by
 unfold iN;rw [ai c,List.countP_append];by_cases h:q=x.num
 ·subst h; simp
 have:¬ x.num=q:=fun e=>h e.symm;simp [h,this]
def uP (l:List Field) (c:List Spec) (k:Nat):Prop:=∀ j x,j<k->l[j]? = some x->∀ s ∈ c,s.num=x.num->Nb x s ((iN (l.take (j+1)) x.num:Nat):Int)=true
def KX (l:List Field) (c:List Spec) (m:Nat):Prop:=∀ j y,j<m->c[j]? = some y->y.need=true->¬ iN l y.num=0
def NZ (c:List Spec) (x:Field) (n:Int) (m:Nat):Prop:=∀ j y,j<m->c[j]? = some y->y.num=x.num->Nb x y n=true
variable {ss:List Spec} {n:Int}
def aeR:NZ ss x n 0:=fun j y h=>by omega
def aem:uP l ss 0:=fun j y h=>by omega
def aeh:KX l ss 0:=fun j y h=>by omega
def Be (l:List Field) (v:Int):Prop:=uP l (aW v) l.length/\KX l (aW v) (aW v).length
open Classical in
def gE (l:List Field) (v:Int):Int:=if (aW v).length=0 then 1 else if cZ l=0 then (if Be l v then 0 else 6) else cZ l
def akV {v:Int} (h:(aW v).length=0):1=gE l v:=by rw [gE,if_pos h]
def aia {v:Int} (h:¬ (aW v).length=0) (c:¬ cZ l=0):cZ l=gE l v:=by rw [gE,if_neg h,if_neg c]
def aeP {v:Int} (h:¬ (aW v).length=0) (c:cZ l=0) (d:¬ Be l v):6=gE l v:=by rw [gE,if_neg h,if_pos c,if_neg d]
def akF {v:Int} (h:¬ (aW v).length=0) (c:cZ l=0) (d:Be l v):0=gE l v:=by rw [gE,if_neg h,if_pos c,if_pos d]
def MR {y:Spec} (h:NZ ss x n m) (g:ss[m]? = some y) (o:y.num=x.num->Nb x y n=true):NZ ss x n (m+1):=by
 intro j z p c;by_cases d:j=m
 ·subst d; rw [g] at c; cases c; exact o
 exact h j z aI c
def Lk (h:uP l ss k) (q:l[k]? = some x) (u:NZ ss x n m) (w:ss.length<=m) (e:n=((iN (l.take (k+1)) x.num:Nat):Int)):uP l ss (k+1):=by
 subst e;intro j z y c s g o;by_cases d:j=k
 ·subst d; rw [q] at c; cases c;obtain ⟨p,v,rfl⟩:=List.getElem_of_mem g;exact u p _ aI (List.getElem?_eq_getElem v) o
 exact h j z aI c s g o
def Ng {y:Spec} (h:KX l ss m) (g:ss[m]? = some y) (o:y.need=true->¬ iN l y.num=0):KX l ss (m+1):=by
 intro j z p c;by_cases d:j=m
 ·subst d; rw [g] at c; cases c; exact o
 exact h j z aI c
def TY {v:Int} {y:Spec} (c:l[k]? = some x) (g:(aW v)[m]? = some y) (d:y.num=x.num/\Nb x y n=false) (e:n=((iN (l.take (k+1)) x.num:Nat):Int)):¬ Be l v:=by
 intro h;have:=h.1 k x (uL c) c y (adB g) d.1;rw [<- e,d.2] at this; cases this
variable {n:Nat}
def TA {v:Int} {y:Spec} (c:(aW v)[m]? = some y) (d:y.need=true/\((n:Nat):Int)=0) (e:n=iN l y.num):¬ Be l v:=
 fun h=>h.2 m y (uL c) c d.1 aI
def TZ {v:Int} (c:uP l (aW v) k) (h:l.length<=k) (d:KX l (aW v) m) (o:(aW v).length<=m):Be l v:=
 ⟨fun j x g=>c j x aI,fun j y g=>d j y aI⟩
def WZ {v:Int} (c:l[k]? = some x) (h:x.num<=v):(l.take k).filter (fun f=>decide (f.num<=v))++[x]=(l.take (k+1)).filter (fun f=>decide (f.num<=v)):=by
 rw [ai c,List.filter_append]; simp [h]
def ab1 {v:Int} (c:l[k]? = some x) (h:¬ x.num<=v):(l.take k).filter (fun f=>decide (f.num<=v))=(l.take (k+1)).filter (fun f=>decide (f.num<=v)):=by
 rw [ai c,List.filter_append]; simp [h]
def WS {v:Int} (c:l[k]? = some x) (h:¬ x.num<=v):(l.take k).filter (fun f=>!decide (f.num<=v))++[x]=(l.take (k+1)).filter (fun f=>!decide (f.num<=v)):=by
 rw [ai c,List.filter_append]; simp [h]
def ach {v:Int} (c:l[k]? = some x) (h:x.num<=v):(l.take k).filter (fun f=>!decide (f.num<=v))=(l.take (k+1)).filter (fun f=>!decide (f.num<=v)):=by
 rw [ai c,List.filter_append]; simp [h]
def NR (l:List Field) (p:Field->Bool):(l.filter p).length<=l.length:=List.length_filter_le _ _
def eu (l:List Field) (v:Int):List Field:=l.filter fun f=>decide (f.num<=v)
def eM (l:List Field) (v:Int):List Field:=l.filter fun f=>!decide (f.num<=v)
def TT (l:List Field) (v:Int):(eu l v).length<=l.length:=NR _ _
def GM (l:List Field) (v:Int):(eM l v).length<=l.length:=NR _ _
def Jo {v:Int} (c:l.length<=k):(l.take k).filter (fun f=>decide (f.num<=v))=eu l v:=by rw [List.take_of_length_le c]; rfl
def K_ {v:Int} (c:l.length<=k):(l.take k).filter (fun f=>!decide (f.num<=v))=eM l v:=by rw [List.take_of_length_le c]; rfl
def KY (f:Field):Int:=IntKind.i64.wrap ((f.n.n:Nat):Int)
def fF (c:Command) (f:Field):Command:=
 if f.num=1 then ⟨KY f,c.client,c.seq,c.set,c.id,c.n,c.chunks,c.text⟩ else
 if f.num=2 then ⟨c.kind,KY f,c.seq,c.set,c.id,c.n,c.chunks,c.text⟩ else
 if f.num=3 then ⟨c.kind,c.client,KY f,c.set,c.id,c.n,c.chunks,c.text⟩ else
 if f.num=4 then ⟨c.kind,c.client,c.seq,KY f,c.id,c.n,c.chunks,c.text⟩ else
 if f.num=5 then ⟨c.kind,c.client,c.seq,c.set,KY f,c.n,c.chunks,c.text⟩ else
 if f.num=6 then ⟨c.kind,c.client,c.seq,c.set,c.id,KY f,c.chunks,c.text⟩ else
 if f.num=7 then ⟨c.kind,c.client,c.seq,c.set,c.id,c.n,lA f.b,c.text⟩ else
 if f.num=8 then ⟨c.kind,c.client,c.seq,c.set,c.id,c.n,c.chunks,⟨f.b⟩⟩ else c
def cR:Command:=⟨0,0,0,0,0,0,[],⟨[]⟩⟩
def c_ (l:List Field):Command:=l.foldl fF cR
def dV (c:l[k]? = some x):c_ (l.take (k+1))=fF (c_ (l.take k)) x:=by
 unfold c_; rw [ai c,List.foldl_append]; rfl
def ahG {c:Command} (h:f.num=1):(⟨KY f,c.client,c.seq,c.set,c.id,c.n,c.chunks,c.text⟩:Command)=fF c f:=by rw [fF,if_pos h]
def aie {c:Command} (h:f.num=2):(⟨c.kind,KY f,c.seq,c.set,c.id,c.n,c.chunks,c.text⟩:Command)=fF c f:=by rw [fF,if_neg aI,if_pos h]
def akR {c:Command} (h:f.num=3):(⟨c.kind,c.client,KY f,c.set,c.id,c.n,c.chunks,c.text⟩:Command)=fF c f:=by rw [fF,if_neg aI,if_neg aI,if_pos h]
def ahl {c:Command} (h:f.num=4):(⟨c.kind,c.client,c.seq,KY f,c.id,c.n,c.chunks,c.text⟩:Command)=fF c f:=by rw [fF,if_neg aI,if_neg aI,if_neg aI,if_pos h]
def akT {c:Command} (h:f.num=5):(⟨c.kind,c.client,c.seq,c.set,KY f,c.n,c.chunks,c.text⟩:Command)=fF c f:=by rw [fF,if_neg aI,if_neg aI,if_neg aI,if_neg aI,if_pos h]
def ahA {c:Command} (h:f.num=6):(⟨c.kind,c.client,c.seq,c.set,c.id,KY f,c.chunks,c.text⟩:Command)=fF c f:=by rw [fF,if_neg aI,if_neg aI,if_neg aI,if_neg aI,if_neg aI,if_pos h]
def ajC {c:Command} (h:f.num=7):(⟨c.kind,c.client,c.seq,c.set,c.id,c.n,lA f.b,c.text⟩:Command)=fF c f:=by rw [fF,if_neg aI,if_neg aI,if_neg aI,if_neg aI,if_neg aI,if_neg aI,if_pos h]
def ajY {c:Command} (h:f.num=8):(⟨c.kind,c.client,c.seq,c.set,c.id,c.n,c.chunks,⟨f.b⟩⟩:Command)=fF c f:=by rw [fF,if_neg aI,if_neg aI,if_neg aI,if_neg aI,if_neg aI,if_neg aI,if_neg aI,if_pos h]
def ajf {c:Command} (h:¬ (1<=f.num/\f.num<=8)):c=fF c f:=by rw [fF,if_neg aI,if_neg aI,if_neg aI,if_neg aI,if_neg aI,if_neg aI,if_neg aI,if_neg aI]
def mX (b:List UInt8) (v:Int):Int:=if (bO b).2=0 then gE (bO b).1 v else (bO b).2
structure TkR where
 c:Command
 r:List Field
 e:Int
def cK (b:List UInt8) (v:Int):TkR:=
 if 1<=v/\v<=3 then (if mX b v=0 then (if fx (c_ (eu (bO b).1 (di v))) (eM (bO b).1 (di v)) v=0/\gC (c_ (eu (bO b).1 (di v))) (eM (bO b).1 (di v)) v=b then ⟨c_ (eu (bO b).1 (di v)),eM (bO b).1 (di v),0⟩ else ⟨cR,[],6⟩) else ⟨cR,[],mX b v⟩) else ⟨cR,[],1⟩
def akM {v:Int} (h:¬ (1<=v/\v<=3)):cK b v=⟨cR,[],1⟩:=by rw [cK,if_neg h]
def afg {v:Int} (h:1<=v/\v<=3) (c:¬ mX b v=0):cK b v=⟨cR,[],mX b v⟩:=by rw [cK,if_pos h,if_neg c]
def aih {v:Int} (h:1<=v/\v<=3) (d:mX b v=0) (g:¬ fx (c_ (eu (bO b).1 (di v))) (eM (bO b).1 (di v)) v=0\/¬ gC (c_ (eu (bO b).1 (di v))) (eM (bO b).1 (di v)) v=b):cK b v=⟨cR,[],6⟩:=by
 rw [cK,if_pos h,if_pos d,if_neg (fun h=>g.elim (fun c=>c h.1) (fun c=>c h.2))]
def alg {v:Int} (h:1<=v/\v<=3) (c:mX b v=0) (d:fx (c_ (eu (bO b).1 (di v))) (eM (bO b).1 (di v)) v=0/\gC (c_ (eu (bO b).1 (di v))) (eM (bO b).1 (di v)) v=b):cK b v=⟨c_ (eu (bO b).1 (di v)),eM (bO b).1 (di v),0⟩:=by
 rw [cK,if_pos h,if_pos c,if_pos d]
theorem Uy {v:Int} (h:mX b v=0):(bO b).2=0/\cZ (bO b).1=0:=by
 unfold mX at h;split at h
 ·rename_i c;refine ⟨c,?_⟩;unfold gE at h;split at h
  ·cases h
  split at h
  ·assumption
  exact h
 rename_i c; exact absurd h c
def aaK {v:Int} {u:Int} (h:mX b v=0):∀ f ∈ eu (bO b).1 u,f.b.length<=16384:=
 fun _ c=>yq (Uy h).2 (alH.1 c).1
variable {x:UInt8}
def wy (h:x.toNat<128):(x &&& 127).toNat=x.toNat:=by rw [kV]; omega
def Ky:∀ (n:Nat) {k m:Nat} {r:List UInt8},k<=9->n*2 ^ (7*k)<18446744073709551616->(0<k->n≠0)->bL k m (bk n++r)=(m+n*2 ^ (7*k),k+(bk n).length,0):=by
 intro n;induction n using Nat.strongRecOn with
 | _ n p=>
  intro k m r y z q;by_cases g:n<128
  ·rw [mY g];have c:(UInt8.ofNat n).toNat=n:=by rw [UInt8.toNat_ofNat']; omega
   simp only [List.cons_append,ak_,List.length_cons,List.length_nil];have s:¬ ((0<k/\(UInt8.ofNat n).toNat=0)\/(k=9/\1<(UInt8.ofNat n).toNat)):=by
    rw [c];rintro (⟨u,j⟩ | ⟨rfl,j⟩)
    ·exact q u j
    have:2*2 ^ (7*9)<=n*2 ^ (7*9):=ag0 _ aI;have e:(2:Nat)*2 ^ (7*9)=18446744073709551616:=by decide
    omega
   rw [bL,if_neg aI,if_neg s,if_pos aI,wy aI,c]
  rw [um g];simp only [List.cons_append,List.length_cons];have c:=Ys n;have v:k<=8:=by
   rcases Nat.lt_or_ge k 9 with h | h
   ·omega
   have d:k=9:=by omega
   subst d;have:128*2 ^ (7*9)<=n*2 ^ (7*9):=ag0 _ aI;have e:(128:Nat)*2 ^ (7*9)=1180591620717411303424:=by decide
   omega
  have o:(2:Nat) ^ (7*(k+1))=128*2 ^ (7*k):=by rw [show 7*(k+1)=7*k+7 by omega,Nat.pow_add,Nat.mul_comm]
  have A:n / 128*2 ^ (7*(k+1))<=n*2 ^ (7*k):=by
   rw [o,<- Nat.mul_assoc]; exact ag0 _ (Nat.div_mul_le_self _ _)
  rw [bL,if_neg aI,if_neg (by rw [c]; rintro (⟨_,h⟩ | ⟨h,_⟩) <;> omega),if_neg aI,kV,c];rw [p (n / 128) aI (k:=k+1) aI aI (fun _=>by omega)];have e:(n % 128+128) % 128=n % 128:=by omega
  have w:n % 128*2 ^ (7*k)+n / 128*2 ^ (7*(k+1))=n*2 ^ (7*k):=by
   rw [o,<- Nat.mul_assoc,<- aja]; congr 1; omega
  rw [e,Nat.add_assoc,w];congr 2;omega
def jA (h:n<18446744073709551616) (r:List UInt8):takeF (bk n++r)=(n,(bk n).length,0):=by
 unfold takeF;rw [Ky n aI (by simpa using h) (fun h=>absurd h aI)];simp
def tvX (c:b[k]? = some x):b.getD k (aj .u8)=x:=by rw [List.getD_eq_getElem?_getD,c]; rfl
def tvA (h:takeF b=bL k n (b.drop k)) (c:(k:Int)<10) (d:(k:Int)=(b.length:Int)):takeF b=(0,0,2):=h.trans (Ql aI aI)
def tvD (h:takeF b=bL k n (b.drop k)) (c:10<=(k:Int)):takeF b=(0,0,3):=h.trans (acx aI)
def tvG (c:k<=b.length) (d:¬ (k:Int)=(b.length:Int)):∃ x,b[k]? = some x:=⟨_,List.getElem?_eq_getElem aI⟩
def tvB (h:takeF b=bL k n (b.drop k)) (o:(k:Int)<10) (d:k<=b.length) (g:¬ (k:Int)=(b.length:Int)) (p:0<(k:Int)) (j:((b.getD k (aj .u8)).toNat:Int)=((UInt8.ofNat 0).toNat:Int)):takeF b=(0,0,3):=by
 obtain ⟨x,c⟩:=tvG d g;rw [tvX c,show (UInt8.ofNat 0).toNat=0 from rfl] at j;exact yS h aI c (.inl ⟨aI,aI⟩)
def tvC (h:takeF b=bL k n (b.drop k)) (d:(k:Int)<10) (g:k<=b.length) (j:¬ (k:Int)=(b.length:Int)) (p:(k:Int)=9) (o:((UInt8.ofNat 1).toNat:Int)<((b.getD k (aj .u8)).toNat:Int)):takeF b=(0,0,3):=by
 obtain ⟨x,c⟩:=tvG g j;rw [tvX c,show (UInt8.ofNat 1).toNat=1 from rfl] at o;exact yS h aI c (.inr ⟨aI,aI⟩)
def orN (n k:Nat) (x:UInt8):Nat:=n ||| (x &&& UInt8.ofNat 127).toNat*2 ^ (7*(k:Int)).toNat % 18446744073709551616
def tvN (c:n<2 ^ (7*k)) (d:k<=9) (g:k=9->x.toNat<=1):orN n k x=n+(x &&& 127).toNat*2 ^ (7*k):=by
 unfold orN;rw [show (UInt8.ofNat 127)=127 from rfl,show (7*(k:Int)).toNat=7*k by omega,Nat.mod_eq_of_lt (OB d g)];exact Sm c
theorem tvZ (c:b[k]? = some x) (d:(k:Int)<=0\/¬ ((b.getD k (aj .u8)).toNat:Int)=((UInt8.ofNat 0).toNat:Int)) (g:¬ (k:Int)=9\/((b.getD k (aj .u8)).toNat:Int)<=((UInt8.ofNat 1).toNat:Int)):(¬ (0<k/\x.toNat=0))/\¬ (k=9/\1<x.toNat):=by grind
def tvE {y:UInt8} (h:takeF b=bL k n (b.drop k)) (j:n<2 ^ (7*k)) (s:(k:Int)<10) (c:b[k]? = some x) (d:b[k]? = some y) (o:(k:Int)<=0\/¬ ((b.getD k (aj .u8)).toNat:Int)=((UInt8.ofNat 0).toNat:Int)) (p:¬ (k:Int)=9\/((b.getD k (aj .u8)).toNat:Int)<=((UInt8.ofNat 1).toNat:Int)) (q:(y.toNat:Int)<((UInt8.ofNat 128).toNat:Int)):takeF b=(orN n k x,k+1,0):=by
 have g:=tvZ c o p;rw [show (UInt8.ofNat 128).toNat=128 from rfl] at q;rw [c] at d; cases d;rw [tvN j aI aI];exact Gb h aI c g.1 g.2 aI
def tvF {y:UInt8} (h:takeF b=bL k n (b.drop k)) (g:n<2 ^ (7*k)) (c:n<18446744073709551616) (u:(k:Int)<10) (d:b[k]? = some x) (j:b[k]? = some y) (p:(k:Int)<=0\/¬ ((b.getD k (aj .u8)).toNat:Int)=((UInt8.ofNat 0).toNat:Int)) (q:¬ (k:Int)=9\/((b.getD k (aj .u8)).toNat:Int)<=((UInt8.ofNat 1).toNat:Int)) (s:((UInt8.ofNat 128).toNat:Int)<=(y.toNat:Int)):orN n k x<2 ^ (7*(k+1))/\orN n k x<18446744073709551616/\takeF b=bL (k+1) (orN n k x) (b.drop (k+1)):=by
 have o:=tvZ d p q;rw [show (UInt8.ofNat 128).toNat=128 from rfl] at s;rw [d] at j; cases j;have e:=tvN g (show k<=9 by omega) (show k=9->x.toNat<=1 by omega);refine ⟨by rw [e]; exact Gv g,?_,by rw [e]; exact GG h aI d o.1 o.2 aI⟩;exact ajj (n:=64) c (ahk _ am)
variable {x:Int}
theorem aeK {c:Command} {v:Int} (d:[c.client,c.seq,c.set,c.id,c.n][k]? = some x) (h:x<0\/1048576<x):false=gB c v:=by
 refine TH ?_;grind
def aey {c:Command} (h:(k:Int)<5):[c.client,c.seq,c.set,c.id,c.n][k]? = some ([c.client,c.seq,c.set,c.id,c.n].getD k (aj .int)):=by
 rw [List.getD_eq_getElem?_getD,List.getElem?_eq_getElem (by simp only [List.length_cons]; omega)]; rfl
def adM {n:Int} {p:Prop} (h:n<=0\/p):(¬ 0<n)\/p:=h.imp_left aI
def akY {l:List Int} (h:((l.take k).all fun n=>cn n 0 1048576)=true) (c:l[k]? = some x) (d:0<=x) (g:x<=1048576):((l.take (k+1)).all fun n=>cn n 0 1048576)=true:=by
 rw [ai c,aiU,h]; simp [cn]; omega
def agi {c:Command} (h:(([c.client,c.seq,c.set,c.id,c.n].take k).all fun n=>cn n 0 1048576)=true) (d:5<=(k:Int)):¬ ((c.client<0\/1048576<c.client)\/(c.seq<0\/1048576<c.seq)\/(c.set<0\/1048576<c.set)\/(c.id<0\/1048576<c.id)\/(c.n<0\/1048576<c.n)):=by
 rw [List.take_of_length_le (by simp only [List.length_cons,List.length_nil]; omega)] at h;simp only [aik,cn,Bool.and_eq_true,decide_eq_true_eq] at h;omega
def aaD (b:List UInt8):List (Nat × LI):=[(3,{ σ:=Nat × Nat,F:=fun s=>([(0,one (.fz .u8 (b))),(5,one (.u64 s.2)),(6,one (.int 0)),(7,one (.int 3)),(9,one (.int s.1))],[]),J:=fun s=>s.1<=10/\s.2<2 ^ (7*s.1)/\s.2<18446744073709551616/\takeF b=bL s.1 s.2 (b.drop s.1)/\s.1<=b.length,μ:=fun s=>10 - s.1 })]
def I_ (c:Command) (v:Int):List (Nat × LI):=[(5,{ σ:=Nat,F:=fun k=>([(1,one (.int (v))),(2,one (.ptr 0 0)),(38,.one (.agg [.int c.client,.int c.seq,.int c.set,.int c.id,.int c.n])),(39,one (.int k))],[.box 35 (cellsOf (.nm .command) (c))]),J:=fun k=>k<=5/\([c.client,c.seq,c.set,c.id,c.n].take k).all (fun n=>cn n 0 1048576)=true,μ:=fun k=>5 - k })]
def Ga:Kn:=aO (ae (kC (cL .u8)) al) av fun (b,_) _=>⟨[],[.c (.u64 ((U64.mk (takeF b).1)).n),.c (.int ((((takeF b).2.1:Nat)))),.c (.int (((takeF b).2.2)))],none,false⟩
theorem WW:CK 210 Ga:=ah fun (b,_) _ _=>by
 refine ao dI (aaD b) Tryz.func210 (?_:(fun (F:UInt8)=>(fun (j:Nat)=>(fun (o:Nat)=>(fun (p:Nat)=>(fun (N:Int)=>(fun (I:Nat)=>(fun (T:Int)=>(fun (S:Int)=>(fun (J:Int)=>(fun (C:Int)=>(fun (D:Int)=>(fun (O:Prop)=>(fun (K:Int)=>(fun (L:Int)=>(fun (d:Int)=>(fun (G:Prop)=>(fun (w:Prop)=>(fun (P:Prop)=>(fun (z:Prop)=>b.length*1<=140737488355328->∃ (v:Nat × Nat),(b=b/\0=v.snd/\w/\D=D/\d=(↑v.fst:Int))/\(v.fst<=o/\v.snd<p ^ (7*v.fst)/\v.snd<j/\takeF b=bL v.fst v.snd (List.drop v.fst b)/\v.fst<=b.length)/\∀ (s:Nat × Nat),(fun (g:Nat)=>(fun (h:Int)=>(fun (A:Prop)=>(fun (c:Int)=>(fun (y:Int)=>(fun (q:Int)=>(fun (H:Prop)=>g<=o/\s.snd<p ^ (7*g)/\s.snd<j/\takeF b=bL g s.snd (List.drop g b)/\g<=b.length->(c<10->(c=C->(¬2=d->O/\d=L/\2=K)/\(2=d->s.snd=I/\z))/\(¬c=C->(d<c->d<=c/\c<C)/\(d<c/\h=J->(d<c/\h=J->A)/\(c<=d\/¬h=J->H))/\(c<=d\/¬h=J->(c=9->d<=c/\c<C)/\(c=9/\(↑(UInt8.ofNat 1).toNat:Int)<h->A)/\(¬c=9\/h<=(↑(UInt8.ofNat 1).toNat:Int)->H))))/\(10<=c->A)) (d<=c/\c<C/\∀ (x:UInt8),b[g]? = some x->I64 q/\d<=q/\q<64/\d<=c/\c<C/\∀ (B:UInt8),b[g]? = some B->((↑B.toNat:Int)<S->I64 y/\(¬w->O/\z)/\(w->s.snd ||| (x &&& F).toNat*p ^ q.toNat % j=I/\y=L/\d=K))/\(S<=(↑B.toNat:Int)->I64 y/\∃ (u:Nat × Nat),(b=b/\s.snd ||| (x &&& F).toNat*p ^ q.toNat % j=u.snd/\w/\D=D/\y=(↑u.fst:Int))/\(u.fst<=o/\u.snd<p ^ (7*u.fst)/\u.snd<j/\takeF b=bL u.fst u.snd (List.drop u.fst b)/\u.fst<=b.length)/\o - u.fst<o - g))) (T*c)) (c+N)) (↑g:Int)) ((¬G->P)/\(G->s.snd=I/\z))) (↑(UInt8.toNat (b.getD g (aj Sh.u8))):Int)) s.fst) (d=L/\d=K)) (O/\d=L/\D=K)) (d=d)) (D=d)) 0) (↑(takeF b).snd.fst:Int)) (takeF b).snd.snd) (0=I)) 3) (↑b.length:Int)) (↑(UInt8.ofNat 0).toNat:Int)) (↑(UInt8.ofNat 128).toNat:Int)) 7) (takeF b).fst) 1) 2) 10) 18446744073709551616) (UInt8.ofNat 127));(repeat' with_reducible first|apply a_|refine aY ?_|intro)
 all_goals try (first | exact bq | decide)
 all_goals (refine ⟨(0,0),⟨rfl,rfl,?_,?_,?_⟩,⟨aI,am,am,rfl,aI⟩,?_⟩)
 all_goals try (first | trivial | rfl)
 (repeat' with_reducible first|apply a_|refine aY ?_|intro)
 all_goals try (first | exact bq | (rw [tvA ab ab ab] <;> rfl) | (rw [tvD ab ab] <;> rfl) | (rw [tvB ab ab ab ab ab ab] <;> rfl) | (rw [tvC ab ab ab ab ab ab] <;> rfl) | exact (congrArg Prod.fst (tvE ab ab ab ab ab ab ab ab)).symm | exact (congrArg (fun t=>((t.2.1:Nat):Int)) (tvE ab ab ab ab ab ab ab ab)).symm | exact (congrArg (fun t=>t.2.2) (tvE ab ab ab ab ab ab ab ab)).symm)
 all_goals (refine ⟨(‹Nat × Nat›.1+1,_),⟨rfl,rfl,?_⟩,?_⟩; (repeat' with_reducible first|apply a_|refine aY ?_|intro))
 all_goals (first | exact bq | exact (tvF ab ab ab ab ab ab ab ab ab).1 | exact (tvF ab ab ab ab ab ab ab ab ab).2.1 | exact (tvF ab ab ab ab ab ab ab ab ab).2.2)
def zx:Kn:=aO (ae (kT (.nm .field)) (ae (kT (.nm .field)) al)) av fun (x,y,_) _=>⟨[],[.c (.bool (.atom ((gj x y))))],none,false⟩
theorem NU:CK 256 zx:=ah fun (x,y,_) _ _=>by
 refine ao dI [] Tryz.func256 (?_:I64 x.num->I64 x.wire->x.n.n<18446744073709551616->x.b.length*1<=140737488355328->I64 y.num->I64 y.wire->y.n.n<18446744073709551616->y.b.length*1<=140737488355328->(y.num=x.num->(decide (y.wire=2) && decide (x.wire=2))=gj x y)/\(¬y.num=x.num->decide (x.num<y.num)=gj x y));grind [gj]
def z_:Kn:=aO (ae (kT (.nm .field)) al) av fun (x,_) _=>⟨[],[.c (.bool (.atom ((eJ x))))],none,false⟩
theorem LL:CK 255 z_:=ah fun (x,_) _ _=>by
 refine ao dI [] Tryz.func255 (?_:I64 x.num->I64 x.wire->x.n.n<(18446744073709551616:Nat)->x.b.length*(1:Nat)<=(140737488355328:Nat)->(x.num<(1:Int)\/(1000:Int)<x.num->false=eJ x)/\((1:Int)<=x.num/\x.num<=(1000:Int)->(x.wire=(0:Int)->decide ((↑x.b.length:Int)=(0:Int))=eJ x)/\(¬x.wire=(0:Int)->(x.wire=(2:Int)->decide ((↑x.n.n:Int)=(↑(0:Nat):Int))=eJ x)/\(¬x.wire=(2:Int)->false=eJ x))));grind [eJ,Nv,SB]
def AB:Kn:=aO (ae (kC (cL .u8)) (ae (kC (cL .u8)) al)) av fun (x,y,_) _=>⟨[],[.c (.bool (.atom ((decide (x=y)))))],none,false⟩
theorem Ow:CK 146 AB:=ah fun (x,y,_) _ _=>by
 refine ao dI [] Tryz.func146 (?_:x.length*1<=140737488355328->y.length*1<=140737488355328->decide (Str.mk x=Str.mk y)=decide (x=y));grind
def AM:Kn:=aO (ae (kC (cL .u8)) al) av fun (x,_) _=>⟨[],[.c (.fz .u8 ((x)))],none,false⟩
theorem Qa:CK 332 AM:=ah fun (x,_) _ _=>by
 refine ao dI [] Tryz.func332 (?_:(fun c=>c->∀ (b:Bool),(b=true->x=[])->(b=true->x=[])/\(b=false->c/\x=x)) (x.length*1<=140737488355328));grind
def XZ:Kn:=aO (ae (kC cI) (ae (kC cI) al)) av fun (k,l,_) _=>⟨[],[.agg (cellsOf (.nm .spec) (⟨k,0,l,false,false⟩))],none,false⟩
theorem af3:CK 271 XZ:=ah fun (k,l,_) _ _=>by
 refine ao dI [] Tryz.func271 (?_:I64 k->I64 l->k=k/\(0:Int)=0/\l=l/\false=false/\false=false);grind
def YU:Kn:=aO (ae (kC cI) (ae (kC cI) al)) av fun (k,l,_) _=>⟨[],[.agg (cellsOf (.nm .spec) (⟨k,2,l,false,false⟩))],none,false⟩
theorem af1:CK 272 YU:=ah fun (k,l,_) _ _=>by
 refine ao dI [] Tryz.func272 (?_:I64 k->I64 l->k=k/\(2:Int)=2/\l=l/\false=false/\false=false);grind
def Zk:Kn:=aO (ae (kT (.nm .spec)) al) av fun (x,_) _=>⟨[],[.agg (cellsOf (.nm .spec) ({ x with need:=true }))],none,false⟩
theorem afZ:CK 273 Zk:=ah fun (x,_) _ _=>by
 refine ao dI [] Tryz.func273 (?_:mZ x (x.num=x.num/\x.wire=x.wire/\x.since=x.since/\true=true/\x.many=x.many));grind
def YJ:Kn:=aO (ae (kT (.nm .spec)) al) av fun (x,_) _=>⟨[],[.agg (cellsOf (.nm .spec) ({ x with many:=true }))],none,false⟩
theorem agH:CK 274 YJ:=ah fun (x,_) _ _=>by
 refine ao dI [] Tryz.func274 (?_:mZ x (x.num=x.num/\x.wire=x.wire/\x.since=x.since/\x.need=x.need/\true=true));grind
def QS:Kn:=aO (ae (kT (.nm .field)) (ae (kT (.nm .spec)) (ae (kC cI) al))) av fun (x,s,n,_) _=>⟨[],[.c (.bool (.atom ((Nb x s n))))],none,false⟩
theorem abI:CK 331 QS:=ah fun (x,s,n,_) _ _=>by
 refine ao dI [] Tryz.func331 (?_:I64 x.num->I64 x.wire->x.n.n<(18446744073709551616:Nat)->x.b.length*(1:Nat)<=(140737488355328:Nat)->mZ s (I64 n->(¬x.wire=s.wire\/(1:Int)<n/\s.many=false->false=Nb x s n)/\(x.wire=s.wire/\(n<=(1:Int)\/s.many=true)->(x.wire=(0:Int)->(!decide ((↑x.n.n:Int)=(↑(0:Nat):Int)))=Nb x s n)/\(¬x.wire=(0:Int)->decide ((0:Int)<(↑x.b.length:Int))=Nb x s n))));grind [Nb]
def Pg:Kn:=aO (ae (kC cI) (ae (kC cI) al)) av fun (num,wire,_) _=>⟨[],[.c (.own 0),.c (.int ((Bb num wire)))],some ([.row 5 .u8 ((nP num wire))]),true⟩
def ZC:CK 257 Pg:=ah fun (num,wire,_) _ _=>by
 refine dF dI [] Tryz.func257 (?_:(fun c=>I64 num->I64 wire->((num<1\/1000<num)\/¬wire=0/\¬wire=2->1=Bb num wire/\nP num wire=[])/\((1<=num/\num<=1000)/\(wire=0\/wire=2)->I64 (8*num)/\I64 c/\0<=c/\0=Bb num wire/\bk c.toNat=nP num wire)) (8*num+wire));(repeat' with_reducible first|apply a_|refine aY ?_|intro)
 all_goals (first | exact bq | exact (Vb aI) | exact (MP aI) | exact (Gt aI).symm | exact (Gt aI) | exact (SC aI))
def uo:Kn:=aO (ae (kT (.nm .command)) (ae (kC cI) al)) av fun (c,v,_) _=>⟨[],[.c (.bool (.atom ((gB c v))))],none,false⟩
theorem DL:CK 160 uo:=ah fun (c,v,_) _ _=>by
 refine ao dI (I_ c v) Tryz.func160 (?_:(fun (p:Prop)=>(fun (g:Nat)=>(fun (h:Int)=>(fun (d:Int)=>(fun (q:List Int)=>(fun (w:List (den Sh.int))=>bB c (I64 v->I64 h->((c.kind<1\/99<c.kind)\/¬h=d/\h<=v->p)/\((1<=c.kind/\c.kind<=99)/\(h=d\/v<h)->∃ (u:Nat),(v=v/\c.client=c.client/\c.seq=c.seq/\c.set=c.set/\c.id=c.id/\c.n=c.n/\d=(↑u:Int)/\aS c c)/\(u<=g/\((List.take u q).all fun (n:Int)=>cn n d 1048576)=true)/\∀ (s:Nat),(fun (j:den Sh.int)=>s<=g/\((List.take s q).all fun (n:Int)=>cn n d 1048576)=true->((↑s:Int)<5->d<=(↑s:Int)/\(↑s:Int)<(↑g:Int)/\(I64 j->(j<d\/1048576<j->p)/\(d<=j/\j<=1048576->I64 ((↑s:Int)+1)/\∃ (o:Nat),(v=v/\c.client=c.client/\c.seq=c.seq/\c.set=c.set/\c.id=c.id/\c.n=c.n/\(↑s:Int)+1=(↑o:Int)/\aS c c)/\(o <= g/\((List.take o q).all fun (n:Int)=>cn n d 1048576)=true)/\g - o < g - s)))/\(5<=(↑s:Int)->(d<(↑c.chunks.length:Int)/\cJ c.chunks=false->p)/\((↑c.chunks.length:Int)<=d\/cJ c.chunks=true->(v<3->decide (c.text=Str.mk [])=gB c v)/\(3<=v->decide ((↑c.text.b.length:Int)<=16)=gB c v)))) (w.getD s (aj Sh.int))))) [c.client,c.seq,c.set,c.id,c.n]) [c.client,c.seq,c.set,c.id,c.n]) 0) (cF c.kind)) 5) (false=gB c v));iterate 3 ((all_goals (repeat' with_reducible first|apply a_|refine aY ?_|intro)); (all_goals try (first | exact bq | exact rfl | exact (NA aI) | exact (aeK (aey aI) ab) | exact (akY ab (aey aI) ab ab) | exact (Wn (And.intro ab ab)) | exact (abc aI (agi ab aI) (adM ap) aI) | exact (abB aI (agi ab aI) (adM ap) aI))); all_goals try first | refine ⟨‹Nat› + 1,?_⟩ | refine ⟨0,?_⟩)
def ad8:bH:=(aP 160 uo (aP 257 Pg (aP 331 QS (aP 274 YJ (aP 273 Zk (aP 272 YU (aP 271 XZ (aP 332 AM (aP 146 AB (aP 255 z_ (aP 256 zx (aP 210 Ga Xl))))))))))))
def nT:aw Tryz.prog (ak tyT) ad8:=(ag DL (ag ZC (ag abI (ag agH (ag afZ (ag af1 (ag af3 (ag Qa (ag Ow (ag LL (ag NU (ag WW dI))))))))))))
def oX (h:m<9223372036854775808):dp m=(m:Int):=by rw [dp,if_pos h]
def FK:(b.drop k).take (b.length - k)=b.drop k:=List.take_of_length_le (by rw [List.length_drop]; exact Nat.le_refl _)
def uk1 (d:(k:Int)<(b.length:Int)) (c:(takeF (b.drop k)).2.2=0) (g:(((takeF (b.drop k)).1:Nat):Int)<=((64:Nat):Int)):∃ x,b[k]? = some x/\takeF (b.drop k)=(x.toNat,1,0)/\x.toNat<=64:=by
 have h:=tk1 (b:=b) (k:=k) aI (by rw [FK]; exact c) (by rw [FK]; omega);rw [FK] at h; exact h
def ukS (d:(k:Int)<(b.length:Int)) (g:(takeF (b.drop k)).2.2=0) (j:(((takeF (b.drop k)).1:Nat):Int)<=((64:Nat):Int)):(k:Int)+((takeF (b.drop k)).2.1:Nat)=((k+1:Nat):Int)/\cO (b.take k)++[dp (takeF (b.drop k)).1]=cO (b.take (k+1)):=by
 obtain ⟨x,o,c,p⟩:=uk1 d g j;have h:=Xi o c;rw [c] at h ⊢;exact ⟨rfl,by rw [<- h,oX (by show x.toNat<_; omega)]⟩
def ukR (c:(k:Int)<(b.length:Int)) (h:(¬ (takeF (b.drop k)).2.2=0)\/((64:Nat):Int)<(((takeF (b.drop k)).1:Nat):Int)):cJ (cO b)=false:=adn (k:=k) aI (by rw [FK]; exact h)
def ZK (h:k<=b.length) (c:b.length<=100000):((cO (b.take k)).length+1)*8<=140737488355328:=by
 unfold cO; rw [List.length_map,List.length_take]; omega
def aet (b:List UInt8):List (Nat × LI):=[(3,{ σ:=Nat,F:=fun k=>([(0,one (.fz .u8 (b))),(4,one (.own 0)),(5,one (.int k))],[.row 3 .int ((cO (b.take k)))]),J:=fun k=>k<=b.length,μ:=fun k=>b.length - k })]
def Sx:Kn:=aO (ae (kC (cL .u8)) al) av fun (b,_) _=>⟨[],[.c (.int (((aU b).num))),.c (.int (((aU b).wire))),.c (.int ((((aU b).k:Nat)))),.c (.int (((aU b).e)))],none,false⟩
def aby:CK 355 Sx:=ah fun (b,_) _ _=>by
 refine ao nT [] Tryz.func355 (?_:(fun (p:Int)=>(fun (j:Int)=>(fun (c:TagR)=>(fun (d:Int)=>(fun (g:Prop)=>(fun (o:Nat)=>(fun (q:Prop)=>(fun (h:Int)=>(fun (s:Prop)=>b.length*(1:Nat)<=(140737488355328:Nat)->(takeF b).fst<(18446744073709551616:Nat)->I64 (↑(takeF b).snd.fst:Int)->I64 j->(¬j=d->d=c.num/\d=c.wire/\d=(↑c.k:Int)/\j=c.e)/\(j=d->g/\(p<=h->g)/\(s->g/\(¬q->g))/\((h<p\/(↑(1000:Nat):Int)<h)\/¬q/\¬(↑o:Int)=(↑(2:Nat):Int)->d=c.num/\d=c.wire/\d=(↑c.k:Int)/\(6:Int)=c.e)/\(s/\(q\/(↑o:Int)=(↑(2:Nat):Int))->g/\g/\dp ((takeF b).fst / (8:Nat))=c.num/\dp o=c.wire/\(↑(takeF b).snd.fst:Int)=(↑c.k:Int)/\d=c.e))) (p<=h/\h<=(↑(1000:Nat):Int))) (↑((takeF b).fst / (8:Nat)):Int)) ((↑o:Int)=(↑(0:Nat):Int))) ((takeF b).fst % (8:Nat))) ((0:Nat)<(8:Nat))) (0:Int)) (aU b)) (takeF b).snd.snd) (↑(1:Nat):Int));(repeat' with_reducible first|apply a_|refine aY ?_|intro)
 all_goals (first | exact bq | (rw [Sr ab] <;> rfl) | (rw [RZ ab aI] <;> rfl) | (rw [Mr ab aI] <;> first | rfl | exact oX aI) | (have:=(oV (l:=b) (k:=0) (n:=0) aI).1; change (takeF b).2.1<=11 at this; omega))
def QQ:Kn:=aO (ae (kT (.nm .field)) al) av fun (f,_) _=>⟨[f.b.length<=16384],[.c (.own 0)],some ([.row 5 .u8 ((cH f))]),true⟩
def aai:CK 222 QQ:=ah fun (f,_) _ g=>by
 have h:=cg g;refine dF nT [] Tryz.func222 (?_:(fun (c:Nat)=>(fun (d:List UInt8)=>I64 f.num->I64 f.wire->f.n.n<18446744073709551616->c*1<=140737488355328->I64 (Bb f.num f.wire)->(f.wire=0->(d.length+(bk f.n.n).length)*1<=140737488355328/\d++bk f.n.n=cH f)/\(¬f.wire=0->0<=(↑c:Int)/\(d.length+(bk c).length)*1<=140737488355328/\((d++bk c).length+c)*1<=140737488355328/\d++bk c++f.b=cH f)) (nP f.num f.wire)) f.b.length);(repeat' with_reducible first|apply a_|refine aY ?_|intro)
 all_goals (first | exact bq | exact (VS ab) | exact (Un ab) | (have:=rS f.num f.wire; have:=cN (n:=f.n.n) ab; omega) | (have:=rS f.num f.wire; have:=cN (n:=f.b.length) aI; (try simp only [List.length_append]); omega))
def Ol:Kn:=aO (ae (kC cI) al) av fun (q,_) _=>⟨[q=1],[.c (.fz (.nm .spec) ((bV)))],none,false⟩
def aaH:CK 254 Ol:=ah fun (q,_) _ C=>by
 have D:=cg C;refine ao nT [] Tryz.func254 (?_:(fun A=>(fun y=>(fun u=>(fun s=>(fun z=>(fun v=>(fun o=>(fun g=>(fun j=>(fun d=>(fun h=>(fun B=>(fun w=>(fun p=>(fun c=>I64 q->c->d->c->c->d->c->g->d->c->v->d->c->I64 s->d->c->I64 u->d->c->I64 y->d->c->I64 A->g->c->I64 8->g->v->c->d->c->c->d->c->g->d->c->g->d->c->v->g->c->v->g->c->I64 s->d->g->I64 u->g->v->c->d->c->c->d->c->g->d->c->g->d->c->c->d->c->c->d->c->g->d->c->v->d->c->I64 s->d->c->c->d->c->c->d->c->g->d->c->g->d->c->v->d->c->I64 s->g->c->I64 s->g->c->I64 u->g->c->I64 u->g->c->I64 y->g->c->I64 y->g->c->I64 A->d->v->c->d->c->c->d->c->g->d->c->g->d->c->v->d->c->v->d->c->I64 s->d->c->I64 s->d->c->I64 u->d->c->I64 y->d->c->I64 A->d->c->I64 8->d->c->I64 9->d->c->I64 10->g->c->I64 10->g->c->c->d->c->c->d->c->g->g->c->(if q=A then some [p,Spec.mk o o h false false] else if q=y then some [p,w,Spec.mk z j h true false,Spec.mk s j h true false,Spec.mk u j h false false,Spec.mk y j h false false,Spec.mk A j h false false,Spec.mk 8 j h false false,Spec.mk 9 j h false false,Spec.mk 10 o h false true] else if q=u then some [p,w,B,Spec.mk s o h false true,Spec.mk u o h false true,Spec.mk y o h false true,Spec.mk A j z false false] else if q=s then some [p,Spec.mk o j h false false,B,Spec.mk s j h false false] else if q=z then some [p,w] else if q=o then some [p,w,Spec.mk z o h true false,Spec.mk s j o false false,Spec.mk u o z false false] else if q=h then some [p,Spec.mk o j h false false,B,Spec.mk s j h false false,Spec.mk u j h false false,Spec.mk y j h false false,Spec.mk A o h false false,Spec.mk 8 o z false false] else none).getD (aj (Sh.nm NT.spec).lst)=bV) (I64 h)) (Spec.mk h j h true false)) (Spec.mk o j h true false)) (Spec.mk z j h false false)) (1:Int)) (I64 j)) (0:Int)) (I64 o)) (2:Int)) (I64 z)) (3:Int)) (4:Int)) (5:Int)) (6:Int)) (7:Int));subst D; (repeat' with_reducible first|apply a_|refine aY ?_|intro);all_goals (first | exact bq | exact rfl)
def Mj:Kn:=aO (ae (kC (cL .u8)) al) av fun (b,_) _=>⟨[b.length<=100000],[.c (.fz .int ((lA b))),.c (.int ((qp b)))],none,false⟩
theorem ZD:CK 333 Mj:=ah fun (b,_) _ o=>by
 have p:=cg o;refine ao nT (aet b) Tryz.func333 (?_:(fun (j:Prop)=>b.length*(1:Nat)<=(140737488355328:Nat)->∃ (h:Nat),(b=b/\(0:Int)=(↑h:Int)/\cO (List.take h b)=[])/\h<=b.length/\∀ (s:Nat),(fun (d:List Int)=>(fun (c:Nat × Nat × Int)=>s<=b.length->((↑s:Int)<(↑b.length:Int)->(0:Int)<=(↑s:Int)/\(↑s:Int)<=(↑b.length:Int)/\(c.fst<(18446744073709551616:Nat)->I64 (↑c.snd.fst:Int)->I64 c.snd.snd->(¬c.snd.snd=(0:Int)\/(↑(64:Nat):Int)<(↑c.fst:Int)->j)/\(c.snd.snd=(0:Int)/\(↑c.fst:Int)<=(↑(64:Nat):Int)->(d.length+[dp c.fst].length)*(8:Nat)<=(140737488355328:Nat)/\I64 ((↑s:Int)+(↑c.snd.fst:Int))/\∃ (g:Nat),(b=b/\(↑s:Int)+(↑c.snd.fst:Int)=(↑g:Int)/\d++[dp c.fst]=cO (List.take g b))/\g <= b.length/\b.length - g < b.length - s)))/\((↑b.length:Int)<=(↑s:Int)->(cJ d=false->j)/\(cJ d=true->d=lA b/\(0:Int)=qp b))) (takeF (List.drop s b))) (cO (List.take s b))) (lA b=[]/\(6:Int)=qp b));iterate 3 ((all_goals (repeat' with_reducible first|apply a_|refine aY ?_|intro)); (all_goals try (first | exact bq | exact rfl | exact (yU (ukR ab ap)) | exact (Nl (ukR ab ap)) | exact (yU (ukR ab ap)).symm | exact (yU (DH (k:=‹Nat›) aI ab)).symm | exact (yU (DH (k:=‹Nat›) aI ab)) | exact (Nl (DH (k:=‹Nat›) aI ab)) | exact (Ud aI ab) | exact (SM (k:=‹Nat›) aI ab) | exact (ukS ab ab ab).1 | exact (ukS ab ab ab).2 | exact (ZK aI aI) | (have:=(ukS ab ab ab).1; refine bw ?_ ?_ <;> omega))); all_goals try first | refine ⟨‹Nat› + 1,?_⟩ | refine ⟨0,?_⟩)
def adE:bH:=(aP 333 Mj (aP 254 Ol (aP 222 QQ (aP 355 Sx ad8))))
def ke:aw Tryz.prog (ak tyT) adE:=(ag ZD (ag aaH (ag aai (ag aby nT))))
