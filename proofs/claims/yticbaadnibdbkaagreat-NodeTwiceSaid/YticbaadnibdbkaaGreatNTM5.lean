/- What leads to the law, part 5. Conditions: each lemma's own. -/
import Derived.Test.YticbaadnibdbkaaGreatNTM4
set_option linter.unusedVariables false
set_option linter.unusedSimpArgs false
set_option maxHeartbeats 2000000
set_option linter.defProp false
noncomputable section
namespace Go.Proofs.YticbaadnibdbkaaGreat
open Go.RowKit
def agy:=@List.take_succ_cons
def adJ:=@Classical.not_not
theorem aeS (k:Int):(if k=12 then some (Span.mk 0 64) else if k=8 then some (Span.mk 2 3) else if k=6 then some (Span.mk 0 8) else none).getD (ak (.nm .span))=⟨(vP k).1,(vP k).2⟩:=by
 by_cases a:k=12
 ·subst a; rfl
 by_cases b:k=8
 ·subst b; rfl
 by_cases c:k=6
 ·subst c; rfl
 simp [vP,wx,a,b,c,ak]; rfl
def Lu:Kn:=aN (ae (kT (.nm .command)) aq) ax fun (c,_) _=>⟨[],[.c (.bool (.atom ((mB c))))],none,false⟩
theorem abh:CK 91 Lu:=ah fun (c,_) _ _=>by
 refine aw xp [] Tryz.func91 (?_:(fun a=>(fun d=>(fun i=>(fun j=>(fun k=>(fun l=>(fun h=>(fun e=>(fun m=>(fun o=>(fun g=>(fun f=>bC c ((d=3->(f=true->(cE c.chunks=true->g)/\(cE c.chunks=false->e))/\(f=false->e))/\(¬d=3->(d=11->(f=true->(h->((↑c.text.b.length:Int)<=16->o)/\(16<(↑c.text.b.length:Int)->e))/\(¬h->e))/\(f=false->e))/\(¬d=11->(f=true->(h->g)/\(¬h->e))/\(f=false->e))))) (decide (m.lo<=c.n) && decide (c.n<=m.hi))) ((i->o)/\(¬i->e))) ((j=true->(k=true->(l=true->nr c.id 1048576 ([5,7,9,10,11].contains d)=mB c)/\(l=false->e))/\(k=false->e))/\(j=false->e))) ((if d=12 then some (Span.mk 0 64) else if d=a then some (Span.mk 2 3) else if d=6 then some (Span.mk 0 a) else none).getD (ak (Sh.nm NT.span)))) (false=mB c)) ((↑c.chunks.length:Int)=0)) (nr c.set a ([2,3,4].contains d))) (nr c.seq 1048576 ![1,a].contains d)) (nr c.client a ![a].contains d)) (c.text=Str.mk [])) c.kind) (8:Int));simp only [aeS];(repeat' with_reducible first|apply bh|refine bg ?_|intro)
 all_goals ((unfold mB chF txF; simp_all) <;> (intros; omega))
def EA:Kn:=aN (ae (kT (.nm .state)) (ae (kC cI) aq)) ax fun (s,v,_) _=>⟨[1<=s.next/\s.next<=1048576],[.c (.bool (.atom ((gj s v))))],none,false⟩
theorem SG:CK 298 EA:=ah fun (s,v,_) _ c=>by
 have d:=cd c;refine aw xp [] Tryz.func298 (?_:(fun b=>(fun a=>eN s (I64 v->(b<=16->I64 a/\a<=1048576)/\(16<b\/aD Snap.id a 0 s.snaps=false->false=gj s v)/\(b<=16/\aD Snap.id a 0 s.snaps=true->(v<3->s.snaps.all (dE v 0)=gj s v)/\(3<=v->s.snaps.all (dE v 16)=gj s v)))) (s.next - 1)) (↑s.snaps.length:Int));(repeat' with_reducible first|apply bh|refine bg ?_|intro)
 all_goals (first | exact br | ((simp only [gj,wQ]; simp_all) <;> (intros; omega)) | (simp only [gj,wQ]; grind))
def afi:bM:=(aP 298 EA (aP 91 Lu ac8))
def Er:aB Tryz.prog (al tyT) afi:=(ag SG (ag abh xp))
def eH (s:State) (a:Nat) (k:Nat):Int:=(((s.snaps.drop (a+1)).take k).filter fun x=>decide (x.set=(s.snaps.getD a (ak (.nm .snap))).set)).length
def ml (s:State) (a:Int):Bool:=if a<0\/(s.snaps.length:Int)<=a then false else decide (eH s a.toNat s.snaps.length<s.keep)
def nch (l:List Snap):Nat:=(l.flatMap Snap.chunks).length
def Dx (c:Int) (l:List Snap):Nat:=(l.flatMap Snap.chunks).count c
def bl (id:Int) (l:List Snap):List Snap:=l.filter fun x=>!decide (x.id=id)
variable {k:Nat} {α:Type}
def gd {l:List α} {d:α} (h:(k:Int)<l.length):l[k]? = some (l.getD k d):=by
 have a:k<l.length:=by omega
 rw [List.getD_eq_getElem?_getD,List.getElem?_eq_getElem a]; rfl
variable {a:Nat}
def ZP {s:State}:0=eH s a 0:=by simp [eH]
def UD {s:State}:eH s a k<=(k:Int):=by
 have b:=List.length_filter_le (fun x:Snap=>decide (x.set=(s.snaps.getD a (ak (.nm .snap))).set)) ((s.snaps.drop (a+1)).take k);have c:((s.snaps.drop (a+1)).take k).length<=k:=by rw [List.length_take]; omega
 unfold eH; omega
def UL {s:State}:0<=eH s a k:=by unfold eH; omega
def abl {s:State} (h:a+1+k<=s.snaps.length) (b:s.snaps.length*64<=140737488355328):I64 (eH s a k+1):=by
 have c:=UD (s:=s) (a:=a) (k:=k);have d:=UL (s:=s) (a:=a) (k:=k);constructor <;> omega
variable {x:Snap}
def Z_ {s:State} (b:(s.snaps.drop (a+1))[k]? = some x) (h:x.set=(s.snaps.getD a (ak (.nm .snap))).set):eH s a k+1=eH s a (k+1):=by
 unfold eH;rw [ai b,List.filter_append,List.length_append];simp [h]
def abd {s:State} (b:(s.snaps.drop (a+1))[k]? = some x) (h:¬ x.set=(s.snaps.getD a (ak (.nm .snap))).set):eH s a k=eH s a (k+1):=by
 unfold eH;rw [ai b,List.filter_append,List.length_append];rw [show List.filter (fun x:Snap=>decide (x.set=(s.snaps.getD a (ak (.nm .snap))).set)) [x]=[] by simp only [List.filter_cons,h,decide_false,List.filter_nil]; rfl];simp
variable {a:Int}
def Ou {s:State} (b:0<=a) (c:a<s.snaps.length) (h:(s.snaps.length:Int)<=a+1+k):decide (eH s a.toNat k<s.keep)=ml s a:=by
 unfold ml;rw [if_neg aL];have e:∀ m:Nat,(s.snaps.length:Int)<=a+1+m->eH s a.toNat m=eH s a.toNat s.snaps.length:=fun m d=>by
  unfold eH;rw [List.take_of_length_le (by rw [List.length_drop]; omega),List.take_of_length_le (by rw [List.length_drop]; omega)]
 rw [e k h]
def PB {s:State} (h:a<0\/(s.snaps.length:Int)<=a):false=ml s a:=by unfold ml; rw [if_pos h]
variable {id:Int} {l:List Snap}
def acQ {y:Snap} (h:¬ x.id=id) (b:l[k]? = some x) (c:l[k]? = some y):bl id (l.take k)++[y]=bl id (l.take (k+1)):=by
 rw [b] at c; cases c;unfold bl; rw [ai b,List.filter_append]; simp [h]
def aej (b:l[k]? = some x) (h:x.id=id):bl id (l.take k)=bl id (l.take (k+1)):=by
 unfold bl; rw [ai b,List.filter_append]; simp [h]
def aao (h:(l.length:Int)<=k):bl id (l.take k)=bl id l:=by rw [List.take_of_length_le aL]
def aa7 (h:(k:Int)<l.length) (c:l.length*64<=140737488355328):((bl id (l.take k)).length+[x].length)*64<=140737488355328:=by
 have b:=List.length_filter_le (fun x:Snap=>!decide (x.id=id)) (l.take k);rw [List.length_take] at b;unfold bl;simp only [List.length_cons,List.length_nil];omega
def aeG (st:State) (b:Int):List (Nat × LI):=[(5,{ σ:=Nat,F:=fun k=>([(1,one (.int (b))),(2,one (.ptr 0 0)),(5,one (.int (eH st b.toNat k))),(21,one (.fz (.nm .snap) (st.snaps.drop (b+1).toNat))),(22,one (.int (st.snaps.drop (b+1).toNat).length)),(23,one (.int k))],[.box 46 (cellsOf (.nm .state) (st))]),J:=fun k=>b.toNat+1+k<=st.snaps.length/\0<=b,μ:=fun k=>st.snaps.length - k })]
def Pf:Kn:=aN (ae (kT (.nm .state)) (ae (kC cI) aq)) ax fun (st,b,_) _=>⟨[],[.c (.bool (.atom ((ml st b))))],none,false⟩
theorem aaI:CK 347 Pf:=ah fun (st,b,_) _ _=>by
 refine aw Er (aeG st b) Tryz.func347 (?_:(fun j=>(fun i=>(fun m=>(fun n=>(fun p=>(fun o=>(fun r=>(fun q=>(fun h=>(fun u=>(fun c=>(fun d=>eN st (I64 b->(b<j\/q<=b->false=ml st b)/\(m/\b<q->I64 (b+i)/\j<=b+i/\b+i<=q/\∃ t,(b=b/\j=eH st n t/\c=c/\(↑c.length:Int)=d/\j=(↑t:Int)/\de st st)/\(p+t<=h/\m)/\∀ (s:Nat),(fun e=>(fun f=>p+s<=h/\m->((↑s:Int)<d->j<=(↑s:Int)/\(↑s:Int)<(↑c.length:Int)/\∀ (x:Snap),c[s]? = some x->dT x (m/\b<q/\dT r ((x.set=r.set->I64 (e+i)/\I64 f/\∃ g,(b=b/\e+i=eH st n g /\ c=c/\d=d/\f=(↑g:Int)/\de st st)/\(p+g <= h/\m)/\h - g < h - s)/\(¬x.set=r.set->I64 f/\∃ g,(b=b/\e=eH st n g /\ c=c/\d=d/\f=(↑g:Int)/\de st st)/\(p+g <= h/\m)/\h - g < h - s))))/\(d<=(↑s:Int)->decide (e<st.keep)=ml st b)) ((↑s:Int)+i)) (eH st n s)))) (↑(List.drop u o).length:Int)) (List.drop u o)) (b+i).toNat) o.length) (↑o.length:Int)) (o.getD n (ak (Sh.nm NT.snap)))) st.snaps) (n+1)) b.toNat) (j<=b)) (1:Int)) (0:Int));iterate 3 ((all_goals (repeat' with_reducible first|apply bh|refine bg ?_|intro)); (all_goals try (first | exact br | exact ZP | exact (PB ap) | exact (abl aL aL) | exact (Ou aL aL (by rw [List.length_drop] at *; omega)) | exact (Z_ (by rw [show (b+1).toNat=b.toNat+1 by omega] at *; assumption) ab) | exact (by have:=‹_<((List.length (List.drop _ _):Nat):Int)›; rw [List.length_drop] at this; omega) | exact (abd (by rw [show (b+1).toNat=b.toNat+1 by omega] at *; assumption) ab))); all_goals try first | refine ⟨‹Nat› + 1,?_⟩ | refine ⟨0,?_⟩)
def ae5:bM:=(aP 347 Pf afi)
def ox:aB Tryz.prog (al tyT) ae5:=(ag aaI Er)
theorem ZM {l:List α} {d:α} (h:(k:Int)<l.length):l.set k (l.getD k d)=l:=by simp_all
def MB (l:List Snap) (k:Nat):Nat:=((List.range k).filter fun (i:Nat)=>decide (0<Dx ((i:Int)+1) l)).length
def kS (l:List Snap):Nat:=MB l 64
def Zy (st:State):List (Nat × LI):=[(5,{ σ:=Nat,F:=fun k=>([(1,one (.ptr 0 0)),(2,one (.ptr 1 0)),(18,one (.int st.snaps.length)),(19,one (.int k))],[.box 46 ([.int ((st.version)),.int ((st.next)),.int ((st.keep)),.int ((st.quota)),.own 2,.own 3,.own 4]),.box 46 ([.int ((0)),.int ((0)),.int ((0)),.int ((0)),.em true,.em true,.em true]),.row 137 (.nm .sess) ((st.sess)),.row 139 (.nm .opn) ((st.opens)),.row 172 (.nm .snap) ((st.snaps))]),J:=fun k=>k<=st.snaps.length,μ:=fun k=>st.snaps.length - k })]
def Pw:Kn:=aN (ae (kT (.nm .state)) (ae (kC cI) aq)) ax fun (st,v,_) _=>⟨[],[.c (.int ((eG st v)))],none,false⟩
theorem Zp:CK 276 Pw:=ah fun (st,v,_) _ _=>by
 refine aw ox [] Tryz.func276 (?_:(fun c=>(fun i=>(fun s=>(fun h=>(fun g=>(fun f=>(fun j=>(fun e=>(fun d=>(fun m=>(fun n=>(fun o=>(fun p=>(fun t=>(fun u=>(fun w=>(fun y=>(fun q=>(fun r=>eN st (I64 v->(cm v f h=false->f=c)/\(cm v f h=true->(v<h->e<=g/\e<=g/\(r->j)/\((((t\/m=false)\/p)\/o)\/gj st v=false->6=c)/\(r/\gj st v=true->d=c))/\(h<=v->e<=g/\e<=g/\(q->j)/\((((t\/n=false)\/p)\/o)\/gj st v=false->6=c)/\(q/\gj st v=true->d=c))))) (((y/\m=true)/\w)/\u)) (((y/\n=true)/\w)/\u)) ((cm st.version f h=true/\cm st.next f g=true)/\cm st.keep d e=true)) (aD Sess.client e d st.sess=true/\i=true)) (aD Opn.set e d st.opens=true/\s=true)) ((cm st.version f h=false\/cm st.next f g=false)\/cm st.keep d e=false)) (aD Sess.client e d st.sess=false\/i=false)) (aD Opn.set e d st.opens=false\/s=false)) (cm st.quota d 64)) (cm st.quota d d)) (0:Int)) (8:Int)) (f<=st.next/\st.next<=g)) (1:Int)) (1048576:Int)) (3:Int)) (st.opens.all eI)) (st.sess.all ei)) (eG st v));(repeat' with_reducible first|apply bh|refine bg ?_|intro)
 all_goals (first | exact br | exact (JO (a:=1) (b:=1048576) ab).1 | exact (JO (a:=1) (b:=1048576) ab).2 | (simp only [eG,kO,AY,xd]; grind))
def ES:Kn:=aN (ae (kT (.nm .command)) (ae (kC cI) aq)) ax fun (c,v,_) _=>⟨[],[.c (.int ((bL c v)))],none,false⟩
theorem Uv:CK 52 ES:=ah fun (c,v,_) _ _=>by
 refine aw ox [] Tryz.func52 (?_:(fun b=>bC c (I64 v->I64 b->(cD v=false\/b=0->1=bL c v)/\(cD v=true/\¬b=0->(v<b->10=bL c v)/\(b<=v->(mB c=false->1=bL c v)/\(mB c=true->0=bL c v))))) (cz c.kind));rw [show cD v=cm v 1 3 from rfl];(repeat' with_reducible first|apply bh|refine bg ?_|intro)
 all_goals (first | exact br | (simp only [bL]; grind))
def Fb:Kn:=aN (ae (kT (.nm .state)) aq) ax fun (st,_) _=>⟨[],[.agg ([.int ((st.version)),.int ((st.next)),.int ((st.keep)),.int ((st.quota)),.own 0,.own 1,.own 2])],some ([.row 137 (.nm .sess) ((st.sess)),.row 139 (.nm .opn) ((st.opens)),.row 172 (.nm .snap) ((st.snaps))]),true⟩
theorem Vl:CK 61 Fb:=ah fun (st,_) _ _=>by
 refine dw ox (Zy st) Tryz.func61 (?_:(fun (c:List Snap)=>(fun (b:Nat)=>(fun (d:Prop)=>eN st (∃ (g:Nat),((↑c.length:Int)=(↑b:Int)/\0=(↑g:Int)/\st.version=st.version/\st.next=st.next/\st.keep=st.keep/\st.quota=st.quota/\d/\d/\d/\d/\st.sess=st.sess/\st.opens=st.opens/\c=c)/\g<=b/\∀ (s:Nat),(fun (e:den (Sh.nm NT.snap))=>s<=b->((↑s:Int)<(↑b:Int)->0<=(↑s:Int)/\(↑s:Int)<(↑c.length:Int)/\0<=(↑s:Int)/\(↑s:Int)<(↑c.length:Int)/\dT e (e.chunks.length*8<=140737488355328->dT e (I64 ((↑s:Int)+1)/\∃ (f:Nat),((↑b:Int)=(↑b:Int)/\(↑s:Int)+1=(↑f:Int)/\st.version=st.version/\st.next=st.next/\st.keep=st.keep/\st.quota=st.quota/\d/\d/\d/\d/\st.sess=st.sess/\st.opens=st.opens/\c.set s e=c)/\f <= b/\b - f < b - s)))/\((↑b:Int)<=(↑s:Int)->de st st)) (c.getD s (ak (Sh.nm NT.snap))))) ((0:Int)=0)) c.length) st.snaps);iterate 3 ((all_goals (repeat' with_reducible first|apply bh|refine bg ?_|intro)); (all_goals try (first | exact br | exact rfl | exact (ZM aL))); all_goals try first | refine ⟨‹Nat› + 1,?_⟩ | refine ⟨0,?_⟩)
def Gm:Kn:=aN (ae (kT (.nm .snap)) (ae (kT (.nm .snap)) aq)) ax fun (x,y,_) _=>⟨[],[.c (.bool (.atom ((decide (x=y)))))],none,false⟩
theorem SL:CK 119 Gm:=ah fun (x,y,_) _ _=>by
 refine aw ox [] Tryz.func119 (?_:dT x (dT y ((decide (x.chunks=y.chunks) && decide (x.id=y.id) && decide (x.set=y.set) && x.held == y.held && decide (x.tag=y.tag))=decide (x=y))));intros; cases x; cases y; simp only [Snap.mk.injEq]; grind
def We:bM:=(aP 119 Gm (aP 61 Fb (aP 52 ES (aP 276 Pw ae5))))
def nL:aB Tryz.prog (al tyT) We:=(ag SL (ag Vl (ag Uv (ag Zp ox))))
def EL (l:List Snap) (id:Int) (k:Nat):List Int:=((List.range k).filter fun (i:Nat)=>decide (0<Dx ((i:Int)+1) l) && decide (Dx ((i:Int)+1) (bl id l)=0)).map fun (i:Nat)=>(i:Int)+1
def eC (b:List Int) (l:List Int):List Int:=l.foldl (fun b n=>if 1<=n/\n<=64 then b.set n.toNat (b.getD n.toNat 0+1) else b) b
variable {b a:List Snap}
def acD (h:a.take k=b.take k) (e:decide (a.getD k (ak (.nm .snap))=b.getD k (ak (.nm .snap)))=true) (c:(k:Int)<a.length) (d:(k:Int)<b.length):a.take (k+1)=b.take (k+1):=vf h aL aL (acR e)
def adD (e:decide (a.getD k (ak (.nm .snap))=b.getD k (ak (.nm .snap)))=false) (_:(k:Int)<a.length) (_:(k:Int)<b.length):false=decide (a=b):=by
 symm; apply decide_eq_false; rintro rfl; simp at e
theorem YB (h:nch l<=1048576):nch (bl id l)<=1048576:=by
 refine Nat.le_trans ?_ h;unfold nch bl;induction l with
 | nil=>exact Nat.le_refl _
 | cons x l c=>
  have d:(l.flatMap Snap.chunks).length<=1048576:=by unfold nch at h; rw [List.flatMap_cons,List.length_append] at h; omega
  have:=c d;grind
def mS (l:List Snap) (id:Int):List Int:=EL l id 64
def Hn (c l:List Int):Prop:=∀ i,0<=c.getD i 0/\c.getD i 0+l.length<=4611686018427387904
variable {i:Nat} {xs:List Int}
theorem Mg {j:Nat} {v:Int}:(xs.set j v).getD i 0=if j=i/\j<xs.length then v else xs.getD i 0:=by grind
theorem DL:∀ (l xs:List Int) (i:Nat),xs.getD i 0<=(eC xs l).getD i 0/\(eC xs l).getD i 0<=xs.getD i 0+l.length
 | [],xs,i=>by simp [eC]
 | n :: l,xs,i=>by
  have h:=DL l (if 1<=n/\n<=64 then xs.set n.toNat (xs.getD n.toNat 0+1) else xs) i;have e:eC xs (n :: l)=eC (if 1<=n/\n<=64 then xs.set n.toNat (xs.getD n.toNat 0+1) else xs) l:=rfl;have c:xs.getD i 0<=(if 1<=n/\n<=64 then xs.set n.toNat (xs.getD n.toNat 0+1) else xs).getD i 0/\(if 1<=n/\n<=64 then xs.set n.toNat (xs.getD n.toNat 0+1) else xs).getD i 0<=xs.getD i 0+1:=by
   split
   ·rw [Mg]; split
    ·grind
    omega
   omega
  grind
variable {l:List Int} {n:Int}
def AN (c:l[k]? = some n):eC xs (l.take (k+1))=if 1<=n/\n<=64 then (eC xs (l.take k)).set n.toNat ((eC xs (l.take k)).getD n.toNat 0+1) else eC xs (l.take k):=by
 rw [ai c,eC,List.foldl_append]; rfl
def ac0 (c:l[k]? = some n) (h:1<=n/\n<=64):(eC xs (l.take k)).set n.toNat ((eC xs (l.take k)).getD n.toNat (ak .int)+1)=eC xs (l.take (k+1)):=by rw [AN c,if_pos h]; rfl
def aeH (c:l[k]? = some n) (h:¬ (1<=n/\n<=64)):eC xs (l.take k)=eC xs (l.take (k+1)):=by rw [AN c,if_neg h]
def aeV (h:Hn xs l):I64 ((eC xs (l.take k)).getD n.toNat (ak .int)+1):=by
 have c:=DL (l.take k) xs n.toNat;have d:=h n.toNat;rw [List.length_take] at c;show I64 ((eC xs (l.take k)).getD n.toNat 0+1);constructor <;> omega
def Ia (a:List Snap) (b:List Snap):List (Nat × LI):=[(4,{ σ:=Nat,F:=fun k=>([(0,one (.fz (.nm .snap) (a))),(1,one (.fz (.nm .snap) (b))),(5,one (.int k))],[]),J:=fun k=>k<=a.length/\a.length=b.length/\a.take k=b.take k,μ:=fun k=>a.length - k })]
def ahK (l:List Int) (xs:List Int):List (Nat × LI):=[(1,{ σ:=Nat,F:=fun k=>([(0,one (.ptr 0 0)),(6,one (.fz .int (l))),(7,one (.int (l).length)),(8,one (.int k))],[.arr 338 .int 65 ((eC xs (l.take k)))]),J:=fun k=>k<=l.length,μ:=fun k=>(l).length - k })]
def LG:Kn:=aN (ae (kT (.nm .state)) (ae (kT (.nm .command)) aq)) ax fun (st,c,_) _=>⟨[],[.c (.int ((if eG st st.version=0 then bL c st.version else 1)))],none,false⟩
theorem abr:CK 260 LG:=ah fun (st,c,_) _ _=>by
 refine aw nL [] Tryz.func260 (?_:(fun e=>(fun d=>(fun f=>eN st (bC c (I64 d->(¬d=0->1=f)/\(d=0->I64 e->e=f)))) (if d=0 then e else 1)) (eG st st.version)) (bL c st.version));grind
def tj:Kn:=aN (ae (kC (cL (.nm .snap))) (ae (kC (cL (.nm .snap))) aq)) ax fun (a,b,_) _=>⟨[],[.c (.bool (.atom ((decide (a=b)))))],none,false⟩
theorem Dl:CK 70 tj:=ah fun (a,b,_) _ _=>by
 refine aw nL (Ia a b) Tryz.func70 (?_:(fun (c:Nat)=>(fun (f:den (Sh.nm NT.snap))=>(fun (d:Int)=>a.length*64<=140737488355328->b.length*64<=140737488355328->(¬d=(↑b.length:Int)->false=decide (a=b))/\(d=(↑b.length:Int)->∃ (g:Nat),(a=a/\b=b/\0=(↑g:Int))/\(g<=c/\c=b.length/\List.take g a=List.take g b)/\∀ (s:Nat),(fun (h:Bool)=>s<=c/\c=b.length/\List.take s a=List.take s b->((↑s:Int)<d->0<=(↑s:Int)/\(↑s:Int)<d/\0<=(↑s:Int)/\(↑s:Int)<(↑b.length:Int)/\dT (a.getD s f) (dT (b.getD s f) ((h=false->false=decide (a=b))/\(h=true->I64 ((↑s:Int)+1)/\∃ (e:Nat),(a=a/\b=b/\(↑s:Int)+1=(↑e:Int))/\(e <= c/\c=b.length/\List.take e a=List.take e b)/\c - e < c - s))))/\(d<=(↑s:Int)->true=decide (a=b))) (decide (a.getD s f=b.getD s f)))) (↑a.length:Int)) (ak (Sh.nm NT.snap))) a.length);iterate 3 ((all_goals (repeat' with_reducible first|apply bh|refine bg ?_|intro)); (all_goals try (first | exact br | exact rfl | exact (ZF ab) | exact (acD ab ab ab aL) | exact (adD ab aL aL) | exact (Ms aL ab aL))); all_goals try first | refine ⟨‹Nat› + 1,?_⟩ | refine ⟨0,?_⟩)
def Xb:Kn:=aN (ae (kC (aY 0 0)) (ae (kC (cL .int)) aq)) (aE (CP 338 .int 65) ax) fun (_,l,_) (xs,_)=>⟨[Hn xs l],[],some ([.arr 338 .int 65 ((eC xs l))]),false⟩
theorem acg:CK 360 Xb:=ah fun (_,l,_) (xs,_) o=>by
 have p:=cd o;refine bt nL (ahK l xs) Tryz.func360 (?_:(fun (f:Int)=>(fun (c:Nat)=>(fun (e:Int)=>l.length*(8:Nat)<=(140737488355328:Nat)->∃ (j:Nat),(l=l/\(↑l.length:Int)=e/\(0:Int)=(↑j:Int)/\xs=eC xs (List.take j l))/\j<=c/\∀ (s:Nat),(fun (g:Int)=>(fun (h:List Int)=>s<=c->((↑s:Int)<e->(0:Int)<=(↑s:Int)/\(↑s:Int)<(↑l.length:Int)/\∀ (x:Int),(fun (m:den Sh.int)=>l[s]? = some x->I64 x->(f<=x/\x<=(64:Int)->(0:Int)<=x/\x<(↑(65:Nat):Int)/\x.toNat<(65:Nat)/\I64 (m+f)/\(0:Int)<=x/\x<(↑(65:Nat):Int)/\(I64 m->x.toNat<(65:Nat)/\I64 g/\∃ (d:Nat),(l=l/\e=e/\g=(↑d:Int)/\h.set x.toNat (m+f)=eC xs (List.take d l))/\d <= c/\c - d < c - s))/\(x<f\/(64:Int)<x->I64 g/\∃ (d:Nat),(l=l/\e=e/\g=(↑d:Int)/\h=eC xs (List.take d l))/\d <= c/\c - d < c - s)) (h.getD x.toNat (ak Sh.int)))/\(e<=(↑s:Int)->h=eC xs l)) (eC xs (List.take s l))) ((↑s:Int)+f)) (↑c:Int)) l.length) (1:Int));iterate 3 ((all_goals (repeat' with_reducible first|apply bh|refine bg ?_|intro)); (all_goals try (first | exact br | exact rfl | exact (ac0 ab (by constructor <;> omega)) | exact (aeH ab aL) | exact (by rw [List.take_of_length_le aL]) | exact (aeV ab))); all_goals try first | refine ⟨‹Nat› + 1,?_⟩ | refine ⟨0,?_⟩)
def WD:bM:=(aP 360 Xb (aP 70 tj (aP 260 LG We)))
def Ll:aB Tryz.prog (al tyT) WD:=(ag acg (ag Dl (ag abr nL)))
section
variable {B:Bool} {k:Nat}
variable {st:State} {v:Int}
end
def WQ:bM:=WD
def yK:aB Tryz.prog (al tyT) WQ:=Ll
variable {b a:State}
def ajk (h:((((¬ a.version=b.version\/¬ a.next=b.next)\/¬ a.keep=b.keep)\/¬ a.quota=b.quota)\/¬ ((a.sess.length:Nat):Int)=(b.sess.length:Nat))\/¬ ((a.opens.length:Nat):Int)=(b.opens.length:Nat)):false=decide (a=b):=by
 symm; apply decide_eq_false; rintro rfl; simp at h
def ahM {s:Nat} (h:¬ (a.sess.getD s (ak (.nm .sess))).client=(b.sess.getD s (ak (.nm .sess))).client\/¬ (a.sess.getD s (ak (.nm .sess))).seq=(b.sess.getD s (ak (.nm .sess))).seq\/¬ (a.sess.getD s (ak (.nm .sess))).last.code=(b.sess.getD s (ak (.nm .sess))).last.code\/¬ (a.sess.getD s (ak (.nm .sess))).last.n=(b.sess.getD s (ak (.nm .sess))).last.n):false=decide (a=b):=by
 symm; apply decide_eq_false; rintro rfl; simp at h
def aje {s:Nat} (h:¬ (a.opens.getD s (ak (.nm .opn))).set=(b.opens.getD s (ak (.nm .opn))).set\/¬ (a.opens.getD s (ak (.nm .opn))).client=(b.opens.getD s (ak (.nm .opn))).client):false=decide (a=b):=by
 symm; apply decide_eq_false; rintro rfl; simp at h
theorem SU {x y:Sess} (e:x.client=y.client) (f:x.seq=y.seq) (g:x.last.code=y.last.code) (h:x.last.n=y.last.n):x=y:=by
 obtain ⟨a,b,⟨c,d⟩⟩:=x; obtain ⟨j,m,⟨o,p⟩⟩:=y; simp_all
theorem abJ {x y:Opn} (c:x.set=y.set) (d:x.client=y.client):x=y:=by cases x; cases y; simp_all
def adG {a b:List Sess} {s:Nat} (h:a.take s=b.take s) (c:(a.getD s (ak (.nm .sess))).client=(b.getD s (ak (.nm .sess))).client) (d:(a.getD s (ak (.nm .sess))).seq=(b.getD s (ak (.nm .sess))).seq) (e:(a.getD s (ak (.nm .sess))).last.code=(b.getD s (ak (.nm .sess))).last.code) (f:(a.getD s (ak (.nm .sess))).last.n=(b.getD s (ak (.nm .sess))).last.n) (g:s<a.length) (j:s<b.length):a.take (s+1)=b.take (s+1):=vf h g j (SU c d e f)
def adC {a b:List Opn} {s:Nat} (h:a.take s=b.take s) (c:(a.getD s (ak (.nm .opn))).set=(b.getD s (ak (.nm .opn))).set) (d:(a.getD s (ak (.nm .opn))).client=(b.getD s (ak (.nm .opn))).client) (e:s<a.length) (f:s<b.length):a.take (s+1)=b.take (s+1):=vf h e f (abJ c d)
theorem agX {s q:Nat} (j:a.version=b.version) (m:a.next=b.next) (o:a.keep=b.keep) (p:a.quota=b.quota) (c:a.sess.take s=b.sess.take s) (d:a.opens.take q=b.opens.take q) (e:a.sess.length<=s) (f:b.sess.length<=s) (g:a.opens.length<=q) (h:b.opens.length<=q):decide (a.snaps=b.snaps)=decide (a=b):=by
 rw [List.take_of_length_le e,List.take_of_length_le f] at c;rw [List.take_of_length_le g,List.take_of_length_le h] at d;cases a; cases b; simp_all
def ZU (a:State) (b:State):List (Nat × LI):=[(4,{ σ:=Nat,F:=fun k=>([(2,one (.ptr 0 0)),(3,one (.ptr 1 0)),(5,one (.int k))],[.box 46 (cellsOf (.nm .state) (a)),.box 46 (cellsOf (.nm .state) (b))]),J:=fun k=>k<=a.sess.length/\a.sess.take k=b.sess.take k,μ:=fun k=>a.sess.length - k }),(9,{ σ:=Nat,F:=fun k=>([(2,one (.ptr 0 0)),(3,one (.ptr 1 0)),(6,one (.int k))],[.box 46 (cellsOf (.nm .state) (a)),.box 46 (cellsOf (.nm .state) (b))]),J:=fun k=>k<=a.opens.length/\a.opens.take k=b.opens.take k,μ:=fun k=>a.opens.length - k })]
def Hl:Kn:=aN (ae (kT (.nm .state)) (ae (kT (.nm .state)) aq)) ax fun (a,b,_) _=>⟨[],[.c (.bool (.atom ((decide (a=b)))))],none,false⟩
theorem TP:CK 28 Hl:=ah fun (a,b,_) _ _=>by
 refine aw yK (ZU a b) Tryz.func28 (?_:(fun (r:Int)=>(fun (p:List Sess)=>(fun (v:Prop)=>(fun (q:List Opn)=>(fun (u:Prop)=>(fun (j:List Sess)=>(fun (t:Int)=>(fun (m:List Opn)=>(fun (g:Int)=>(fun (y:den (Sh.nm NT.opn))=>(fun (z:den (Sh.nm NT.sess))=>eN a (eN b ((((((¬a.version=b.version\/¬a.next=b.next)\/¬a.keep=b.keep)\/¬a.quota=b.quota)\/¬t=(↑p.length:Int))\/¬g=(↑q.length:Int)->v)/\(((((a.version=b.version/\a.next=b.next)/\a.keep=b.keep)/\a.quota=b.quota)/\t=(↑p.length:Int))/\g=(↑q.length:Int)->∃ (o:Nat),(r=(↑o:Int)/\u)/\(o<=j.length/\List.take o j=List.take o p)/\∀ (s:Nat),(fun (c:den (Sh.nm NT.sess))=>(fun (d:den (Sh.nm NT.sess))=>s<=j.length/\List.take s j=List.take s p->((↑s:Int)<t->r<=(↑s:Int)/\(↑s:Int)<t/\r<=(↑s:Int)/\(↑s:Int)<(↑p.length:Int)/\iG c (iG d ((¬c.client=d.client\/¬c.seq=d.seq\/¬c.last.code=d.last.code\/¬c.last.n=d.last.n->v)/\(aab c d->I64 ((↑s:Int)+1)/\∃ (h:Nat),((↑s:Int)+1=(↑h:Int)/\u)/\(h <= j.length/\List.take h j=List.take h p)/\j.length - h < j.length - s))))/\(t<=(↑s:Int)->∃ (o:Nat),(r=(↑o:Int)/\u)/\(o<=m.length/\List.take o m=List.take o q)/\∀ (s:Nat),(fun (e:den (Sh.nm NT.opn))=>(fun (f:den (Sh.nm NT.opn))=>s<=m.length/\List.take s m=List.take s q->((↑s:Int)<g->r<=(↑s:Int)/\(↑s:Int)<g/\r<=(↑s:Int)/\(↑s:Int)<(↑q.length:Int)/\(I64 e.set->I64 e.client->I64 f.set->I64 f.client->(¬e.set=f.set\/¬e.client=f.client->v)/\(e.set=f.set/\e.client=f.client->I64 ((↑s:Int)+1)/\∃ (h:Nat),((↑s:Int)+1=(↑h:Int)/\u)/\(h <= m.length/\List.take h m=List.take h q)/\m.length - h < m.length - s)))/\(g<=(↑s:Int)->decide (a.snaps=b.snaps)=decide (a=b))) (q.getD s y)) (m.getD s y))) (p.getD s z)) (j.getD s z))))) (ak (Sh.nm NT.sess))) (ak (Sh.nm NT.opn))) (↑m.length:Int)) a.opens) (↑j.length:Int)) a.sess) (bE a a (de b b))) b.opens) (false=decide (a=b))) b.sess) 0);(repeat' with_reducible first|apply bh|refine bg ?_|intro)
 all_goals try (refine ⟨0,?_⟩; (repeat' with_reducible first|apply bh|refine bg ?_|intro))
 all_goals try (have w:(‹Nat›:Int)<(a.sess.length:Int):=aL; clear w; refine ⟨‹Nat› + 1,?_⟩; (repeat' with_reducible first|apply bh|refine bg ?_|intro))
 all_goals try (have w:((a.sess.length:Nat):Int)<=(‹Nat›:Int):=aL; clear w; refine ⟨0,?_⟩; (repeat' with_reducible first|apply bh|refine bg ?_|intro))
 all_goals try (refine ⟨‹Nat› + 1,?_⟩; (repeat' with_reducible first|apply bh|refine bg ?_|intro))
 all_goals (first | exact br | exact rfl | exact (ajk ap) | exact (ahM ap) | exact (aje ap) | exact (adG ab ab ab ab ab aL aL) | exact (adC ab ab ab aL aL) | exact (agX ab ab ab ab ab ab aL aL aL aL))
def XV:bM:=(aP 28 Hl WQ)
def lj:aB Tryz.prog (al tyT) XV:=(ag TP yK)
def fP (xs:List Int) (c:Int):Bool:=decide (0<xs.getD c.toNat (ak .int))
def fQ (xs d:List Int) (c:Int):Bool:=decide (0<xs.getD c.toNat (ak .int)) && decide (d.getD c.toNat (ak .int)=0)
def kQ (p:Int->Bool) (k:Nat):List Int:=((List.range k).map fun (i:Nat)=>(i:Int)+1).filter p
def acw {p:Int->Bool} (h:p ((k:Int)+1)=true):kQ p k++[(k:Int)+1]=kQ p (k+1):=by
 unfold kQ; rw [List.range_succ,List.map_append,List.filter_append]; simp [h]
def ac9 {p:Int->Bool} (h:p ((k:Int)+1)=false):kQ p k=kQ p (k+1):=by
 unfold kQ; rw [List.range_succ,List.map_append,List.filter_append]; simp [h]
def aes {p:Int->Bool} (h:k<=64) (c:64<(k:Int)+1):kQ p k=kQ p 64:=by rw [show k=64 by omega]
def OG {p:Int->Bool} (h:k<=64):((kQ p k).length+[n].length)*8<=140737488355328:=by
 have:=List.length_filter_le p ((List.range k).map fun (i:Nat)=>(i:Int)+1);rw [List.length_map,aj8] at this;unfold kQ; simp only [List.length_cons,List.length_nil]; omega
def cj (l:List Snap):List Int:=l.foldl (fun t x=>eC t x.chunks) (List.replicate 65 0)
theorem sA:∀ (l xs:List Int),(eC xs l).length=xs.length
 | [],_=>rfl
 | n :: l,xs=>by
  show (eC (if 1<=n/\n<=64 then xs.set n.toNat (xs.getD n.toNat 0+1) else xs) l).length=_;rw [sA l]; split
  ·grind
  rfl
variable {l:List Snap}
def kI:cj (l++[x])=eC (cj l) x.chunks:=by unfold cj; rw [List.foldl_append]; rfl
def Yo (c:l[k]? = some x):eC (cj (l.take k)) x.chunks=cj (l.take (k+1)):=by rw [ai c,kI]
theorem xY {p:List Snap->Prop} (c:p []) (d:∀ l x,p l->p (l++[x])) (l:List Snap):p l:=by
 have:∀ r:List Snap,p r.reverse:=fun r=>by
  induction r with
  | nil=>exact c
  | cons x r e=>rw [List.reverse_cons]; exact d _ _ e
 have h:=this l.reverse;grind
def jL (l:List Snap):(cj l).length=65:=by
 refine xY (p:=fun l=>(cj l).length=65) rfl (fun l x h=>?_) l;rw [kI,sA,h]
def Ag:nch (l++[x])=nch l+x.chunks.length:=by unfold nch; simp
theorem KP (l:List Snap) (i:Nat):0<=(cj l).getD i 0/\(cj l).getD i 0<=nch l:=by
 refine xY (p:=fun l=>0<=(cj l).getD i 0/\(cj l).getD i 0<=nch l) ?_ (fun l x h=>?_) l
 ·show 0<=(List.replicate 65 (0:Int)).getD i 0/\(List.replicate 65 (0:Int)).getD i 0<=_;grind
 have:=DL x.chunks (cj l) i;rw [kI,Ag]; omega
def GM (c:l[k]? = some x) (h:nch l<=1048576):Hn (cj (l.take k)) x.chunks:=fun i=>by
 have e:=KP (l.take k) i;have d:nch (l.take (k+1))<=nch l:=by
  unfold nch; rw [<- List.take_append_drop (k+1) l,List.flatMap_append,List.length_append,List.take_append_drop]; omega
 rw [ai c,Ag] at d;omega
def Gj {m:List Int} {s:Sh} (h:nch l<=1048576) (c:m.length*8<=140737488355328):Hn (Cv .int (cj l) 0 65) m:=fun i=>by
 rw [jG (jL l)];have d:=KP l i;omega
theorem El:∀ (l xs:List Int) (c:Int),1<=c->c<=64->xs.length=65->(eC xs l).getD c.toNat 0=xs.getD c.toNat 0+(l.count c:Nat)
 | [],_,_,_,_,_=>by simp [eC]
 | n :: l,xs,c,e,f,d=>by
  show (eC (if 1<=n/\n<=64 then xs.set n.toNat (xs.getD n.toNat 0+1) else xs) l).getD c.toNat 0=_;rw [El l _ c e f (by split; rw [afx,d]; exact d),List.count_cons];split
  ·grind
  grind
def CT (l:List Snap) (c:Int) (d:1<=c) (e:c<=64):(cj l).getD c.toNat 0=(Dx c l:Nat):=by
 refine xY (p:=fun l=>(cj l).getD c.toNat 0=(Dx c l:Nat)) ?_ (fun l x h=>?_) l
 ·show (List.replicate 65 (0:Int)).getD c.toNat 0=_;rw [List.getD_eq_getElem?_getD,List.getElem?_replicate]; split <;> simp [Dx]
 rw [kI,El _ _ _ d e (jL l),h];unfold Dx; simp
theorem Gr (l:List Snap):((kQ (fP (cj l)) 64).length:Int)=(kS l:Int):=by
 unfold kQ kS MB;rw [List.filter_map,List.length_map];congr 2;apply List.filter_congr;intro i c;rw [List.mem_range] at c;have:=CT l ((i:Int)+1) aL aL;simp only [Function.comp,fP];rw [show (ak .int)=(0:Int) from rfl,this];grind
theorem No (l m:List Snap) (id:Int) (e:m=bl id l):kQ (fQ (cj l) (cj m)) 64=mS l id:=by
 subst e;unfold kQ mS EL;rw [List.filter_map];congr 1;apply List.filter_congr;intro i c;rw [List.mem_range] at c;have d:=CT l ((i:Int)+1) aL aL;have f:=CT (bl id l) ((i:Int)+1) aL aL;simp only [Function.comp,fQ];rw [show (ak .int)=(0:Int) from rfl,d,f];grind
def ab4 (l:List Snap):List (Nat × LI):=[(3,{ σ:=Nat,F:=fun k=>([(2,one (.ptr 0 0)),(3,one (.ptr 1 0)),(6,one (.fz (.nm .snap) (l))),(7,one (.int (l).length)),(8,one (.int k))],[.arr 338 .int 65 ((List.replicate 65 0)),.arr 338 .int 65 ((cj (l.take k)))]),J:=fun k=>k<=l.length,μ:=fun k=>l.length - k })]
def LU (l:List Snap) (id:Int):List (Nat × LI):=[(3,{ σ:=Nat,F:=fun k=>([(1,one (.int (id))),(5,one (.own 0)),(8,one (.fz (.nm .snap) (l))),(9,one (.int (l).length)),(10,one (.int k))],[.row 172 (.nm .snap) ((bl id (l.take k)))]),J:=fun k=>k<=l.length,μ:=fun k=>l.length - k })]
def Fx:Kn:=aN (ae (kC cI) (ae (kC (aY 0 0)) aq)) (aE (CP 338 .int 65) ax) fun (n,_,_) (xs,_)=>⟨[0<=n/\n<65],[.c (.bool (.atom ((fP xs n))))],none,false⟩
theorem Sw:CK 362 Fx:=ah fun (n,_,_) (xs,_) c=>by
 have d:=cd c;refine aw lj [] Tryz.func362 (?_:I64 n->(0:Int)<=n/\n<(↑(65:Nat):Int)/\n.toNat<(65:Nat)/\(I64 (xs.getD n.toNat (ak Sh.int))->decide ((0:Int)<xs.getD n.toNat (ak Sh.int))=fP xs n));(repeat' with_reducible first|apply bh|refine bg ?_|intro) <;> first | (first | with_reducible rfl | with_reducible assumption | omega | (refine bZ ?_ ?_ <;> omega)) | rfl
def zq:Kn:=aN (ae (kC cI) (ae (kC (aY 0 0)) (ae (kC (aY 1 0)) aq))) (aE (CP 338 .int 65) (aE (CP 338 .int 65) ax)) fun (n,_,_,_) (xs,d,_)=>⟨[0<=n/\n<65],[.c (.bool (.atom ((fQ xs d n))))],none,false⟩
theorem JY:CK 363 zq:=ah fun (n,_,_,_) (xs,e,_) f=>by
 have g:=cd f;refine aw lj [] Tryz.func363 (?_:(fun c=>(fun d=>I64 n->c<=n/\n<(↑(65:Nat):Int)/\n.toNat<(65:Nat)/\(I64 d->(c<d->c<=n/\n<(↑(65:Nat):Int)/\n.toNat<(65:Nat))/\((c<d->I64 (e.getD n.toNat (ak Sh.int)))->(decide (c<d) && decide (e.getD n.toNat (ak Sh.int)=c))=fQ xs e n))) (xs.getD n.toNat (ak Sh.int))) (0:Int));(repeat' with_reducible first|apply bh|refine bg ?_|intro) <;> first | (first | with_reducible rfl | with_reducible assumption | omega | (refine bZ ?_ ?_ <;> omega)) | rfl
def Ep:Kn:=aN (ae (kC (cL (.nm .snap))) aq) ax fun (l,_) _=>⟨[nch l<=1048576],[.agg (xP .int ((cj l)) 0 65)],none,false⟩
theorem Ur:CK 346 Ep:=ah fun (l,_) _ r=>by
 have t:=cd r;refine aw lj (ab4 l) Tryz.func346 (?_:(fun (g:Nat)=>(fun (e:List Int)=>(fun (o:Nat)=>(fun (h:Nat)=>(fun (d:Int)=>(fun (c:den Sh.int)=>(fun (q:List (den Sh.int))=>l.length*64<=140737488355328->∃ (p:Nat),(l=l/\(↑l.length:Int)=(↑g:Int)/\d=(↑p:Int)/\q=List.replicate h (0:den Sh.int)/\q=cj (List.take p l))/\p<=g/\∀ (s:Nat),(fun (j:List Int)=>(fun (f:List (den Sh.int))=>s<=g->((↑s:Int)<(↑g:Int)->d<=(↑s:Int)/\(↑s:Int)<(↑l.length:Int)/\∀ (x:Snap),l[s]? = some x->dT x ((∀ (i:Nat),d<=j.getD i d/\j.getD i d+(↑x.chunks.length:Int)<=4611686018427387904)/\I64 ((↑s:Int)+1)/\∃ (m:Nat),(l=l/\(↑g:Int)=(↑g:Int)/\(↑s:Int)+1=(↑m:Int)/\List.replicate h (0:den Sh.int)=List.replicate h (0:den Sh.int)/\eC j x.chunks=cj (List.take m l))/\m <= g/\g - m < g - s))/\((↑g:Int)<=(↑s:Int)->f.getD o c=e.getD o c/\f.getD 1 c=e.getD 1 c/\f.getD 2 c=e.getD 2 c/\f.getD 3 c=e.getD 3 c/\f.getD 4 c=e.getD 4 c/\f.getD 5 c=e.getD 5 c/\f.getD 6 c=e.getD 6 c/\f.getD 7 c=e.getD 7 c/\f.getD 8 c=e.getD 8 c/\f.getD 9 c=e.getD 9 c/\f.getD 10 c=e.getD 10 c/\f.getD 11 c=e.getD 11 c/\f.getD 12 c=e.getD 12 c/\f.getD 13 c=e.getD 13 c/\f.getD 14 c=e.getD 14 c/\f.getD 15 c=e.getD 15 c/\f.getD 16 c=e.getD 16 c/\f.getD 17 c=e.getD 17 c/\f.getD 18 c=e.getD 18 c/\f.getD 19 c=e.getD 19 c/\f.getD 20 c=e.getD 20 c/\f.getD 21 c=e.getD 21 c/\f.getD 22 c=e.getD 22 c/\f.getD 23 c=e.getD 23 c/\f.getD 24 c=e.getD 24 c/\f.getD 25 c=e.getD 25 c/\f.getD 26 c=e.getD 26 c/\f.getD 27 c=e.getD 27 c/\f.getD 28 c=e.getD 28 c/\f.getD 29 c=e.getD 29 c/\f.getD 30 c=e.getD 30 c/\f.getD 31 c=e.getD 31 c/\f.getD 32 c=e.getD 32 c/\f.getD 33 c=e.getD 33 c/\f.getD 34 c=e.getD 34 c/\f.getD 35 c=e.getD 35 c/\f.getD 36 c=e.getD 36 c/\f.getD 37 c=e.getD 37 c/\f.getD 38 c=e.getD 38 c/\f.getD 39 c=e.getD 39 c/\f.getD 40 c=e.getD 40 c/\f.getD 41 c=e.getD 41 c/\f.getD 42 c=e.getD 42 c/\f.getD 43 c=e.getD 43 c/\f.getD 44 c=e.getD 44 c/\f.getD 45 c=e.getD 45 c/\f.getD 46 c=e.getD 46 c/\f.getD 47 c=e.getD 47 c/\f.getD 48 c=e.getD 48 c/\f.getD 49 c=e.getD 49 c/\f.getD 50 c=e.getD 50 c/\f.getD 51 c=e.getD 51 c/\f.getD 52 c=e.getD 52 c/\f.getD 53 c=e.getD 53 c/\f.getD 54 c=e.getD 54 c/\f.getD 55 c=e.getD 55 c/\f.getD 56 c=e.getD 56 c/\f.getD 57 c=e.getD 57 c/\f.getD 58 c=e.getD 58 c/\f.getD 59 c=e.getD 59 c/\f.getD 60 c=e.getD 60 c/\f.getD 61 c=e.getD 61 c/\f.getD 62 c=e.getD 62 c/\f.getD 63 c=e.getD 63 c/\f.getD 64 c=e.getD 64 c)) (Cv Sh.int j o h)) (cj (List.take s l))) [d,d,d,d,d,d,d,d,d,d,d,d,d,d,d,d,d,d,d,d,d,d,d,d,d,d,d,d,d,d,d,d,d,d,d,d,d,d,d,d,d,d,d,d,d,d,d,d,d,d,d,d,d,d,d,d,d,d,d,d,d,d,d,d,d]) (ak Sh.int)) 0) 65) 0) (cj l)) l.length);iterate 3 ((all_goals (repeat' with_reducible first|apply bh|refine bg ?_|intro)); (all_goals try (first | exact br | exact rfl | exact (Yo ab) | exact (GM ab ab _).1 | exact (GM ab ab _).2 | exact (by rw [jG (jL _),List.take_of_length_le aL]))); all_goals try first | refine ⟨‹Nat› + 1,?_⟩ | refine ⟨0,?_⟩)
def vG:Kn:=aN (ae (kC (cL (.nm .snap))) (ae (kC cI) aq)) ax fun (l,id,_) _=>⟨[],[.c (.own 0)],some ([.row 172 (.nm .snap) ((bl id l))]),true⟩
theorem IE:CK 349 vG:=ah fun (l,id,_) _ _=>by
 refine dw lj (LU l id) Tryz.func349 (?_:(fun (c:Nat)=>(fun (e:Int)=>l.length*64<=140737488355328->I64 id->∃ (h:Nat),(id=id/\l=l/\(↑l.length:Int)=e/\0=(↑h:Int)/\bl id (List.take h l)=[])/\h<=c/\∀ (s:Nat),(fun (f:List Snap)=>(fun (g:Int)=>s<=c->((↑s:Int)<e->0<=(↑s:Int)/\(↑s:Int)<(↑l.length:Int)/\∀ (x:Snap),l[s]? = some x->dT x ((¬x.id=id->x.chunks.length*8<=140737488355328->(f.length+[x].length)*64<=140737488355328/\I64 g/\∃ (d:Nat),(id=id/\l=l/\e=e/\g=(↑d:Int)/\f++[x]=bl id (List.take d l))/\d <= c/\c - d < c - s)/\(x.id=id->I64 g/\∃ (d:Nat),(id=id/\l=l/\e=e/\g=(↑d:Int)/\f=bl id (List.take d l))/\d <= c/\c - d < c - s)))/\(e<=(↑s:Int)->f=bl id l)) ((↑s:Int)+1)) (bl id (List.take s l))) (↑c:Int)) l.length);iterate 3 ((all_goals (repeat' with_reducible first|apply bh|refine bg ?_|intro)); (all_goals try (first | exact br | exact rfl | exact (acQ ab ab ab) | exact (aej ab ab) | exact (aao aL) | exact (aa7 aL aL))); all_goals try first | refine ⟨‹Nat› + 1,?_⟩ | refine ⟨0,?_⟩)
def XP:bM:=(aP 349 vG (aP 346 Ep (aP 363 zq (aP 362 Fx XV))))
def t_:aB Tryz.prog (al tyT) XP:=(ag IE (ag Ur (ag JY (ag Sw lj))))
def LY (xs:List Int):List (Nat × LI):=[(3,{ σ:=Nat,F:=fun k=>([(0,one (.fn 362 [] [(0,0)])),(3,one (.own 1)),(4,one (.int (k+1)))],[.arr 338 .int 65 ((xs)),.row 3 .int ((kQ (fP xs) k))]),J:=fun k=>k<=64,μ:=fun k=>64 - k })]
def QF (xs:List Int) (c:List Int):List (Nat × LI):=[(3,{ σ:=Nat,F:=fun k=>([(0,one (.fn 363 [] [(0,0),(1,0)])),(3,one (.own 2)),(4,one (.int (k+1)))],[.arr 338 .int 65 ((xs)),.arr 338 .int 65 ((c)),.row 3 .int ((kQ (fQ xs c) k))]),J:=fun k=>k<=64,μ:=fun k=>64 - k })]
def vy:Kn:=aN (ae (kC (qK 362 [] [(0,0)])) aq) (aE (CP 338 .int 65) ax) fun _ (xs,_)=>⟨[],[.c (.fz .int ((kQ (fP xs) 64)))],none,false⟩
theorem IY:CK 361 vy:=ah fun _ (xs,_) _=>by
 refine aw t_ (LY xs) Tryz.func361 (?_:(fun (d:Nat)=>(fun (e:Int)=>∃ (h:Nat),(e=(↑h:Int)+e/\xs=xs/\kQ (fP xs) h=[])/\h<=d/\∀ (s:Nat),(fun (g:List Int)=>(fun (c:Int)=>s<=d->(c<=64->(0<=c/\c<65)/\(fP xs c=true->(g.length+[c].length)*8<=140737488355328/\I64 (c+e)/\∃ (f:Nat),(c+e=(↑f:Int)+e/\xs=xs/\g++[c]=kQ (fP xs) f)/\f <= d/\d - f < d - s)/\(fP xs c=false->I64 (c+e)/\∃ (f:Nat),(c+e=(↑f:Int)+e/\xs=xs/\g=kQ (fP xs) f)/\f <= d/\d - f < d - s))/\(64<c->g=kQ (fP xs) d)) ((↑s:Int)+e)) (kQ (fP xs) s)) 1) 64);iterate 3 ((all_goals (repeat' with_reducible first|apply bh|refine bg ?_|intro)); (all_goals try (first | exact br | exact rfl | exact (acw ab) | exact (ac9 ab) | exact (aes aL aL) | exact (OG aL) | exact (And.intro aL aL))); all_goals try first | refine ⟨‹Nat› + 1,?_⟩ | refine ⟨0,?_⟩)
def wI:Kn:=aN (ae (kC (qK 363 [] [(0,0),(1,0)])) aq) (aE (CP 338 .int 65) (aE (CP 338 .int 65) ax)) fun _ (xs,d,_)=>⟨[],[.c (.fz .int ((kQ (fQ xs d) 64)))],none,false⟩
theorem Ju:CK 361 wI:=ah fun _ (xs,c,_) _=>by
 refine aw t_ (QF xs c) Tryz.func361 (?_:(fun (e:Nat)=>(fun (f:Int)=>∃ (j:Nat),(f=(↑j:Int)+f/\xs=xs/\c=c/\kQ (fQ xs c) j=[])/\j<=e/\∀ (s:Nat),(fun (h:List Int)=>(fun (d:Int)=>s<=e->(d<=64->(0<=d/\d<65)/\(fQ xs c d=true->(h.length+[d].length)*8<=140737488355328/\I64 (d+f)/\∃ (g:Nat),(d+f=(↑g:Int)+f/\xs=xs/\c=c/\h++[d]=kQ (fQ xs c) g)/\g <= e/\e - g < e - s)/\(fQ xs c d=false->I64 (d+f)/\∃ (g:Nat),(d+f=(↑g:Int)+f/\xs=xs/\c=c/\h=kQ (fQ xs c) g)/\g <= e/\e - g < e - s))/\(64<d->h=kQ (fQ xs c) e)) ((↑s:Int)+f)) (kQ (fQ xs c) s)) 1) 64);iterate 3 ((all_goals (repeat' with_reducible first|apply bh|refine bg ?_|intro)); (all_goals try (first | exact br | exact rfl | exact (acw ab) | exact (ac9 ab) | exact (aes aL aL) | exact (OG aL) | exact (And.intro aL aL))); all_goals try first | refine ⟨‹Nat› + 1,?_⟩ | refine ⟨0,?_⟩)
def W_:bM:=(aP 361 wI (aP 361 vy XP))
def sq:aB Tryz.prog (al tyT) W_:=(ag Ju (ag IY t_))
def MN:Kn:=aN (ae (kA .int 65) aq) ax fun (xs,_) _=>⟨[xs.length=65],[.c (.fz .int ((kQ (fP xs) 64)))],none,false⟩
theorem Zo:CK 345 MN:=ah fun (xs,_) _ f=>by
 have d:=cd f;refine aw sq [] Tryz.func345 (?_:(fun e=>(fun c=>I64 (xs.getD 0 c)->I64 (xs.getD 1 c)->I64 (xs.getD 2 c)->I64 (xs.getD 3 c)->I64 (xs.getD 4 c)->I64 (xs.getD 5 c)->I64 (xs.getD 6 c)->I64 (xs.getD 7 c)->I64 (xs.getD 8 c)->I64 (xs.getD 9 c)->I64 (xs.getD 10 c)->I64 (xs.getD 11 c)->I64 (xs.getD 12 c)->I64 (xs.getD 13 c)->I64 (xs.getD 14 c)->I64 (xs.getD 15 c)->I64 (xs.getD 16 c)->I64 (xs.getD 17 c)->I64 (xs.getD 18 c)->I64 (xs.getD 19 c)->I64 (xs.getD 20 c)->I64 (xs.getD 21 c)->I64 (xs.getD 22 c)->I64 (xs.getD 23 c)->I64 (xs.getD 24 c)->I64 (xs.getD 25 c)->I64 (xs.getD 26 c)->I64 (xs.getD 27 c)->I64 (xs.getD 28 c)->I64 (xs.getD 29 c)->I64 (xs.getD 30 c)->I64 (xs.getD 31 c)->I64 (xs.getD 32 c)->I64 (xs.getD 33 c)->I64 (xs.getD 34 c)->I64 (xs.getD 35 c)->I64 (xs.getD 36 c)->I64 (xs.getD 37 c)->I64 (xs.getD 38 c)->I64 (xs.getD 39 c)->I64 (xs.getD 40 c)->I64 (xs.getD 41 c)->I64 (xs.getD 42 c)->I64 (xs.getD 43 c)->I64 (xs.getD 44 c)->I64 (xs.getD 45 c)->I64 (xs.getD 46 c)->I64 (xs.getD 47 c)->I64 (xs.getD 48 c)->I64 (xs.getD 49 c)->I64 (xs.getD 50 c)->I64 (xs.getD 51 c)->I64 (xs.getD 52 c)->I64 (xs.getD 53 c)->I64 (xs.getD 54 c)->I64 (xs.getD 55 c)->I64 (xs.getD 56 c)->I64 (xs.getD 57 c)->I64 (xs.getD 58 c)->I64 (xs.getD 59 c)->I64 (xs.getD 60 c)->I64 (xs.getD 61 c)->I64 (xs.getD 62 c)->I64 (xs.getD 63 c)->I64 (xs.getD 64 c)->e.length*8<=140737488355328->e=kQ (fP xs) 64) (ak Sh.int)) (kQ (fP (Cv Sh.int xs 0 65)) 64));(repeat' with_reducible first|apply bh|refine bg ?_|intro)
 all_goals (first | exact br | exact (by rw [jG d]) | exact (by rw [jG d]; assumption))
def Bj:Kn:=aN (ae (kC (cL (.nm .snap))) (ae (kC cI) aq)) ax fun (l,id,_) _=>⟨[nch l<=1048576],[.c (.fz .int ((mS l id)))],none,false⟩
def Mh:CK 348 Bj:=ah fun (l,id,_) _ h=>by
 have j:=cd h;refine aw sq [] Tryz.func348 (?_:(fun f=>(fun d=>(fun c=>(fun e=>(fun g=>l.length*64<=140737488355328->I64 id->nch l<=1048576/\(I64 (d.getD f c)->I64 (d.getD 1 c)->I64 (d.getD 2 c)->I64 (d.getD 3 c)->I64 (d.getD 4 c)->I64 (d.getD 5 c)->I64 (d.getD 6 c)->I64 (d.getD 7 c)->I64 (d.getD 8 c)->I64 (d.getD 9 c)->I64 (d.getD 10 c)->I64 (d.getD 11 c)->I64 (d.getD 12 c)->I64 (d.getD 13 c)->I64 (d.getD 14 c)->I64 (d.getD 15 c)->I64 (d.getD 16 c)->I64 (d.getD 17 c)->I64 (d.getD 18 c)->I64 (d.getD 19 c)->I64 (d.getD 20 c)->I64 (d.getD 21 c)->I64 (d.getD 22 c)->I64 (d.getD 23 c)->I64 (d.getD 24 c)->I64 (d.getD 25 c)->I64 (d.getD 26 c)->I64 (d.getD 27 c)->I64 (d.getD 28 c)->I64 (d.getD 29 c)->I64 (d.getD 30 c)->I64 (d.getD 31 c)->I64 (d.getD 32 c)->I64 (d.getD 33 c)->I64 (d.getD 34 c)->I64 (d.getD 35 c)->I64 (d.getD 36 c)->I64 (d.getD 37 c)->I64 (d.getD 38 c)->I64 (d.getD 39 c)->I64 (d.getD 40 c)->I64 (d.getD 41 c)->I64 (d.getD 42 c)->I64 (d.getD 43 c)->I64 (d.getD 44 c)->I64 (d.getD 45 c)->I64 (d.getD 46 c)->I64 (d.getD 47 c)->I64 (d.getD 48 c)->I64 (d.getD 49 c)->I64 (d.getD 50 c)->I64 (d.getD 51 c)->I64 (d.getD 52 c)->I64 (d.getD 53 c)->I64 (d.getD 54 c)->I64 (d.getD 55 c)->I64 (d.getD 56 c)->I64 (d.getD 57 c)->I64 (d.getD 58 c)->I64 (d.getD 59 c)->I64 (d.getD 60 c)->I64 (d.getD 61 c)->I64 (d.getD 62 c)->I64 (d.getD 63 c)->I64 (d.getD 64 c)->nch (bl id l)<=1048576/\(I64 (e.getD f c)->I64 (e.getD 1 c)->I64 (e.getD 2 c)->I64 (e.getD 3 c)->I64 (e.getD 4 c)->I64 (e.getD 5 c)->I64 (e.getD 6 c)->I64 (e.getD 7 c)->I64 (e.getD 8 c)->I64 (e.getD 9 c)->I64 (e.getD 10 c)->I64 (e.getD 11 c)->I64 (e.getD 12 c)->I64 (e.getD 13 c)->I64 (e.getD 14 c)->I64 (e.getD 15 c)->I64 (e.getD 16 c)->I64 (e.getD 17 c)->I64 (e.getD 18 c)->I64 (e.getD 19 c)->I64 (e.getD 20 c)->I64 (e.getD 21 c)->I64 (e.getD 22 c)->I64 (e.getD 23 c)->I64 (e.getD 24 c)->I64 (e.getD 25 c)->I64 (e.getD 26 c)->I64 (e.getD 27 c)->I64 (e.getD 28 c)->I64 (e.getD 29 c)->I64 (e.getD 30 c)->I64 (e.getD 31 c)->I64 (e.getD 32 c)->I64 (e.getD 33 c)->I64 (e.getD 34 c)->I64 (e.getD 35 c)->I64 (e.getD 36 c)->I64 (e.getD 37 c)->I64 (e.getD 38 c)->I64 (e.getD 39 c)->I64 (e.getD 40 c)->I64 (e.getD 41 c)->I64 (e.getD 42 c)->I64 (e.getD 43 c)->I64 (e.getD 44 c)->I64 (e.getD 45 c)->I64 (e.getD 46 c)->I64 (e.getD 47 c)->I64 (e.getD 48 c)->I64 (e.getD 49 c)->I64 (e.getD 50 c)->I64 (e.getD 51 c)->I64 (e.getD 52 c)->I64 (e.getD 53 c)->I64 (e.getD 54 c)->I64 (e.getD 55 c)->I64 (e.getD 56 c)->I64 (e.getD 57 c)->I64 (e.getD 58 c)->I64 (e.getD 59 c)->I64 (e.getD 60 c)->I64 (e.getD 61 c)->I64 (e.getD 62 c)->I64 (e.getD 63 c)->I64 (e.getD 64 c)->g.length*8<=140737488355328->g=mS l id))) (kQ (fQ (Cv Sh.int d f 65) (Cv Sh.int e f 65)) 64)) (cj (bl id l))) (ak Sh.int)) (cj l)) (0:Nat))
 (repeat' with_reducible first|apply bh|refine bg ?_|intro)
 all_goals (first | exact br | exact (YB ap) | exact (by rw [jG (jL _),jG (jL _)]; exact No _ _ _ rfl))
def XX:bM:=(aP 348 Bj (aP 345 MN W_))
def sH:aB Tryz.prog (al tyT) XX:=(ag Mh (ag Zo sq))
def qg:Kn:=aN (ae (kC (cL (.nm .snap))) aq) ax fun (l,_) _=>⟨[nch l<=1048576],[.c (.int (((kS l:Int))))],none,false⟩
def AE:CK 313 qg:=ah fun (l,_) _ f=>by
 have g:=cd f;refine aw sH [] Tryz.func313 (?_:(fun (d:den Sh.int)=>(fun (c:List Int)=>(fun (e:Nat)=>l.length*64<=140737488355328->nch l<=1048576/\(I64 (c.getD 0 d)->I64 (c.getD 1 d)->I64 (c.getD 2 d)->I64 (c.getD 3 d)->I64 (c.getD 4 d)->I64 (c.getD 5 d)->I64 (c.getD 6 d)->I64 (c.getD 7 d)->I64 (c.getD 8 d)->I64 (c.getD 9 d)->I64 (c.getD 10 d)->I64 (c.getD 11 d)->I64 (c.getD 12 d)->I64 (c.getD 13 d)->I64 (c.getD 14 d)->I64 (c.getD 15 d)->I64 (c.getD 16 d)->I64 (c.getD 17 d)->I64 (c.getD 18 d)->I64 (c.getD 19 d)->I64 (c.getD 20 d)->I64 (c.getD 21 d)->I64 (c.getD 22 d)->I64 (c.getD 23 d)->I64 (c.getD 24 d)->I64 (c.getD 25 d)->I64 (c.getD 26 d)->I64 (c.getD 27 d)->I64 (c.getD 28 d)->I64 (c.getD 29 d)->I64 (c.getD 30 d)->I64 (c.getD 31 d)->I64 (c.getD 32 d)->I64 (c.getD 33 d)->I64 (c.getD 34 d)->I64 (c.getD 35 d)->I64 (c.getD 36 d)->I64 (c.getD 37 d)->I64 (c.getD 38 d)->I64 (c.getD 39 d)->I64 (c.getD 40 d)->I64 (c.getD 41 d)->I64 (c.getD 42 d)->I64 (c.getD 43 d)->I64 (c.getD 44 d)->I64 (c.getD 45 d)->I64 (c.getD 46 d)->I64 (c.getD 47 d)->I64 (c.getD 48 d)->I64 (c.getD 49 d)->I64 (c.getD 50 d)->I64 (c.getD 51 d)->I64 (c.getD 52 d)->I64 (c.getD 53 d)->I64 (c.getD 54 d)->I64 (c.getD 55 d)->I64 (c.getD 56 d)->I64 (c.getD 57 d)->I64 (c.getD 58 d)->I64 (c.getD 59 d)->I64 (c.getD 60 d)->I64 (c.getD 61 d)->I64 (c.getD 62 d)->I64 (c.getD 63 d)->I64 (c.getD 64 d)->(Cv Sh.int c 0 65).length=65/\(e*8<=140737488355328->(↑e:Int)=(↑(kS l):Int)))) (kQ (fP (Cv Sh.int c 0 65)) 64).length) (cj l)) (ak Sh.int));(repeat' with_reducible first|apply bh|refine bg ?_|intro)
 all_goals (first | exact br | exact (qP 65 0) | exact (by rw [jG (jL _)]; exact Gr _))
def EX:Kn:=aN (ae (kC (cL (.nm .snap))) (ae (kC (cL .int)) aq)) ax fun (l,m,_) _=>⟨[nch l<=1048576],[.c (.int (((kS (l++[⟨0,0,m,false,⟨[]⟩⟩]):Int))))],none,false⟩
def UM:CK 343 EX:=ah fun (l,m,_) _ j=>by
 have o:=cd j;refine aw sH [] Tryz.func343 (?_:(fun e=>(fun f=>(fun d=>(fun c=>(fun g=>l.length*64<=140737488355328->m.length*8<=140737488355328->nch l<=1048576/\(I64 (c.getD f d)->I64 (c.getD 1 d)->I64 (c.getD 2 d)->I64 (c.getD 3 d)->I64 (c.getD 4 d)->I64 (c.getD 5 d)->I64 (c.getD 6 d)->I64 (c.getD 7 d)->I64 (c.getD 8 d)->I64 (c.getD 9 d)->I64 (c.getD 10 d)->I64 (c.getD 11 d)->I64 (c.getD 12 d)->I64 (c.getD 13 d)->I64 (c.getD 14 d)->I64 (c.getD 15 d)->I64 (c.getD 16 d)->I64 (c.getD 17 d)->I64 (c.getD 18 d)->I64 (c.getD 19 d)->I64 (c.getD 20 d)->I64 (c.getD 21 d)->I64 (c.getD 22 d)->I64 (c.getD 23 d)->I64 (c.getD 24 d)->I64 (c.getD 25 d)->I64 (c.getD 26 d)->I64 (c.getD 27 d)->I64 (c.getD 28 d)->I64 (c.getD 29 d)->I64 (c.getD 30 d)->I64 (c.getD 31 d)->I64 (c.getD 32 d)->I64 (c.getD 33 d)->I64 (c.getD 34 d)->I64 (c.getD 35 d)->I64 (c.getD 36 d)->I64 (c.getD 37 d)->I64 (c.getD 38 d)->I64 (c.getD 39 d)->I64 (c.getD 40 d)->I64 (c.getD 41 d)->I64 (c.getD 42 d)->I64 (c.getD 43 d)->I64 (c.getD 44 d)->I64 (c.getD 45 d)->I64 (c.getD 46 d)->I64 (c.getD 47 d)->I64 (c.getD 48 d)->I64 (c.getD 49 d)->I64 (c.getD 50 d)->I64 (c.getD 51 d)->I64 (c.getD 52 d)->I64 (c.getD 53 d)->I64 (c.getD 54 d)->I64 (c.getD 55 d)->I64 (c.getD 56 d)->I64 (c.getD 57 d)->I64 (c.getD 58 d)->I64 (c.getD 59 d)->I64 (c.getD 60 d)->I64 (c.getD 61 d)->I64 (c.getD 62 d)->I64 (c.getD 63 d)->I64 (c.getD 64 d)->(∀ (i:Nat),(fun h=>0<=h/\h+(↑m.length:Int)<=4611686018427387904) ((Cv Sh.int c f e).getD i 0))/\g.length=e/\((kQ (fP g) 64).length*8<=140737488355328->(↑(kQ (fP g) 64).length:Int)=(↑(kS (l++[Snap.mk 0 0 m false (Str.mk [])])):Int)))) (Cv Sh.int (eC (Cv Sh.int c f e) m) f e)) (cj l)) (ak Sh.int)) (0:Nat)) (65:Nat));(repeat' with_reducible first|apply bh|refine bg ?_|intro)
 all_goals (first | exact br | exact (qP 65 0) | exact (Gj (s:=.int) ap ap _).1 | exact (Gj (s:=.int) ap ap _).2 | exact (by rw [jG (s:=.int) (xs:=eC _ _) (by rw [sA,qP]),jG (jL l)]; have:=Gr (l++[Snap.mk 0 0 m false ⟨[]⟩]); rw [kI] at this; exact this))
def Wv:bM:=(aP 343 EX (aP 313 qg XX))
def gD:aB Tryz.prog (al tyT) Wv:=(ag UM (ag AE sH))
def AT {α:Type} (l:List α) (i:Nat) (x:α):List α:=l.take i++x :: l.drop i
def Tv {α:Type} (l:List α) (i:Int):List α:=l.take i.toNat++l.drop (i+1).toNat
def ct (s:State) (c:Command):Int:=if 0<=ao Opn.set c.set s.opens/\¬ (s.opens.getD (ao Opn.set c.set s.opens).toNat (ak (.nm .opn))).client=c.client then -1 else ao Opn.set c.set s.opens
def fg (s:State) (c:Command):State × Reply:=if 0<=ao Opn.set c.set s.opens then (s,⟨16,(s.opens.getD (ao Opn.set c.set s.opens).toNat (ak (.nm .opn))).client⟩)
 else ({ s with opens:=AT s.opens (s.opens.takeWhile fun y=>decide (y.set<c.set)).length ⟨c.set,c.client⟩ },⟨0,0⟩)
def fh (s:State) (c:Command):State × Reply:=if ct s c<0 then (s,⟨15,0⟩) else ({ s with opens:=Tv s.opens (ct s c) },⟨0,0⟩)
def eP (s:State) (c:Command):State × Reply:=
 if ct s c<0 then (s,⟨15,0⟩)
 else if 16<=(s.snaps.length:Int)\/1048576<=s.next then (s,⟨20,0⟩)
 else if ¬ s.quota=0/\s.quota<(kS (s.snaps++[⟨0,0,c.chunks,false,⟨[]⟩⟩]):Int) then (s,⟨19,0⟩)
 else ({ s with next:=s.next+1,opens:=Tv s.opens (ct s c),snaps:=s.snaps++[⟨s.next,c.set,c.chunks,false,⟨[]⟩⟩] },⟨0,s.next⟩)
def eB (s:State) (c:Nat):State × Reply:=
 if (s.snaps.getD c (ak (.nm .snap))).held=true then (s,⟨17,0⟩)
 else if ml s c=true then (s,⟨18,0⟩)
 else ({ s with snaps:=bl (s.snaps.getD c (ak (.nm .snap))).id s.snaps },⟨0,(mS s.snaps (s.snaps.getD c (ak (.nm .snap))).id).length⟩)
def fW (s:State) (c:Nat):State × Reply:=(s,⟨0,(s.snaps.getD c (ak (.nm .snap))).chunks.length⟩)
def gK (b:Bool) (s:State) (c:Nat):State × Reply:=
 if (s.snaps.getD c (ak (.nm .snap))).held=b then (s,⟨0,0⟩)
 else ({ s with snaps:=s.snaps.set c { s.snaps.getD c (ak (.nm .snap)) with held:=b } },⟨0,1⟩)
def tL (c:Command) (s:State) (d:Nat):State × Reply:=({ s with snaps:=s.snaps.set d { s.snaps.getD d (ak (.nm .snap)) with tag:=c.text } },⟨0,0⟩)
def rG (c:Command) (s:State):State × Reply:=({ s with keep:=c.n },⟨0,0⟩)
def pj (c:Command) (s:State):State × Reply:=({ s with quota:=c.n },⟨0,kS s.snaps⟩)
def dX {d:α->Int} {c:Int} {l:List α} (h:0<=ao d c l):ao d c l<(l.length:Int):=by
 unfold ao at *;split
 ·rename_i i e;have:=(afX.1 e).1;omega
 omega
theorem OE {s:State} {c:Command} (h:0<=ct s c):ct s c+1<=(s.opens.length:Int):=by
 unfold ct at *;split
 ·grind
 rename_i d; rw [if_neg d] at h;have:=dX h;omega
def Ir (i:Int) (m:List Opn) (l:List Opn) (d:0<=i/\i<=(l.length:Int)) (e:l.length<1048576) (f:m.length=1):Sat Tryz.prog (al tyT) 341 [.c (.own 0),.c (.int (i)),.c (.fz (.nm .opn) (m))] [.row 139 (.nm .opn) (l)] ⟨[0<=i/\i<=(l.length:Int),l.length<1048576,m.length=1],[.c (.own 0)],some ([.row 139 (.nm .opn) ((l.take i.toNat++m++l.drop i.toNat))]),false⟩:=yq i l m d e f
def uV:Kn:=aN (ae (kC (fb 0)) (ae (kC cI) (ae (kC (cL (.nm .opn))) aq))) (aE (e_ 139 (.nm .opn)) ax) fun (_,i,m,_) (l,_)=>⟨[0<=i/\i<=(l.length:Int),l.length<1048576,m.length=1],[.c (.own 0)],some ([.row 139 (.nm .opn) ((l.take i.toNat++m++l.drop i.toNat))]),false⟩
def HG:CK 341 uV:=ah fun (_,i,m,_) (l,_) c=>Ir i m l (cd c) (cd (eY c)) (cd (eY (eY c)))
def Dn (i:Int) (l:List Sess) (m:List Sess) (d:0<=i/\i<=(l.length:Int)) (e:l.length<1048576) (f:m.length=1):Sat Tryz.prog (al tyT) 263 [.c (.own 0),.c (.int (i)),.c (.own 1)] [.row 137 (.nm .sess) (l),.row 137 (.nm .sess) (m)] ⟨[0<=i/\i<=(l.length:Int),l.length<1048576,m.length=1],[.c (.own 0)],some ([.row 137 (.nm .sess) ((l.take i.toNat++m++l.drop i.toNat)),.row 137 (.nm .sess) ((m))]),false⟩:=xz i l m d e f
def sx:Kn:=aN (ae (kC (fb 0)) (ae (kC cI) (ae (kC (fb 1)) aq))) (aE (e_ 137 (.nm .sess)) (aE (e_ 137 (.nm .sess)) ax)) fun (_,i,_,_) (l,m,_)=>⟨[0<=i/\i<=(l.length:Int),l.length<1048576,m.length=1],[.c (.own 0)],some ([.row 137 (.nm .sess) ((l.take i.toNat++m++l.drop i.toNat)),.row 137 (.nm .sess) ((m))]),false⟩
def DJ:CK 263 sx:=ah fun (_,i,_,_) (l,m,_) c=>Dn i l m (cd c) (cd (eY c)) (cd (eY (eY c)))
def JC (i:Int) (j:Int) (l:List Opn) (d:0<=i/\i<(l.length:Int)/\j=i+1):Sat Tryz.prog (al tyT) 344 [.c (.own 0),.c (.int (i)),.c (.int (j))] [.row 139 (.nm .opn) (l)] ⟨[0<=i/\i<(l.length:Int)/\j=i+1],[.c (.own 0)],some ([.row 139 (.nm .opn) ((l.take i.toNat++l.drop j.toNat))]),false⟩:=zF i j l d
def u_:Kn:=aN (ae (kC (fb 0)) (ae (kC cI) (ae (kC cI) aq))) (aE (e_ 139 (.nm .opn)) ax) fun (_,i,j,_) (l,_)=>⟨[0<=i/\i<(l.length:Int)/\j=i+1],[.c (.own 0)],some ([.row 139 (.nm .opn) ((l.take i.toNat++l.drop j.toNat))]),false⟩
def IK:CK 344 u_:=ah fun (_,i,j,_) (l,_) c=>JC i j l (cd c)
def wy:Kn:=aN (ae (kC (aY 0 0)) (ae (kT (.nm .command)) aq)) (qw 0 ax) fun (_,c,_) (z,_)=>⟨[],[.c (.int ((ct z c)))],none,false⟩
theorem Hx:CK 342 wy:=ah fun (_,c,_) (z,_) _=>by
 obtain ⟨v,j,m,o,p,e,q⟩:=z;refine aw gD [] Tryz.func342 (?_:(fun h=>(fun d=>(fun f=>(fun g=>bC c (I64 d->(f->f/\d<(↑e.length:Int))/\((f->I64 g.set/\I64 g.client)->(f/\¬g.client=c.client -> -1=h)/\(d<0\/g.client=c.client->d=h)))) (e.getD d.toNat (ak (Sh.nm NT.opn)))) (0<=d)) (ao Opn.set c.set e)) (ct (State.mk v j m o p e q) c));(repeat' with_reducible first|apply bh|refine bg ?_|intro)
 all_goals (first | exact br | exact dX ab | (unfold ct; grind))
def NX:Kn:=aN (ae (kC (aY 0 0)) (ae (kC (aY 1 0)) aq)) (aE (yv 35 (.nm .command)) (qw 1 ax)) fun _ (c,z,_)=>⟨[],[.agg (cellsOf (.nm .reply) ((rG c z).2))],some (([.box 35 (cellsOf (.nm .command) (c))]++rV 1 ((rG c z).1))),false⟩
def ab0:CK 311 NX:=ah fun _ (c,z,_) _=>by
 obtain ⟨v,e,m,f,g,h,j⟩:=z;refine bt gD [] Tryz.func311 (?_:(fun d=>0=d.snd.code/\0=d.snd.n/\bq c c (de (State.mk v e c.n f g h j) d.fst)) (rG c (State.mk v e m f g h j)));(repeat' with_reducible first|apply bh|refine bg ?_|intro)
 all_goals (first | exact br | exact rfl)
def QW:Kn:=aN (ae (kC (aY 0 0)) (ae (kC (aY 1 0)) aq)) (aE (yv 35 (.nm .command)) (qw 1 ax)) fun _ (c,z,_)=>⟨[nch z.snaps<=1048576],[.agg (cellsOf (.nm .reply) ((pj c z).2))],some (([.box 35 (cellsOf (.nm .command) (c))]++rV 1 ((pj c z).1))),false⟩
def ZC:CK 312 QW:=ah fun _ (c,z,_) m=>by
 obtain ⟨v,f,g,o,h,j,d⟩:=z;have p:nch d<=1048576:=cd m;refine bt gD [] Tryz.func312 (?_:(fun e=>nch d<=1048576/\(I64 (↑(kS d):Int)->0=e.snd.code/\(↑(kS d):Int)=e.snd.n/\bq c c (de (State.mk v f g c.n h j d) e.fst))) (pj c (State.mk v f g o h j d)));(repeat' with_reducible first|apply bh|refine bg ?_|intro)
 all_goals (first | exact br | exact rfl)
def GH:Kn:=aN (ae (kC (aY 0 0)) (ae (kC cI) aq)) (qw 0 ax) fun (_,i,_) (z,_)=>⟨[0<=i/\i<(z.snaps.length:Int),nch z.snaps<=1048576],[.agg (cellsOf (.nm .reply) ((eB z i.toNat).2))],some ((rV 0 ((eB z i.toNat).1))),false⟩
theorem Uj:CK 315 GH:=ah fun (_,i,_) (z,_) h=>by
 obtain ⟨v,j,m,o,p,q,c⟩:=z;have t:0<=i/\i<(c.length:Int):=cd h;have u:nch c<=1048576:=cd (eY h);refine bt gD [] Tryz.func315 (?_:(fun f=>(fun g=>(fun e=>(fun d=>(fun r=>I64 i->f<=i/\i<(↑c.length:Int)/\dT e ((e.held=true->I64 17->I64 f->17=d.snd.code/\r)/\(e.held=false->(ml g i=true->I64 18->I64 f->18=d.snd.code/\r)/\(ml g i=false->nch c<=1048576/\((mS c e.id).length*8<=140737488355328->f=d.snd.code/\(↑(mS c e.id).length:Int)=d.snd.n/\de (State.mk v j m o p q (bl e.id c)) d.fst))))) (f=d.snd.n/\de g d.fst)) (eB g i.toNat)) (c.getD i.toNat (ak (Sh.nm NT.snap)))) (State.mk v j m o p q c)) (0:Int));have s:((i.toNat:Nat):Int)=i:=by omega
 (repeat' with_reducible first|apply bh|refine bg ?_|intro)
 all_goals (first | exact br | ((simp only [eB,s]; simp_all) <;> (intros; omega)) | (simp only [eB,s]; grind))
def Mk:Kn:=aN (ae (kC cI) (ae (kC (aY 0 0)) aq)) (qw 0 ax) fun (i,_,_) (z,_)=>⟨[0<=i/\i<(z.snaps.length:Int)],[.agg (cellsOf (.nm .reply) ((fW z i.toNat).2))],some ((rV 0 ((fW z i.toNat).1))),false⟩
def XZ:CK 316 Mk:=ah fun (i,_,_) (z,_) e=>by
 obtain ⟨v,f,g,h,j,m,c⟩:=z;have o:0<=i/\i<(c.length:Int):=cd e;refine bt gD [] Tryz.func316 (?_:(fun d=>I64 i->0<=i/\i<(↑c.length:Int)/\dT (c.getD i.toNat (ak (Sh.nm NT.snap))) (0=(fW d i.toNat).snd.code/\(↑(c.getD i.toNat (ak (Sh.nm NT.snap))).chunks.length:Int)=(fW d i.toNat).snd.n/\de d (fW d i.toNat).fst)) (State.mk v f g h j m c));(repeat' with_reducible first|apply bh|refine bg ?_|intro)
 all_goals (first | exact br | rfl)
def Hg:Kn:=aN (ae (kC cI) (ae (kC (aY 0 0)) (ae (kC (aY 1 0)) aq))) (aE (yv 35 (.nm .command)) (qw 1 ax)) fun (i,_,_,_) (c,z,_)=>⟨[0<=i/\i<(z.snaps.length:Int)],[.agg (cellsOf (.nm .reply) ((tL c z i.toNat).2))],some (([.box 35 (cellsOf (.nm .command) (c))]++rV 1 ((tL c z i.toNat).1))),false⟩
def VD:CK 317 Hg:=ah fun (i,_,_,_) (c,z,_) p=>by
 obtain ⟨v,g,h,j,m,o,d⟩:=z;have q:0<=i/\i<(d.length:Int):=cd p;refine bt gD [] Tryz.func317 (?_:(fun f=>(fun e=>I64 i->0<=i/\i<(↑d.length:Int)/\dT e (0=f.snd.code/\0=f.snd.n/\bq c c (de (State.mk v g h j m o (d.set i.toNat (Snap.mk e.id e.set e.chunks e.held c.text))) f.fst))) (d.getD i.toNat (ak (Sh.nm NT.snap)))) (tL c (State.mk v g h j m o d) i.toNat));(repeat' with_reducible first|apply bh|refine bg ?_|intro)
 all_goals (first | exact br | exact rfl)
def zA:Kn:=aN (ae (kC cI) (ae (kC (aY 0 0)) (ae (kC (aY 4 0)) aq))) (qw 0 (aE (dF 4 (aA cB dy)) ax)) fun (i,_,_,_) (z,(b,_),_)=>⟨[0<=i/\i<(z.snaps.length:Int)],[.agg (cellsOf (.nm .reply) ((gK b z i.toNat).2))],some ((rV 0 ((gK b z i.toNat).1)++[.box 4 ([.bool (.atom ((b)))])])),false⟩
theorem Oa:CK 304 zA:=ah fun (i,_,_,_) (z,(b,_),_) o=>by
 obtain ⟨v,f,g,h,j,m,d⟩:=z;have p:0<=i/\i<(d.length:Int):=cd o;refine bt gD [] Tryz.func304 (?_:(fun c=>(fun e=>I64 i->0<=i/\i<(↑d.length:Int)/\dT c (((c.held == b)=true->0=e.snd.code/\0=e.snd.n/\bE (State.mk v f g h j m d) e.fst (b=b))/\((c.held == b)=false->0=e.snd.code/\1=e.snd.n/\bE (State.mk v f g h j m (d.set i.toNat (Snap.mk c.id c.set c.chunks b c.tag))) e.fst (b=b)))) (gK b (State.mk v f g h j m d) i.toNat)) (d.getD i.toNat (ak (Sh.nm NT.snap))));(repeat' with_reducible first|apply bh|refine bg ?_|intro)
 all_goals (first | exact br | ((simp only [gK]; simp_all) <;> (intros; omega)) | (simp only [gK]; grind))
def WV:bM:=(aP 304 zA (aP 317 Hg (aP 316 Mk (aP 315 GH (aP 312 QW (aP 311 NX (aP 342 wy (aP 344 u_ (aP 263 sx (aP 341 uV Wv))))))))))
def ly:aB Tryz.prog (al tyT) WV:=(ag Oa (ag VD (ag XZ (ag Uj (ag ZC (ag ab0 (ag Hx (ag IK (ag DJ (ag HG gD))))))))))
theorem NU {p:α->Bool} {l:List α} (h:(l.take k).all p=true) (d:k<=l.length) (c:(l.length:Int)<=k\/(k:Int)<l.length/\∃ x,l[k]? = some x/\p x=false):k=(l.takeWhile p).length:=by
 induction l generalizing k with
 | nil=>simp at d; simp [d]
 | cons a l e=>
  cases k with
  | zero=>
   rcases c with c | ⟨_,x,f,g⟩
   ·grind
   simp_all
  | succ k=>
   simp only [agy,List.all_cons,Bool.and_eq_true] at h;rw [List.takeWhile_cons,h.1,if_pos rfl,List.length_cons];congr 1;refine e h.2 (by simpa using d) ?_;rcases c with c | ⟨j,x,f,g⟩
   ·grind
   grind
variable {op:List Opn}
theorem ae7 {v d e f:Int} {g:List Sess} {j:List Snap} {c:Command} {s:Nat} (h:ao Opn.set c.set op<0) (m:s<=op.length) (o:(op.take s).all (fun y=>decide (y.set<c.set))=true) (q:(op.length:Int)<=s\/c.set<=(op.getD s (ak (.nm .opn))).set):op.take s++[Opn.mk c.set c.client]++op.drop s=(fg (State.mk v d e f g op j) c).1.opens:=by
 have p:¬ 0<=ao Opn.set c.set op:=by omega
 simp only [fg,if_neg p];have:s=(op.takeWhile fun y=>decide (y.set<c.set)).length:=by
  refine NU o m ?_;grind
 rw [<- this]; simp [AT]
def adA {c:Command} {s:Nat} (e:(op.take s).all (fun y=>decide (y.set<c.set))=true) (h:(s:Int)<op.length) (f:(op.getD s (ak (.nm .opn))).set<c.set):(op.take (s+1)).all (fun y=>decide (y.set<c.set))=true:=by
 rw [ai (gd (d:=ak (.nm .opn)) h),List.all_append,e]; simp only [List.all_cons,decide_eq_true f]; rfl
section
variable {v nx kp qt:Int} {se:List Sess} {op:List Opn} {sn:List Snap} {c:Command}
def bgN (h:ao Opn.set c.set op<0):fg (State.mk v nx kp qt se op sn) c=(State.mk v nx kp qt se (AT op (op.takeWhile fun y=>decide (y.set<c.set)).length ⟨c.set,c.client⟩) sn,⟨0,0⟩):=by
 have d:¬ 0<=ao Opn.set c.set op:=by omega
 simp only [fg,if_neg d]
def bgY (h:0<=ao Opn.set c.set op):fg (State.mk v nx kp qt se op sn) c=(State.mk v nx kp qt se op sn,⟨16,(op.getD (ao Opn.set c.set op).toNat (ak (.nm .opn))).client⟩):=by
 simp only [fg,if_pos h]
def abY (h:ct (State.mk v nx kp qt se op sn) c<0):fh (State.mk v nx kp qt se op sn) c=(State.mk v nx kp qt se op sn,⟨15,0⟩):=by
 simp only [fh,if_pos h]
def abN (h:0<=ct (State.mk v nx kp qt se op sn) c):fh (State.mk v nx kp qt se op sn) c=(State.mk v nx kp qt se (op.take (ct (State.mk v nx kp qt se op sn) c).toNat++op.drop (ct (State.mk v nx kp qt se op sn) c+1).toNat) sn,⟨0,0⟩):=by
 have d:¬ ct (State.mk v nx kp qt se op sn) c<0:=by omega
 simp only [fh,if_neg d,Tv]
end
def TY (c:Command) (v:Int) (d:Int) (e:Int) (f:Int) (g:List Sess) (op:List Opn) (h:List Snap):List (Nat × LI):=[(5,{ σ:=Nat,F:=fun k=>([(0,one (.ptr 0 0)),(3,one (.ptr 4 0)),(4,one (.ptr 5 0)),(6,one (.int k))],(rV 0 (State.mk v d e f g op h)++[.box 35 (cellsOf (.nm .command) (c)),.box 78 ([.int ((0)),.int ((0))])])),J:=fun k=>k<=op.length/\(op.take k).all (fun y=>decide (y.set<c.set))=true,μ:=fun k=>op.length - k })]
def yC:Kn:=aN (ae (kC (aY 0 0)) (ae (kT (.nm .command)) aq)) (qw 0 ax) fun (_,c,_) (z,_)=>⟨[z.opens.length<1048576],[.agg (cellsOf (.nm .reply) ((fg z c).2))],some ((rV 0 ((fg z c).1))),false⟩
theorem MF:CK 306 yC:=ah fun (_,c,_) (z,_) B=>by
 obtain ⟨v,h,j,m,o,op,p⟩:=z;have C:op.length<1048576:=cd B;refine bt ly (TY c v h j m o op p) Tryz.func306 (?_:(fun (r:den (Sh.nm NT.opn))=>(fun (g:Int)=>(fun (d:Int)=>(fun (f:Int)=>(fun (q:State × Reply)=>(fun (A:Prop)=>bC c (I64 f->(d<=f->d<=f/\f<g/\(I64 (op.getD f.toNat r).set->I64 (op.getD f.toNat r).client->16=q.snd.code/\(op.getD f.toNat r).client=q.snd.n/\de (State.mk v h j m o op p) q.fst))/\(f<d->∃ (u:Nat),(d=(↑u:Int)/\A)/\(u<=op.length/\((List.take u op).all fun (y:Opn)=>decide (y.set<c.set))=true)/\∀ (s:Nat),(fun (w:Int)=>(fun (e:Int)=>s<=op.length/\((List.take s op).all fun (y:Opn)=>decide (y.set<c.set))=true->(e<g->d<=e/\e<g)/\((e<g->I64 w/\I64 (op.getD s r).client)->(e<g/\w<c.set->I64 (e+1)/\∃ (t:Nat),(e+1=(↑t:Int)/\A)/\(t <= op.length/\((List.take t op).all fun (y:Opn)=>decide (y.set<c.set))=true)/\op.length - t < op.length - s)/\(g<=e\/c.set<=w->((d<=e/\e<=g)/\op.length<1048576/\[Opn.mk c.set c.client].length=1)/\d=q.snd.code/\d=q.snd.n/\de (State.mk v h j m o (List.take s op++[Opn.mk c.set c.client]++List.drop s op) p) q.fst))) (↑s:Int)) (op.getD s r).set))) (v=v/\h=h/\j=j/\m=m/\o=o/\op=op/\p=p/\bq c c (d=d/\d=d))) (fg (State.mk v h j m o op p) c)) (ao Opn.set c.set op)) 0) (↑op.length:Int)) (ak (Sh.nm NT.opn)));iterate 3 ((all_goals (repeat' with_reducible first|apply bh|refine bg ?_|intro)); (all_goals try (first | exact br | exact rfl | exact dX ab | exact (adA ab ab ab) | exact (ae7 ab aL ab ap) | (rw [bgN]; omega) | (rw [bgY]; omega))); all_goals try first | refine ⟨‹Nat› + 1,?_⟩ | refine ⟨0,?_⟩)
def zC:Kn:=aN (ae (kC (aY 0 0)) (ae (kT (.nm .command)) aq)) (qw 0 ax) fun (_,c,_) (z,_)=>⟨[z.opens.length<1048576],[.agg (cellsOf (.nm .reply) ((fh z c).2))],some ((rV 0 ((fh z c).1))),false⟩
def Qz:CK 310 zC:=ah fun (_,c,_) (z,_) s=>by
 obtain ⟨v,g,j,m,o,op,p⟩:=z;have t:op.length<1048576:=cd s;refine bt ly [] Tryz.func310 (?_:(fun d=>(fun f=>(fun q=>(fun e=>(fun r=>bC c (I64 e->(e<d->I64 15->I64 d->15=q.code/\d=q.n/\de f (fh f c).fst)/\(d<=e->I64 r/\(d<=e/\e<(↑op.length:Int)/\r=r)/\d=q.code/\d=q.n/\de (State.mk v g j m o (List.take e.toNat op++List.drop r.toNat op) p) (fh f c).fst))) (e+1)) (ct f c)) (fh f c).snd) (State.mk v g j m o op p)) (0:Int));have u:0<=ct (State.mk v g j m o op p) c->ct (State.mk v g j m o op p) c+1<=(op.length:Int):=fun h=>OE h;(repeat' with_reducible first|apply bh|refine bg ?_|intro)
 all_goals (first | exact br | (rw [abN]; omega) | (rw [abY]; omega))
def uS:Kn:=aN (ae (kC (aY 0 0)) (ae (kT (.nm .command)) aq)) (qw 0 ax) fun (_,c,_) (z,_)=>⟨[nch z.snaps<=1048576,z.snaps.length<1048576,z.opens.length<1048576,0<=z.next],[.agg (cellsOf (.nm .reply) ((eP z c).2))],some ((rV 0 ((eP z c).1))),false⟩
theorem Hy:CK 308 uS:=ah fun (_,c,_) (z,_) q=>by
 obtain ⟨v,f,r,g,s,op,e⟩:=z;have y:nch e<=1048576:=cd q;have A:e.length<1048576:=cd (eY q);have B:op.length<1048576:=cd (eY (eY q));have C:0<=f:=cd (eY (eY (eY q)));refine bt ly [] Tryz.func308 (?_:(fun w=>(fun m=>(fun d=>(fun t=>(fun p=>(fun o=>(fun j=>(fun u=>bC c (I64 j->(j<d->I64 15->I64 d->15=o.code/\u)/\(d<=j->(16<=(↑e.length:Int)\/1048576<=f->I64 20->I64 d->20=o.code/\u)/\((↑e.length:Int)<16/\f<1048576->(¬g=d->nch e<=1048576)/\((¬g=d->I64 t)->(¬g=d/\g<t->I64 19->I64 d->19=o.code/\u)/\(g=d\/t<=g->c.chunks.length*8<=140737488355328->(e.length+[w].length)*64<=140737488355328/\I64 (f+m)/\I64 (j+m)/\(d<=j/\j<(↑op.length:Int)/\j+m=j+m)/\d=o.code/\f=o.n/\de (State.mk v (f+m) r g s (List.take j.toNat op++List.drop (j+m).toNat op) (e++[w])) (eP p c).fst)))))) (d=o.n/\de p (eP p c).fst)) (ct p c)) (eP p c).snd) (State.mk v f r g s op e)) (↑(kS (e++[Snap.mk d d c.chunks false (Str.mk [])])):Int)) (0:Int)) (1:Int)) (Snap.mk f c.set c.chunks false (Str.mk [])));have D:0<=ct (State.mk v f r g s op e) c->ct (State.mk v f r g s op e) c+1<=(op.length:Int):=fun h=>OE h;(repeat' with_reducible first|apply bh|refine bg ?_|intro)
 all_goals (first | exact br | (simp only [eP,Tv]; grind) | (simp only [List.length_cons,List.length_nil]; omega))
def LO:Kn:=aN (ae (kC cI) (ae (kC (aY 0 0)) aq)) (qw 0 ax) fun (i,_,_) (z,_)=>⟨[0<=i/\i<(z.snaps.length:Int),nch z.snaps<=1048576],[.agg (cellsOf (.nm .reply) ((eB z i.toNat).2))],some ((rV 0 ((eB z i.toNat).1))),false⟩
def Zh:CK 314 LO:=ah fun (i,_,_) (z,_) e=>by
 obtain ⟨v,f,g,h,j,op,d⟩:=z;have m:0<=i/\i<(d.length:Int):=cd e;have o:nch d<=1048576:=cd (eY e);refine bt ly [] Tryz.func314 (?_:(fun c=>I64 i->(0<=i/\i<(↑d.length:Int))/\nch d<=1048576/\(I64 c.snd.code->I64 c.snd.n->c.snd.code=c.snd.code/\c.snd.n=c.snd.n/\de c.fst c.fst)) (eB (State.mk v f g h j op d) i.toNat));(repeat' with_reducible first|apply bh|refine bg ?_|intro)
 all_goals (first | exact br | exact rfl)
def XM:bM:=(aP 314 LO (aP 308 uS (aP 310 zC (aP 306 yC WV))))
def gv:aB Tryz.prog (al tyT) XM:=(ag Zh (ag Hy (ag Qz (ag MF ly))))
def bB (f:State->Nat->State × Reply) (c:Command) (s:State):State × Reply:=if ao Snap.id c.id s.snaps<0 then (s,⟨15,0⟩) else f s (ao Snap.id c.id s.snaps).toNat
section
variable {v nx kp qt:Int} {se:List Sess} {op:List Opn} {sn:List Snap} {c:Command} {f:State->Nat->State × Reply}
def sdY (h:ao Snap.id c.id sn<0):bB f c (State.mk v nx kp qt se op sn)=(State.mk v nx kp qt se op sn,⟨15,0⟩):=by
 simp only [bB,if_pos h]
def sdN (h:0<=ao Snap.id c.id sn):bB f c (State.mk v nx kp qt se op sn)=f (State.mk v nx kp qt se op sn) (ao Snap.id c.id sn).toNat:=by
 have d:¬ ao Snap.id c.id sn<0:=by omega
 simp only [bB,if_neg d]
end
def Oo:Kn:=aN (ae (kC (aY 0 0)) (ae (kC (aY 4 0)) aq)) (qw 0 (aE (yv 35 (.nm .command)) ax)) fun _ (z,c,_)=>⟨[z.opens.length<1048576],[.agg (cellsOf (.nm .reply) ((fg z c).2))],some ((rV 0 ((fg z c).1)++[.box 35 (cellsOf (.nm .command) (c))])),false⟩
def aa1:CK 305 Oo:=ah fun _ (z,c,_) e=>by
 obtain ⟨v,f,g,h,j,op,m⟩:=z;have o:op.length<1048576:=cd e;refine bt gv [] Tryz.func305 (?_:(fun d=>op.length<1048576/\(I64 d.snd.code->I64 d.snd.n->d.snd.code=d.snd.code/\d.snd.n=d.snd.n/\bE d.fst d.fst (aR c c))) (fg (State.mk v f g h j op m) c));(repeat' with_reducible first|apply bh|refine bg ?_|intro)
 all_goals (first | exact br | exact rfl)
def Ox:Kn:=aN (ae (kC (aY 0 0)) (ae (kC (aY 4 0)) aq)) (qw 0 (aE (yv 35 (.nm .command)) ax)) fun _ (z,c,_)=>⟨[nch z.snaps<=1048576,z.snaps.length<1048576,z.opens.length<1048576,0<=z.next],[.agg (cellsOf (.nm .reply) ((eP z c).2))],some ((rV 0 ((eP z c).1)++[.box 35 (cellsOf (.nm .command) (c))])),false⟩
def Zb:CK 307 Ox:=ah fun _ (z,c,_) f=>by
 obtain ⟨v,g,h,j,m,op,e⟩:=z;have o:nch e<=1048576:=cd f;have p:e.length<1048576:=cd (eY f);have q:op.length<1048576:=cd (eY (eY f));have r:0<=g:=cd (eY (eY (eY f)));refine bt gv [] Tryz.func307 (?_:(fun d=>nch e<=1048576/\e.length<1048576/\op.length<1048576/\0<=g/\(I64 d.snd.code->I64 d.snd.n->d.snd.code=d.snd.code/\d.snd.n=d.snd.n/\bE d.fst d.fst (aR c c))) (eP (State.mk v g h j m op e) c));(repeat' with_reducible first|apply bh|refine bg ?_|intro)
 all_goals (first | exact br | exact rfl)
def OL:Kn:=aN (ae (kC (aY 0 0)) (ae (kC (aY 4 0)) aq)) (qw 0 (aE (yv 35 (.nm .command)) ax)) fun _ (z,c,_)=>⟨[z.opens.length<1048576],[.agg (cellsOf (.nm .reply) ((fh z c).2))],some ((rV 0 ((fh z c).1)++[.box 35 (cellsOf (.nm .command) (c))])),false⟩
def Yz:CK 309 OL:=ah fun _ (z,c,_) e=>by
 obtain ⟨v,f,g,h,j,op,m⟩:=z;have o:op.length<1048576:=cd e;refine bt gv [] Tryz.func309 (?_:(fun d=>op.length<1048576/\(I64 d.snd.code->I64 d.snd.n->d.snd.code=d.snd.code/\d.snd.n=d.snd.n/\bE d.fst d.fst (aR c c))) (fh (State.mk v f g h j op m) c));(repeat' with_reducible first|apply bh|refine bg ?_|intro)
 all_goals (first | exact br | exact rfl)
def nh:Kn:=aN (ae (kC (qK 314 [] [(0,0)])) (ae (kC (aY 0 0)) (ae (kC (aY 4 0)) aq))) (qw 0 (aE (yv 35 (.nm .command)) ax)) fun _ (z,c,_)=>⟨[],[.c (.fn 301 [] [(0,0),(4,0),(5,0)])],some ((rV 0 z++[.box 35 (cellsOf (.nm .command) (c)),.box 306 ([.fn 314 [] [(0,0)]])])),true⟩
def wU:CK 300 nh:=ah fun _ (z,c,_) _=>by
 obtain ⟨v,d,e,f,g,op,h⟩:=z;refine dw gv [] Tryz.func300 (?_:v=v/\d=d/\e=e/\f=f/\g=g/\op=op/\h=h/\aR c c);(repeat' with_reducible first|apply bh|refine bg ?_|intro)
 all_goals (first | exact br | exact rfl)
def qo:Kn:=aN (ae (kC (qK 316 [] [(0,0)])) (ae (kC (aY 0 0)) (ae (kC (aY 4 0)) aq))) (qw 0 (aE (yv 35 (.nm .command)) ax)) fun _ (z,c,_)=>⟨[],[.c (.fn 301 [] [(0,0),(4,0),(5,0)])],some ((rV 0 z++[.box 35 (cellsOf (.nm .command) (c)),.box 306 ([.fn 316 [] [(0,0)]])])),true⟩
def AQ:CK 300 qo:=ah fun _ (z,c,_) _=>by
 obtain ⟨v,d,e,f,g,op,h⟩:=z;refine dw gv [] Tryz.func300 (?_:v=v/\d=d/\e=e/\f=f/\g=g/\op=op/\h=h/\aR c c);(repeat' with_reducible first|apply bh|refine bg ?_|intro)
 all_goals (first | exact br | exact rfl)
def rT:Kn:=aN (ae (kC (qK 317 [] [(0,0),(1,0)])) (ae (kC (aY 1 0)) (ae (kC (aY 0 0)) aq))) (aE (yv 35 (.nm .command)) (qw 1 ax)) fun _ (c,z,_)=>⟨[],[.c (.fn 301 [] [(1,0),(0,0),(5,0)])],some (([.box 35 (cellsOf (.nm .command) (c))]++rV 1 z++[.box 306 ([.fn 317 [] [(0,0),(1,0)]])])),true⟩
def DS:CK 300 rT:=ah fun _ (c,z,_) _=>by
 obtain ⟨v,d,e,f,g,op,h⟩:=z;refine dw gv [] Tryz.func300 (?_:bq c c (v=v/\d=d/\e=e/\f=f/\g=g/\op=op/\h=h));(repeat' with_reducible first|apply bh|refine bg ?_|intro)
 all_goals (first | exact br | exact rfl)
def pZ:Kn:=aN (ae (kC (qK 304 [] [(0,0),(4,0)])) (ae (kC (aY 0 0)) (ae (kC (aY 5 0)) aq))) (qw 0 (aE (dF 4 (aA cB dy)) (aE (yv 35 (.nm .command)) ax))) fun _ (z,(b,_),c,_)=>⟨[],[.c (.fn 301 [] [(0,0),(5,0),(6,0)])],some ((rV 0 z++[.box 4 ([.bool (.atom ((b)))]),.box 35 (cellsOf (.nm .command) (c)),.box 306 ([.fn 304 [] [(0,0),(4,0)]])])),true⟩
def BT:CK 300 pZ:=ah fun _ (z,(b,_),c,_) _=>by
 obtain ⟨v,d,e,f,g,op,h⟩:=z;refine dw gv [] Tryz.func300 (?_:v=v/\d=d/\e=e/\f=f/\g=g/\op=op/\h=h/\b=b/\aR c c);(repeat' with_reducible first|apply bh|refine bg ?_|intro)
 all_goals (first | exact br | exact rfl)
def VN:bM:=(aP 300 pZ (aP 300 rT (aP 300 qo (aP 300 nh (aP 309 OL (aP 307 Ox (aP 305 Oo XM)))))))
def js:aB Tryz.prog (al tyT) VN:=(ag BT (ag DS (ag AQ (ag wU (ag Yz (ag Zb (ag aa1 gv)))))))
def Pr:Kn:=aN (ae (kC cB) (ae (kC (aY 0 0)) (ae (kC (aY 1 0)) aq))) (aE (dF 308 (aA (qK 300 [] [(1,0),(5,0)]) dy)) (qw 1 (aE (yv 35 (.nm .command)) ax))) fun (b,_,_,_) ((_,_),z,c,_)=>⟨[],[.c (.fn 301 [] [(1,0),(5,0),(7,0)])],some (([.box 308 ([.fn 300 [] [(1,0),(5,0)]])]++rV 1 z++[.box 35 (cellsOf (.nm .command) (c)),.box 4 ([.bool (.atom ((b)))]),.box 306 ([.fn 304 [] [(1,0),(6,0)]])])),true⟩
def aaF:CK 303 Pr:=ah fun (b,_,_,_) ((_,_),z,c,_) _=>by
 obtain ⟨v,d,e,f,g,op,h⟩:=z;refine dw js [] Tryz.func303 (?_:v=v/\d=d/\e=e/\f=f/\g=g/\op=op/\h=h/\bq c c (b=b));(repeat' with_reducible first|apply bh|refine bg ?_|intro)
 all_goals (first | exact br | exact rfl)
def tT:Kn:=aN (ae (kC (aY 0 0)) (ae (kC (aY 4 0)) (ae (kC (aY 5 0)) aq))) (qw 0 (aE (yv 35 (.nm .command)) (aE (dF 306 (aA (qK 314 [] [(0,0)]) dy)) ax))) fun _ (z,c,(_,_),_)=>⟨[nch z.snaps<=1048576],[.agg (cellsOf (.nm .reply) ((bB eB c z).2))],some ((rV 0 ((bB eB c z).1)++[.box 35 (cellsOf (.nm .command) (c)),.box 306 ([.fn 314 [] [(0,0)]])])),false⟩
def Dp:CK 301 tT:=ah fun _ (z,c,(_,_),_) j=>by
 obtain ⟨v,m,o,p,q,op,f⟩:=z;have r:nch f<=1048576:=cd j;refine bt js [] Tryz.func301 (?_:(fun d=>(fun g=>(fun h=>(fun e=>I64 d->(d<0->I64 15->I64 0->15=e.snd.code/\0=e.snd.n/\bE g e.fst (aR c c))/\(0<=d->(0<=d/\d<(↑f.length:Int))/\nch f<=1048576/\(I64 h.code->I64 h.n->h.code=e.snd.code/\h.n=e.snd.n/\bE (eB g d.toNat).fst e.fst (aR c c)))) (bB eB c g)) (eB g d.toNat).snd) (State.mk v m o p q op f)) (ao Snap.id c.id f));(repeat' with_reducible first|apply bh|refine bg ?_|intro)
 all_goals (first | exact br | exact dX ab | (rw [sdY] <;> first | rfl | omega) | (rw [sdN] <;> first | rfl | omega))
def wi:Kn:=aN (ae (kC (aY 0 0)) (ae (kC (aY 4 0)) (ae (kC (aY 5 0)) aq))) (qw 0 (aE (yv 35 (.nm .command)) (aE (dF 306 (aA (qK 316 [] [(0,0)]) dy)) ax))) fun _ (z,c,(_,_),_)=>⟨[],[.agg (cellsOf (.nm .reply) ((bB fW c z).2))],some ((rV 0 ((bB fW c z).1)++[.box 35 (cellsOf (.nm .command) (c)),.box 306 ([.fn 316 [] [(0,0)]])])),false⟩
def Iq:CK 301 wi:=ah fun _ (z,c,(_,_),_) _=>by
 obtain ⟨v,j,m,o,p,op,h⟩:=z;refine bt js [] Tryz.func301 (?_:(fun d=>(fun f=>(fun g=>(fun e=>I64 d->(d<0->I64 15->I64 0->15=e.snd.code/\0=e.snd.n/\bE f e.fst (aR c c))/\(0<=d->(0<=d/\d<(↑h.length:Int))/\(I64 g.code->I64 g.n->g.code=e.snd.code/\g.n=e.snd.n/\bE (fW f d.toNat).fst e.fst (aR c c)))) (bB fW c f)) (fW f d.toNat).snd) (State.mk v j m o p op h)) (ao Snap.id c.id h));(repeat' with_reducible first|apply bh|refine bg ?_|intro)
 all_goals (first | exact br | exact dX ab | (rw [sdY] <;> first | rfl | omega) | (rw [sdN] <;> first | rfl | omega))
def AU:Kn:=aN (ae (kC (aY 0 0)) (ae (kC (aY 4 0)) (ae (kC (aY 5 0)) aq))) (qw 0 (aE (yv 35 (.nm .command)) (aE (dF 306 (aA (qK 317 [] [(4,0),(0,0)]) dy)) ax))) fun _ (z,c,(_,_),_)=>⟨[],[.agg (cellsOf (.nm .reply) ((bB (tL c) c z).2))],some ((rV 0 ((bB (tL c) c z).1)++[.box 35 (cellsOf (.nm .command) (c)),.box 306 ([.fn 317 [] [(4,0),(0,0)]])])),false⟩
def Nb:CK 301 AU:=ah fun _ (z,c,(_,_),_) _=>by
 obtain ⟨v,j,m,o,p,op,h⟩:=z;refine bt js [] Tryz.func301 (?_:(fun d=>(fun f=>(fun g=>(fun e=>I64 d->(d<0->I64 15->I64 0->15=e.snd.code/\0=e.snd.n/\bE f e.fst (aR c c))/\(0<=d->(0<=d/\d<(↑h.length:Int))/\(I64 g.code->I64 g.n->g.code=e.snd.code/\g.n=e.snd.n/\bE (tL c f d.toNat).fst e.fst (aR c c)))) (bB (tL c) c f)) (tL c f d.toNat).snd) (State.mk v j m o p op h)) (ao Snap.id c.id h));(repeat' with_reducible first|apply bh|refine bg ?_|intro)
 all_goals (first | exact br | exact dX ab | (rw [sdY] <;> first | rfl | omega) | (rw [sdN] <;> first | rfl | omega))
def wD:Kn:=aN (ae (kC (aY 0 0)) (ae (kC (aY 4 0)) (ae (kC (aY 5 0)) aq))) (qw 0 (aE (yv 35 (.nm .command)) (aE (dF 306 (aA (qK 304 [] [(0,0),(6,0)]) dy)) (aE (dF 4 (aA cB dy)) ax)))) fun _ (z,c,(_,_),(b,_),_)=>⟨[],[.agg (cellsOf (.nm .reply) ((bB (gK b) c z).2))],some ((rV 0 ((bB (gK b) c z).1)++[.box 35 (cellsOf (.nm .command) (c)),.box 306 ([.fn 304 [] [(0,0),(6,0)]]),.box 4 ([.bool (.atom ((b)))])])),false⟩
def Jg:CK 301 wD:=ah fun _ (z,c,(_,_),(b,_),_) _=>by
 obtain ⟨v,j,m,o,p,op,h⟩:=z;refine bt js [] Tryz.func301 (?_:(fun d=>(fun f=>(fun g=>(fun e=>I64 d->(d<0->I64 15->I64 0->15=e.snd.code/\0=e.snd.n/\bE f e.fst (bq c c (b=b)))/\(0<=d->(0<=d/\d<(↑h.length:Int))/\(I64 g.code->I64 g.n->g.code=e.snd.code/\g.n=e.snd.n/\bE (gK b f d.toNat).fst e.fst (bq c c (b=b))))) (bB (gK b) c f)) (gK b f d.toNat).snd) (State.mk v j m o p op h)) (ao Snap.id c.id h));(repeat' with_reducible first|apply bh|refine bg ?_|intro)
 all_goals (first | exact br | exact dX ab | (rw [sdY] <;> first | rfl | omega) | (rw [sdN] <;> first | rfl | omega))
def VV:bM:=(aP 301 wD (aP 301 AU (aP 301 wi (aP 301 tT (aP 303 Pr VN)))))
def Av:aB Tryz.prog (al tyT) VV:=(ag Jg (ag Nb (ag Iq (ag Dp (ag aaF js)))))
def fR (s:State) (c:Command):Int:=if eG s s.version=0 then bL c s.version else 1
def KM (s:State) (c:Command):State × Reply:=
 if c.kind=11 then bB (tL c) c s
 else if c.kind=10 then bB (gK false) c s
 else if c.kind=9 then bB (gK true) c s
 else if c.kind=7 then bB fW c s
 else if c.kind=5 then bB eB c s
 else if c.kind=12 then pj c s
 else if c.kind=6 then rG c s
 else if c.kind=4 then fh s c
 else if c.kind=3 then eP s c
 else if c.kind=2 then fg s c
 else (s,⟨1,0⟩)
def fo (s:State) (c:Command):State × Reply:=if ¬ fR s c=0 then (s,⟨fR s c,0⟩) else KM s c
theorem xL {α:Type} {d:α->Int} {c:Int}:∀ {l:List α} {a:Int},aD d c a l=true->l=[]\/a+(l.length:Int)<=c
 | [],_,_=>.inl rfl
 | x :: l,a,h=>by
  simp only [aD,Bool.and_eq_true] at h;have e:=JO h.1;rcases xL h.2 with h2 | h2
  ·grind
  grind
theorem gU {s:State} {v:Int} (h:eG s v=0):cm v 1 3=true/\kO s v=true/\AY s=true/\xd s=true/\gj s v=true:=by
 unfold eG at h;grind
theorem ZT {s:State} {v:Int} (h:eG s v=0):s.opens.length<=8:=by
 have c:=(gU h).2.2.2.1;simp only [xd,Bool.and_eq_true] at c;rcases xL c.1 with h2 | h2
 ·grind
 omega
theorem abQ {s:State} {v:Int} (h:eG s v=0):s.sess.length<=8:=by
 have c:=(gU h).2.2.1;simp only [AY,Bool.and_eq_true] at c;rcases xL c.1 with h2 | h2
 ·grind
 omega
theorem KL {s:State} {v:Int} (h:eG s v=0):s.snaps.length<=16/\aD Snap.id (s.next - 1) 0 s.snaps=true/\∀ x ∈ s.snaps,dE v (wQ v) x=true:=by
 have c:=(gU h).2.2.2.2;simp only [gj] at c;grind
variable {t:Int}
def aba {v:Int} (h:dE v t x=true):cE x.chunks=true:=by
 simp only [dE,Bool.and_eq_true,decide_eq_true_eq] at h;cases c:cE x.chunks with
 | true=>rfl
 | false=>have:=sQ (l:=x.chunks) c; omega
theorem PW:∀ {l:List Snap},(∀ x ∈ l,cE x.chunks=true)->nch l<=8*l.length
 | [],_=>Nat.le_refl _
 | x :: l,h=>by
  have d:=PW (l:=l) fun y c=>h y (ab9 _ c);have f:=(Gs (h x (acW))).2;have e:nch (x :: l)=x.chunks.length+nch l:=by simp [nch]
  grind
def Rr {s:State} {v:Int} (h:eG s v=0):nch s.snaps<=128:=by
 have c:=KL h;have:=PW (l:=s.snaps) fun x d=>aba (c.2.2 x d);omega
def Zj {s:State} {v:Int} (h:eG s v=0):1<=s.next/\s.next<=1048576:=by
 have c:=(gU h).2.1;simp only [kO,Bool.and_eq_true] at c;exact JO c.1.1.2
theorem DW {s:State} {c:Command} (h:(if eG s s.version=0 then bL c s.version else 1)=0):eG s s.version=0:=by grind
def abn {s:State} {c:Command} (h:(if eG s s.version=0 then bL c s.version else 1)=0):nch s.snaps<=1048576:=by have:=Rr (DW h); omega
def ae3 {s:State} {c:Command} (h:(if eG s s.version=0 then bL c s.version else 1)=0):s.opens.length<1048576:=by have:=ZT (DW h); omega
def Wx {s:State} {c:Command} (h:(if eG s s.version=0 then bL c s.version else 1)=0):s.sess.length<1048576:=by have:=abQ (DW h); omega
def afd {s:State} {c:Command} (h:(if eG s s.version=0 then bL c s.version else 1)=0):s.snaps.length<1048576:=by have:=(KL (DW h)).1; omega
def ac5 {s:State} {c:Command} (h:(if eG s s.version=0 then bL c s.version else 1)=0):0<=s.next:=by have:=Zj (DW h); omega
def aev {s:State} {c:Command} (h:(if eG s s.version=0 then bL c s.version else 1)=0):fo s c=KM s c:=by
 have h:fR s c=0:=h;rw [fo,h]; rfl
def agv {s:State} {c:Command} (h:¬ (if eG s s.version=0 then bL c s.version else 1)=0):fo s c=(s,⟨(if eG s s.version=0 then bL c s.version else 1),0⟩):=by
 have h:¬ fR s c=0:=h;rw [fo,if_pos h]; rfl
def Ln:Kn:=aN (ae (kT (.nm .state)) (ae (kT (.nm .command)) aq)) ax fun (st,c,_) _=>⟨[],[.agg ([.int (((fo st c).1.version)),.int (((fo st c).1.next)),.int (((fo st c).1.keep)),.int (((fo st c).1.quota)),.own 0,.own 1,.own 2]),.agg (cellsOf (.nm .reply) ((fo st c).2))],some ([.row 137 (.nm .sess) (((fo st c).1.sess)),.row 139 (.nm .opn) (((fo st c).1.opens)),.row 172 (.nm .snap) (((fo st c).1.snaps))]),true⟩
def abj:CK 281 Ln:=ah fun (st,c,_) _ _=>by
 refine dw Av [] Tryz.func281 (?_:(fun y=>(fun G=>(fun H=>(fun u=>(fun I=>(fun v=>(fun j=>(fun m=>(fun o=>(fun s=>(fun z=>(fun A=>(fun B=>(fun C=>(fun D=>(fun F=>(fun K=>(fun w=>(fun d=>(fun J=>(fun p=>(fun q=>(fun r=>(fun e=>(fun f=>(fun g=>(fun h=>(fun L=>eN st (bC c (I64 y->I64 st.next->I64 st.keep->I64 st.quota->I64 K->(¬K=u->I64 K->I64 u->y=h/\st.next=e/\st.keep=f/\st.quota=g/\K=d/\L)/\(K=u->(s=11->I64 C.snd.code->I64 C.snd.n->C.fst.version=h/\C.fst.next=e/\C.fst.keep=f/\C.fst.quota=g/\C.snd.code=d/\C.snd.n=w.n/\C.fst.sess=p/\C.fst.opens=r/\C.fst.snaps=q)/\(¬s=11->(s=10->I64 F.snd.code->I64 F.snd.n->F.fst.version=h/\F.fst.next=e/\F.fst.keep=f/\F.fst.quota=g/\F.snd.code=d/\F.snd.n=w.n/\F.fst.sess=p/\F.fst.opens=r/\F.fst.snaps=q)/\(¬s=10->(s=9->I64 D.snd.code->I64 D.snd.n->D.fst.version=h/\D.fst.next=e/\D.fst.keep=f/\D.fst.quota=g/\D.snd.code=d/\D.snd.n=w.n/\D.fst.sess=p/\D.fst.opens=r/\D.fst.snaps=q)/\(¬s=9->(s=7->I64 B.snd.code->I64 B.snd.n->B.fst.version=h/\B.fst.next=e/\B.fst.keep=f/\B.fst.quota=g/\B.snd.code=d/\B.snd.n=w.n/\B.fst.sess=p/\B.fst.opens=r/\B.fst.snaps=q)/\(¬s=7->(s=5->H/\(I64 A.snd.code->I64 A.snd.n->A.fst.version=h/\A.fst.next=e/\A.fst.keep=f/\A.fst.quota=g/\A.snd.code=d/\A.snd.n=w.n/\A.fst.sess=p/\A.fst.opens=r/\A.fst.snaps=q))/\(¬s=5->(s=12->H/\(I64 j.snd.code->I64 j.snd.n->j.fst.version=h/\j.fst.next=e/\j.fst.keep=f/\j.fst.quota=g/\j.snd.code=d/\j.snd.n=w.n/\j.fst.sess=p/\j.fst.opens=r/\j.fst.snaps=q))/\(¬s=12->(s=6->I64 G.code->I64 G.n->v.version=h/\v.next=e/\v.keep=f/\v.quota=g/\G.code=d/\G.n=w.n/\v.sess=p/\v.opens=r/\v.snaps=q)/\(¬s=6->(s=4->I/\(I64 o.snd.code->I64 o.snd.n->o.fst.version=h/\o.fst.next=e/\o.fst.keep=f/\o.fst.quota=g/\o.snd.code=d/\o.snd.n=w.n/\o.fst.sess=p/\o.fst.opens=r/\o.fst.snaps=q))/\(¬s=4->(s=3->H/\st.snaps.length<1048576/\I/\u<=st.next/\(I64 z.snd.code->I64 z.snd.n->z.fst.version=h/\z.fst.next=e/\z.fst.keep=f/\z.fst.quota=g/\z.snd.code=d/\z.snd.n=w.n/\z.fst.sess=p/\z.fst.opens=r/\z.fst.snaps=q))/\(¬s=3->(s=2->I/\(I64 m.snd.code->I64 m.snd.n->m.fst.version=h/\m.fst.next=e/\m.fst.keep=f/\m.fst.quota=g/\m.snd.code=d/\m.snd.n=w.n/\m.fst.sess=p/\m.fst.opens=r/\m.fst.snaps=q))/\(¬s=2->I64 1->I64 u->y=h/\st.next=e/\st.keep=f/\st.quota=g/\1=d/\L)))))))))))))) (u=w.n/\st.sess=p/\st.opens=r/\st.snaps=q)) J.version) J.quota) J.keep) J.next) J.opens) J.snaps) J.sess) (fo st c).fst) w.code) (fo st c).snd) (if eG st y=u then bL c y else 1)) (bB (gK false) c st)) (bB (gK true) c st)) (bB (tL c) c st)) (bB fW c st)) (bB eB c st)) (eP st c)) c.kind) (fh st c)) (fg st c)) (pj c st)) (rG c st).fst) (st.opens.length<1048576)) (0:Int)) (nch st.snaps<=1048576)) (rG c st).snd) st.version)
 (repeat' with_reducible first|apply bh|refine bg ?_|intro)
 all_goals (first | exact br | exact (abn ab) | exact (ae3 ab) | exact (Wx ab) | exact (afd ab) | exact (ac5 ab) | (rw [agv ab]; done) | (rw [aev ab]; simp only [KM, *]; done) | (rw [aev ab]; simp [KM, *]; done))
def VU:bM:=(aP 281 Ln VV)
def BW:aB Tryz.prog (al tyT) VU:=(ag abj Av)
def cK (s:State) (c:Command):State × Reply:=
 if ao Sess.client c.client s.sess<0 then (s,⟨11,0⟩)
 else if c.seq=(s.sess.getD (ao Sess.client c.client s.sess).toNat (ak (.nm .sess))).seq then (s,(s.sess.getD (ao Sess.client c.client s.sess).toNat (ak (.nm .sess))).last)
 else if c.seq<(s.sess.getD (ao Sess.client c.client s.sess).toNat (ak (.nm .sess))).seq then (s,⟨13,0⟩)
 else if (s.sess.getD (ao Sess.client c.client s.sess).toNat (ak (.nm .sess))).seq+1<c.seq then (s,⟨14,0⟩)
 else ({ (fo s c).1 with sess:=(fo s c).1.sess.set (ao Sess.client c.client s.sess).toNat { (fo s c).1.sess.getD (ao Sess.client c.client s.sess).toNat (ak (.nm .sess)) with seq:=c.seq,last:=(fo s c).2 } },(fo s c).2)
def re (s:State) (c:Command):State × Reply:=
 if ¬ fR s c=0 then (s,⟨fR s c,0⟩)
 else if c.kind=8 then (if ¬ c.n=s.version+1 then (s,⟨1,0⟩) else ({ s with version:=c.n },⟨0,c.n⟩))
 else if c.kind=1 then (if 0<=ao Sess.client c.client s.sess then (s,⟨12,0⟩) else ({ s with sess:=AT s.sess (s.sess.takeWhile fun y=>decide (y.client<c.client)).length ⟨c.client,0,⟨0,0⟩⟩ },⟨0,0⟩))
 else cK s c
variable {Q:State × Reply->Prop}
def To {s:State} {c:Command} (g:∀ e:Int,¬ e=0->Q (s,⟨e,0⟩))
  (d:∀ f:State->Nat->State × Reply,fR s c=0->(f=tL c\/(∃ b,f=gK b)\/f=fW\/f=eB)->Q (bB f c s))
  (j:fR s c=0->Q (pj c s)) (m:fR s c=0->Q (rG c s)) (o:fR s c=0->Q (fh s c)) (p:fR s c=0->Q (eP s c)) (q:fR s c=0->Q (fg s c)):Q (fo s c):=by
 unfold fo;split
 ·exact g _ ap
 rename_i h;have h:fR s c=0:=adJ.1 h;unfold KM;split
 ·exact d _ h (.inl rfl)
 split
 ·exact d _ h (.inr (.inl ⟨_,rfl⟩))
 split
 ·exact d _ h (.inr (.inl ⟨_,rfl⟩))
 split
 ·exact d _ h (.inr (.inr (.inl rfl)))
 split
 ·exact d _ h (.inr (.inr (.inr rfl)))
 split
 ·exact j h
 split
 ·exact m h
 split
 ·exact o h
 split
 ·exact p h
 split
 ·exact q h
 exact g 1 am
theorem HW {f:State->Nat->State × Reply} {s:State} {c:Command} (d:∀ e:Int,¬ e=0->Q (s,⟨e,0⟩)) (h:∀ n:Nat,(n:Int)=ao Snap.id c.id s.snaps->Q (f s n)):Q (bB f c s):=by
 unfold bB;grind
def HL {s:State} {c:Command}:(fo s c).1.sess=s.sess:=by
 refine To (Q:=fun r=>r.1.sess=s.sess) (fun _ _=>rfl) (fun f _ d=>?_) (fun _=>rfl) (fun _=>rfl) (fun _=>?_) (fun _=>?_) (fun _=>?_)
 ·refine HW (Q:=fun r=>r.1.sess=s.sess) (fun _ _=>rfl) fun n _=>?_;rcases d with rfl | ⟨b,rfl⟩ | rfl | rfl
  ·rfl
  ·unfold gK; split <;> rfl
  ·rfl
  unfold eB; split; rfl; split <;> rfl
 ·unfold fh; split <;> rfl
 ·unfold eP; split; rfl; split; rfl; split <;> rfl
 unfold fg; split <;> rfl
theorem zd {l:List Sess} {q:Int} {R:Reply} (h:k<l.length):(l.set k (Sess.mk (l.getD k (ak (.nm .sess))).client q (l.getD k (ak (.nm .sess))).last)).set k (Sess.mk ((l.set k (Sess.mk (l.getD k (ak (.nm .sess))).client q (l.getD k (ak (.nm .sess))).last)).getD k (ak (.nm .sess))).client ((l.set k (Sess.mk (l.getD k (ak (.nm .sess))).client q (l.getD k (ak (.nm .sess))).last)).getD k (ak (.nm .sess))).seq R)=l.set k { l.getD k (ak (.nm .sess)) with seq:=q,last:=R }:=by simp_all
section
variable {v nx kp qt:Int} {se:List Sess} {op:List Opn} {sn:List Snap} {c:Command}
def as1 (h:ao Sess.client c.client se<0):cK (State.mk v nx kp qt se op sn) c=(State.mk v nx kp qt se op sn,⟨11,0⟩):=by
 simp only [cK,if_pos h]
def as2 (h:0<=ao Sess.client c.client se) (e:c.seq=(se.getD (ao Sess.client c.client se).toNat (ak (.nm .sess))).seq):cK (State.mk v nx kp qt se op sn) c=(State.mk v nx kp qt se op sn,(se.getD (ao Sess.client c.client se).toNat (ak (.nm .sess))).last):=by
 have d:¬ ao Sess.client c.client se<0:=by omega
 simp only [cK,if_neg d,if_pos e]
def as3 (h:0<=ao Sess.client c.client se) (e:¬ c.seq=(se.getD (ao Sess.client c.client se).toNat (ak (.nm .sess))).seq) (l:c.seq<(se.getD (ao Sess.client c.client se).toNat (ak (.nm .sess))).seq):cK (State.mk v nx kp qt se op sn) c=(State.mk v nx kp qt se op sn,⟨13,0⟩):=by
 have d:¬ ao Sess.client c.client se<0:=by omega
 simp only [cK,if_neg d,if_neg e,if_pos l]
def as4 (h:0<=ao Sess.client c.client se) (e:¬ c.seq=(se.getD (ao Sess.client c.client se).toNat (ak (.nm .sess))).seq) (l:(se.getD (ao Sess.client c.client se).toNat (ak (.nm .sess))).seq<=c.seq) (g:(se.getD (ao Sess.client c.client se).toNat (ak (.nm .sess))).seq+1<c.seq):cK (State.mk v nx kp qt se op sn) c=(State.mk v nx kp qt se op sn,⟨14,0⟩):=by
 have d:¬ ao Sess.client c.client se<0:=by omega
 have f:¬ c.seq<(se.getD (ao Sess.client c.client se).toNat (ak (.nm .sess))).seq:=by omega
 simp only [cK,if_neg d,if_neg e,if_neg f,if_pos g]
def as5 (h:0<=ao Sess.client c.client se) (e:¬ c.seq=(se.getD (ao Sess.client c.client se).toNat (ak (.nm .sess))).seq) (l:(se.getD (ao Sess.client c.client se).toNat (ak (.nm .sess))).seq<=c.seq) (g:c.seq<=(se.getD (ao Sess.client c.client se).toNat (ak (.nm .sess))).seq+1):cK (State.mk v nx kp qt se op sn) c=({ (fo (State.mk v nx kp qt se op sn) c).1 with sess:=(fo (State.mk v nx kp qt se op sn) c).1.sess.set (ao Sess.client c.client se).toNat { (fo (State.mk v nx kp qt se op sn) c).1.sess.getD (ao Sess.client c.client se).toNat (ak (.nm .sess)) with seq:=c.seq,last:=(fo (State.mk v nx kp qt se op sn) c).2 } },(fo (State.mk v nx kp qt se op sn) c).2):=by
 have d:¬ ao Sess.client c.client se<0:=by omega
 have f:¬ c.seq<(se.getD (ao Sess.client c.client se).toNat (ak (.nm .sess))).seq:=by omega
 have j:¬ (se.getD (ao Sess.client c.client se).toNat (ak (.nm .sess))).seq+1<c.seq:=by omega
 simp only [cK,if_neg d,if_neg e,if_neg f,if_neg j]
def LW (h:0<=ao Sess.client c.client se):ao Sess.client c.client se<((fo (State.mk v nx kp qt se op sn) c).1.sess.length:Int):=by rw [HL]; exact dX h
def y_ (h:0<=ao Sess.client c.client se):(ao Sess.client c.client se).toNat<(fo (State.mk v nx kp qt se op sn) c).1.sess.length:=by have:=LW (v:=v) (nx:=nx) (kp:=kp) (qt:=qt) (op:=op) (sn:=sn) h; omega
def afn {x:Sess} (h:0<=ao Sess.client c.client se):ao Sess.client c.client se<(((fo (State.mk v nx kp qt se op sn) c).1.sess.set (ao Sess.client c.client se).toNat x).length:Int):=by rw [afx]; exact LW h
def ajw (h:fR (State.mk v nx kp qt se op sn) c=0) (g:0<=ao Sess.client c.client se):I64 ((se.getD (ao Sess.client c.client se).toNat (ak (.nm .sess))).seq+1):=by
 have e:=(gU (DW h)).2.2.1;simp only [AY,Bool.and_eq_true,List.all_eq_true] at e;have f:=e.2 _ (afu (gd (d:=ak (.nm .sess)) (k:=(ao Sess.client c.client se).toNat) (l:=se) (by have:=dX g; omega)));simp only [ei,Bool.and_eq_true] at f;have j:=JO f.1.1;constructor <;> omega
end
def zk:Kn:=aN (ae (kG (aA cI (aA cI (aA cI (aA cI (aA (fb 0) (aA (fb 1) (aA (fb 2) dy)))))))) (ae (kT (.nm .command)) aq)) (aE (e_ 137 (.nm .sess)) (aE (e_ 139 (.nm .opn)) (aE (e_ 172 (.nm .snap)) ax))) fun ((v,d,e,f,_,_,_,_),c,_) (g,op,h,_)=>⟨[fR (State.mk v d e f g op h) c=0],[.agg ([.int (((cK (State.mk v d e f g op h) c).1.version)),.int (((cK (State.mk v d e f g op h) c).1.next)),.int (((cK (State.mk v d e f g op h) c).1.keep)),.int (((cK (State.mk v d e f g op h) c).1.quota)),.own 0,.own 1,.own 2]),.agg (cellsOf (.nm .reply) ((cK (State.mk v d e f g op h) c).2))],some ([.row 137 (.nm .sess) (((cK (State.mk v d e f g op h) c).1.sess)),.row 139 (.nm .opn) (((cK (State.mk v d e f g op h) c).1.opens)),.row 172 (.nm .snap) (((cK (State.mk v d e f g op h) c).1.snaps))]),false⟩
theorem Pq:CK 264 zk:=ah fun ((v,F,G,H,_,_,_,_),c,_) (z,op,J,_) K=>by
 have L:=cd K;refine bt BW [] Tryz.func264 (?_:(fun u=>(fun j=>(fun A=>(fun h=>(fun w=>(fun s=>(fun I=>(fun D=>(fun g=>(fun e=>(fun d=>(fun m=>(fun B=>(fun f=>(fun o=>(fun p=>(fun q=>(fun r=>(fun C=>(fun y=>I64 v->I64 F->I64 G->I64 H->bC c (I64 h->(h<j->I64 11->I64 j->r/\p/\o/\q/\11=e.code/\y)/\(j<=h->j<=h/\h<(↑z.length:Int)/\iG s ((u=s.seq->r/\p/\o/\q/\s.last.code=e.code/\s.last.n=e.n/\C)/\(¬u=s.seq->(u<s.seq->I64 13->I64 j->r/\p/\o/\q/\13=e.code/\y)/\(s.seq<=u->I64 I/\(I<u->I64 14->I64 j->r/\p/\o/\q/\14=e.code/\y)/\(u<=I->I64 d.version->I64 d.next->I64 d.keep->I64 d.quota->I64 g.code->I64 g.n->(j<=h/\h<(↑d.sess.length:Int))/\iG m (j<=h/\h<(↑B.length:Int))/\iG m (iG (B.getD w A) (d.version=f.version/\d.next=f.next/\d.keep=f.keep/\d.quota=f.quota/\g.code=e.code/\g.n=e.n/\B.set w (Sess.mk (B.getD w A).client (B.getD w A).seq g)=f.sess/\d.opens=f.opens/\d.snaps=f.snaps))))))))) (j=e.n/\C)) (z=f.sess/\op=f.opens/\J=f.snaps)) (v=f.version)) (H=f.quota)) (F=f.next)) (G=f.keep)) (cK D c).fst) (d.sess.set w (Sess.mk m.client u m.last))) (d.sess.getD w A)) (fo D c).fst) (cK D c).snd) (fo D c).snd) (State.mk v F G H z op J)) (s.seq+1)) (z.getD w A)) h.toNat) (ao Sess.client c.client z)) (ak (Sh.nm NT.sess))) (0:Int)) c.seq);(repeat' with_reducible first|apply bh|refine bg ?_|intro)
 all_goals (first | exact br | exact dX ab | exact LW ab | exact afn ab | exact ajw ab ab | (rw [as1] <;> first | rfl | with_reducible assumption | exact zd (y_ ab)) | (rw [as2] <;> first | rfl | with_reducible assumption | exact zd (y_ ab)) | (rw [as3] <;> first | rfl | with_reducible assumption | exact zd (y_ ab)) | (rw [as4] <;> first | rfl | with_reducible assumption | exact zd (y_ ab)) | (rw [as5] <;> first | rfl | with_reducible assumption | exact zd (y_ ab)))
def VX:bM:=(aP 264 zk VU)
def Bf:aB Tryz.prog (al tyT) VX:=(ag Pq BW)
section
variable {s:State} {c:Command}
def agl (h:(if eG s s.version=0 then bL c s.version else 1)=0):fR s c=0:=h
def agD (h:(if eG s s.version=0 then bL c s.version else 1)=0):I64 (s.version+1):=by
 have d:=(gU (DW h)).2.1;simp only [kO,Bool.and_eq_true] at d;have:=JO d.1.1.1;constructor <;> omega
def doE (h:¬ (if eG s s.version=0 then bL c s.version else 1)=0):re s c=(s,⟨(if eG s s.version=0 then bL c s.version else 1),0⟩):=by
 have h:¬ fR s c=0:=h;rw [re,if_pos h]; rfl
def doM (h:(if eG s s.version=0 then bL c s.version else 1)=0):re s c=if c.kind=8 then (if ¬ c.n=s.version+1 then (s,⟨1,0⟩) else ({ s with version:=c.n },⟨0,c.n⟩))
 else if c.kind=1 then (if 0<=ao Sess.client c.client s.sess then (s,⟨12,0⟩) else ({ s with sess:=AT s.sess (s.sess.takeWhile fun y=>decide (y.client<c.client)).length ⟨c.client,0,⟨0,0⟩⟩ },⟨0,0⟩))
 else cK s c:=by
 have h:¬ ¬ fR s c=0:=fun k=>k h;rw [re,if_neg h]
def aiw (h:(if eG s s.version=0 then bL c s.version else 1)=0) (k:c.kind=8) (n:¬ c.n=s.version+1):re s c=(s,⟨1,0⟩):=by rw [doM h,if_pos k,if_pos n]
def aiC (h:(if eG s s.version=0 then bL c s.version else 1)=0) (k:c.kind=8) (n:c.n=s.version+1):re s c=({ s with version:=c.n },⟨0,c.n⟩):=by rw [doM h,if_pos k,if_neg (fun h=>h n)]
def ajD (h:(if eG s s.version=0 then bL c s.version else 1)=0) (k:c.kind=1) (n:0<=ao Sess.client c.client s.sess):re s c=(s,⟨12,0⟩):=by rw [doM h,if_neg aL,if_pos k,if_pos n]
def ajq (h:(if eG s s.version=0 then bL c s.version else 1)=0) (k:c.kind=1) (n:ao Sess.client c.client s.sess<0):re s c=({ s with sess:=AT s.sess (s.sess.takeWhile fun y=>decide (y.client<c.client)).length ⟨c.client,0,⟨0,0⟩⟩ },⟨0,0⟩):=by rw [doM h,if_neg aL,if_pos k,if_neg aL]
def doX (h:(if eG s s.version=0 then bL c s.version else 1)=0) (k:¬ c.kind=8) (n:¬ c.kind=1):re s c=cK s c:=by rw [doM h,if_neg k,if_neg n]
variable {l:List Sess}
theorem pd {x:Sess} (d:k<=l.length) (e:(l.take k).all (fun y=>decide (y.client<c.client))=true) (f:(l.length:Int)<=k\/c.client<=(l.getD k (ak (.nm .sess))).client):l.take k++[x]++l.drop k=AT l (l.takeWhile fun y=>decide (y.client<c.client)).length x:=by
 have:k=(l.takeWhile fun y=>decide (y.client<c.client)).length:=by
  refine NU e d ?_;grind
 rw [<- this]; simp [AT]
def adH (e:(l.take k).all (fun y=>decide (y.client<c.client))=true) (h:(k:Int)<l.length) (f:(l.getD k (ak (.nm .sess))).client<c.client):(l.take (k+1)).all (fun y=>decide (y.client<c.client))=true:=by
 rw [ai (gd (d:=ak (.nm .sess)) h),List.all_append,e]; simp only [List.all_cons,decide_eq_true f]; rfl
end
def ail (st:State) (c:Command):List (Nat × LI):=[(15,{ σ:=Nat,F:=fun k=>([(2,one (.ptr 0 0)),(3,one (.ptr 1 0)),(4,one (.ptr 2 0)),(5,one (.ptr 3 0)),(7,one (.int k))],[.box 46 ([.int ((st.version)),.int ((st.next)),.int ((st.keep)),.int ((st.quota)),.own 4,.own 5,.own 6]),.box 35 (cellsOf (.nm .command) (c)),.box 46 ([.int ((0)),.int ((0)),.int ((0)),.int ((0)),.em true,.em true,.em true]),.box 78 ([.int ((0)),.int ((0))]),.row 137 (.nm .sess) ((st.sess)),.row 139 (.nm .opn) ((st.opens)),.row 172 (.nm .snap) ((st.snaps))]),J:=fun k=>k<=st.sess.length/\(st.sess.take k).all (fun y=>decide (y.client<c.client))=true,μ:=fun k=>st.sess.length - k })]
def Xw:Kn:=aN (ae (kT (.nm .state)) (ae (kT (.nm .command)) aq)) ax fun (st,c,_) _=>⟨[],[.agg ([.int (((re st c).1.version)),.int (((re st c).1.next)),.int (((re st c).1.keep)),.int (((re st c).1.quota)),.own 0,.own 1,.own 2]),.agg (cellsOf (.nm .reply) ((re st c).2))],some ([.row 137 (.nm .sess) (((re st c).1.sess)),.row 139 (.nm .opn) (((re st c).1.opens)),.row 172 (.nm .snap) (((re st c).1.snaps))]),true⟩
theorem aex:CK 227 Xw:=ah fun (st,c,_) _ _=>by
 refine dw Bf (ail st c) Tryz.func227 (?_:(fun (H:List Opn)=>(fun (z:Int)=>(fun (A:Int)=>(fun (B:Reply)=>(fun (C:Int)=>(fun (U:den (Sh.nm NT.sess))=>(fun (G:Int)=>(fun (v:Int)=>(fun (w:Reply)=>(fun (o:State)=>(fun (D:Int)=>(fun (O:Int)=>(fun (P:Int)=>(fun (f:List Sess)=>(fun (I:Int)=>(fun (h:Int)=>(fun (d:Int)=>(fun (j:Prop)=>(fun (p:Int)=>(fun (T:Prop)=>(fun (g:State)=>(fun (K:Prop)=>(fun (F:Prop)=>(fun (q:Prop)=>(fun (r:Prop)=>(fun (u:Prop)=>(fun (L:Prop)=>(fun (J:Prop)=>eN st (bC c (I64 D->I64 z->I64 A->I64 C->I64 p->(¬p=d->I64 p->I64 d->F/\r/\q/\u/\p=w.code/\J)/\(p=d->(c.kind=8->I64 (D+v)/\(¬c.n=D+v->I64 v->I64 d->F/\r/\q/\u/\v=w.code/\J)/\(c.n=D+v->c.n=g.version/\r/\q/\u/\d=w.code/\c.n=w.n/\L))/\(¬c.kind=8->(c.kind=v->I64 I->(d<=I->I64 12->I64 d->F/\r/\q/\u/\12=w.code/\J)/\(I<d->∃ (S:Nat),(d=(↑S:Int)/\T)/\(S<=f.length/\((List.take S f).all fun (y:Sess)=>decide (y.client<G))=true)/\∀ (s:Nat),(fun (e:Int)=>(fun (m:den (Sh.nm NT.sess))=>s<=f.length/\((List.take s f).all fun (y:Sess)=>decide (y.client<G))=true->(e<h->d<=e/\e<h)/\((e<h->I64 m.client/\I64 m.seq/\I64 m.last.code/\I64 m.last.n)->(e<h/\m.client<G->I64 (e+v)/\∃ (N:Nat),(e+v=(↑N:Int)/\T)/\(N <= f.length/\((List.take N f).all fun (y:Sess)=>decide (y.client<G))=true)/\f.length - N < f.length - s)/\(h<=e\/G<=m.client->(d<=e/\e<=h)/\f.length<1048576/\[Sess.mk G d (Reply.mk d d)].length=1/\F/\r/\q/\u/\d=w.code/\d=w.n/\List.take s f++[Sess.mk G d (Reply.mk d d)]++List.drop s f=g.sess/\K))) (f.getD s U)) (↑s:Int)))/\(¬c.kind=v->fR st c=d/\(I64 o.version->I64 o.next->I64 o.keep->I64 o.quota->I64 B.code->I64 B.n->o.version=g.version/\o.next=g.next/\o.keep=g.keep/\o.quota=g.quota/\B.code=w.code/\B.n=w.n/\o.sess=g.sess/\o.opens=g.opens/\o.snaps=g.snaps))))))) (d=w.n/\L)) (f=g.sess/\K)) (C=g.quota)) (z=g.next)) (A=g.keep)) (D=g.version)) (H=g.opens/\st.snaps=g.snaps)) (re st c).fst) (D=D/\z=z/\A=A/\C=C/\bq c c (j/\j/\j/\j/\j/\j/\f=f/\H=H/\st.snaps=st.snaps))) (if P=d then O else v)) (d=d)) 0) (↑f.length:Int)) (ao Sess.client G f)) st.sess) (eG st D)) (bL c D)) st.version) (cK st c).fst) (re st c).snd) 1) c.client) (ak (Sh.nm NT.sess))) st.quota) (cK st c).snd) st.keep) st.next) st.opens);iterate 3 ((all_goals (repeat' with_reducible first|apply bh|refine bg ?_|intro)); (all_goals try (first | exact br | exact rfl | exact agl ab | exact agD ab | exact Wx ab | exact adH ab ab ab | (rw [doE] <;> first | rfl | with_reducible assumption | exact pd aL ab ap) | (rw [aiw] <;> first | rfl | with_reducible assumption | exact pd aL ab ap) | (rw [aiC] <;> first | rfl | with_reducible assumption | exact pd aL ab ap) | (rw [ajD] <;> first | rfl | with_reducible assumption | exact pd aL ab ap) | (rw [ajq] <;> first | rfl | with_reducible assumption | exact pd aL ab ap) | (rw [doX] <;> first | rfl | with_reducible assumption | exact pd aL ab ap))); all_goals try first | refine ⟨‹Nat› + 1,?_⟩ | refine ⟨0,?_⟩)
def Xz:bM:=(aP 227 Xw VX)
def Pg:aB Tryz.prog (al tyT) Xz:=(ag aex Bf)
def XO:bM:=Xz
def Oq:aB Tryz.prog (al tyT) XO:=Pg
def Xf:bM:=XO
def OX:aB Tryz.prog (al tyT) Xf:=Oq
section
variable {s:State} {c:Command}
end
def Vz {c:Command} {v:Int} (h:bL c v=0):(1<=v/\v<=3)/\¬ cz c.kind=0/\cz c.kind<=v/\mB c=true:=by
 unfold bL at h;split at h
 ·cases h
 rename_i d;rw [Bool.or_eq_true,not_or] at d;simp only [Bool.not_eq_true',Bool.not_eq_false,decide_eq_true_eq] at d;split at h
 ·cases h
 split at h
 ·cases h
 rename_i f e;exact ⟨JO d.1,d.2,aL,by simpa using e⟩
section
variable {α:Type} {key:α->Int} {most:Int}
end
section
variable {α:Type} {key:α->Int} {most:Int}
end
section
variable {s:State} {c:Command}
end
section
variable {α:Type} {key:α->Int} {most:Int}
end
section
variable {s:State} {x:Snap} {i:Nat}
end
section
variable {s:State} {x:Snap} {i:Nat}
end
section
variable {s:State} {x:Snap} {i:Nat}
end
section
variable {s:State} {c:Command} {k:Nat}
end
section
variable {α:Type} {key:α->Int} {most:Int}
end
section
variable {s:State} {c:Command}
end
section
variable {α:Type} {key:α->Int} {x y d:α}
variable {l:List α} {k:Nat}
end
def Xm:bM:=Xf
def MP:aB Tryz.prog (al tyT) Xm:=OX
section
variable {st:State} {c:Command}
variable {i:Int} {x:Snap}
end
def XL:bM:=Xm
def MO:aB Tryz.prog (al tyT) XL:=MP
section
variable {st:State} {c:Command}
end
def WK:bM:=XL
def P_:aB Tryz.prog (al tyT) WK:=MO
section
variable {st:State} {c:Command}
end
def WE:bM:=WK
def yS:aB Tryz.prog (al tyT) WE:=P_
def vr (l:List Int):Int:=match l.findIdx? (fun x=>!bP x) with
 | some i=>(i:Int)
 | none=>-1
section
variable {l:List Int} {k:Nat} {x:Int}
def wG:vr l=ao (fun x=>if bP x=true then 0 else 1) 1 l:=by
 have e:(fun x=>!bP x)=fun x:Int=>decide ((if bP x=true then (0:Int) else 1)=1):=by
  funext x;cases bP x <;> rfl
 unfold vr ao; rw [e]; rfl
def abk (h:vr (l.take k) = -1) (d:l[k]? = some x) (c:(!bP x)=false):vr (l.take (k+1)) = -1:=by
 rw [Bool.not_eq_false'] at c;rw [wG] at h ⊢;exact oc h d (by rw [if_pos c]; decide)
def Uw (h:vr (l.take k) = -1) (d:l[k]? = some x) (c:(!bP x)=true):(k:Int)=vr l:=by
 rw [Bool.not_eq_true'] at c;rw [wG] at h ⊢;exact lL h d (by rw [c]; rfl)
def aaf (h:vr (l.take k) = -1) (c:l.length<=k):-1=vr l:=by rw [List.take_of_length_le c] at h; exact h.symm
def Tn:decide (0<=vr l) = !l.all bP:=by
 cases e:l.findIdx? (fun x=>!bP x) with
 | none=>
  have h:=List.findIdx?_eq_none_iff.1 e;have:l.all bP=true:=List.all_eq_true.2 fun x c=>by simpa using h x c
  unfold vr; rw [e,this]; rfl
 | some i=>
  obtain ⟨d,f,_⟩:=afX.1 e;have:l.all bP=false:=by
   rw [List.all_eq_false];exact ⟨l[i],afK d,by simpa using f⟩
  unfold vr; rw [e,this];show decide (0<=(i:Int))=true;rw [decide_eq_true_eq]; omega
end
def Ak:Kn:=aN (ae (kC cI) aq) ax fun (k,_) _=>⟨[],[.c (.bool (.atom ((bP k))))],none,false⟩
theorem NP:CK 86 Ak:=ah fun (k,_) _ _=>by
 refine aw yS [] Tryz.func86 (?_:I64 k->(decide (1<=k) && decide (k<=3))=bP k);grind [bP]
def Xe:bM:=(aP 86 Ak WE)
def sd:aB Tryz.prog (al tyT) Xe:=(ag NP yS)
section
variable {st:State} {v:Int}
end
def uR:Kn:=aN (ae (kC cI) (ae (kC cI) aq)) ax fun (a,b,_) _=>⟨[],[.c (.int ((b_ a b)))],none,false⟩
theorem IJ:CK 43 uR:=ah fun (a,b,_) _ _=>by
 refine aw sd [] Tryz.func43 (?_:I64 a->I64 b->(bP a=false\/bP b=false->1=b_ a b)/\(bP a=true/\bP b=true->(a<b->32=b_ a b)/\(b<=a->0=b_ a b)));grind [b_,bP]
def yM:Kn:=aN (ae (kC cI) aq) ax fun (n,_) _=>⟨[],[.c (.bool (.atom ((!bP n))))],none,false⟩
theorem Qn:CK 157 yM:=ah fun (n,_) _ _=>by
 refine aw sd [] Tryz.func157 (?_:I64 n->(!bP n) = !bP n);grind
def WN:bM:=(aP 157 yM (aP 43 uR Xe))
def rH:aB Tryz.prog (al tyT) WN:=(ag Qn (ag IJ sd))
variable {l:List Int}
def Rq {s:Nat} {x:Int} (c:l[((s:Int)+1).toNat]? = some x):min (iT l (s+1)) x=iT l (s+1+1):=Dv aL (by rwa [show ((s:Int)+1).toNat=s+1 by omega] at c)
def Vv (l:List Int):List (Nat × LI):=[(2,{ σ:=Nat,F:=fun k=>([(0,one (.fz .int (l))),(1,one (.fn 157 [] [])),(7,one (.int (l).length)),(8,one (.int k))],[]),J:=fun k=>k<=l.length/\vr (l.take k) = -1,μ:=fun k=>(l).length - k })]
def ad7 (l:List Int):List (Nat × LI):=[(5,{ σ:=Nat,F:=fun k=>([(0,one (.fz .int (l))),(3,one (.int (iT l (k+1)))),(4,one (.int (k+1)))],[]),J:=fun k=>k+1<=l.length,μ:=fun k=>l.length - k })]
def AK:Kn:=aN (ae (kC (cL .int)) (ae (kC (qK 157 [] [])) aq)) ax fun (l,_,_) _=>⟨[],[.c (.int ((vr l)))],none,false⟩
theorem Ph:CK 219 AK:=ah fun (l,_,_) _ _=>by
 refine aw rH (Vv l) Tryz.func219 (?_:(fun (d:Int)=>(fun (c:Nat)=>l.length*8<=140737488355328->∃ (f:Nat),(l=l/\(↑l.length:Int)=(↑c:Int)/\0=(↑f:Int))/\(f<=c/\vr (List.take f l) = -d)/\∀ (s:Nat),s<=c/\vr (List.take s l) = -d->((↑s:Int)<(↑c:Int)->0<=(↑s:Int)/\(↑s:Int)<(↑l.length:Int)/\∀ (x:Int),l[s]? = some x->I64 x->((!bP x)=true->(↑s:Int)=vr l)/\((!bP x)=false->I64 ((↑s:Int)+d)/\∃ (e:Nat),(l=l/\(↑c:Int)=(↑c:Int)/\(↑s:Int)+d=(↑e:Int))/\(e <= c/\vr (List.take e l) = -d)/\c - e < c - s))/\((↑c:Int)<=(↑s:Int) -> -d=vr l)) l.length) 1);iterate 3 ((all_goals (repeat' with_reducible first|apply bh|refine bg ?_|intro)); (all_goals try (first | exact br | exact rfl | exact (abk ab ab ab) | exact (Uw ab ab ab) | exact (aaf ab aL))); all_goals try first | refine ⟨‹Nat› + 1,?_⟩ | refine ⟨0,?_⟩)
def Nh:Kn:=aN (ae (kC (cL .int)) aq) ax fun (l,_) _=>⟨[0<l.length],[.c (.int ((By l)))],none,false⟩
theorem Zq:CK 159 Nh:=ah fun (l,_) _ j=>by
 have m:=cd j;refine aw rH (ad7 l) Tryz.func159 (?_:(fun d=>(fun f=>(fun c=>l.length*(8:Nat)<=(140737488355328:Nat)->(f<c->False)/\(c<=f->(0:Int)<=(0:Int)/\(0:Int)<f/\∀ (x:Int),l[(0:Nat)]? = some x->I64 x->∃ h,(l=l/\x=iT l (h+d)/\c=(↑h:Int)+c)/\h+d<=l.length/\∀ (s:Nat),(fun e=>s+d<=l.length->(e<f->(0:Int)<=e/\e<f/\∀ (x:Int),l[e.toNat]? = some x->I64 x->I64 (e+c)/\∃ g,(l=l/\min (iT l (s+d)) x=iT l (g + d)/\e+c=(↑g:Int)+c)/\g + d<=l.length/\l.length - g < l.length - s)/\(f<=e->iT l (s+d)=By l)) ((↑s:Int)+c))) (1:Int)) (↑l.length:Int)) (1:Nat));iterate 3 ((all_goals (repeat' with_reducible first|apply bh|refine bg ?_|intro)); (all_goals try (first | exact br | exact (HU ab) | exact (Rq ab) | exact (HR aL))); all_goals try first | refine ⟨‹Nat› + 1,?_⟩ | refine ⟨0,?_⟩)
def V_:bM:=(aP 159 Nh (aP 219 AK WN))
def yG:aB Tryz.prog (al tyT) V_:=(ag Zq (ag Ph rH))
def GA:Kn:=aN (ae (kC (cL .int)) (ae (kC (qK 157 [] [])) aq)) ax fun (l,_,_) _=>⟨[],[.c (.bool (.atom ((!l.all bP))))],none,false⟩
def UF:CK 158 GA:=ah fun (l,_,_) _ _=>by
 refine aw yG [] Tryz.func158 (?_:l.length*8<=140737488355328->I64 (vr l)->decide (0<=vr l) = !l.all bP);(repeat' with_reducible first|apply bh|refine bg ?_|intro)
 all_goals (first | exact br | exact (Tn))
def XE:bM:=(aP 158 GA V_)
def zr:aB Tryz.prog (al tyT) XE:=(ag UF yG)
def agd (o:(l.length:Int)=0\/(!l.all bP)=true):0=i_ l:=by
 have h:(decide (l.length=0) || !l.all bP)=true:=by
  rcases o with o | o
  ·rw [decide_eq_true aL]; rfl
  rw [o,Bool.or_true]
 unfold i_; rw [if_pos h]
def ajL (o:¬ (l.length:Int)=0) (h:(!l.all bP)=false):By l=i_ l:=by
 have h:¬ (decide (l.length=0) || !l.all bP)=true:=by
  rw [h,decide_eq_false aL]; decide
 unfold i_; rw [if_neg h]
def yP:Kn:=aN (ae (kC (cL .int)) aq) ax fun (l,_) _=>⟨[],[.c (.int ((i_ l)))],none,false⟩
def Mm:CK 92 yP:=ah fun (l,_) _ _=>by
 refine aw zr [] Tryz.func92 (?_:l.length*8<=140737488355328->((↑l.length:Int)=0\/(!l.all bP)=true->0=i_ l)/\(¬(↑l.length:Int)=0/\(!l.all bP)=false->0<l.length/\(I64 (By l)->By l=i_ l)));(repeat' with_reducible first|apply bh|refine bg ?_|intro)
 all_goals (first | exact br | exact (agd ap) | exact (ajL ab ab))
def Wa:bM:=(aP 92 yP XE)
def BJ:aB Tryz.prog (al tyT) Wa:=(ag Mm zr)
def Bs:Kn:=aN (ae (kC cI) (ae (kC (cL .int)) aq)) ax fun (v,l,_) _=>⟨[],[.c (.bool (.atom ((kU v l))))],none,false⟩
theorem OI:CK 53 Bs:=ah fun (v,l,_) _ _=>by
 refine aw BJ [] Tryz.func53 (?_:I64 v->l.length*8<=140737488355328->(1<=v/\v<3->I64 (i_ l))->(decide (1<=v) && decide (v<3) && decide (v<i_ l))=kU v l);(repeat' with_reducible first|apply bh|refine bg ?_|intro)
 all_goals (first | exact br | rfl | grind [kU])
def Xv:bM:=(aP 53 Bs Wa)
def KT:aB Tryz.prog (al tyT) Xv:=(ag OI BJ)
def Xu:bM:=Xv
def Ka:aB Tryz.prog (al tyT) Xu:=KT
section
variable {s:State} {l:List Command} {x:Command} {k:Nat}
end
section
variable {s:State} {l:List Command} {x:Command} {k:Nat} {d:Command}
end
def Wk:bM:=Xu
def Lb:aB Tryz.prog (al tyT) Wk:=Ka
def WZ:bM:=Wk
def dx:aB Tryz.prog (al tyT) WZ:=Lb
def eF (f:Field):Bool:=(decide (1<=f.num) && decide (f.num<=1000)) && (if f.wire=0 then decide (((f.b.length:Nat):Int)=0) else if f.wire=2 then decide ((f.n.n:Int)=0) else false)
def fY (a f:Field):Bool:=if f.num=a.num then (decide (f.wire=2) && decide (a.wire=2)) else decide (a.num<f.num)
def qa (num c:Int):Bool:=(decide (1<=num) && decide (num<=1000)) && (decide (c=0) || decide (c=2))
def nn (num c:Int):List UInt8:=if qa num c then cY ((8*num)+c).toNat else []
def BL (num c:Int):Int:=if qa num c then 0 else 1
def cC (f:Field):List UInt8:=if f.wire=0 then nn f.num f.wire++cY f.n.n else (nn f.num f.wire++cY f.b.length)++f.b
def okP:Option Field->Field->Bool
 | none,_=>true
 | some q,f=>fY q f
def stepT (p:Option Field) (f:Field):Int:=if eF f=false then 1 else if okP p f=false then 5 else if (16384:Int)<((f.b.length:Nat):Int) then 4 else 0
def ew:Option Field->List Field->Int
 | _,[]=>0
 | p,f :: r=>if stepT p f=0 then ew (some f) r else stepT p f
def iJ (l:List Field):Nat:=(l.map fun f=>(cC f).length).sum
def cR (l:List Field):Int:=if ew none l=0 then (if (16384:Int)<((iJ l:Nat):Int) then 4 else 0) else ew none l
def mn (l:List Field):List UInt8:=if cR l=0 then (l.map cC).flatten else []
def fq (l:List Field) (k:Nat):Option Field:=if k=0 then none else l[k - 1]?
def xR (l:List Field) (k:Nat) (x:Field):Prop:=(¬ 0<k)\/∃ y,l[k - 1]? = some y/\fY y x=true
variable {wire num:Int}
def KN (h:(num<1\/1000<num)\/(¬ wire=0/\¬ wire=2)):qa num wire=false:=by
 rw [<- Bool.not_eq_true]; unfold qa; simp only [Bool.and_eq_true,Bool.or_eq_true,decide_eq_true_eq]; omega
def Gp (h:¬ ((num<1\/1000<num)\/(¬ wire=0/\¬ wire=2))):qa num wire=true:=by
 unfold qa; simp only [Bool.and_eq_true,Bool.or_eq_true,decide_eq_true_eq]; omega
def GO (h:(num<1\/1000<num)\/(¬ wire=0/\¬ wire=2)):[]=nn num wire:=by rw [nn,KN h]; rfl
def TZ (h:(num<1\/1000<num)\/(¬ wire=0/\¬ wire=2)):1=BL num wire:=by rw [BL,KN h]; rfl
def JZ (h:¬ ((num<1\/1000<num)\/(¬ wire=0/\¬ wire=2))):cY ((8*num)+wire).toNat=nn num wire:=by rw [nn,Gp h]; rfl
def Pl (h:¬ ((num<1\/1000<num)\/(¬ wire=0/\¬ wire=2))):0=BL num wire:=by rw [BL,Gp h]; rfl
def sj (num wire:Int):(nn num wire).length<=10:=by
 unfold nn;cases h:qa num wire with
 | false=>simp
 | true=>
  unfold qa at h; simp only [Bool.and_eq_true,Bool.or_eq_true,decide_eq_true_eq] at h;exact cV aL
variable {f:Field}
def ri (d:f.b.length<=16384) (c:f.n.n<18446744073709551616):(cC f).length<=16404:=by
 have e:=sj f.num f.wire;unfold cC;split
 ·have:=cV c; rw [List.length_append]; omega
 have:=cV (n:=f.b.length) aL; rw [List.length_append,List.length_append]; omega
def RO (h:f.wire=0):nn f.num f.wire++cY f.n.n=cC f:=by rw [cC,if_pos h]
def Vc (h:¬ f.wire=0):(nn f.num f.wire++cY f.b.length)++f.b=cC f:=by rw [cC,if_neg h]
variable {x:Field} {l:List Field}
def Kw (c:l[k]? = some x):iJ (l.take k)+(cC x).length=iJ (l.take (k+1)):=by
 unfold iJ; rw [ai c,List.map_append,List.sum_append]; simp
def Fv (d:xR l k x):okP (fq l k) x=true:=by
 unfold fq;rcases d with h | ⟨y,e,g⟩
 ·rw [if_pos aL]; rfl
 by_cases c:k=0
 ·rw [if_pos c]; rfl
 rw [if_neg c,e]; exact g
def KW (c:l[k]? = some x):ew (fq l k) (l.drop k)=if stepT (fq l k) x=0 then ew (some x) (l.drop (k+1)) else stepT (fq l k) x:=by
 obtain ⟨d,e⟩:=abp.1 c;rw [afH d,e]; rfl
variable {e:Int}
def LL (d:ew none l=ew (fq l k) (l.drop k)) (g:l[k]? = some x) (h:stepT (fq l k) x=e) (c:e≠0):e=cR l:=by
 have j:ew none l=e:=by rw [d,KW g,h,if_neg c]
 rw [cR,j,if_neg c]
def abu (c:ew none l=ew (fq l k) (l.drop k)) (d:l[k]? = some x) (g:eF x=false):1=cR l:=LL c d (by rw [stepT,if_pos g]) am
def aap {y:Field} (c:ew none l=ew (fq l k) (l.drop k)) (d:l[k]? = some x) (g:eF x=true) (m:0<k) (h:l[k - 1]? = some y) (j:fY y x=false):5=cR l:=
 LL c d (by rw [stepT,if_neg (by rw [g]; decide),if_pos]; unfold fq; rw [if_neg aL,h]; exact j) am
def YM (c:ew none l=ew (fq l k) (l.drop k)) (d:l[k]? = some x) (g:eF x=true) (h:xR l k x) (j:(16384:Int)<((x.b.length:Nat):Int)):4=cR l:=
 LL c d (by rw [stepT,if_neg (by rw [g]; decide),if_neg (by rw [Fv h]; decide),if_pos j]) am
def Mz (d:ew none l=ew (fq l k) (l.drop k)) (c:l[k]? = some x) (g:eF x=true) (h:xR l k x) (j:¬ (16384:Int)<((x.b.length:Nat):Int)):ew none l=ew (fq l (k+1)) (l.drop (k+1)):=by
 rw [d,KW c,if_pos (by rw [stepT,if_neg (by rw [g]; decide),if_neg (by rw [Fv h]; decide),if_neg j])];unfold fq; rw [if_neg aL,Nat.add_sub_cancel,c]
def Gb (c:ew none l=ew (fq l k) (l.drop k)) (d:l.length<=k):ew none l=0:=by
 rw [c,afV d]; rfl
def KH (g:ew none l=ew (fq l k) (l.drop k)) (c:l.length<=k) (d:(16384:Int)<((iJ (l.take k):Nat):Int)):4=cR l:=by
 rw [List.take_of_length_le c] at d; rw [cR,if_pos (Gb g c),if_pos d]
def OM (g:ew none l=ew (fq l k) (l.drop k)) (c:l.length<=k) (d:¬ (16384:Int)<((iJ (l.take k):Nat):Int)):0=cR l:=by
 rw [List.take_of_length_le c] at d; rw [cR,if_pos (Gb g c),if_neg d]
theorem RZ (h:cR l=0):iJ l<=16384:=by
 unfold cR at h;grind
theorem Ri (h:cR l=0):ew none l=0:=by
 unfold cR at h;grind
theorem GV:∀ {l:List Field} {p:Option Field},ew p l=0->∀ x ∈ l,x.b.length<=16384
 | f :: r,p,h,x,hx=>by
  unfold ew at h;split at h
  ·rename_i c;rcases acb.1 hx with rfl | hx
   ·unfold stepT at c;grind
   exact GV h x hx
  grind
def xV (h:cR l=0) (c:x ∈ l):x.b.length<=16384:=GV (Ri h) x c
def Ij (c:l[k]? = some x):((l.take k).map cC).flatten++cC x=((l.take (k+1)).map cC).flatten:=by
 rw [ai c,List.map_append,List.flatten_append]; simp
def Ks (l:List Field):((l.map cC).flatten).length=iJ l:=by
 unfold iJ; rw [List.length_flatten,List.map_map]; rfl
def Qx:iJ (l.take k)<=iJ l:=by
 have:iJ l=iJ (l.take k)+iJ (l.drop k):=by unfold iJ; rw [<- List.sum_append,<- List.map_append,List.take_append_drop]
 omega
def Mv (h:cR l=0):((l.take k).map cC).flatten.length<=16384:=by
 have:=RZ h; have:=Qx (l:=l) (k:=k); rw [Ks]; omega
def TF (h:cR l=0) (c:l.length<=k):((l.take k).map cC).flatten=mn l:=by rw [mn,if_pos h,List.take_of_length_le c]
def YN (h:¬ cR l=0):[]=mn l:=by rw [mn,if_neg h]
theorem Lr (h:f.num<1\/1000<f.num):false=eF f:=by
 have:(decide (1<=f.num) && decide (f.num<=1000))=false:=by rw [<- Bool.not_eq_true]; simp only [Bool.and_eq_true,decide_eq_true_eq]; omega
 unfold eF; rw [this]; rfl
theorem PK (h:¬ (f.num<1\/1000<f.num)):eF f=(if f.wire=0 then decide (((f.b.length:Nat):Int)=0) else if f.wire=2 then decide ((f.n.n:Int)=0) else false):=by
 have:(decide (1<=f.num) && decide (f.num<=1000))=true:=by simp only [Bool.and_eq_true,decide_eq_true_eq]; omega
 unfold eF; rw [this]; rfl
def bQ:List Spec:=([⟨1,0,1,true,false⟩,⟨2,0,1,false,false⟩,⟨3,0,1,false,false⟩,⟨4,0,1,false,false⟩,⟨5,0,1,false,false⟩,⟨6,0,1,false,false⟩,⟨7,2,1,false,false⟩,⟨8,2,3,false,false⟩]:List Spec)
def aV (v:Int):List Spec:=if v<1\/3<v then [] else bQ.filter fun s=>decide (s.since<=v)
def cX (v:Int):Int:=(aV v).foldl (fun t s=>max t s.num) 0
variable {x:Spec}
def Oc {v:Int} (c:bQ[k]? = some x) (h:x.since<=v):(bQ.take k).filter (fun s=>decide (s.since<=v))++[x]=(bQ.take (k+1)).filter (fun s=>decide (s.since<=v)):=by
 rw [ai c,List.filter_append]; simp [h]
def Vy {v:Int} (c:bQ[k]? = some x) (h:¬ x.since<=v):(bQ.take k).filter (fun s=>decide (s.since<=v))=(bQ.take (k+1)).filter (fun s=>decide (s.since<=v)):=by
 rw [ai c,List.filter_append]; simp [h]
def Jb {v:Int} (h:v<1\/3<v):[]=aV v:=by rw [aV,if_pos h]
def KG {v:Int} (h:¬ (v<1\/3<v)) (c:bQ.length<=k):(bQ.take k).filter (fun s=>decide (s.since<=v))=aV v:=by rw [aV,if_neg h,List.take_of_length_le c]
def LR {v:Int}:((bQ.take k).filter (fun s=>decide (s.since<=v))).length<=8:=by
 have c:=List.length_filter_le (fun s:Spec=>decide (s.since<=v)) (bQ.take k);have d:(bQ.take k).length<=8:=by rw [List.length_take]; exact Nat.le_trans (Nat.min_le_right _ _) am
 omega
def OD {v:Int} (c:(aV v)[k]? = some x):max (((aV v).take k).foldl (fun t s=>max t s.num) 0) x.num=((aV v).take (k+1)).foldl (fun t s=>max t s.num) 0:=by
 rw [ai c,List.foldl_append]; rfl
def ql (num n:Int):List Field:=if n=0 then [] else [⟨num,0,⟨n.toNat⟩,[]⟩]
def Cw (num:Int) (b:List UInt8):List Field:=if 0<((b.length:Nat):Int) then [⟨num,2,⟨0⟩,b⟩] else []
def xh (c:Command):List Field:=(((((([]++ql 1 c.kind)++ql 2 c.client)++ql 3 c.seq)++ql 4 c.set)++ql 5 c.id)++ql 6 c.n)++Cw 7 (eQ c.chunks)
def dN (c:Command) (v:Int):List Field:=if 3<=v then xh c++Cw 8 c.text.b else xh c
def gH (num n:Int):(ql num n).length<=1:=by unfold ql; split <;> simp
def Dt (num:Int) (b:List UInt8):(Cw num b).length<=1:=by unfold Cw; split <;> simp
variable {xs:List Field}
def AM (h:¬ n=0):xs++[⟨num,0,⟨n.toNat⟩,[]⟩]=xs++ql num n:=by rw [ql,if_neg h]
def Aj (h:n=0):xs=xs++ql num n:=by rw [ql,if_pos h,afy]
variable {b:List UInt8}
def BM (h:0<((b.length:Nat):Int)):xs++[⟨num,2,⟨0⟩,b⟩]=xs++Cw num b:=by rw [Cw,if_pos h]
def Af (h:¬ 0<((b.length:Nat):Int)):xs=xs++Cw num b:=by rw [Cw,if_neg h,afy]
def CQ (c:Command) (v:Int):(dN c v).length<=8:=by
 have d:=gH 1 c.kind; have g:=gH 2 c.client; have h:=gH 3 c.seq; have j:=gH 4 c.set; have m:=gH 5 c.id; have o:=gH 6 c.n;have p:=Dt 7 (eQ c.chunks); have q:=Dt 8 c.text.b;unfold dN xh;split <;> simp only [List.length_append,List.length_nil] <;> omega
def dP (c:Command) (d:List Field) (v:Int):Int:=if !(cm v 1 3) then 1 else if (gz c v=false/\¬ bL c v=0) then bL c v else if d.any (fun f=>decide (f.num<=cX v)) then 6 else 0
def fy (c:Command) (d:List Field) (v:Int):Int:=if dP c d v=0 then cR (dN c v++d) else dP c d v
def gF (c:Command) (d:List Field) (v:Int):List UInt8:=if dP c d v=0 then mn (dN c v++d) else []
def CI {k:Int} (h:¬ cz k=0):1<=k/\k<=12:=Decidable.byContradiction fun c=>h (Uy c)
def aau {c:Command} {v:Int} (h:gz c v=true):0<=c.kind/\0<=c.client/\0<=c.seq/\0<=c.set/\0<=c.id/\0<=c.n:=by
 unfold gz uL cm at h;simp only [Bool.and_eq_true,decide_eq_true_eq] at h;omega
def xm {m:Int} {b:Bool} (h:nr n m b=true):0<=n:=by
 unfold nr at h; cases b <;> simp at h <;> omega
def SF {k:Int} (h:1<=k/\k<=12):0<=(vP k).1:=by
 have:k=1\/k=2\/k=3\/k=4\/k=5\/k=6\/k=7\/k=8\/k=9\/k=10\/k=11\/k=12:=by omega
 rcases this with rfl | rfl | rfl | rfl | rfl | rfl | rfl | rfl | rfl | rfl | rfl | rfl <;> decide
def NG {c:Command} {v:Int} (h:bL c v=0):(1<=v/\v<=3)/\¬ cz c.kind=0/\cz c.kind<=v/\mB c=true:=by
 unfold bL at h;split at h
 ·cases h
 rename_i d;rw [Bool.or_eq_true,not_or] at d;simp only [Bool.not_eq_true',Bool.not_eq_false,decide_eq_true_eq] at d;split at h
 ·cases h
 split at h
 ·cases h
 rename_i j g;exact ⟨JO d.1,d.2,aL,by simpa using g⟩
def Zl {c:Command} {v:Int} (h:bL c v=0):0<=c.kind/\0<=c.client/\0<=c.seq/\0<=c.set/\0<=c.id/\0<=c.n:=by
 obtain ⟨_,g,_,d⟩:=NG h;have j:=CI g;have r:=SF j;unfold mB at d;simp only [Bool.and_eq_true,decide_eq_true_eq] at d;obtain ⟨⟨⟨⟨⟨⟨⟨s,u⟩,_⟩,_⟩,m⟩,o⟩,p⟩,q⟩:=d;exact ⟨aL,xm m,xm o,xm p,xm q,aL⟩
variable {rest:List Field}
def ai8 {c:Command} {v:Int} (h:(!(cm v 1 3))=true):dP c rest v=1:=by rw [dP,if_pos h]
def ag5 {c:Command} {v:Int} (h:(!(cm v 1 3))=false) (d:gz c v=false) (g:¬ bL c v=0):dP c rest v=bL c v:=by rw [dP,h,if_neg am,if_pos ⟨d,g⟩]
def ag7 {c:Command} {v:Int} {x:Field} (h:(!(cm v 1 3))=false) (h1:gz c v=true\/bL c v=0) (g:rest[k]? = some x) (j:x.num<=cX v):dP c rest v=6:=by
 have:(rest.any fun f=>decide (f.num<=cX v))=true:=List.any_eq_true.2 ⟨x,afu g,decide_eq_true j⟩;rw [dP,h,if_neg am,if_neg (fun d=>by rcases h1 with h1 | h1; rw [h1] at d; cases d.1; exact d.2 h1),if_pos this]
def agW {c:Command} {v:Int} (h:(!(cm v 1 3))=false) (h1:gz c v=true\/bL c v=0) (d:∀ j y,j<k->rest[j]? = some y->¬ y.num<=cX v) (p:rest.length<=k):dP c rest v=0:=by
 have:(rest.any fun f=>decide (f.num<=cX v))=false:=by
  rw [List.any_eq_false];intro y m;obtain ⟨j,o,rfl⟩:=List.getElem_of_mem m;have:=d j _ aL (List.getElem?_eq_getElem o);simpa using this
 rw [dP,h,if_neg am,if_neg (fun g=>by rcases h1 with h1 | h1; rw [h1] at g; cases g.1; exact g.2 h1),this,if_neg am]
def DN {c:Command} {v:Int} (h:dP c rest v=e) (d:¬ e=0):e=fy c rest v:=by rw [fy,h,if_neg d]
def Ea {c:Command} {v:Int} (h:dP c rest v=e) (d:¬ e=0):[]=gF c rest v:=by rw [gF,h,if_neg d]
def aeM {c:Command} {v:Int} (h:dP c rest v=0):cR (dN c v++rest)=fy c rest v:=by rw [fy,if_pos h]
def ae0 {c:Command} {v:Int} (h:dP c rest v=0):mn (dN c v++rest)=gF c rest v:=by rw [gF,if_pos h]
def JM {z:Field} (h:∀ j y,j<k->rest[j]? = some y->¬ y.num<=t) (g:rest[k]? = some z) (m:¬ z.num<=t):∀ j y,j<k+1->rest[j]? = some y->¬ y.num<=t:=by
 intro j y o c;by_cases d:j=k
 ·subst d; rw [g] at c; cases c; exact m
 exact h j y aL c
def xB (n:Nat):cY n=((List.range (bd n)).map (na n)).set (bd n - 1) (na n (bd n - 1) &&& 127):=by unfold cY fw; simp
def Pu:∀ m:Fin 128,(UInt8.ofNat m.val ||| 128) &&& 127=UInt8.ofNat m.val:=by decide
def abO:∀ m:Fin 256,(UInt8.ofNat m.val ||| 128).toNat=m.val % 128+128:=by decide +kernel
variable {n:Nat}
def Dc (h:n<128):cY n=[UInt8.ofNat n]:=by
 rw [xB,jP h];have:=Pu ⟨n,h⟩;simp only [na,Nat.pow_zero,Nat.div_one,List.range_one,afP,List.map_nil,Nat.sub_self,List.set_cons_zero] at *;rw [this]
def aeo (n:Nat):(na n 0).toNat=n % 128+128:=by
 have e:UInt8.ofNat n=UInt8.ofNat (n % 256):=UInt8.toNat_inj.1 (by simp [UInt8.toNat_ofNat']);have:=abO ⟨n % 256,agr _ am⟩;simp only [na,Nat.pow_zero,Nat.div_one];rw [e,this]; simp only; omega
def Nl (h:¬ n<128):cY n=na n 0 :: cY (n / 128):=by
 have e:∀ i,na n (i+1)=na (n / 128) i:=fun i=>by unfold na; rw [Nat.pow_succ,Nat.mul_comm,<- Nat.div_div_eq_div_mul]
 have d:=jC (n / 128);obtain ⟨s,c⟩:∃ s,bd (n / 128)=s+1:=⟨bd (n / 128) - 1,aL⟩;rw [xB,xB (n / 128),mG h,c];simp only [Nat.add_sub_cancel];rw [List.range_succ_eq_map,afP,List.map_map,List.set_cons_succ,e s,show na n ∘ Nat.succ=na (n / 128) from funext e]
def bT:Nat->Nat->List UInt8->Nat × Nat × Int
 | k,_,[]=>if 10<=k then (0,0,3) else (0,0,2)
 | k,n,x :: r=>if 10<=k then (0,0,3) else if (0<k/\x.toNat=0)\/(k=9/\1<x.toNat) then (0,0,3) else if x.toNat<128 then (n+(x &&& 127).toNat*2 ^ (7*k),k+1,0) else bT (k+1) (n+(x &&& 127).toNat*2 ^ (7*k)) r
termination_by _ _ l=>l.length
def aj (b:List UInt8):Nat × Nat × Int:=bT 0 0 b
def pz (x:UInt8):(x &&& 127).toNat=x.toNat % 128:=by rw [UInt8.toNat_and]; exact Nat.and_two_pow_sub_one_eq_mod x.toNat 7
variable {x:UInt8}
def aaV (g:k<=9) (h:k=9->x.toNat<=1):(x &&& 127).toNat*2 ^ (7*k)<18446744073709551616:=by
 rw [pz];by_cases c:k=9
 ·have:=h c;subst c;have:x.toNat % 128*2 ^ (7*9)<=1*2 ^ (7*9):=afC _ aL;exact afM this am
 have d:2 ^ (7*k)<=2 ^ 56:=Nat.pow_le_pow_right am aL;have:x.toNat % 128*2 ^ (7*k)<=127*2 ^ 56:=Nat.mul_le_mul aL d;exact afM this am
variable {m:Nat}
def abS (h:n<2 ^ (7*k)):n ||| m*2 ^ (7*k)=n+m*2 ^ (7*k):=by
 have:=Nat.two_pow_add_eq_or_of_lt h m;rw [Nat.or_comm,Nat.mul_comm m,<- this,Nat.add_comm]
def UT (h:n<2 ^ (7*k)):n+(x &&& 127).toNat*2 ^ (7*k)<2 ^ (7*(k+1)):=by
 rw [pz];have e:2 ^ (7*(k+1))=128*2 ^ (7*k):=by rw [show 7*(k+1)=7*k+7 by omega,Nat.pow_add,Nat.mul_comm]
 have:x.toNat % 128*2 ^ (7*k)<=127*2 ^ (7*k):=afC _ aL;rw [e]; omega
def aaj (d:k<10) (c:b.length<=k):bT k n (b.drop k)=(0,0,2):=by
 rw [afV c,bT,if_neg aL]
def aal (c:10<=k):bT k n (b.drop k)=(0,0,3):=by
 cases h:b.drop k with
 | nil=>rw [bT,if_pos c]
 | cons x r=>rw [bT,if_pos c]
def Qv (h:k<10) (d:b[k]? = some x):bT k n (b.drop k)=if (0<k/\x.toNat=0)\/(k=9/\1<x.toNat) then (0,0,3) else if x.toNat<128 then (n+(x &&& 127).toNat*2 ^ (7*k),k+1,0) else bT (k+1) (n+(x &&& 127).toNat*2 ^ (7*k)) (b.drop (k+1)):=by
 obtain ⟨c,g⟩:=abp.1 d;rw [afH c,g,bT,if_neg aL]
def Tz (h:aj b=bT k n (b.drop k)) (c:k<10) (d:b[k]? = some x) (g:¬ (0<k/\x.toNat=0)) (j:¬ (k=9/\1<x.toNat)) (o:¬ x.toNat<128):aj b=bT (k+1) (n+(x &&& 127).toNat*2 ^ (7*k)) (b.drop (k+1)):=by
 rw [h,Qv c d,if_neg (fun h=>h.elim g j),if_neg o]
theorem oo:∀ {l:List UInt8} {k n:Nat},k<=10->(bT k n l).2.1<=11/\(bT k n l).2.1<=k+l.length
 | [],k,n,h=>by rw [bT]; split <;> simp
 | x :: r,k,n,h=>by
  rw [bT];split
  ·simp
  split
  ·simp
  split
  ·simp; omega
  have:=oo (l:=r) (k:=k+1) (n:=n+(x &&& 127).toNat*2 ^ (7*k)) aL;simp only [List.length_cons]; omega
def Qh (h:aj b=bT k n (b.drop k)) (c:k<10) (d:b[k]? = some x) (g:(0<k/\x.toNat=0)\/(k=9/\1<x.toNat)):aj b=(0,0,3):=by rw [h,Qv c d,if_pos g]
def UX (h:aj b=bT k n (b.drop k)) (c:k<10) (d:b[k]? = some x) (g:¬ (0<k/\x.toNat=0)) (j:¬ (k=9/\1<x.toNat)) (o:x.toNat<128):aj b=(n+(x &&& 127).toNat*2 ^ (7*k),k+1,0):=by
 rw [h,Qv c d,if_neg (fun h=>h.elim g j),if_pos o]
theorem NA:∀ {l:List UInt8} {k n:Nat},1<=k->(bT k n l).2.2=0->2 ^ (7*k)<=(bT k n l).1
 | [],k,n,_,h=>by rw [bT] at h; split at h <;> cases h
 | x :: r,k,n,j,h=>by
  rw [bT] at h ⊢;split
  ·rename_i d; rw [if_pos d] at h; cases h
  rename_i d;rw [if_neg d] at h;split
  ·rename_i c; rw [if_pos c] at h; cases h
  rename_i c;rw [if_neg c] at h;split
  ·rename_i g;rw [pz];have:1<=x.toNat % 128:=by
    have:¬ x.toNat=0:=fun e=>c (.inl ⟨aL,e⟩);omega
   have:=afC (2 ^ (7*k)) this;show 2 ^ (7*k)<=n+x.toNat % 128*2 ^ (7*k);omega
  rename_i g;rw [if_neg g] at h;exact Nat.le_trans (Nat.pow_le_pow_right am aL) (NA aL h)
def FE (x:UInt8) (r:List UInt8):aj (x :: r)=if x.toNat<128 then (x.toNat,1,0) else bT 1 (x.toNat % 128) r:=by
 unfold aj;rw [bT,if_neg am,if_neg aL,pz];split
 ·rename_i h; rw [Nat.mod_eq_of_lt h]; simp
 simp
def Co (c:k<b.length):(b.drop k).take (b.length - k)=b[k] :: b.drop (k+1):=by
 rw [List.take_of_length_le aa,afH c]
def tk1 (c:k<b.length) (d:(aj ((b.drop k).take (b.length - k))).2.2=0) (g:¬ (64:Int)<(((aj ((b.drop k).take (b.length - k))).1:Nat):Int)) :
  ∃ x,b[k]? = some x/\aj ((b.drop k).take (b.length - k))=(x.toNat,1,0)/\x.toNat<=64:=by
 rw [Co c,FE] at *;by_cases h:b[k].toNat<128
 ·rw [if_pos h] at *; exact ⟨_,List.getElem?_eq_getElem c,rfl,by simp only at g; omega⟩
 rw [if_neg h] at *;have:=NA (Nat.le_refl 1) d;omega
def tk2 (c:k<b.length) (h:(¬ (aj ((b.drop k).take (b.length - k))).2.2=0)\/(64:Int)<(((aj ((b.drop k).take (b.length - k))).1:Nat):Int)):∃ x,b[k]? = some x/\64<x.toNat:=by
 refine ⟨b[k],List.getElem?_eq_getElem c,?_⟩;rw [Co c,FE] at h;by_cases d:b[k].toNat<128
 ·rw [if_pos d] at h; simp only [not_true_eq_false,false_or] at h; omega
 omega
def cJ (b:List UInt8):List Int:=b.map fun x=>(x.toNat:Int)
def ll (b:List UInt8):List Int:=if cE (cJ b) then cJ b else []
def pM (b:List UInt8):Int:=if cE (cJ b) then 0 else 6
def RT {p:Nat × Nat × Int} (c:b[k]? = some x) (d:p=(x.toNat,1,0)):cJ (b.take k)++[((p.1:Nat):Int)]=cJ (b.take (k+1)):=by
 subst d; unfold cJ; rw [ai c,List.map_append]; rfl
def abD (c:k<b.length) (h:(¬ (aj ((b.drop k).take (b.length - k))).2.2=0)\/(64:Int)<(((aj ((b.drop k).take (b.length - k))).1:Nat):Int)):cE (cJ b)=false:=by
 obtain ⟨x,d,g⟩:=tk2 c h;rw [<- Bool.not_eq_true];intro j;have:=(wZ j (x.toNat:Int) (ai0.2 ⟨x,afu d,rfl⟩)).2;omega
def C_ (c:b.length<=k):cJ (b.take k)=cJ b:=by rw [List.take_of_length_le c]
def xw (h:cE (cJ b)=false):[]=ll b:=by rw [ll,h]; rfl
def Nj (h:cE (cJ b)=false):6=pM b:=by rw [pM,h]; rfl
def TS (c:b.length<=k) (h:cE (cJ (b.take k))=true):cJ (b.take k)=ll b:=by rw [C_ c] at *; rw [ll,h]; rfl
def RF (c:b.length<=k) (h:cE (cJ (b.take k))=true):0=pM b:=by rw [C_ c] at *; rw [pM,h]; rfl
def CB (c:b.length<=k) (h:cE (cJ (b.take k))=false):cE (cJ b)=false:=by rw [C_ c] at h; exact h
structure TagR where
 num:Int
 wire:Int
 k:Nat
 e:Int
def Ds (n:Nat):Bool:=decide ((n / 8<1\/1000<n / 8)\/(¬ n % 8=0/\¬ n % 8=2))
def aS (b:List UInt8):TagR:=if (aj b).2.2=0 then (if Ds (aj b).1=true then ⟨0,0,0,6⟩ else ⟨(((aj b).1 / 8:Nat):Int),(((aj b).1 % 8:Nat):Int),(aj b).2.1,0⟩) else ⟨0,0,0,(aj b).2.2⟩
def Qg (h:¬ (aj b).2.2=0):aS b=⟨0,0,0,(aj b).2.2⟩:=by rw [aS,if_neg h]
def Ls (h:(aj b).2.2=0) (c:((aj b).1 / 8<1\/1000<(aj b).1 / 8)\/(¬ (aj b).1 % 8=0/\¬ (aj b).1 % 8=2)):aS b=⟨0,0,0,6⟩:=by rw [aS,if_pos h,if_pos (show Ds _=true from decide_eq_true c)]
def Nr (h:(aj b).2.2=0) (c:¬ (((aj b).1 / 8<1\/1000<(aj b).1 / 8)\/(¬ (aj b).1 % 8=0/\¬ (aj b).1 % 8=2))):aS b=⟨(((aj b).1 / 8:Nat):Int),(((aj b).1 % 8:Nat):Int),(aj b).2.1,0⟩:=by
 rw [aS,if_pos h,if_neg (by unfold Ds; simpa using c)]
def qJ (b:List UInt8):((aS b).k<=11/\(aS b).k<=b.length)/\(0<=(aS b).num/\(aS b).num<=1000)/\(0<=(aS b).wire/\(aS b).wire<=2):=by
 have d:(aj b).2.1<=11/\(aj b).2.1<=0+b.length:=oo (l:=b) (k:=0) (n:=0) aL;by_cases h:(aj b).2.2=0
 ·by_cases c:((aj b).1 / 8<1\/1000<(aj b).1 / 8)\/(¬ (aj b).1 % 8=0/\¬ (aj b).1 % 8=2)
  ·rw [Ls h c]; simp
  rw [Nr h c]; dsimp only; omega
 rw [Qg h]; simp
theorem Qm:∀ {l:List UInt8} {k n:Nat},(bT k n l).2.2=0->1<=(bT k n l).2.1
 | [],k,n,h=>by rw [bT] at h; split at h <;> cases h
 | x :: r,k,n,h=>by
  rw [bT] at h ⊢;split
  ·grind
  rename_i c;rw [if_neg c] at h;split
  ·grind
  rename_i d;rw [if_neg d] at h;split
  ·simp
  rename_i g; rw [if_neg g] at h; exact Qm h
def bk (b:List UInt8):Nat × Int:=
  if (aS b).e=0 then
    (if (aj (b.drop (aS b).k)).2.2=0 then
      (if (aS b).wire=0 then ((aS b).k+(aj (b.drop (aS b).k)).2.1,0)
       else if 16384<(aj (b.drop (aS b).k)).1 then (0,4)
       else if ((b.length:Nat):Int) - (((aS b).k+(aj (b.drop (aS b).k)).2.1:Nat):Int)<(((aj (b.drop (aS b).k)).1:Nat):Int) then (0,2)
       else ((aS b).k+(aj (b.drop (aS b).k)).2.1+(aj (b.drop (aS b).k)).1,0))
     else (0,(aj (b.drop (aS b).k)).2.2))
  else (0,(aS b).e)
def ajK (h:¬ (aS b).e=0):bk b=(0,(aS b).e):=by rw [bk,if_neg h]
def ajz (h:(aS b).e=0) (c:¬ (aj (b.drop (aS b).k)).2.2=0):bk b=(0,(aj (b.drop (aS b).k)).2.2):=by rw [bk,if_pos h,if_neg c]
def ajn (h:(aS b).e=0) (c:(aj (b.drop (aS b).k)).2.2=0) (d:(aS b).wire=0):bk b=((aS b).k+(aj (b.drop (aS b).k)).2.1,0):=by rw [bk,if_pos h,if_pos c,if_pos d]
def aie (h:(aS b).e=0) (c:(aj (b.drop (aS b).k)).2.2=0) (d:¬ (aS b).wire=0) (g:16384<(aj (b.drop (aS b).k)).1):bk b=(0,4):=by rw [bk,if_pos h,if_pos c,if_neg d,if_pos g]
def ai5 (h:(aS b).e=0) (c:(aj (b.drop (aS b).k)).2.2=0) (d:¬ (aS b).wire=0) (g:¬ 16384<(aj (b.drop (aS b).k)).1) (j:((b.length:Nat):Int) - (((aS b).k+(aj (b.drop (aS b).k)).2.1:Nat):Int)<(((aj (b.drop (aS b).k)).1:Nat):Int)):bk b=(0,2):=by rw [bk,if_pos h,if_pos c,if_neg d,if_neg g,if_pos j]
def agt (h:(aS b).e=0) (c:(aj (b.drop (aS b).k)).2.2=0) (d:¬ (aS b).wire=0) (g:¬ 16384<(aj (b.drop (aS b).k)).1) (j:¬ ((b.length:Nat):Int) - (((aS b).k+(aj (b.drop (aS b).k)).2.1:Nat):Int)<(((aj (b.drop (aS b).k)).1:Nat):Int)):bk b=((aS b).k+(aj (b.drop (aS b).k)).2.1+(aj (b.drop (aS b).k)).1,0):=by rw [bk,if_pos h,if_pos c,if_neg d,if_neg g,if_neg j]
theorem oA (b:List UInt8) (k:Nat):(aj (b.drop k)).2.1<=11/\(aj (b.drop k)).2.1+k<=max b.length k:=by
 have:=oo (l:=b.drop k) (k:=0) (n:=0) aL;unfold aj;grind
theorem Au (b:List UInt8):(bk b).1<=b.length:=by
 have c:=qJ b; have d:=oA b (aS b).k;unfold bk;grind
theorem nv (h:(bk b).2=0):1<=(bk b).1:=by
 unfold bk at h ⊢;split
 ·rename_i d;rw [if_pos d] at h;split
  ·rename_i c;rw [if_pos c] at h;have:=Qm (l:=b.drop (aS b).k) (k:=0) (n:=0) c;split
   ·dsimp only; unfold aj; omega
   rename_i g;rw [if_neg g] at h;split
   ·grind
   rename_i j;rw [if_neg j] at h;split
   ·grind
   dsimp only; unfold aj; omega
  grind
 grind
def iD (b:List UInt8):Field:=if (aS b).wire=0 then ⟨(aS b).num,(aS b).wire,⟨(aj (b.drop (aS b).k)).1⟩,[]⟩ else ⟨(aS b).num,(aS b).wire,⟨0⟩,b.drop ((aS b).k+(aj (b.drop (aS b).k)).2.1)⟩
def Em (h:(aS b).wire=0):(⟨(aS b).num,(aS b).wire,⟨(aj (b.drop (aS b).k)).1⟩,[]⟩:Field)=iD b:=by rw [iD,if_pos h]
def Gt (h:¬ (aS b).wire=0):(⟨(aS b).num,(aS b).wire,⟨0⟩,b.drop ((aS b).k+(aj (b.drop (aS b).k)).2.1)⟩:Field)=iD b:=by rw [iD,if_neg h]
def ga (c:List Field) (x:Field):Bool:=match c[c.length - 1]? with | none=>true | some y=>fY y x
def zp:Nat->List Field->List UInt8->List Field × Int
 | 0,c,_=>(c,0)
 | f+1,c,b=>if b.length=0 then (c,0) else if (bk b).2=0 then (if ga c (iD (b.take (bk b).1))=true then zp f (c++[iD (b.take (bk b).1)]) (b.drop (bk b).1) else ([],5)) else ([],(bk b).2)
def bJ (b:List UInt8):List Field × Int:=if 16384<b.length then ([],4) else zp b.length [] b
def jv (b:List UInt8) (i:Nat) (c:List Field):Prop:=∃ f,b.length - i<=f/\bJ b=zp f c (b.drop i)
def aaJ (h:16384<b.length):bJ b=([],4):=by rw [bJ,if_pos h]
def Mw (h:¬ 16384<b.length):jv b 0 []:=⟨b.length,aL,by rw [bJ,if_neg h]; rfl⟩
variable {acc:List Field}
def PE (h:jv b i acc) (d:i<b.length):∃ f,b.length - i<=f+1/\bJ b=if (bk (b.drop i)).2=0 then (if ga acc (iD ((b.drop i).take (bk (b.drop i)).1))=true then zp f (acc++[iD ((b.drop i).take (bk (b.drop i)).1)]) ((b.drop i).drop (bk (b.drop i)).1) else ([],5)) else ([],(bk (b.drop i)).2):=by
 obtain ⟨f,c,e⟩:=h;cases f with
 | zero=>omega
 | succ f=>exact ⟨f,c,by rw [e,zp,if_neg (by rw [List.length_drop]; omega)]⟩
def Uf (h:jv b i acc) (c:i<b.length) (d:¬ (bk (b.drop i)).2=0):bJ b=([],(bk (b.drop i)).2):=by
 obtain ⟨f,_,e⟩:=PE h c; rw [e,if_neg d]
def ZW (h:jv b i acc) (c:b.length<=i):bJ b=(acc,0):=by
 obtain ⟨f,_,e⟩:=h;rw [e,afV c];cases f <;> rfl
theorem yy:∀ {f:Nat} {acc:List Field} {b:List UInt8},(zp f acc b).1.length<=acc.length+b.length
 | 0,acc,b=>by simp [zp]
 | f+1,acc,b=>by
  unfold zp;split
  ·simp
  split
  ·rename_i d c;split
   ·have:=yy (f:=f) (acc:=acc++[iD (b.take (bk b).1)]) (b:=b.drop (bk b).1);have g:=nv c;rw [List.length_append,List.length_drop] at this;simp only [List.length_cons,List.length_nil] at this;omega
   simp
  simp
def Tm (b:List UInt8):(bJ b).1.length<=16384:=by
 unfold bJ;split
 ·simp
 have:=yy (f:=b.length) (acc:=[]) (b:=b);simp only [List.length_nil] at this;omega
def Ku (x:Field) (s:Spec) (n:Int):Bool:=if ¬ x.wire=s.wire\/(1<n/\s.many=false) then false else if x.wire=0 then !decide ((x.n.n:Int)=0) else decide (0<((x.b.length:Nat):Int))
def iO (l:List Field) (q:Int):Nat:=l.countP fun x=>decide (x.num=q)
def Rx (q:Int):iO (l.take k) q<=k:=Nat.le_trans List.countP_le_length (by rw [List.length_take]; exact Nat.min_le_left _ _)
variable {x:Field}
def Qy (c:l[k]? = some x) (q:Int):iO (l.take (k+1)) q=if q=x.num then iO (l.take k) x.num+1 else iO (l.take k) q:=by
 unfold iO;rw [ai c,List.countP_append];by_cases h:q=x.num
 ·subst h; simp
 have:¬ x.num=q:=fun e=>h e.symm;simp [h,this]
def ui (l:List Field) (c:List Spec) (k:Nat):Prop:=∀ j x,j<k->l[j]? = some x->∀ s ∈ c,s.num=x.num->Ku x s ((iO (l.take (j+1)) x.num:Nat):Int)=true
def JS (l:List Field) (c:List Spec) (m:Nat):Prop:=∀ j y,j<m->c[j]? = some y->y.need=true->¬ iO l y.num=0
def LX (c:List Spec) (x:Field) (n:Int) (m:Nat):Prop:=∀ j y,j<m->c[j]? = some y->y.num=x.num->Ku x y n=true
variable {ss:List Spec} {n:Int}
def aco:LX ss x n 0:=fun j y h=>by omega
def aeq:ui l ss 0:=fun j y h=>by omega
def adh:JS l ss 0:=fun j y h=>by omega
def Cr (l:List Field) (v:Int):Prop:=ui l (aV v) l.length/\JS l (aV v) (aV v).length
open Classical in
def gG (l:List Field) (v:Int):Int:=if (aV v).length=0 then 1 else if cR l=0 then (if Cr l v then 0 else 6) else cR l
def agz {v:Int} (h:(aV v).length=0):1=gG l v:=by rw [gG,if_pos h]
def ag8 {v:Int} (h:¬ (aV v).length=0) (c:¬ cR l=0):cR l=gG l v:=by rw [gG,if_neg h,if_neg c]
def ad1 {v:Int} (h:¬ (aV v).length=0) (c:cR l=0) (d:¬ Cr l v):6=gG l v:=by rw [gG,if_neg h,if_pos c,if_neg d]
def aiP {v:Int} (h:¬ (aV v).length=0) (c:cR l=0) (d:Cr l v):0=gG l v:=by rw [gG,if_neg h,if_pos c,if_pos d]
def Kg {y:Spec} (h:LX ss x n m) (g:ss[m]? = some y) (o:y.num=x.num->Ku x y n=true):LX ss x n (m+1):=by
 intro j z p c;by_cases d:j=m
 ·subst d; rw [g] at c; cases c; exact o
 exact h j z aL c
def Pb (h:ui l ss k) (q:l[k]? = some x) (r:LX ss x n m) (v:ss.length<=m) (e:n=((iO (l.take (k+1)) x.num:Nat):Int)):ui l ss (k+1):=by
 subst e;intro j z w c s g o;by_cases d:j=k
 ·subst d; rw [q] at c; cases c;obtain ⟨p,u,rfl⟩:=List.getElem_of_mem g;exact r p _ aL (List.getElem?_eq_getElem u) o
 exact h j z aL c s g o
def NQ {y:Spec} (h:JS l ss m) (g:ss[m]? = some y) (o:y.need=true->¬ iO l y.num=0):JS l ss (m+1):=by
 intro j z p c;by_cases d:j=m
 ·subst d; rw [g] at c; cases c; exact o
 exact h j z aL c
def Tj {v:Int} {y:Spec} (c:l[k]? = some x) (g:(aV v)[m]? = some y) (d:y.num=x.num/\Ku x y n=false) (e:n=((iO (l.take (k+1)) x.num:Nat):Int)):¬ Cr l v:=by
 intro h;have:=h.1 k x (yi c) c y (afu g) d.1;rw [<- e,d.2] at this; cases this
variable {n:Nat}
def Rv {v:Int} {y:Spec} (c:(aV v)[m]? = some y) (d:y.need=true/\((n:Nat):Int)=0) (e:n=iO l y.num):¬ Cr l v:=
 fun h=>h.2 m y (yi c) c d.1 aL
def Uk {v:Int} (c:ui l (aV v) k) (h:l.length<=k) (d:JS l (aV v) m) (o:(aV v).length<=m):Cr l v:=
 ⟨fun j x g=>c j x aL,fun j y g=>d j y aL⟩
def RG {v:Int} (c:l[k]? = some x) (h:x.num<=v):(l.take k).filter (fun f=>decide (f.num<=v))++[x]=(l.take (k+1)).filter (fun f=>decide (f.num<=v)):=by
 rw [ai c,List.filter_append]; simp [h]
def aa0 {v:Int} (c:l[k]? = some x) (h:¬ x.num<=v):(l.take k).filter (fun f=>decide (f.num<=v))=(l.take (k+1)).filter (fun f=>decide (f.num<=v)):=by
 rw [ai c,List.filter_append]; simp [h]
def Um {v:Int} (c:l[k]? = some x) (h:¬ x.num<=v):(l.take k).filter (fun f=>!decide (f.num<=v))++[x]=(l.take (k+1)).filter (fun f=>!decide (f.num<=v)):=by
 rw [ai c,List.filter_append]; simp [h]
def aaw {v:Int} (c:l[k]? = some x) (h:x.num<=v):(l.take k).filter (fun f=>!decide (f.num<=v))=(l.take (k+1)).filter (fun f=>!decide (f.num<=v)):=by
 rw [ai c,List.filter_append]; simp [h]
def Oe (l:List Field) (p:Field->Bool):(l.filter p).length<=l.length:=List.length_filter_le _ _
def dZ (l:List Field) (v:Int):List Field:=l.filter fun f=>decide (f.num<=v)
def eU (l:List Field) (v:Int):List Field:=l.filter fun f=>!decide (f.num<=v)
def SC (l:List Field) (v:Int):(dZ l v).length<=l.length:=Oe _ _
def Gy (l:List Field) (v:Int):(eU l v).length<=l.length:=Oe _ _
def HV {v:Int} (c:l.length<=k):(l.take k).filter (fun f=>decide (f.num<=v))=dZ l v:=by rw [List.take_of_length_le c]; rfl
def PA {v:Int} (c:l.length<=k):(l.take k).filter (fun f=>!decide (f.num<=v))=eU l v:=by rw [List.take_of_length_le c]; rfl
def JN (f:Field):Int:=IntKind.i64.wrap ((f.n.n:Nat):Int)
def fD (c:Command) (f:Field):Command:=
 if f.num=1 then ⟨JN f,c.client,c.seq,c.set,c.id,c.n,c.chunks,c.text⟩ else
 if f.num=2 then ⟨c.kind,JN f,c.seq,c.set,c.id,c.n,c.chunks,c.text⟩ else
 if f.num=3 then ⟨c.kind,c.client,JN f,c.set,c.id,c.n,c.chunks,c.text⟩ else
 if f.num=4 then ⟨c.kind,c.client,c.seq,JN f,c.id,c.n,c.chunks,c.text⟩ else
 if f.num=5 then ⟨c.kind,c.client,c.seq,c.set,JN f,c.n,c.chunks,c.text⟩ else
 if f.num=6 then ⟨c.kind,c.client,c.seq,c.set,c.id,JN f,c.chunks,c.text⟩ else
 if f.num=7 then ⟨c.kind,c.client,c.seq,c.set,c.id,c.n,ll f.b,c.text⟩ else
 if f.num=8 then ⟨c.kind,c.client,c.seq,c.set,c.id,c.n,c.chunks,⟨f.b⟩⟩ else c
def cN:Command:=⟨0,0,0,0,0,0,[],⟨[]⟩⟩
def c_ (l:List Field):Command:=l.foldl fD cN
def dK (c:l[k]? = some x):c_ (l.take (k+1))=fD (c_ (l.take k)) x:=by
 unfold c_; rw [ai c,List.foldl_append]; rfl
def afR {c:Command} (h:f.num=1):(⟨JN f,c.client,c.seq,c.set,c.id,c.n,c.chunks,c.text⟩:Command)=fD c f:=by rw [fD,if_pos h]
def ai7 {c:Command} (h:f.num=2):(⟨c.kind,JN f,c.seq,c.set,c.id,c.n,c.chunks,c.text⟩:Command)=fD c f:=by rw [fD,if_neg aL,if_pos h]
def ahj {c:Command} (h:f.num=3):(⟨c.kind,c.client,JN f,c.set,c.id,c.n,c.chunks,c.text⟩:Command)=fD c f:=by rw [fD,if_neg aL,if_neg aL,if_pos h]
def aiA {c:Command} (h:f.num=4):(⟨c.kind,c.client,c.seq,JN f,c.id,c.n,c.chunks,c.text⟩:Command)=fD c f:=by rw [fD,if_neg aL,if_neg aL,if_neg aL,if_pos h]
def ajH {c:Command} (h:f.num=5):(⟨c.kind,c.client,c.seq,c.set,JN f,c.n,c.chunks,c.text⟩:Command)=fD c f:=by rw [fD,if_neg aL,if_neg aL,if_neg aL,if_neg aL,if_pos h]
def ahl {c:Command} (h:f.num=6):(⟨c.kind,c.client,c.seq,c.set,c.id,JN f,c.chunks,c.text⟩:Command)=fD c f:=by rw [fD,if_neg aL,if_neg aL,if_neg aL,if_neg aL,if_neg aL,if_pos h]
def ajM {c:Command} (h:f.num=7):(⟨c.kind,c.client,c.seq,c.set,c.id,c.n,ll f.b,c.text⟩:Command)=fD c f:=by rw [fD,if_neg aL,if_neg aL,if_neg aL,if_neg aL,if_neg aL,if_neg aL,if_pos h]
def ahV {c:Command} (h:f.num=8):(⟨c.kind,c.client,c.seq,c.set,c.id,c.n,c.chunks,⟨f.b⟩⟩:Command)=fD c f:=by rw [fD,if_neg aL,if_neg aL,if_neg aL,if_neg aL,if_neg aL,if_neg aL,if_neg aL,if_pos h]
def ajh {c:Command} (h:¬ (1<=f.num/\f.num<=8)):c=fD c f:=by rw [fD,if_neg aL,if_neg aL,if_neg aL,if_neg aL,if_neg aL,if_neg aL,if_neg aL,if_neg aL]
def mM (b:List UInt8) (v:Int):Int:=if (bJ b).2=0 then gG (bJ b).1 v else (bJ b).2
structure TkR where
 c:Command
 r:List Field
 e:Int
def cG (b:List UInt8) (v:Int):TkR:=
 if 1<=v/\v<=3 then (if mM b v=0 then (if fy (c_ (dZ (bJ b).1 (cX v))) (eU (bJ b).1 (cX v)) v=0/\gF (c_ (dZ (bJ b).1 (cX v))) (eU (bJ b).1 (cX v)) v=b then ⟨c_ (dZ (bJ b).1 (cX v)),eU (bJ b).1 (cX v),0⟩ else ⟨cN,[],6⟩) else ⟨cN,[],mM b v⟩) else ⟨cN,[],1⟩
def ag2 {v:Int} (h:¬ (1<=v/\v<=3)):cG b v=⟨cN,[],1⟩:=by rw [cG,if_neg h]
def afh {v:Int} (h:1<=v/\v<=3) (c:¬ mM b v=0):cG b v=⟨cN,[],mM b v⟩:=by rw [cG,if_pos h,if_neg c]
def ah8 {v:Int} (h:1<=v/\v<=3) (d:mM b v=0) (g:¬ fy (c_ (dZ (bJ b).1 (cX v))) (eU (bJ b).1 (cX v)) v=0\/¬ gF (c_ (dZ (bJ b).1 (cX v))) (eU (bJ b).1 (cX v)) v=b):cG b v=⟨cN,[],6⟩:=by
 rw [cG,if_pos h,if_pos d,if_neg (fun h=>g.elim (fun c=>c h.1) (fun c=>c h.2))]
def ajA {v:Int} (h:1<=v/\v<=3) (c:mM b v=0) (d:fy (c_ (dZ (bJ b).1 (cX v))) (eU (bJ b).1 (cX v)) v=0/\gF (c_ (dZ (bJ b).1 (cX v))) (eU (bJ b).1 (cX v)) v=b):cG b v=⟨c_ (dZ (bJ b).1 (cX v)),eU (bJ b).1 (cX v),0⟩:=by
 rw [cG,if_pos h,if_pos c,if_pos d]
theorem Ve {v:Int} (h:mM b v=0):(bJ b).2=0/\cR (bJ b).1=0:=by
 unfold mM at h;split at h
 ·rename_i c;refine ⟨c,?_⟩;unfold gG at h;split at h
  ·cases h
  split at h
  ·assumption
  exact h
 rename_i c; exact absurd h c
def Yu {v:Int} {u:Int} (h:mM b v=0):∀ f ∈ dZ (bJ b).1 u,f.b.length<=16384:=
 fun _ c=>xV (Ve h).2 (aj5.1 c).1
variable {x:UInt8}
def Jv (h:x.toNat<128):(x &&& 127).toNat=x.toNat:=by rw [pz]; omega
def Jl:∀ (n:Nat) {k m:Nat} {r:List UInt8},k<=9->n*2 ^ (7*k)<18446744073709551616->(0<k->n≠0)->bT k m (cY n++r)=(m+n*2 ^ (7*k),k+(cY n).length,0):=by
 intro n;induction n using Nat.strongRecOn with
 | _ n p=>
  intro k m r y z q;by_cases g:n<128
  ·rw [Dc g];have c:(UInt8.ofNat n).toNat=n:=by rw [UInt8.toNat_ofNat']; omega
   simp only [List.cons_append,aiv,List.length_cons,List.length_nil];have s:¬ ((0<k/\(UInt8.ofNat n).toNat=0)\/(k=9/\1<(UInt8.ofNat n).toNat)):=by
    rw [c];rintro (⟨u,j⟩ | ⟨rfl,j⟩)
    ·exact q u j
    have:2*2 ^ (7*9)<=n*2 ^ (7*9):=afC _ aL;have e:(2:Nat)*2 ^ (7*9)=18446744073709551616:=by decide
    omega
   rw [bT,if_neg aL,if_neg s,if_pos aL,Jv aL,c]
  rw [Nl g];simp only [List.cons_append,List.length_cons];have c:=aeo n;have v:k<=8:=by
   rcases Nat.lt_or_ge k 9 with h | h
   ·omega
   have d:k=9:=by omega
   subst d;have:128*2 ^ (7*9)<=n*2 ^ (7*9):=afC _ aL;have e:(128:Nat)*2 ^ (7*9)=1180591620717411303424:=by decide
   omega
  have o:(2:Nat) ^ (7*(k+1))=128*2 ^ (7*k):=by rw [show 7*(k+1)=7*k+7 by omega,Nat.pow_add,Nat.mul_comm]
  have A:n / 128*2 ^ (7*(k+1))<=n*2 ^ (7*k):=by
   rw [o,<- Nat.mul_assoc]; exact afC _ (Nat.div_mul_le_self _ _)
  rw [bT,if_neg aL,if_neg (by rw [c]; rintro (⟨_,h⟩ | ⟨h,_⟩) <;> omega),if_neg aL,pz,c];rw [p (n / 128) aL (k:=k+1) aL aL (fun _=>by omega)];have e:(n % 128+128) % 128=n % 128:=by omega
  have w:n % 128*2 ^ (7*k)+n / 128*2 ^ (7*(k+1))=n*2 ^ (7*k):=by
   rw [o,<- Nat.mul_assoc,<- aiU]; congr 1; omega
  rw [e,Nat.add_assoc,w];congr 2;omega
def uQ (h:n<18446744073709551616) (r:List UInt8):aj (cY n++r)=(n,(cY n).length,0):=by
 unfold aj;rw [Jl n aL (by simpa using h) (fun h=>absurd h aL)];simp
def tvX (c:b[k]? = some x):b.getD k (ak .u8)=x:=by rw [List.getD_eq_getElem?_getD,c]; rfl
def tvA (h:aj b=bT k n (b.drop k)) (c:(k:Int)<10) (d:(k:Int)=(b.length:Int)):aj b=(0,0,2):=h.trans (aaj aL aL)
def tvD (h:aj b=bT k n (b.drop k)) (c:10<=(k:Int)):aj b=(0,0,3):=h.trans (aal aL)
def tvG (c:k<=b.length) (d:¬ (k:Int)=(b.length:Int)):∃ x,b[k]? = some x:=⟨_,List.getElem?_eq_getElem aL⟩
def tvB (h:aj b=bT k n (b.drop k)) (o:(k:Int)<10) (d:k<=b.length) (g:¬ (k:Int)=(b.length:Int)) (p:0<(k:Int)) (j:((b.getD k (ak .u8)).toNat:Int)=((UInt8.ofNat 0).toNat:Int)):aj b=(0,0,3):=by
 obtain ⟨x,c⟩:=tvG d g;rw [tvX c,show (UInt8.ofNat 0).toNat=0 from rfl] at j;exact Qh h aL c (.inl ⟨aL,aL⟩)
def tvC (h:aj b=bT k n (b.drop k)) (d:(k:Int)<10) (g:k<=b.length) (j:¬ (k:Int)=(b.length:Int)) (p:(k:Int)=9) (o:((UInt8.ofNat 1).toNat:Int)<((b.getD k (ak .u8)).toNat:Int)):aj b=(0,0,3):=by
 obtain ⟨x,c⟩:=tvG g j;rw [tvX c,show (UInt8.ofNat 1).toNat=1 from rfl] at o;exact Qh h aL c (.inr ⟨aL,aL⟩)
def orN (n k:Nat) (x:UInt8):Nat:=n ||| (x &&& UInt8.ofNat 127).toNat*2 ^ (7*(k:Int)).toNat % 18446744073709551616
def tvN (c:n<2 ^ (7*k)) (d:k<=9) (g:k=9->x.toNat<=1):orN n k x=n+(x &&& 127).toNat*2 ^ (7*k):=by
 unfold orN;rw [show (UInt8.ofNat 127)=127 from rfl,show (7*(k:Int)).toNat=7*k by omega,Nat.mod_eq_of_lt (aaV d g)];exact abS c
theorem tvZ (c:b[k]? = some x) (d:(k:Int)<=0\/¬ ((b.getD k (ak .u8)).toNat:Int)=((UInt8.ofNat 0).toNat:Int)) (g:¬ (k:Int)=9\/((b.getD k (ak .u8)).toNat:Int)<=((UInt8.ofNat 1).toNat:Int)):(¬ (0<k/\x.toNat=0))/\¬ (k=9/\1<x.toNat):=by grind
def tvE {y:UInt8} (h:aj b=bT k n (b.drop k)) (j:n<2 ^ (7*k)) (r:(k:Int)<10) (c:b[k]? = some x) (d:b[k]? = some y) (o:(k:Int)<=0\/¬ ((b.getD k (ak .u8)).toNat:Int)=((UInt8.ofNat 0).toNat:Int)) (p:¬ (k:Int)=9\/((b.getD k (ak .u8)).toNat:Int)<=((UInt8.ofNat 1).toNat:Int)) (q:(y.toNat:Int)<((UInt8.ofNat 128).toNat:Int)):aj b=(orN n k x,k+1,0):=by
 have g:=tvZ c o p;rw [show (UInt8.ofNat 128).toNat=128 from rfl] at q;rw [c] at d; cases d;rw [tvN j aL aL];exact UX h aL c g.1 g.2 aL
def tvF {y:UInt8} (h:aj b=bT k n (b.drop k)) (g:n<2 ^ (7*k)) (c:n<18446744073709551616) (s:(k:Int)<10) (d:b[k]? = some x) (j:b[k]? = some y) (p:(k:Int)<=0\/¬ ((b.getD k (ak .u8)).toNat:Int)=((UInt8.ofNat 0).toNat:Int)) (q:¬ (k:Int)=9\/((b.getD k (ak .u8)).toNat:Int)<=((UInt8.ofNat 1).toNat:Int)) (r:((UInt8.ofNat 128).toNat:Int)<=(y.toNat:Int)):orN n k x<2 ^ (7*(k+1))/\orN n k x<18446744073709551616/\aj b=bT (k+1) (orN n k x) (b.drop (k+1)):=by
 have o:=tvZ d p q;rw [show (UInt8.ofNat 128).toNat=128 from rfl] at r;rw [d] at j; cases j;have e:=tvN g (show k<=9 by omega) (show k=9->x.toNat<=1 by omega);refine ⟨by rw [e]; exact UT g,?_,by rw [e]; exact Tz h aL d o.1 o.2 aL⟩;exact ajd (n:=64) c (agr _ am)
variable {x:Int}
theorem acI {c:Command} {v:Int} (d:[c.client,c.seq,c.set,c.id,c.n][k]? = some x) (h:x<0\/1048576<x):false=gz c v:=by
 refine Vu ?_;grind
def afm {c:Command} (h:(k:Int)<5):[c.client,c.seq,c.set,c.id,c.n][k]? = some ([c.client,c.seq,c.set,c.id,c.n].getD k (ak .int)):=by
 rw [List.getD_eq_getElem?_getD,List.getElem?_eq_getElem (by simp only [List.length_cons]; omega)]; rfl
def ace {n:Int} {p:Prop} (h:n<=0\/p):(¬ 0<n)\/p:=h.imp_left aL
def ahW {l:List Int} (h:((l.take k).all fun n=>cm n 0 1048576)=true) (c:l[k]? = some x) (d:0<=x) (g:x<=1048576):((l.take (k+1)).all fun n=>cm n 0 1048576)=true:=by
 rw [ai c,List.all_append,h]; simp [cm]; omega
def acv {c:Command} (h:(([c.client,c.seq,c.set,c.id,c.n].take k).all fun n=>cm n 0 1048576)=true) (d:5<=(k:Int)):¬ ((c.client<0\/1048576<c.client)\/(c.seq<0\/1048576<c.seq)\/(c.set<0\/1048576<c.set)\/(c.id<0\/1048576<c.id)\/(c.n<0\/1048576<c.n)):=by
 rw [List.take_of_length_le (by simp only [List.length_cons,List.length_nil]; omega)] at h;simp only [List.all_cons,cm,Bool.and_eq_true,decide_eq_true_eq] at h;omega
def abq (b:List UInt8):List (Nat × LI):=[(3,{ σ:=Nat × Nat,F:=fun s=>([(0,one (.fz .u8 (b))),(5,one (.u64 s.2)),(6,one (.int 0)),(7,one (.int 3)),(9,one (.int s.1))],[]),J:=fun s=>s.1<=10/\s.2<2 ^ (7*s.1)/\s.2<18446744073709551616/\aj b=bT s.1 s.2 (b.drop s.1)/\s.1<=b.length,μ:=fun s=>10 - s.1 })]
def Ie (c:Command) (v:Int):List (Nat × LI):=[(5,{ σ:=Nat,F:=fun k=>([(1,one (.int (v))),(2,one (.ptr 0 0)),(38,.one (.agg [.int c.client,.int c.seq,.int c.set,.int c.id,.int c.n])),(39,one (.int k))],[.box 35 (cellsOf (.nm .command) (c))]),J:=fun k=>k<=5/\([c.client,c.seq,c.set,c.id,c.n].take k).all (fun n=>cm n 0 1048576)=true,μ:=fun k=>5 - k })]
def Ej:Kn:=aN (ae (kC (cL .u8)) aq) ax fun (b,_) _=>⟨[],[.c (.u64 ((U64.mk (aj b).1)).n),.c (.int ((((aj b).2.1:Nat)))),.c (.int (((aj b).2.2)))],none,false⟩
theorem UA:CK 210 Ej:=ah fun (b,_) _ _=>by
 refine aw dx (abq b) Tryz.func210 (?_:(fun (D:UInt8)=>(fun (j:Nat)=>(fun (o:Nat)=>(fun (p:Nat)=>(fun (L:Int)=>(fun (H:Nat)=>(fun (S:Int)=>(fun (P:Int)=>(fun (I:Int)=>(fun (B:Int)=>(fun (C:Int)=>(fun (N:Prop)=>(fun (J:Int)=>(fun (K:Int)=>(fun (d:Int)=>(fun (F:Prop)=>(fun (v:Prop)=>(fun (O:Prop)=>(fun (y:Prop)=>b.length*1<=140737488355328->∃ (u:Nat × Nat),(b=b/\0=u.snd/\v/\C=C/\d=(↑u.fst:Int))/\(u.fst<=o/\u.snd<p ^ (7*u.fst)/\u.snd<j/\aj b=bT u.fst u.snd (List.drop u.fst b)/\u.fst<=b.length)/\∀ (s:Nat × Nat),(fun (g:Nat)=>(fun (h:Int)=>(fun (z:Prop)=>(fun (c:Int)=>(fun (w:Int)=>(fun (q:Int)=>(fun (G:Prop)=>g<=o/\s.snd<p ^ (7*g)/\s.snd<j/\aj b=bT g s.snd (List.drop g b)/\g<=b.length->(c<10->(c=B->(¬2=d->N/\d=K/\2=J)/\(2=d->s.snd=H/\y))/\(¬c=B->(d<c->d<=c/\c<B)/\(d<c/\h=I->(d<c/\h=I->z)/\(c<=d\/¬h=I->G))/\(c<=d\/¬h=I->(c=9->d<=c/\c<B)/\(c=9/\(↑(UInt8.ofNat 1).toNat:Int)<h->z)/\(¬c=9\/h<=(↑(UInt8.ofNat 1).toNat:Int)->G))))/\(10<=c->z)) (d<=c/\c<B/\∀ (x:UInt8),b[g]? = some x->I64 q/\d<=q/\q<64/\d<=c/\c<B/\∀ (A:UInt8),b[g]? = some A->((↑A.toNat:Int)<P->I64 w/\(¬v->N/\y)/\(v->s.snd ||| (x &&& D).toNat*p ^ q.toNat % j=H/\w=K/\d=J))/\(P<=(↑A.toNat:Int)->I64 w/\∃ (r:Nat × Nat),(b=b/\s.snd ||| (x &&& D).toNat*p ^ q.toNat % j=r.snd/\v/\C=C/\w=(↑r.fst:Int))/\(r.fst<=o/\r.snd<p ^ (7*r.fst)/\r.snd<j/\aj b=bT r.fst r.snd (List.drop r.fst b)/\r.fst<=b.length)/\o - r.fst<o - g))) (S*c)) (c+L)) (↑g:Int)) ((¬F->O)/\(F->s.snd=H/\y))) (↑(UInt8.toNat (b.getD g (ak Sh.u8))):Int)) s.fst) (d=K/\d=J)) (N/\d=K/\C=J)) (d=d)) (C=d)) 0) (↑(aj b).snd.fst:Int)) (aj b).snd.snd) (0=H)) 3) (↑b.length:Int)) (↑(UInt8.ofNat 0).toNat:Int)) (↑(UInt8.ofNat 128).toNat:Int)) 7) (aj b).fst) 1) 2) 10) 18446744073709551616) (UInt8.ofNat 127));(repeat' with_reducible first|apply bh|refine bg ?_|intro)
 all_goals try (first | exact br | decide)
 all_goals (refine ⟨(0,0),⟨rfl,rfl,?_,?_,?_⟩,⟨aL,am,am,rfl,aL⟩,?_⟩)
 all_goals try (first | trivial | rfl)
 (repeat' with_reducible first|apply bh|refine bg ?_|intro)
 all_goals try (first | exact br | (rw [tvA ab ab ab] <;> rfl) | (rw [tvD ab ab] <;> rfl) | (rw [tvB ab ab ab ab ab ab] <;> rfl) | (rw [tvC ab ab ab ab ab ab] <;> rfl) | exact (congrArg Prod.fst (tvE ab ab ab ab ab ab ab ab)).symm | exact (congrArg (fun t=>((t.2.1:Nat):Int)) (tvE ab ab ab ab ab ab ab ab)).symm | exact (congrArg (fun t=>t.2.2) (tvE ab ab ab ab ab ab ab ab)).symm)
 all_goals (refine ⟨(‹Nat × Nat›.1+1,_),⟨rfl,rfl,?_⟩,?_⟩; (repeat' with_reducible first|apply bh|refine bg ?_|intro))
 all_goals (first | exact br | exact (tvF ab ab ab ab ab ab ab ab ab).1 | exact (tvF ab ab ab ab ab ab ab ab ab).2.1 | exact (tvF ab ab ab ab ab ab ab ab ab).2.2)
def ze:Kn:=aN (ae (kT (.nm .field)) (ae (kT (.nm .field)) aq)) ax fun (x,y,_) _=>⟨[],[.c (.bool (.atom ((fY x y))))],none,false⟩
theorem OZ:CK 256 ze:=ah fun (x,y,_) _ _=>by
 refine aw dx [] Tryz.func256 (?_:I64 x.num->I64 x.wire->x.n.n<18446744073709551616->x.b.length*1<=140737488355328->I64 y.num->I64 y.wire->y.n.n<18446744073709551616->y.b.length*1<=140737488355328->(y.num=x.num->(decide (y.wire=2) && decide (x.wire=2))=fY x y)/\(¬y.num=x.num->decide (x.num<y.num)=fY x y));grind [fY]
def Bd:Kn:=aN (ae (kT (.nm .field)) aq) ax fun (x,_) _=>⟨[],[.c (.bool (.atom ((eF x))))],none,false⟩
theorem LA:CK 255 Bd:=ah fun (x,_) _ _=>by
 refine aw dx [] Tryz.func255 (?_:I64 x.num->I64 x.wire->x.n.n<(18446744073709551616:Nat)->x.b.length*(1:Nat)<=(140737488355328:Nat)->(x.num<(1:Int)\/(1000:Int)<x.num->false=eF x)/\((1:Int)<=x.num/\x.num<=(1000:Int)->(x.wire=(0:Int)->decide ((↑x.b.length:Int)=(0:Int))=eF x)/\(¬x.wire=(0:Int)->(x.wire=(2:Int)->decide ((↑x.n.n:Int)=(↑(0:Nat):Int))=eF x)/\(¬x.wire=(2:Int)->false=eF x))));grind [eF,Lr,PK]
def Bp:Kn:=aN (ae (kC (cL .u8)) (ae (kC (cL .u8)) aq)) ax fun (x,y,_) _=>⟨[],[.c (.bool (.atom ((decide (x=y)))))],none,false⟩
theorem ND:CK 146 Bp:=ah fun (x,y,_) _ _=>by
 refine aw dx [] Tryz.func146 (?_:x.length*1<=140737488355328->y.length*1<=140737488355328->decide (Str.mk x=Str.mk y)=decide (x=y));grind
def BX:Kn:=aN (ae (kC (cL .u8)) aq) ax fun (x,_) _=>⟨[],[.c (.fz .u8 ((x)))],none,false⟩
theorem Mc:CK 332 BX:=ah fun (x,_) _ _=>by
 refine aw dx [] Tryz.func332 (?_:(fun c=>c->∀ (b:Bool),(b=true->x=[])->(b=true->x=[])/\(b=false->c/\x=x)) (x.length*1<=140737488355328));grind
def Xd:Kn:=aN (ae (kC cI) (ae (kC cI) aq)) ax fun (k,l,_) _=>⟨[],[.agg (cellsOf (.nm .spec) (⟨k,0,l,false,false⟩))],none,false⟩
theorem ach:CK 271 Xd:=ah fun (k,l,_) _ _=>by
 refine aw dx [] Tryz.func271 (?_:I64 k->I64 l->k=k/\(0:Int)=0/\l=l/\false=false/\false=false);grind
def Wb:Kn:=aN (ae (kC cI) (ae (kC cI) aq)) ax fun (k,l,_) _=>⟨[],[.agg (cellsOf (.nm .spec) (⟨k,2,l,false,false⟩))],none,false⟩
theorem acH:CK 272 Wb:=ah fun (k,l,_) _ _=>by
 refine aw dx [] Tryz.func272 (?_:I64 k->I64 l->k=k/\(2:Int)=2/\l=l/\false=false/\false=false);grind
def XB:Kn:=aN (ae (kT (.nm .spec)) aq) ax fun (x,_) _=>⟨[],[.agg (cellsOf (.nm .spec) ({ x with need:=true }))],none,false⟩
theorem adQ:CK 273 XB:=ah fun (x,_) _ _=>by
 refine aw dx [] Tryz.func273 (?_:mF x (x.num=x.num/\x.wire=x.wire/\x.since=x.since/\true=true/\x.many=x.many));grind
def Xx:Kn:=aN (ae (kT (.nm .spec)) aq) ax fun (x,_) _=>⟨[],[.agg (cellsOf (.nm .spec) ({ x with many:=true }))],none,false⟩
theorem adk:CK 274 Xx:=ah fun (x,_) _ _=>by
 refine aw dx [] Tryz.func274 (?_:mF x (x.num=x.num/\x.wire=x.wire/\x.since=x.since/\x.need=x.need/\true=true));grind
def Ny:Kn:=aN (ae (kT (.nm .field)) (ae (kT (.nm .spec)) (ae (kC cI) aq))) ax fun (x,s,n,_) _=>⟨[],[.c (.bool (.atom ((Ku x s n))))],none,false⟩
theorem ZY:CK 331 Ny:=ah fun (x,s,n,_) _ _=>by
 refine aw dx [] Tryz.func331 (?_:I64 x.num->I64 x.wire->x.n.n<(18446744073709551616:Nat)->x.b.length*(1:Nat)<=(140737488355328:Nat)->mF s (I64 n->(¬x.wire=s.wire\/(1:Int)<n/\s.many=false->false=Ku x s n)/\(x.wire=s.wire/\(n<=(1:Int)\/s.many=true)->(x.wire=(0:Int)->(!decide ((↑x.n.n:Int)=(↑(0:Nat):Int)))=Ku x s n)/\(¬x.wire=(0:Int)->decide ((0:Int)<(↑x.b.length:Int))=Ku x s n))));grind [Ku]
def Kr:Kn:=aN (ae (kC cI) (ae (kC cI) aq)) ax fun (num,wire,_) _=>⟨[],[.c (.own 0),.c (.int ((BL num wire)))],some ([.row 5 .u8 ((nn num wire))]),true⟩
def YI:CK 257 Kr:=ah fun (num,wire,_) _ _=>by
 refine dw dx [] Tryz.func257 (?_:(fun c=>I64 num->I64 wire->((num<1\/1000<num)\/¬wire=0/\¬wire=2->1=BL num wire/\nn num wire=[])/\((1<=num/\num<=1000)/\(wire=0\/wire=2)->I64 (8*num)/\I64 c/\0<=c/\0=BL num wire/\cY c.toNat=nn num wire)) (8*num+wire));(repeat' with_reducible first|apply bh|refine bg ?_|intro)
 all_goals (first | exact br | exact (TZ aL) | exact (Pl aL) | exact (GO aL).symm | exact (GO aL) | exact (JZ aL))
def sf:Kn:=aN (ae (kT (.nm .command)) (ae (kC cI) aq)) ax fun (c,v,_) _=>⟨[],[.c (.bool (.atom ((gz c v))))],none,false⟩
theorem Dr:CK 160 sf:=ah fun (c,v,_) _ _=>by
 refine aw dx (Ie c v) Tryz.func160 (?_:(fun (p:Prop)=>(fun (g:Nat)=>(fun (h:Int)=>(fun (d:Int)=>(fun (q:List Int)=>(fun (u:List (den Sh.int))=>bC c (I64 v->I64 h->((c.kind<1\/99<c.kind)\/¬h=d/\h<=v->p)/\((1<=c.kind/\c.kind<=99)/\(h=d\/v<h)->∃ (r:Nat),(v=v/\c.client=c.client/\c.seq=c.seq/\c.set=c.set/\c.id=c.id/\c.n=c.n/\d=(↑r:Int)/\aR c c)/\(r<=g/\((List.take r q).all fun (n:Int)=>cm n d 1048576)=true)/\∀ (s:Nat),(fun (j:den Sh.int)=>s<=g/\((List.take s q).all fun (n:Int)=>cm n d 1048576)=true->((↑s:Int)<5->d<=(↑s:Int)/\(↑s:Int)<(↑g:Int)/\(I64 j->(j<d\/1048576<j->p)/\(d<=j/\j<=1048576->I64 ((↑s:Int)+1)/\∃ (o:Nat),(v=v/\c.client=c.client/\c.seq=c.seq/\c.set=c.set/\c.id=c.id/\c.n=c.n/\(↑s:Int)+1=(↑o:Int)/\aR c c)/\(o <= g/\((List.take o q).all fun (n:Int)=>cm n d 1048576)=true)/\g - o < g - s)))/\(5<=(↑s:Int)->(d<(↑c.chunks.length:Int)/\cE c.chunks=false->p)/\((↑c.chunks.length:Int)<=d\/cE c.chunks=true->(v<3->decide (c.text=Str.mk [])=gz c v)/\(3<=v->decide ((↑c.text.b.length:Int)<=16)=gz c v)))) (u.getD s (ak Sh.int))))) [c.client,c.seq,c.set,c.id,c.n]) [c.client,c.seq,c.set,c.id,c.n]) 0) (cz c.kind)) 5) (false=gz c v));iterate 3 ((all_goals (repeat' with_reducible first|apply bh|refine bg ?_|intro)); (all_goals try (first | exact br | exact rfl | exact (Ng aL) | exact (acI (afm aL) ab) | exact (ahW ab (afm aL) ab ab) | exact (Tb (And.intro ab ab)) | exact (aac aL (acv ab aL) (ace ap) aL) | exact (Yk aL (acv ab aL) (ace ap) aL))); all_goals try first | refine ⟨‹Nat› + 1,?_⟩ | refine ⟨0,?_⟩)
def acj:bM:=(aP 160 sf (aP 257 Kr (aP 331 Ny (aP 274 Xx (aP 273 XB (aP 272 Wb (aP 271 Xd (aP 332 BX (aP 146 Bp (aP 255 Bd (aP 256 ze (aP 210 Ej WZ))))))))))))
def nT:aB Tryz.prog (al tyT) acj:=(ag Dr (ag YI (ag ZY (ag adk (ag adQ (ag acH (ag ach (ag Mc (ag ND (ag LA (ag OZ (ag UA dx))))))))))))
def oa (h:m<9223372036854775808):fa m=(m:Int):=by rw [fa,if_pos h]
def GK:(b.drop k).take (b.length - k)=b.drop k:=List.take_of_length_le (by rw [List.length_drop]; exact Nat.le_refl _)
def uk1 (d:(k:Int)<(b.length:Int)) (c:(aj (b.drop k)).2.2=0) (g:(((aj (b.drop k)).1:Nat):Int)<=((64:Nat):Int)):∃ x,b[k]? = some x/\aj (b.drop k)=(x.toNat,1,0)/\x.toNat<=64:=by
 have h:=tk1 (b:=b) (k:=k) aL (by rw [GK]; exact c) (by rw [GK]; omega);rw [GK] at h; exact h
def ukS (d:(k:Int)<(b.length:Int)) (g:(aj (b.drop k)).2.2=0) (j:(((aj (b.drop k)).1:Nat):Int)<=((64:Nat):Int)):(k:Int)+((aj (b.drop k)).2.1:Nat)=((k+1:Nat):Int)/\cJ (b.take k)++[fa (aj (b.drop k)).1]=cJ (b.take (k+1)):=by
 obtain ⟨x,o,c,p⟩:=uk1 d g j;have h:=RT o c;rw [c] at h ⊢;exact ⟨rfl,by rw [<- h,oa (by show x.toNat<_; omega)]⟩
def ukR (c:(k:Int)<(b.length:Int)) (h:(¬ (aj (b.drop k)).2.2=0)\/((64:Nat):Int)<(((aj (b.drop k)).1:Nat):Int)):cE (cJ b)=false:=abD (k:=k) aL (by rw [GK]; exact h)
def aaR (h:k<=b.length) (c:b.length<=100000):((cJ (b.take k)).length+1)*8<=140737488355328:=by
 unfold cJ; rw [List.length_map,List.length_take]; omega
def acp (b:List UInt8):List (Nat × LI):=[(3,{ σ:=Nat,F:=fun k=>([(0,one (.fz .u8 (b))),(4,one (.own 0)),(5,one (.int k))],[.row 3 .int ((cJ (b.take k)))]),J:=fun k=>k<=b.length,μ:=fun k=>b.length - k })]
def Pa:Kn:=aN (ae (kC (cL .u8)) aq) ax fun (b,_) _=>⟨[],[.c (.int (((aS b).num))),.c (.int (((aS b).wire))),.c (.int ((((aS b).k:Nat)))),.c (.int (((aS b).e)))],none,false⟩
def aaQ:CK 355 Pa:=ah fun (b,_) _ _=>by
 refine aw nT [] Tryz.func355 (?_:(fun (p:Int)=>(fun (j:Int)=>(fun (c:TagR)=>(fun (d:Int)=>(fun (g:Prop)=>(fun (o:Nat)=>(fun (q:Prop)=>(fun (h:Int)=>(fun (r:Prop)=>b.length*(1:Nat)<=(140737488355328:Nat)->(aj b).fst<(18446744073709551616:Nat)->I64 (↑(aj b).snd.fst:Int)->I64 j->(¬j=d->d=c.num/\d=c.wire/\d=(↑c.k:Int)/\j=c.e)/\(j=d->g/\(p<=h->g)/\(r->g/\(¬q->g))/\((h<p\/(↑(1000:Nat):Int)<h)\/¬q/\¬(↑o:Int)=(↑(2:Nat):Int)->d=c.num/\d=c.wire/\d=(↑c.k:Int)/\(6:Int)=c.e)/\(r/\(q\/(↑o:Int)=(↑(2:Nat):Int))->g/\g/\fa ((aj b).fst / (8:Nat))=c.num/\fa o=c.wire/\(↑(aj b).snd.fst:Int)=(↑c.k:Int)/\d=c.e))) (p<=h/\h<=(↑(1000:Nat):Int))) (↑((aj b).fst / (8:Nat)):Int)) ((↑o:Int)=(↑(0:Nat):Int))) ((aj b).fst % (8:Nat))) ((0:Nat)<(8:Nat))) (0:Int)) (aS b)) (aj b).snd.snd) (↑(1:Nat):Int));(repeat' with_reducible first|apply bh|refine bg ?_|intro)
 all_goals (first | exact br | (rw [Qg ab] <;> rfl) | (rw [Ls ab aL] <;> rfl) | (rw [Nr ab aL] <;> first | rfl | exact oa aL) | (have:=(oo (l:=b) (k:=0) (n:=0) aL).1; change (aj b).2.1<=11 at this; omega))
def Od:Kn:=aN (ae (kT (.nm .field)) aq) ax fun (f,_) _=>⟨[f.b.length<=16384],[.c (.own 0)],some ([.row 5 .u8 ((cC f))]),true⟩
def abH:CK 222 Od:=ah fun (f,_) _ g=>by
 have h:=cd g;refine dw nT [] Tryz.func222 (?_:(fun (c:Nat)=>(fun (d:List UInt8)=>I64 f.num->I64 f.wire->f.n.n<18446744073709551616->c*1<=140737488355328->I64 (BL f.num f.wire)->(f.wire=0->(d.length+(cY f.n.n).length)*1<=140737488355328/\d++cY f.n.n=cC f)/\(¬f.wire=0->0<=(↑c:Int)/\(d.length+(cY c).length)*1<=140737488355328/\((d++cY c).length+c)*1<=140737488355328/\d++cY c++f.b=cC f)) (nn f.num f.wire)) f.b.length);(repeat' with_reducible first|apply bh|refine bg ?_|intro)
 all_goals (first | exact br | exact (RO ab) | exact (Vc ab) | (have:=sj f.num f.wire; have:=cV (n:=f.n.n) ab; omega) | (have:=sj f.num f.wire; have:=cV (n:=f.b.length) aL; (try simp only [List.length_append]); omega))
def Lp:Kn:=aN (ae (kC cI) aq) ax fun (q,_) _=>⟨[q=1],[.c (.fz (.nm .spec) ((bQ)))],none,false⟩
def abf:CK 254 Lp:=ah fun (q,_) _ B=>by
 have C:=cd B;refine aw nT [] Tryz.func254 (?_:(fun z=>(fun w=>(fun s=>(fun r=>(fun y=>(fun u=>(fun o=>(fun g=>(fun j=>(fun d=>(fun h=>(fun A=>(fun v=>(fun p=>(fun c=>I64 q->c->d->c->c->d->c->g->d->c->u->d->c->I64 r->d->c->I64 s->d->c->I64 w->d->c->I64 z->g->c->I64 8->g->u->c->d->c->c->d->c->g->d->c->g->d->c->u->g->c->u->g->c->I64 r->d->g->I64 s->g->u->c->d->c->c->d->c->g->d->c->g->d->c->c->d->c->c->d->c->g->d->c->u->d->c->I64 r->d->c->c->d->c->c->d->c->g->d->c->g->d->c->u->d->c->I64 r->g->c->I64 r->g->c->I64 s->g->c->I64 s->g->c->I64 w->g->c->I64 w->g->c->I64 z->d->u->c->d->c->c->d->c->g->d->c->g->d->c->u->d->c->u->d->c->I64 r->d->c->I64 r->d->c->I64 s->d->c->I64 w->d->c->I64 z->d->c->I64 8->d->c->I64 9->d->c->I64 10->g->c->I64 10->g->c->c->d->c->c->d->c->g->g->c->(if q=z then some [p,Spec.mk o o h false false] else if q=w then some [p,v,Spec.mk y j h true false,Spec.mk r j h true false,Spec.mk s j h false false,Spec.mk w j h false false,Spec.mk z j h false false,Spec.mk 8 j h false false,Spec.mk 9 j h false false,Spec.mk 10 o h false true] else if q=s then some [p,v,A,Spec.mk r o h false true,Spec.mk s o h false true,Spec.mk w o h false true,Spec.mk z j y false false] else if q=r then some [p,Spec.mk o j h false false,A,Spec.mk r j h false false] else if q=y then some [p,v] else if q=o then some [p,v,Spec.mk y o h true false,Spec.mk r j o false false,Spec.mk s o y false false] else if q=h then some [p,Spec.mk o j h false false,A,Spec.mk r j h false false,Spec.mk s j h false false,Spec.mk w j h false false,Spec.mk z o h false false,Spec.mk 8 o y false false] else none).getD (ak (Sh.nm NT.spec).lst)=bQ) (I64 h)) (Spec.mk h j h true false)) (Spec.mk o j h true false)) (Spec.mk y j h false false)) (1:Int)) (I64 j)) (0:Int)) (I64 o)) (2:Int)) (I64 y)) (3:Int)) (4:Int)) (5:Int)) (6:Int)) (7:Int));subst C; (repeat' with_reducible first|apply bh|refine bg ?_|intro);all_goals (first | exact br | exact rfl)
def OH:Kn:=aN (ae (kC (cL .u8)) aq) ax fun (b,_) _=>⟨[b.length<=100000],[.c (.fz .int ((ll b))),.c (.int ((pM b)))],none,false⟩
theorem Za:CK 333 OH:=ah fun (b,_) _ o=>by
 have p:=cd o;refine aw nT (acp b) Tryz.func333 (?_:(fun (j:Prop)=>b.length*(1:Nat)<=(140737488355328:Nat)->∃ (h:Nat),(b=b/\(0:Int)=(↑h:Int)/\cJ (List.take h b)=[])/\h<=b.length/\∀ (s:Nat),(fun (d:List Int)=>(fun (c:Nat × Nat × Int)=>s<=b.length->((↑s:Int)<(↑b.length:Int)->(0:Int)<=(↑s:Int)/\(↑s:Int)<=(↑b.length:Int)/\(c.fst<(18446744073709551616:Nat)->I64 (↑c.snd.fst:Int)->I64 c.snd.snd->(¬c.snd.snd=(0:Int)\/(↑(64:Nat):Int)<(↑c.fst:Int)->j)/\(c.snd.snd=(0:Int)/\(↑c.fst:Int)<=(↑(64:Nat):Int)->(d.length+[fa c.fst].length)*(8:Nat)<=(140737488355328:Nat)/\I64 ((↑s:Int)+(↑c.snd.fst:Int))/\∃ (g:Nat),(b=b/\(↑s:Int)+(↑c.snd.fst:Int)=(↑g:Int)/\d++[fa c.fst]=cJ (List.take g b))/\g <= b.length/\b.length - g < b.length - s)))/\((↑b.length:Int)<=(↑s:Int)->(cE d=false->j)/\(cE d=true->d=ll b/\(0:Int)=pM b))) (aj (List.drop s b))) (cJ (List.take s b))) (ll b=[]/\(6:Int)=pM b));iterate 3 ((all_goals (repeat' with_reducible first|apply bh|refine bg ?_|intro)); (all_goals try (first | exact br | exact rfl | exact (xw (ukR ab ap)) | exact (Nj (ukR ab ap)) | exact (xw (ukR ab ap)).symm | exact (xw (CB (k:=‹Nat›) aL ab)).symm | exact (xw (CB (k:=‹Nat›) aL ab)) | exact (Nj (CB (k:=‹Nat›) aL ab)) | exact (TS aL ab) | exact (RF (k:=‹Nat›) aL ab) | exact (ukS ab ab ab).1 | exact (ukS ab ab ab).2 | exact (aaR aL aL) | (have:=(ukS ab ab ab).1; refine bZ ?_ ?_ <;> omega))); all_goals try first | refine ⟨‹Nat› + 1,?_⟩ | refine ⟨0,?_⟩)
def acz:bM:=(aP 333 OH (aP 254 Lp (aP 222 Od (aP 355 Pa acj))))
def jR:aB Tryz.prog (al tyT) acz:=(ag Za (ag abf (ag abH (ag aaQ nT))))
