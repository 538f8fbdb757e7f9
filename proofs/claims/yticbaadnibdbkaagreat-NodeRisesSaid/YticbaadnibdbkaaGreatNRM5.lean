/- What leads to the law, part 5. Conditions: each lemma's own. -/
import Derived.Test.YticbaadnibdbkaaGreatNRM4
set_option linter.unusedVariables false
set_option linter.unusedSimpArgs false
set_option maxHeartbeats 2000000
set_option linter.defProp false
noncomputable section
namespace Go.Proofs.YticbaadnibdbkaaGreat
open Go.RowKit
def ag9:=@List.take_succ_cons
def acY:=@Classical.not_not
def eK (s:State) (a:Nat) (k:Nat):Int:=(((s.snaps.drop (a+1)).take k).filter fun x=>decide (x.set=(s.snaps.getD a (ao (.nm .snap))).set)).length
def mE (s:State) (a:Int):Bool:=if a<0\/(s.snaps.length:Int)<=a then false else decide (eK s a.toNat s.snaps.length<s.keep)
def nch (l:List Snap):Nat:=(l.flatMap Snap.chunks).length
def Dk (c:Int) (l:List Snap):Nat:=(l.flatMap Snap.chunks).count c
def br (id:Int) (l:List Snap):List Snap:=l.filter fun x=>!decide (x.id=id)
variable {α:Type} {k:Nat}
def gd {l:List α} {d:α} (h:(k:Int)<l.length):l[k]? = some (l.getD k d):=by
 have a:k<l.length:=by omega
 rw [List.getD_eq_getElem?_getD,List.getElem?_eq_getElem a]; rfl
variable {a:Nat}
def acA {s:State}:0=eK s a 0:=by simp [eK]
def Vm {s:State}:eK s a k<=(k:Int):=by
 have b:=List.length_filter_le (fun x:Snap=>decide (x.set=(s.snaps.getD a (ao (.nm .snap))).set)) ((s.snaps.drop (a+1)).take k);have c:((s.snaps.drop (a+1)).take k).length<=k:=by rw [List.length_take]; omega
 unfold eK; omega
def TB {s:State}:0<=eK s a k:=by unfold eK; omega
def aby {s:State} (h:a+1+k<=s.snaps.length) (b:s.snaps.length*64<=140737488355328):I64 (eK s a k+1):=by
 have c:=Vm (s:=s) (a:=a) (k:=k);have d:=TB (s:=s) (a:=a) (k:=k);constructor <;> omega
variable {x:Snap}
def abz {s:State} (b:(s.snaps.drop (a+1))[k]? = some x) (h:x.set=(s.snaps.getD a (ao (.nm .snap))).set):eK s a k+1=eK s a (k+1):=by
 unfold eK;rw [ai b,List.filter_append,List.length_append];simp [h]
def acD {s:State} (b:(s.snaps.drop (a+1))[k]? = some x) (h:¬ x.set=(s.snaps.getD a (ao (.nm .snap))).set):eK s a k=eK s a (k+1):=by
 unfold eK;rw [ai b,List.filter_append,List.length_append];rw [show List.filter (fun x:Snap=>decide (x.set=(s.snaps.getD a (ao (.nm .snap))).set)) [x]=[] by simp only [List.filter_cons,h,decide_false,List.filter_nil]; rfl];simp
variable {a:Int}
def Pa {s:State} (b:0<=a) (c:a<s.snaps.length) (h:(s.snaps.length:Int)<=a+1+k):decide (eK s a.toNat k<s.keep)=mE s a:=by
 unfold mE;rw [if_neg aK];have e:∀ m:Nat,(s.snaps.length:Int)<=a+1+m->eK s a.toNat m=eK s a.toNat s.snaps.length:=fun m d=>by
  unfold eK;rw [List.take_of_length_le (by rw [List.length_drop]; omega),List.take_of_length_le (by rw [List.length_drop]; omega)]
 rw [e k h]
def Pj {s:State} (h:a<0\/(s.snaps.length:Int)<=a):false=mE s a:=by unfold mE; rw [if_pos h]
variable {id:Int} {l:List Snap}
def adb {y:Snap} (h:¬ x.id=id) (b:l[k]? = some x) (c:l[k]? = some y):br id (l.take k)++[y]=br id (l.take (k+1)):=by
 rw [b] at c; cases c;unfold br; rw [ai b,List.filter_append]; simp [h]
def adF (b:l[k]? = some x) (h:x.id=id):br id (l.take k)=br id (l.take (k+1)):=by
 unfold br; rw [ai b,List.filter_append]; simp [h]
def abF (h:(l.length:Int)<=k):br id (l.take k)=br id l:=by rw [List.take_of_length_le aK]
def aaQ (h:(k:Int)<l.length) (c:l.length*64<=140737488355328):((br id (l.take k)).length+[x].length)*64<=140737488355328:=by
 have b:=List.length_filter_le (fun x:Snap=>!decide (x.id=id)) (l.take k);rw [List.length_take] at b;unfold br;simp only [List.length_cons,List.length_nil];omega
def ad7 (st:State) (b:Int):List (Nat × LI):=[(5,{ σ:=Nat,F:=fun k=>([(1,one (.int (b))),(2,one (.ptr 0 0)),(5,one (.int (eK st b.toNat k))),(21,one (.fz (.nm .snap) (st.snaps.drop (b+1).toNat))),(22,one (.int (st.snaps.drop (b+1).toNat).length)),(23,one (.int k))],[.box 46 (cellsOf (.nm .state) (st))]),J:=fun k=>b.toNat+1+k<=st.snaps.length/\0<=b,μ:=fun k=>st.snaps.length - k })]
def NK:Kn:=aM (ae (kT (.nm .state)) (ae (kC cI) ak)) av fun (st,b,_) _=>⟨[],[.c (.bool (.atom ((mE st b))))],none,false⟩
theorem ab0:CK 347 NK:=ag fun (st,b,_) _ _=>by
 refine aq F_ (ad7 st b) Tryz.func347 (?_:(fun j=>(fun i=>(fun m=>(fun n=>(fun p=>(fun o=>(fun r=>(fun q=>(fun h=>(fun u=>(fun c=>(fun d=>fL st (I64 b->(b<j\/q<=b->false=mE st b)/\(m/\b<q->I64 (b+i)/\j<=b+i/\b+i<=q/\∃ t,(b=b/\j=eK st n t/\c=c/\(↑c.length:Int)=d/\j=(↑t:Int)/\dy st st)/\(p+t<=h/\m)/\∀ (s:Nat),(fun e=>(fun f=>p+s<=h/\m->((↑s:Int)<d->j<=(↑s:Int)/\(↑s:Int)<(↑c.length:Int)/\∀ (x:Snap),c[s]? = some x->ft x (m/\b<q/\ft r ((x.set=r.set->I64 (e+i)/\I64 f/\∃ g,(b=b/\e+i=eK st n g /\ c=c/\d=d/\f=(↑g:Int)/\dy st st)/\(p+g <= h/\m)/\h - g < h - s)/\(¬x.set=r.set->I64 f/\∃ g,(b=b/\e=eK st n g /\ c=c/\d=d/\f=(↑g:Int)/\dy st st)/\(p+g <= h/\m)/\h - g < h - s))))/\(d<=(↑s:Int)->decide (e<st.keep)=mE st b)) ((↑s:Int)+i)) (eK st n s)))) (↑(List.drop u o).length:Int)) (List.drop u o)) (b+i).toNat) o.length) (↑o.length:Int)) (o.getD n (ao (Sh.nm NT.snap)))) st.snaps) (n+1)) b.toNat) (j<=b)) (1:Int)) (0:Int));iterate 3 ((all_goals (repeat' with_reducible first|apply bc|refine ba ?_|intro)); (all_goals try (first | exact bm | exact acA | exact (Pj ap) | exact (aby aK aK) | exact (Pa aK aK (by rw [List.length_drop] at *; omega)) | exact (abz (by rw [show (b+1).toNat=b.toNat+1 by omega] at *; assumption) ab) | exact (by have:=‹_<((List.length (List.drop _ _):Nat):Int)›; rw [List.length_drop] at this; omega) | exact (acD (by rw [show (b+1).toNat=b.toNat+1 by omega] at *; assumption) ab))); all_goals try first | refine ⟨‹Nat› + 1,?_⟩ | refine ⟨0,?_⟩)
def afp:bF:=(aP 347 NK agc)
def q_:aw Tryz.prog (aj tyT) afp:=(ah ab0 F_)
theorem aaO {l:List α} {d:α} (h:(k:Int)<l.length):l.set k (l.getD k d)=l:=by simp_all
def Lh (l:List Snap) (k:Nat):Nat:=((List.range k).filter fun (i:Nat)=>decide (0<Dk ((i:Int)+1) l)).length
def ll (l:List Snap):Nat:=Lh l 64
def abm (st:State):List (Nat × LI):=[(5,{ σ:=Nat,F:=fun k=>([(1,one (.ptr 0 0)),(2,one (.ptr 1 0)),(18,one (.int st.snaps.length)),(19,one (.int k))],[.box 46 ([.int ((st.version)),.int ((st.next)),.int ((st.keep)),.int ((st.quota)),.own 2,.own 3,.own 4]),.box 46 ([.int ((0)),.int ((0)),.int ((0)),.int ((0)),.em true,.em true,.em true]),.row 137 (.nm .sess) ((st.sess)),.row 139 (.nm .opn) ((st.opens)),.row 172 (.nm .snap) ((st.snaps))]),J:=fun k=>k<=st.snaps.length,μ:=fun k=>st.snaps.length - k })]
def NS:Kn:=aM (ae (kT (.nm .state)) (ae (kC cI) ak)) av fun (st,v,_) _=>⟨[],[.c (.int ((eF st v)))],none,false⟩
theorem ZH:CK 276 NS:=ag fun (st,v,_) _ _=>by
 refine aq q_ [] Tryz.func276 (?_:(fun c=>(fun i=>(fun s=>(fun h=>(fun g=>(fun f=>(fun j=>(fun e=>(fun d=>(fun m=>(fun n=>(fun o=>(fun p=>(fun t=>(fun u=>(fun w=>(fun y=>(fun q=>(fun r=>fL st (I64 v->(cq v f h=false->f=c)/\(cq v f h=true->(v<h->e<=g/\e<=g/\(r->j)/\((((t\/m=false)\/p)\/o)\/ga st v=false->6=c)/\(r/\ga st v=true->d=c))/\(h<=v->e<=g/\e<=g/\(q->j)/\((((t\/n=false)\/p)\/o)\/ga st v=false->6=c)/\(q/\ga st v=true->d=c))))) (((y/\m=true)/\w)/\u)) (((y/\n=true)/\w)/\u)) ((cq st.version f h=true/\cq st.next f g=true)/\cq st.keep d e=true)) (aA Sess.client e d st.sess=true/\i=true)) (aA Opn.set e d st.opens=true/\s=true)) ((cq st.version f h=false\/cq st.next f g=false)\/cq st.keep d e=false)) (aA Sess.client e d st.sess=false\/i=false)) (aA Opn.set e d st.opens=false\/s=false)) (cq st.quota d 64)) (cq st.quota d d)) (0:Int)) (8:Int)) (f<=st.next/\st.next<=g)) (1:Int)) (1048576:Int)) (3:Int)) (st.opens.all eJ)) (st.sess.all eu)) (eF st v));(repeat' with_reducible first|apply bc|refine ba ?_|intro)
 all_goals (first | exact bm | exact (Kz (a:=1) (b:=1048576) ab).1 | exact (Kz (a:=1) (b:=1048576) ab).2 | (simp only [eF,kO,Bf,yK]; grind))
def Fa:Kn:=aM (ae (kT (.nm .command)) (ae (kC cI) ak)) av fun (c,v,_) _=>⟨[],[.c (.int ((bL c v)))],none,false⟩
theorem Ur:CK 52 Fa:=ag fun (c,v,_) _ _=>by
 refine aq q_ [] Tryz.func52 (?_:(fun b=>bH c (I64 v->I64 b->(cE v=false\/b=0->1=bL c v)/\(cE v=true/\¬b=0->(v<b->10=bL c v)/\(b<=v->(mR c=false->1=bL c v)/\(mR c=true->0=bL c v))))) (cD c.kind));rw [show cE v=cq v 1 3 from rfl];(repeat' with_reducible first|apply bc|refine ba ?_|intro)
 all_goals (first | exact bm | (simp only [bL]; grind))
def Gp:Kn:=aM (ae (kT (.nm .state)) ak) av fun (st,_) _=>⟨[],[.agg ([.int ((st.version)),.int ((st.next)),.int ((st.keep)),.int ((st.quota)),.own 0,.own 1,.own 2])],some ([.row 137 (.nm .sess) ((st.sess)),.row 139 (.nm .opn) ((st.opens)),.row 172 (.nm .snap) ((st.snaps))]),true⟩
theorem SW:CK 61 Gp:=ag fun (st,_) _ _=>by
 refine dF q_ (abm st) Tryz.func61 (?_:(fun (c:List Snap)=>(fun (b:Nat)=>(fun (d:Prop)=>fL st (∃ (g:Nat),((↑c.length:Int)=(↑b:Int)/\0=(↑g:Int)/\st.version=st.version/\st.next=st.next/\st.keep=st.keep/\st.quota=st.quota/\d/\d/\d/\d/\st.sess=st.sess/\st.opens=st.opens/\c=c)/\g<=b/\∀ (s:Nat),(fun (e:den (Sh.nm NT.snap))=>s<=b->((↑s:Int)<(↑b:Int)->0<=(↑s:Int)/\(↑s:Int)<(↑c.length:Int)/\0<=(↑s:Int)/\(↑s:Int)<(↑c.length:Int)/\ft e (e.chunks.length*8<=140737488355328->ft e (I64 ((↑s:Int)+1)/\∃ (f:Nat),((↑b:Int)=(↑b:Int)/\(↑s:Int)+1=(↑f:Int)/\st.version=st.version/\st.next=st.next/\st.keep=st.keep/\st.quota=st.quota/\d/\d/\d/\d/\st.sess=st.sess/\st.opens=st.opens/\c.set s e=c)/\f <= b/\b - f < b - s)))/\((↑b:Int)<=(↑s:Int)->dy st st)) (c.getD s (ao (Sh.nm NT.snap))))) ((0:Int)=0)) c.length) st.snaps);iterate 3 ((all_goals (repeat' with_reducible first|apply bc|refine ba ?_|intro)); (all_goals try (first | exact bm | exact rfl | exact (aaO aK))); all_goals try first | refine ⟨‹Nat› + 1,?_⟩ | refine ⟨0,?_⟩)
def Yw:bF:=(aP 61 Gp (aP 52 Fa (aP 276 NS afp)))
def uD:aw Tryz.prog (aj tyT) Yw:=(ah SW (ah Ur (ah ZH q_)))
def GN (l:List Snap) (id:Int) (k:Nat):List Int:=((List.range k).filter fun (i:Nat)=>decide (0<Dk ((i:Int)+1) l) && decide (Dk ((i:Int)+1) (br id l)=0)).map fun (i:Nat)=>(i:Int)+1
def eE (b:List Int) (l:List Int):List Int:=l.foldl (fun b n=>if 1<=n/\n<=64 then b.set n.toNat (b.getD n.toNat 0+1) else b) b
theorem aaN (h:nch l<=1048576):nch (br id l)<=1048576:=by
 refine Nat.le_trans ?_ h;unfold nch br;induction l with
 | nil=>exact Nat.le_refl _
 | cons x l b=>
  have c:(l.flatMap Snap.chunks).length<=1048576:=by unfold nch at h; rw [List.flatMap_cons,List.length_append] at h; omega
  have:=b c;grind
def nk (l:List Snap) (id:Int):List Int:=GN l id 64
def Hp (b l:List Int):Prop:=∀ i,0<=b.getD i 0/\b.getD i 0+l.length<=4611686018427387904
variable {xs:List Int} {i:Nat}
theorem QD {j:Nat} {v:Int}:(xs.set j v).getD i 0=if j=i/\j<xs.length then v else xs.getD i 0:=by grind
theorem DZ:∀ (l xs:List Int) (i:Nat),xs.getD i 0<=(eE xs l).getD i 0/\(eE xs l).getD i 0<=xs.getD i 0+l.length
 | [],xs,i=>by simp [eE]
 | n :: l,xs,i=>by
  have h:=DZ l (if 1<=n/\n<=64 then xs.set n.toNat (xs.getD n.toNat 0+1) else xs) i;have e:eE xs (n :: l)=eE (if 1<=n/\n<=64 then xs.set n.toNat (xs.getD n.toNat 0+1) else xs) l:=rfl;have b:xs.getD i 0<=(if 1<=n/\n<=64 then xs.set n.toNat (xs.getD n.toNat 0+1) else xs).getD i 0/\(if 1<=n/\n<=64 then xs.set n.toNat (xs.getD n.toNat 0+1) else xs).getD i 0<=xs.getD i 0+1:=by
   split
   ·rw [QD]; split
    ·grind
    omega
   omega
  grind
variable {l:List Int} {n:Int}
def Bj (b:l[k]? = some n):eE xs (l.take (k+1))=if 1<=n/\n<=64 then (eE xs (l.take k)).set n.toNat ((eE xs (l.take k)).getD n.toNat 0+1) else eE xs (l.take k):=by
 rw [ai b,eE,List.foldl_append]; rfl
def aeB (b:l[k]? = some n) (h:1<=n/\n<=64):(eE xs (l.take k)).set n.toNat ((eE xs (l.take k)).getD n.toNat (ao .int)+1)=eE xs (l.take (k+1)):=by rw [Bj b,if_pos h]; rfl
def aei (b:l[k]? = some n) (h:¬ (1<=n/\n<=64)):eE xs (l.take k)=eE xs (l.take (k+1)):=by rw [Bj b,if_neg h]
def adL (h:Hp xs l):I64 ((eE xs (l.take k)).getD n.toNat (ao .int)+1):=by
 have b:=DZ (l.take k) xs n.toNat;have c:=h n.toNat;rw [List.length_take] at b;show I64 ((eE xs (l.take k)).getD n.toNat 0+1);constructor <;> omega
def ag3 (l:List Int) (xs:List Int):List (Nat × LI):=[(1,{ σ:=Nat,F:=fun k=>([(0,one (.ptr 0 0)),(6,one (.fz .int (l))),(7,one (.int (l).length)),(8,one (.int k))],[.arr 338 .int 65 ((eE xs (l.take k)))]),J:=fun k=>k<=l.length,μ:=fun k=>(l).length - k })]
def Qv:Kn:=aM (ae (kT (.nm .state)) (ae (kT (.nm .command)) ak)) av fun (st,c,_) _=>⟨[],[.c (.int ((if eF st st.version=0 then bL c st.version else 1)))],none,false⟩
theorem aaB:CK 260 Qv:=ag fun (st,c,_) _ _=>by
 refine aq uD [] Tryz.func260 (?_:(fun d=>(fun b=>(fun e=>fL st (bH c (I64 b->(¬b=0->1=e)/\(b=0->I64 d->d=e)))) (if b=0 then d else 1)) (eF st st.version)) (bL c st.version));grind
def XD:Kn:=aM (ae (kC (aZ 0 0)) (ae (kC (cL .int)) ak)) (aH (Dp 338 .int 65) av) fun (_,l,_) (xs,_)=>⟨[Hp xs l],[],some ([.arr 338 .int 65 ((eE xs l))]),false⟩
theorem adr:CK 360 XD:=ag fun (_,l,_) (xs,_) m=>by
 have o:=cg m;refine bw uD (ag3 l xs) Tryz.func360 (?_:(fun (e:Int)=>(fun (b:Nat)=>(fun (d:Int)=>l.length*(8:Nat)<=(140737488355328:Nat)->∃ (h:Nat),(l=l/\(↑l.length:Int)=d/\(0:Int)=(↑h:Int)/\xs=eE xs (List.take h l))/\h<=b/\∀ (s:Nat),(fun (f:Int)=>(fun (g:List Int)=>s<=b->((↑s:Int)<d->(0:Int)<=(↑s:Int)/\(↑s:Int)<(↑l.length:Int)/\∀ (x:Int),(fun (j:den Sh.int)=>l[s]? = some x->I64 x->(e<=x/\x<=(64:Int)->(0:Int)<=x/\x<(↑(65:Nat):Int)/\x.toNat<(65:Nat)/\I64 (j+e)/\(0:Int)<=x/\x<(↑(65:Nat):Int)/\(I64 j->x.toNat<(65:Nat)/\I64 f/\∃ (c:Nat),(l=l/\d=d/\f=(↑c:Int)/\g.set x.toNat (j+e)=eE xs (List.take c l))/\c <= b/\b - c < b - s))/\(x<e\/(64:Int)<x->I64 f/\∃ (c:Nat),(l=l/\d=d/\f=(↑c:Int)/\g=eE xs (List.take c l))/\c <= b/\b - c < b - s)) (g.getD x.toNat (ao Sh.int)))/\(d<=(↑s:Int)->g=eE xs l)) (eE xs (List.take s l))) ((↑s:Int)+e)) (↑b:Int)) l.length) (1:Int));iterate 3 ((all_goals (repeat' with_reducible first|apply bc|refine ba ?_|intro)); (all_goals try (first | exact bm | exact rfl | exact (aeB ab (by constructor <;> omega)) | exact (aei ab aK) | exact (by rw [List.take_of_length_le aK]) | exact (adL ab))); all_goals try first | refine ⟨‹Nat› + 1,?_⟩ | refine ⟨0,?_⟩)
def WZ:bF:=(aP 360 XD (aP 260 Qv Yw))
def Mn:aw Tryz.prog (aj tyT) WZ:=(ah adr (ah aaB uD))
section
variable {B:Bool} {k:Nat}
variable {st:State} {v:Int}
end
def WI:bF:=WZ
def Sc:aw Tryz.prog (aj tyT) WI:=Mn
def Yd:bF:=WI
def kW:aw Tryz.prog (aj tyT) Yd:=Sc
def fN (xs:List Int) (c:Int):Bool:=decide (0<xs.getD c.toNat (ao .int))
def fO (xs b:List Int) (c:Int):Bool:=decide (0<xs.getD c.toNat (ao .int)) && decide (b.getD c.toNat (ao .int)=0)
def kP (p:Int->Bool) (k:Nat):List Int:=((List.range k).map fun (i:Nat)=>(i:Int)+1).filter p
def ad1 {p:Int->Bool} (h:p ((k:Int)+1)=true):kP p k++[(k:Int)+1]=kP p (k+1):=by
 unfold kP; rw [List.range_succ,List.map_append,List.filter_append]; simp [h]
def afd {p:Int->Bool} (h:p ((k:Int)+1)=false):kP p k=kP p (k+1):=by
 unfold kP; rw [List.range_succ,List.map_append,List.filter_append]; simp [h]
def aft {p:Int->Bool} (h:k<=64) (b:64<(k:Int)+1):kP p k=kP p 64:=by rw [show k=64 by omega]
def LX {p:Int->Bool} (h:k<=64):((kP p k).length+[n].length)*8<=140737488355328:=by
 have:=List.length_filter_le p ((List.range k).map fun (i:Nat)=>(i:Int)+1);rw [List.length_map,ak1] at this;unfold kP; simp only [List.length_cons,List.length_nil]; omega
def cm (l:List Snap):List Int:=l.foldl (fun t x=>eE t x.chunks) (List.replicate 65 0)
theorem ub:∀ (l xs:List Int),(eE xs l).length=xs.length
 | [],_=>rfl
 | n :: l,xs=>by
  show (eE (if 1<=n/\n<=64 then xs.set n.toNat (xs.getD n.toNat 0+1) else xs) l).length=_;rw [ub l]; split
  ·grind
  rfl
variable {l:List Snap}
def kZ:cm (l++[x])=eE (cm l) x.chunks:=by unfold cm; rw [List.foldl_append]; rfl
def Zq (b:l[k]? = some x):eE (cm (l.take k)) x.chunks=cm (l.take (k+1)):=by rw [ai b,kZ]
theorem xo {p:List Snap->Prop} (b:p []) (c:∀ l x,p l->p (l++[x])) (l:List Snap):p l:=by
 have:∀ r:List Snap,p r.reverse:=fun r=>by
  induction r with
  | nil=>exact b
  | cons x r d=>rw [List.reverse_cons]; exact c _ _ d
 have h:=this l.reverse;grind
def jN (l:List Snap):(cm l).length=65:=by
 refine xo (p:=fun l=>(cm l).length=65) rfl (fun l x h=>?_) l;rw [kZ,ub,h]
def Bx:nch (l++[x])=nch l+x.chunks.length:=by unfold nch; simp
theorem LH (l:List Snap) (i:Nat):0<=(cm l).getD i 0/\(cm l).getD i 0<=nch l:=by
 refine xo (p:=fun l=>0<=(cm l).getD i 0/\(cm l).getD i 0<=nch l) ?_ (fun l x h=>?_) l
 ·show 0<=(List.replicate 65 (0:Int)).getD i 0/\(List.replicate 65 (0:Int)).getD i 0<=_;grind
 have:=DZ x.chunks (cm l) i;rw [kZ,Bx]; omega
def Gv (b:l[k]? = some x) (h:nch l<=1048576):Hp (cm (l.take k)) x.chunks:=fun i=>by
 have d:=LH (l.take k) i;have c:nch (l.take (k+1))<=nch l:=by
  unfold nch; rw [<- List.take_append_drop (k+1) l,List.flatMap_append,List.length_append,List.take_append_drop]; omega
 rw [ai b,Bx] at c;omega
def GI {m:List Int} {s:Sh} (h:nch l<=1048576) (b:m.length*8<=140737488355328):Hp (CY .int (cm l) 0 65) m:=fun i=>by
 rw [jT (jN l)];have c:=LH l i;omega
theorem FT:∀ (l xs:List Int) (c:Int),1<=c->c<=64->xs.length=65->(eE xs l).getD c.toNat 0=xs.getD c.toNat 0+(l.count c:Nat)
 | [],_,_,_,_,_=>by simp [eE]
 | n :: l,xs,c,d,e,b=>by
  show (eE (if 1<=n/\n<=64 then xs.set n.toNat (xs.getD n.toNat 0+1) else xs) l).getD c.toNat 0=_;rw [FT l _ c d e (by split; rw [agi,b]; exact b),List.count_cons];split
  ·grind
  grind
def En (l:List Snap) (c:Int) (b:1<=c) (d:c<=64):(cm l).getD c.toNat 0=(Dk c l:Nat):=by
 refine xo (p:=fun l=>(cm l).getD c.toNat 0=(Dk c l:Nat)) ?_ (fun l x h=>?_) l
 ·show (List.replicate 65 (0:Int)).getD c.toNat 0=_;rw [List.getD_eq_getElem?_getD,List.getElem?_replicate]; split <;> simp [Dk]
 rw [kZ,FT _ _ _ b d (jN l),h];unfold Dk; simp
theorem Hk (l:List Snap):((kP (fN (cm l)) 64).length:Int)=(ll l:Int):=by
 unfold kP ll Lh;rw [List.filter_map,List.length_map];congr 2;apply List.filter_congr;intro i b;rw [List.mem_range] at b;have:=En l ((i:Int)+1) aK aK;simp only [Function.comp,fN];rw [show (ao .int)=(0:Int) from rfl,this];grind
theorem Mw (l m:List Snap) (id:Int) (e:m=br id l):kP (fO (cm l) (cm m)) 64=nk l id:=by
 subst e;unfold kP nk GN;rw [List.filter_map];congr 1;apply List.filter_congr;intro i b;rw [List.mem_range] at b;have c:=En l ((i:Int)+1) aK aK;have d:=En (br id l) ((i:Int)+1) aK aK;simp only [Function.comp,fO];rw [show (ao .int)=(0:Int) from rfl,c,d];grind
def aa4 (l:List Snap):List (Nat × LI):=[(3,{ σ:=Nat,F:=fun k=>([(2,one (.ptr 0 0)),(3,one (.ptr 1 0)),(6,one (.fz (.nm .snap) (l))),(7,one (.int (l).length)),(8,one (.int k))],[.arr 338 .int 65 ((List.replicate 65 0)),.arr 338 .int 65 ((cm (l.take k)))]),J:=fun k=>k<=l.length,μ:=fun k=>l.length - k })]
def Mz (l:List Snap) (id:Int):List (Nat × LI):=[(3,{ σ:=Nat,F:=fun k=>([(1,one (.int (id))),(5,one (.own 0)),(8,one (.fz (.nm .snap) (l))),(9,one (.int (l).length)),(10,one (.int k))],[.row 172 (.nm .snap) ((br id (l.take k)))]),J:=fun k=>k<=l.length,μ:=fun k=>l.length - k })]
def FM:Kn:=aM (ae (kC cI) (ae (kC (aZ 0 0)) ak)) (aH (Dp 338 .int 65) av) fun (n,_,_) (xs,_)=>⟨[0<=n/\n<65],[.c (.bool (.atom ((fN xs n))))],none,false⟩
theorem VR:CK 362 FM:=ag fun (n,_,_) (xs,_) b=>by
 have c:=cg b;refine aq kW [] Tryz.func362 (?_:I64 n->(0:Int)<=n/\n<(↑(65:Nat):Int)/\n.toNat<(65:Nat)/\(I64 (xs.getD n.toNat (ao Sh.int))->decide ((0:Int)<xs.getD n.toNat (ao Sh.int))=fN xs n));(repeat' with_reducible first|apply bc|refine ba ?_|intro) <;> first | (first | with_reducible rfl | with_reducible assumption | omega | (refine bz ?_ ?_ <;> omega)) | rfl
def zA:Kn:=aM (ae (kC cI) (ae (kC (aZ 0 0)) (ae (kC (aZ 1 0)) ak))) (aH (Dp 338 .int 65) (aH (Dp 338 .int 65) av)) fun (n,_,_,_) (xs,b,_)=>⟨[0<=n/\n<65],[.c (.bool (.atom ((fO xs b n))))],none,false⟩
theorem PW:CK 363 zA:=ag fun (n,_,_,_) (xs,d,_) e=>by
 have f:=cg e;refine aq kW [] Tryz.func363 (?_:(fun b=>(fun c=>I64 n->b<=n/\n<(↑(65:Nat):Int)/\n.toNat<(65:Nat)/\(I64 c->(b<c->b<=n/\n<(↑(65:Nat):Int)/\n.toNat<(65:Nat))/\((b<c->I64 (d.getD n.toNat (ao Sh.int)))->(decide (b<c) && decide (d.getD n.toNat (ao Sh.int)=b))=fO xs d n))) (xs.getD n.toNat (ao Sh.int))) (0:Int));(repeat' with_reducible first|apply bc|refine ba ?_|intro) <;> first | (first | with_reducible rfl | with_reducible assumption | omega | (refine bz ?_ ?_ <;> omega)) | rfl
def Hc:Kn:=aM (ae (kC (cL (.nm .snap))) ak) av fun (l,_) _=>⟨[nch l<=1048576],[.agg (ym .int ((cm l)) 0 65)],none,false⟩
theorem Uz:CK 346 Hc:=ag fun (l,_) _ q=>by
 have r:=cg q;refine aq kW (aa4 l) Tryz.func346 (?_:(fun (f:Nat)=>(fun (d:List Int)=>(fun (m:Nat)=>(fun (g:Nat)=>(fun (c:Int)=>(fun (b:den Sh.int)=>(fun (p:List (den Sh.int))=>l.length*64<=140737488355328->∃ (o:Nat),(l=l/\(↑l.length:Int)=(↑f:Int)/\c=(↑o:Int)/\p=List.replicate g (0:den Sh.int)/\p=cm (List.take o l))/\o<=f/\∀ (s:Nat),(fun (h:List Int)=>(fun (e:List (den Sh.int))=>s<=f->((↑s:Int)<(↑f:Int)->c<=(↑s:Int)/\(↑s:Int)<(↑l.length:Int)/\∀ (x:Snap),l[s]? = some x->ft x ((∀ (i:Nat),c<=h.getD i c/\h.getD i c+(↑x.chunks.length:Int)<=4611686018427387904)/\I64 ((↑s:Int)+1)/\∃ (j:Nat),(l=l/\(↑f:Int)=(↑f:Int)/\(↑s:Int)+1=(↑j:Int)/\List.replicate g (0:den Sh.int)=List.replicate g (0:den Sh.int)/\eE h x.chunks=cm (List.take j l))/\j <= f/\f - j < f - s))/\((↑f:Int)<=(↑s:Int)->e.getD m b=d.getD m b/\e.getD 1 b=d.getD 1 b/\e.getD 2 b=d.getD 2 b/\e.getD 3 b=d.getD 3 b/\e.getD 4 b=d.getD 4 b/\e.getD 5 b=d.getD 5 b/\e.getD 6 b=d.getD 6 b/\e.getD 7 b=d.getD 7 b/\e.getD 8 b=d.getD 8 b/\e.getD 9 b=d.getD 9 b/\e.getD 10 b=d.getD 10 b/\e.getD 11 b=d.getD 11 b/\e.getD 12 b=d.getD 12 b/\e.getD 13 b=d.getD 13 b/\e.getD 14 b=d.getD 14 b/\e.getD 15 b=d.getD 15 b/\e.getD 16 b=d.getD 16 b/\e.getD 17 b=d.getD 17 b/\e.getD 18 b=d.getD 18 b/\e.getD 19 b=d.getD 19 b/\e.getD 20 b=d.getD 20 b/\e.getD 21 b=d.getD 21 b/\e.getD 22 b=d.getD 22 b/\e.getD 23 b=d.getD 23 b/\e.getD 24 b=d.getD 24 b/\e.getD 25 b=d.getD 25 b/\e.getD 26 b=d.getD 26 b/\e.getD 27 b=d.getD 27 b/\e.getD 28 b=d.getD 28 b/\e.getD 29 b=d.getD 29 b/\e.getD 30 b=d.getD 30 b/\e.getD 31 b=d.getD 31 b/\e.getD 32 b=d.getD 32 b/\e.getD 33 b=d.getD 33 b/\e.getD 34 b=d.getD 34 b/\e.getD 35 b=d.getD 35 b/\e.getD 36 b=d.getD 36 b/\e.getD 37 b=d.getD 37 b/\e.getD 38 b=d.getD 38 b/\e.getD 39 b=d.getD 39 b/\e.getD 40 b=d.getD 40 b/\e.getD 41 b=d.getD 41 b/\e.getD 42 b=d.getD 42 b/\e.getD 43 b=d.getD 43 b/\e.getD 44 b=d.getD 44 b/\e.getD 45 b=d.getD 45 b/\e.getD 46 b=d.getD 46 b/\e.getD 47 b=d.getD 47 b/\e.getD 48 b=d.getD 48 b/\e.getD 49 b=d.getD 49 b/\e.getD 50 b=d.getD 50 b/\e.getD 51 b=d.getD 51 b/\e.getD 52 b=d.getD 52 b/\e.getD 53 b=d.getD 53 b/\e.getD 54 b=d.getD 54 b/\e.getD 55 b=d.getD 55 b/\e.getD 56 b=d.getD 56 b/\e.getD 57 b=d.getD 57 b/\e.getD 58 b=d.getD 58 b/\e.getD 59 b=d.getD 59 b/\e.getD 60 b=d.getD 60 b/\e.getD 61 b=d.getD 61 b/\e.getD 62 b=d.getD 62 b/\e.getD 63 b=d.getD 63 b/\e.getD 64 b=d.getD 64 b)) (CY Sh.int h m g)) (cm (List.take s l))) [c,c,c,c,c,c,c,c,c,c,c,c,c,c,c,c,c,c,c,c,c,c,c,c,c,c,c,c,c,c,c,c,c,c,c,c,c,c,c,c,c,c,c,c,c,c,c,c,c,c,c,c,c,c,c,c,c,c,c,c,c,c,c,c,c]) (ao Sh.int)) 0) 65) 0) (cm l)) l.length);iterate 3 ((all_goals (repeat' with_reducible first|apply bc|refine ba ?_|intro)); (all_goals try (first | exact bm | exact rfl | exact (Zq ab) | exact (Gv ab ab _).1 | exact (Gv ab ab _).2 | exact (by rw [jT (jN _),List.take_of_length_le aK]))); all_goals try first | refine ⟨‹Nat› + 1,?_⟩ | refine ⟨0,?_⟩)
def wI:Kn:=aM (ae (kC (cL (.nm .snap))) (ae (kC cI) ak)) av fun (l,id,_) _=>⟨[],[.c (.own 0)],some ([.row 172 (.nm .snap) ((br id l))]),true⟩
theorem IF:CK 349 wI:=ag fun (l,id,_) _ _=>by
 refine dF kW (Mz l id) Tryz.func349 (?_:(fun (b:Nat)=>(fun (d:Int)=>l.length*64<=140737488355328->I64 id->∃ (g:Nat),(id=id/\l=l/\(↑l.length:Int)=d/\0=(↑g:Int)/\br id (List.take g l)=[])/\g<=b/\∀ (s:Nat),(fun (e:List Snap)=>(fun (f:Int)=>s<=b->((↑s:Int)<d->0<=(↑s:Int)/\(↑s:Int)<(↑l.length:Int)/\∀ (x:Snap),l[s]? = some x->ft x ((¬x.id=id->x.chunks.length*8<=140737488355328->(e.length+[x].length)*64<=140737488355328/\I64 f/\∃ (c:Nat),(id=id/\l=l/\d=d/\f=(↑c:Int)/\e++[x]=br id (List.take c l))/\c <= b/\b - c < b - s)/\(x.id=id->I64 f/\∃ (c:Nat),(id=id/\l=l/\d=d/\f=(↑c:Int)/\e=br id (List.take c l))/\c <= b/\b - c < b - s)))/\(d<=(↑s:Int)->e=br id l)) ((↑s:Int)+1)) (br id (List.take s l))) (↑b:Int)) l.length);iterate 3 ((all_goals (repeat' with_reducible first|apply bc|refine ba ?_|intro)); (all_goals try (first | exact bm | exact rfl | exact (adb ab ab ab) | exact (adF ab ab) | exact (abF aK) | exact (aaQ aK aK))); all_goals try first | refine ⟨‹Nat› + 1,?_⟩ | refine ⟨0,?_⟩)
def Xw:bF:=(aP 349 wI (aP 346 Hc (aP 363 zA (aP 362 FM Yd))))
def tG:aw Tryz.prog (aj tyT) Xw:=(ah IF (ah Uz (ah PW (ah VR kW))))
def Sd (xs:List Int):List (Nat × LI):=[(3,{ σ:=Nat,F:=fun k=>([(0,one (.fn 362 [] [(0,0)])),(3,one (.own 1)),(4,one (.int (k+1)))],[.arr 338 .int 65 ((xs)),.row 3 .int ((kP (fN xs) k))]),J:=fun k=>k<=64,μ:=fun k=>64 - k })]
def NV (xs:List Int) (b:List Int):List (Nat × LI):=[(3,{ σ:=Nat,F:=fun k=>([(0,one (.fn 363 [] [(0,0),(1,0)])),(3,one (.own 2)),(4,one (.int (k+1)))],[.arr 338 .int 65 ((xs)),.arr 338 .int 65 ((b)),.row 3 .int ((kP (fO xs b) k))]),J:=fun k=>k<=64,μ:=fun k=>64 - k })]
def vv:Kn:=aM (ae (kC (rJ 362 [] [(0,0)])) ak) (aH (Dp 338 .int 65) av) fun _ (xs,_)=>⟨[],[.c (.fz .int ((kP (fN xs) 64)))],none,false⟩
theorem Ks:CK 361 vv:=ag fun _ (xs,_) _=>by
 refine aq tG (Sd xs) Tryz.func361 (?_:(fun (c:Nat)=>(fun (d:Int)=>∃ (g:Nat),(d=(↑g:Int)+d/\xs=xs/\kP (fN xs) g=[])/\g<=c/\∀ (s:Nat),(fun (f:List Int)=>(fun (b:Int)=>s<=c->(b<=64->(0<=b/\b<65)/\(fN xs b=true->(f.length+[b].length)*8<=140737488355328/\I64 (b+d)/\∃ (e:Nat),(b+d=(↑e:Int)+d/\xs=xs/\f++[b]=kP (fN xs) e)/\e <= c/\c - e < c - s)/\(fN xs b=false->I64 (b+d)/\∃ (e:Nat),(b+d=(↑e:Int)+d/\xs=xs/\f=kP (fN xs) e)/\e <= c/\c - e < c - s))/\(64<b->f=kP (fN xs) c)) ((↑s:Int)+d)) (kP (fN xs) s)) 1) 64);iterate 3 ((all_goals (repeat' with_reducible first|apply bc|refine ba ?_|intro)); (all_goals try (first | exact bm | exact rfl | exact (ad1 ab) | exact (afd ab) | exact (aft aK aK) | exact (LX aK) | exact (And.intro aK aK))); all_goals try first | refine ⟨‹Nat› + 1,?_⟩ | refine ⟨0,?_⟩)
def wH:Kn:=aM (ae (kC (rJ 363 [] [(0,0),(1,0)])) ak) (aH (Dp 338 .int 65) (aH (Dp 338 .int 65) av)) fun _ (xs,b,_)=>⟨[],[.c (.fz .int ((kP (fO xs b) 64)))],none,false⟩
theorem Iv:CK 361 wH:=ag fun _ (xs,b,_) _=>by
 refine aq tG (NV xs b) Tryz.func361 (?_:(fun (d:Nat)=>(fun (e:Int)=>∃ (h:Nat),(e=(↑h:Int)+e/\xs=xs/\b=b/\kP (fO xs b) h=[])/\h<=d/\∀ (s:Nat),(fun (g:List Int)=>(fun (c:Int)=>s<=d->(c<=64->(0<=c/\c<65)/\(fO xs b c=true->(g.length+[c].length)*8<=140737488355328/\I64 (c+e)/\∃ (f:Nat),(c+e=(↑f:Int)+e/\xs=xs/\b=b/\g++[c]=kP (fO xs b) f)/\f <= d/\d - f < d - s)/\(fO xs b c=false->I64 (c+e)/\∃ (f:Nat),(c+e=(↑f:Int)+e/\xs=xs/\b=b/\g=kP (fO xs b) f)/\f <= d/\d - f < d - s))/\(64<c->g=kP (fO xs b) d)) ((↑s:Int)+e)) (kP (fO xs b) s)) 1) 64);iterate 3 ((all_goals (repeat' with_reducible first|apply bc|refine ba ?_|intro)); (all_goals try (first | exact bm | exact rfl | exact (ad1 ab) | exact (afd ab) | exact (aft aK aK) | exact (LX aK) | exact (And.intro aK aK))); all_goals try first | refine ⟨‹Nat› + 1,?_⟩ | refine ⟨0,?_⟩)
def Xh:bF:=(aP 361 wH (aP 361 vv Xw))
def sZ:aw Tryz.prog (aj tyT) Xh:=(ah Iv (ah Ks tG))
def LN:Kn:=aM (ae (kA .int 65) ak) av fun (xs,_) _=>⟨[xs.length=65],[.c (.fz .int ((kP (fN xs) 64)))],none,false⟩
theorem ab2:CK 345 LN:=ag fun (xs,_) _ e=>by
 have c:=cg e;refine aq sZ [] Tryz.func345 (?_:(fun d=>(fun b=>I64 (xs.getD 0 b)->I64 (xs.getD 1 b)->I64 (xs.getD 2 b)->I64 (xs.getD 3 b)->I64 (xs.getD 4 b)->I64 (xs.getD 5 b)->I64 (xs.getD 6 b)->I64 (xs.getD 7 b)->I64 (xs.getD 8 b)->I64 (xs.getD 9 b)->I64 (xs.getD 10 b)->I64 (xs.getD 11 b)->I64 (xs.getD 12 b)->I64 (xs.getD 13 b)->I64 (xs.getD 14 b)->I64 (xs.getD 15 b)->I64 (xs.getD 16 b)->I64 (xs.getD 17 b)->I64 (xs.getD 18 b)->I64 (xs.getD 19 b)->I64 (xs.getD 20 b)->I64 (xs.getD 21 b)->I64 (xs.getD 22 b)->I64 (xs.getD 23 b)->I64 (xs.getD 24 b)->I64 (xs.getD 25 b)->I64 (xs.getD 26 b)->I64 (xs.getD 27 b)->I64 (xs.getD 28 b)->I64 (xs.getD 29 b)->I64 (xs.getD 30 b)->I64 (xs.getD 31 b)->I64 (xs.getD 32 b)->I64 (xs.getD 33 b)->I64 (xs.getD 34 b)->I64 (xs.getD 35 b)->I64 (xs.getD 36 b)->I64 (xs.getD 37 b)->I64 (xs.getD 38 b)->I64 (xs.getD 39 b)->I64 (xs.getD 40 b)->I64 (xs.getD 41 b)->I64 (xs.getD 42 b)->I64 (xs.getD 43 b)->I64 (xs.getD 44 b)->I64 (xs.getD 45 b)->I64 (xs.getD 46 b)->I64 (xs.getD 47 b)->I64 (xs.getD 48 b)->I64 (xs.getD 49 b)->I64 (xs.getD 50 b)->I64 (xs.getD 51 b)->I64 (xs.getD 52 b)->I64 (xs.getD 53 b)->I64 (xs.getD 54 b)->I64 (xs.getD 55 b)->I64 (xs.getD 56 b)->I64 (xs.getD 57 b)->I64 (xs.getD 58 b)->I64 (xs.getD 59 b)->I64 (xs.getD 60 b)->I64 (xs.getD 61 b)->I64 (xs.getD 62 b)->I64 (xs.getD 63 b)->I64 (xs.getD 64 b)->d.length*8<=140737488355328->d=kP (fN xs) 64) (ao Sh.int)) (kP (fN (CY Sh.int xs 0 65)) 64));(repeat' with_reducible first|apply bc|refine ba ?_|intro)
 all_goals (first | exact bm | exact (by rw [jT c]) | exact (by rw [jT c]; assumption))
def Cl:Kn:=aM (ae (kC (cL (.nm .snap))) (ae (kC cI) ak)) av fun (l,id,_) _=>⟨[nch l<=1048576],[.c (.fz .int ((nk l id)))],none,false⟩
def Na:CK 348 Cl:=ag fun (l,id,_) _ g=>by
 have h:=cg g;refine aq sZ [] Tryz.func348 (?_:(fun e=>(fun c=>(fun b=>(fun d=>(fun f=>l.length*64<=140737488355328->I64 id->nch l<=1048576/\(I64 (c.getD e b)->I64 (c.getD 1 b)->I64 (c.getD 2 b)->I64 (c.getD 3 b)->I64 (c.getD 4 b)->I64 (c.getD 5 b)->I64 (c.getD 6 b)->I64 (c.getD 7 b)->I64 (c.getD 8 b)->I64 (c.getD 9 b)->I64 (c.getD 10 b)->I64 (c.getD 11 b)->I64 (c.getD 12 b)->I64 (c.getD 13 b)->I64 (c.getD 14 b)->I64 (c.getD 15 b)->I64 (c.getD 16 b)->I64 (c.getD 17 b)->I64 (c.getD 18 b)->I64 (c.getD 19 b)->I64 (c.getD 20 b)->I64 (c.getD 21 b)->I64 (c.getD 22 b)->I64 (c.getD 23 b)->I64 (c.getD 24 b)->I64 (c.getD 25 b)->I64 (c.getD 26 b)->I64 (c.getD 27 b)->I64 (c.getD 28 b)->I64 (c.getD 29 b)->I64 (c.getD 30 b)->I64 (c.getD 31 b)->I64 (c.getD 32 b)->I64 (c.getD 33 b)->I64 (c.getD 34 b)->I64 (c.getD 35 b)->I64 (c.getD 36 b)->I64 (c.getD 37 b)->I64 (c.getD 38 b)->I64 (c.getD 39 b)->I64 (c.getD 40 b)->I64 (c.getD 41 b)->I64 (c.getD 42 b)->I64 (c.getD 43 b)->I64 (c.getD 44 b)->I64 (c.getD 45 b)->I64 (c.getD 46 b)->I64 (c.getD 47 b)->I64 (c.getD 48 b)->I64 (c.getD 49 b)->I64 (c.getD 50 b)->I64 (c.getD 51 b)->I64 (c.getD 52 b)->I64 (c.getD 53 b)->I64 (c.getD 54 b)->I64 (c.getD 55 b)->I64 (c.getD 56 b)->I64 (c.getD 57 b)->I64 (c.getD 58 b)->I64 (c.getD 59 b)->I64 (c.getD 60 b)->I64 (c.getD 61 b)->I64 (c.getD 62 b)->I64 (c.getD 63 b)->I64 (c.getD 64 b)->nch (br id l)<=1048576/\(I64 (d.getD e b)->I64 (d.getD 1 b)->I64 (d.getD 2 b)->I64 (d.getD 3 b)->I64 (d.getD 4 b)->I64 (d.getD 5 b)->I64 (d.getD 6 b)->I64 (d.getD 7 b)->I64 (d.getD 8 b)->I64 (d.getD 9 b)->I64 (d.getD 10 b)->I64 (d.getD 11 b)->I64 (d.getD 12 b)->I64 (d.getD 13 b)->I64 (d.getD 14 b)->I64 (d.getD 15 b)->I64 (d.getD 16 b)->I64 (d.getD 17 b)->I64 (d.getD 18 b)->I64 (d.getD 19 b)->I64 (d.getD 20 b)->I64 (d.getD 21 b)->I64 (d.getD 22 b)->I64 (d.getD 23 b)->I64 (d.getD 24 b)->I64 (d.getD 25 b)->I64 (d.getD 26 b)->I64 (d.getD 27 b)->I64 (d.getD 28 b)->I64 (d.getD 29 b)->I64 (d.getD 30 b)->I64 (d.getD 31 b)->I64 (d.getD 32 b)->I64 (d.getD 33 b)->I64 (d.getD 34 b)->I64 (d.getD 35 b)->I64 (d.getD 36 b)->I64 (d.getD 37 b)->I64 (d.getD 38 b)->I64 (d.getD 39 b)->I64 (d.getD 40 b)->I64 (d.getD 41 b)->I64 (d.getD 42 b)->I64 (d.getD 43 b)->I64 (d.getD 44 b)->I64 (d.getD 45 b)->I64 (d.getD 46 b)->I64 (d.getD 47 b)->I64 (d.getD 48 b)->I64 (d.getD 49 b)->I64 (d.getD 50 b)->I64 (d.getD 51 b)->I64 (d.getD 52 b)->I64 (d.getD 53 b)->I64 (d.getD 54 b)->I64 (d.getD 55 b)->I64 (d.getD 56 b)->I64 (d.getD 57 b)->I64 (d.getD 58 b)->I64 (d.getD 59 b)->I64 (d.getD 60 b)->I64 (d.getD 61 b)->I64 (d.getD 62 b)->I64 (d.getD 63 b)->I64 (d.getD 64 b)->f.length*8<=140737488355328->f=nk l id))) (kP (fO (CY Sh.int c e 65) (CY Sh.int d e 65)) 64)) (cm (br id l))) (ao Sh.int)) (cm l)) (0:Nat))
 (repeat' with_reducible first|apply bc|refine ba ?_|intro)
 all_goals (first | exact bm | exact (aaN ap) | exact (by rw [jT (jN _),jT (jN _)]; exact Mw _ _ _ rfl))
def WJ:bF:=(aP 348 Cl (aP 345 LN Xh))
def sI:aw Tryz.prog (aj tyT) WJ:=(ah Na (ah ab2 sZ))
def qJ:Kn:=aM (ae (kC (cL (.nm .snap))) ak) av fun (l,_) _=>⟨[nch l<=1048576],[.c (.int (((ll l:Int))))],none,false⟩
def AD:CK 313 qJ:=ag fun (l,_) _ e=>by
 have f:=cg e;refine aq sI [] Tryz.func313 (?_:(fun (c:den Sh.int)=>(fun (b:List Int)=>(fun (d:Nat)=>l.length*64<=140737488355328->nch l<=1048576/\(I64 (b.getD 0 c)->I64 (b.getD 1 c)->I64 (b.getD 2 c)->I64 (b.getD 3 c)->I64 (b.getD 4 c)->I64 (b.getD 5 c)->I64 (b.getD 6 c)->I64 (b.getD 7 c)->I64 (b.getD 8 c)->I64 (b.getD 9 c)->I64 (b.getD 10 c)->I64 (b.getD 11 c)->I64 (b.getD 12 c)->I64 (b.getD 13 c)->I64 (b.getD 14 c)->I64 (b.getD 15 c)->I64 (b.getD 16 c)->I64 (b.getD 17 c)->I64 (b.getD 18 c)->I64 (b.getD 19 c)->I64 (b.getD 20 c)->I64 (b.getD 21 c)->I64 (b.getD 22 c)->I64 (b.getD 23 c)->I64 (b.getD 24 c)->I64 (b.getD 25 c)->I64 (b.getD 26 c)->I64 (b.getD 27 c)->I64 (b.getD 28 c)->I64 (b.getD 29 c)->I64 (b.getD 30 c)->I64 (b.getD 31 c)->I64 (b.getD 32 c)->I64 (b.getD 33 c)->I64 (b.getD 34 c)->I64 (b.getD 35 c)->I64 (b.getD 36 c)->I64 (b.getD 37 c)->I64 (b.getD 38 c)->I64 (b.getD 39 c)->I64 (b.getD 40 c)->I64 (b.getD 41 c)->I64 (b.getD 42 c)->I64 (b.getD 43 c)->I64 (b.getD 44 c)->I64 (b.getD 45 c)->I64 (b.getD 46 c)->I64 (b.getD 47 c)->I64 (b.getD 48 c)->I64 (b.getD 49 c)->I64 (b.getD 50 c)->I64 (b.getD 51 c)->I64 (b.getD 52 c)->I64 (b.getD 53 c)->I64 (b.getD 54 c)->I64 (b.getD 55 c)->I64 (b.getD 56 c)->I64 (b.getD 57 c)->I64 (b.getD 58 c)->I64 (b.getD 59 c)->I64 (b.getD 60 c)->I64 (b.getD 61 c)->I64 (b.getD 62 c)->I64 (b.getD 63 c)->I64 (b.getD 64 c)->(CY Sh.int b 0 65).length=65/\(d*8<=140737488355328->(↑d:Int)=(↑(ll l):Int)))) (kP (fN (CY Sh.int b 0 65)) 64).length) (cm l)) (ao Sh.int));(repeat' with_reducible first|apply bc|refine ba ?_|intro)
 all_goals (first | exact bm | exact (ra 65 0) | exact (by rw [jT (jN _)]; exact Hk _))
def Gm:Kn:=aM (ae (kC (cL (.nm .snap))) (ae (kC (cL .int)) ak)) av fun (l,m,_) _=>⟨[nch l<=1048576],[.c (.int (((ll (l++[⟨0,0,m,false,⟨[]⟩⟩]):Int))))],none,false⟩
def Us:CK 343 Gm:=ag fun (l,m,_) _ h=>by
 have j:=cg h;refine aq sI [] Tryz.func343 (?_:(fun d=>(fun e=>(fun c=>(fun b=>(fun f=>l.length*64<=140737488355328->m.length*8<=140737488355328->nch l<=1048576/\(I64 (b.getD e c)->I64 (b.getD 1 c)->I64 (b.getD 2 c)->I64 (b.getD 3 c)->I64 (b.getD 4 c)->I64 (b.getD 5 c)->I64 (b.getD 6 c)->I64 (b.getD 7 c)->I64 (b.getD 8 c)->I64 (b.getD 9 c)->I64 (b.getD 10 c)->I64 (b.getD 11 c)->I64 (b.getD 12 c)->I64 (b.getD 13 c)->I64 (b.getD 14 c)->I64 (b.getD 15 c)->I64 (b.getD 16 c)->I64 (b.getD 17 c)->I64 (b.getD 18 c)->I64 (b.getD 19 c)->I64 (b.getD 20 c)->I64 (b.getD 21 c)->I64 (b.getD 22 c)->I64 (b.getD 23 c)->I64 (b.getD 24 c)->I64 (b.getD 25 c)->I64 (b.getD 26 c)->I64 (b.getD 27 c)->I64 (b.getD 28 c)->I64 (b.getD 29 c)->I64 (b.getD 30 c)->I64 (b.getD 31 c)->I64 (b.getD 32 c)->I64 (b.getD 33 c)->I64 (b.getD 34 c)->I64 (b.getD 35 c)->I64 (b.getD 36 c)->I64 (b.getD 37 c)->I64 (b.getD 38 c)->I64 (b.getD 39 c)->I64 (b.getD 40 c)->I64 (b.getD 41 c)->I64 (b.getD 42 c)->I64 (b.getD 43 c)->I64 (b.getD 44 c)->I64 (b.getD 45 c)->I64 (b.getD 46 c)->I64 (b.getD 47 c)->I64 (b.getD 48 c)->I64 (b.getD 49 c)->I64 (b.getD 50 c)->I64 (b.getD 51 c)->I64 (b.getD 52 c)->I64 (b.getD 53 c)->I64 (b.getD 54 c)->I64 (b.getD 55 c)->I64 (b.getD 56 c)->I64 (b.getD 57 c)->I64 (b.getD 58 c)->I64 (b.getD 59 c)->I64 (b.getD 60 c)->I64 (b.getD 61 c)->I64 (b.getD 62 c)->I64 (b.getD 63 c)->I64 (b.getD 64 c)->(∀ (i:Nat),(fun g=>0<=g/\g+(↑m.length:Int)<=4611686018427387904) ((CY Sh.int b e d).getD i 0))/\f.length=d/\((kP (fN f) 64).length*8<=140737488355328->(↑(kP (fN f) 64).length:Int)=(↑(ll (l++[Snap.mk 0 0 m false (Str.mk [])])):Int)))) (CY Sh.int (eE (CY Sh.int b e d) m) e d)) (cm l)) (ao Sh.int)) (0:Nat)) (65:Nat));(repeat' with_reducible first|apply bc|refine ba ?_|intro)
 all_goals (first | exact bm | exact (ra 65 0) | exact (GI (s:=.int) ap ap _).1 | exact (GI (s:=.int) ap ap _).2 | exact (by rw [jT (s:=.int) (xs:=eE _ _) (by rw [ub,ra]),jT (jN l)]; have:=Hk (l++[Snap.mk 0 0 m false ⟨[]⟩]); rw [kZ] at this; exact this))
def Xc:bF:=(aP 343 Gm (aP 313 qJ WJ))
def gv:aw Tryz.prog (aj tyT) Xc:=(ah Us (ah AD sI))
def Cy {α:Type} (l:List α) (i:Nat) (x:α):List α:=l.take i++x :: l.drop i
def Su {α:Type} (l:List α) (i:Int):List α:=l.take i.toNat++l.drop (i+1).toNat
def cC (s:State) (c:Command):Int:=if 0<=al Opn.set c.set s.opens/\¬ (s.opens.getD (al Opn.set c.set s.opens).toNat (ao (.nm .opn))).client=c.client then -1 else al Opn.set c.set s.opens
def eW (s:State) (c:Command):State × Reply:=if 0<=al Opn.set c.set s.opens then (s,⟨16,(s.opens.getD (al Opn.set c.set s.opens).toNat (ao (.nm .opn))).client⟩)
 else ({ s with opens:=Cy s.opens (s.opens.takeWhile fun y=>decide (y.set<c.set)).length ⟨c.set,c.client⟩ },⟨0,0⟩)
def eY (s:State) (c:Command):State × Reply:=if cC s c<0 then (s,⟨15,0⟩) else ({ s with opens:=Su s.opens (cC s c) },⟨0,0⟩)
def eN (s:State) (c:Command):State × Reply:=
 if cC s c<0 then (s,⟨15,0⟩)
 else if 16<=(s.snaps.length:Int)\/1048576<=s.next then (s,⟨20,0⟩)
 else if ¬ s.quota=0/\s.quota<(ll (s.snaps++[⟨0,0,c.chunks,false,⟨[]⟩⟩]):Int) then (s,⟨19,0⟩)
 else ({ s with next:=s.next+1,opens:=Su s.opens (cC s c),snaps:=s.snaps++[⟨s.next,c.set,c.chunks,false,⟨[]⟩⟩] },⟨0,s.next⟩)
def eA (s:State) (b:Nat):State × Reply:=
 if (s.snaps.getD b (ao (.nm .snap))).held=true then (s,⟨17,0⟩)
 else if mE s b=true then (s,⟨18,0⟩)
 else ({ s with snaps:=br (s.snaps.getD b (ao (.nm .snap))).id s.snaps },⟨0,(nk s.snaps (s.snaps.getD b (ao (.nm .snap))).id).length⟩)
def fW (s:State) (b:Nat):State × Reply:=(s,⟨0,(s.snaps.getD b (ao (.nm .snap))).chunks.length⟩)
def gL (b:Bool) (s:State) (c:Nat):State × Reply:=
 if (s.snaps.getD c (ao (.nm .snap))).held=b then (s,⟨0,0⟩)
 else ({ s with snaps:=s.snaps.set c { s.snaps.getD c (ao (.nm .snap)) with held:=b } },⟨0,1⟩)
def sN (c:Command) (s:State) (b:Nat):State × Reply:=({ s with snaps:=s.snaps.set b { s.snaps.getD b (ao (.nm .snap)) with tag:=c.text } },⟨0,0⟩)
def tV (c:Command) (s:State):State × Reply:=({ s with keep:=c.n },⟨0,0⟩)
def pK (c:Command) (s:State):State × Reply:=({ s with quota:=c.n },⟨0,ll s.snaps⟩)
def eh {c:α->Int} {b:Int} {l:List α} (h:0<=al c b l):al c b l<(l.length:Int):=by
 unfold al at *;split
 ·rename_i i d;have:=(agC.1 d).1;omega
 omega
theorem Nz {s:State} {c:Command} (h:0<=cC s c):cC s c+1<=(s.opens.length:Int):=by
 unfold cC at *;split
 ·grind
 rename_i b; rw [if_neg b] at h;have:=eh h;omega
def IC (i:Int) (m:List Opn) (l:List Opn) (b:0<=i/\i<=(l.length:Int)) (d:l.length<1048576) (e:m.length=1):Sat Tryz.prog (aj tyT) 341 [.c (.own 0),.c (.int (i)),.c (.fz (.nm .opn) (m))] [.row 139 (.nm .opn) (l)] ⟨[0<=i/\i<=(l.length:Int),l.length<1048576,m.length=1],[.c (.own 0)],some ([.row 139 (.nm .opn) ((l.take i.toNat++m++l.drop i.toNat))]),false⟩:=yM i l m b d e
def wN:Kn:=aM (ae (kC (eV 0)) (ae (kC cI) (ae (kC (cL (.nm .opn))) ak))) (aH (e_ 139 (.nm .opn)) av) fun (_,i,m,_) (l,_)=>⟨[0<=i/\i<=(l.length:Int),l.length<1048576,m.length=1],[.c (.own 0)],some ([.row 139 (.nm .opn) ((l.take i.toNat++m++l.drop i.toNat))]),false⟩
def Jj:CK 341 wN:=ag fun (_,i,m,_) (l,_) b=>IC i m l (cg b) (cg (eU b)) (cg (eU (eU b)))
def DC (i:Int) (l:List Sess) (m:List Sess) (b:0<=i/\i<=(l.length:Int)) (d:l.length<1048576) (e:m.length=1):Sat Tryz.prog (aj tyT) 263 [.c (.own 0),.c (.int (i)),.c (.own 1)] [.row 137 (.nm .sess) (l),.row 137 (.nm .sess) (m)] ⟨[0<=i/\i<=(l.length:Int),l.length<1048576,m.length=1],[.c (.own 0)],some ([.row 137 (.nm .sess) ((l.take i.toNat++m++l.drop i.toNat)),.row 137 (.nm .sess) ((m))]),false⟩:=xw i l m b d e
def sX:Kn:=aM (ae (kC (eV 0)) (ae (kC cI) (ae (kC (eV 1)) ak))) (aH (e_ 137 (.nm .sess)) (aH (e_ 137 (.nm .sess)) av)) fun (_,i,_,_) (l,m,_)=>⟨[0<=i/\i<=(l.length:Int),l.length<1048576,m.length=1],[.c (.own 0)],some ([.row 137 (.nm .sess) ((l.take i.toNat++m++l.drop i.toNat)),.row 137 (.nm .sess) ((m))]),false⟩
def El:CK 263 sX:=ag fun (_,i,_,_) (l,m,_) b=>DC i l m (cg b) (cg (eU b)) (cg (eU (eU b)))
def JS (i:Int) (j:Int) (l:List Opn) (b:0<=i/\i<(l.length:Int)/\j=i+1):Sat Tryz.prog (aj tyT) 344 [.c (.own 0),.c (.int (i)),.c (.int (j))] [.row 139 (.nm .opn) (l)] ⟨[0<=i/\i<(l.length:Int)/\j=i+1],[.c (.own 0)],some ([.row 139 (.nm .opn) ((l.take i.toNat++l.drop j.toNat))]),false⟩:=AX i j l b
def vy:Kn:=aM (ae (kC (eV 0)) (ae (kC cI) (ae (kC cI) ak))) (aH (e_ 139 (.nm .opn)) av) fun (_,i,j,_) (l,_)=>⟨[0<=i/\i<(l.length:Int)/\j=i+1],[.c (.own 0)],some ([.row 139 (.nm .opn) ((l.take i.toNat++l.drop j.toNat))]),false⟩
def Jz:CK 344 vy:=ag fun (_,i,j,_) (l,_) b=>JS i j l (cg b)
def w_:Kn:=aM (ae (kC (aZ 0 0)) (ae (kT (.nm .command)) ak)) (qL 0 av) fun (_,c,_) (z,_)=>⟨[],[.c (.int ((cC z c)))],none,false⟩
theorem IS:CK 342 w_:=ag fun (_,c,_) (z,_) _=>by
 obtain ⟨v,h,j,m,o,d,p⟩:=z;refine aq gv [] Tryz.func342 (?_:(fun g=>(fun b=>(fun e=>(fun f=>bH c (I64 b->(e->e/\b<(↑d.length:Int))/\((e->I64 f.set/\I64 f.client)->(e/\¬f.client=c.client -> -1=g)/\(b<0\/f.client=c.client->b=g)))) (d.getD b.toNat (ao (Sh.nm NT.opn)))) (0<=b)) (al Opn.set c.set d)) (cC (State.mk v h j m o d p) c));(repeat' with_reducible first|apply bc|refine ba ?_|intro)
 all_goals (first | exact bm | exact eh ab | (unfold cC; grind))
def QH:Kn:=aM (ae (kC (aZ 0 0)) (ae (kC (aZ 1 0)) ak)) (aH (yR 35 (.nm .command)) (qL 1 av)) fun _ (c,z,_)=>⟨[],[.agg (cellsOf (.nm .reply) ((tV c z).2))],some (([.box 35 (cellsOf (.nm .command) (c))]++s_ 1 ((tV c z).1))),false⟩
def ZR:CK 311 QH:=ag fun _ (c,z,_) _=>by
 obtain ⟨v,d,j,e,f,g,h⟩:=z;refine bw gv [] Tryz.func311 (?_:(fun b=>0=b.snd.code/\0=b.snd.n/\bt c c (dy (State.mk v d c.n e f g h) b.fst)) (tV c (State.mk v d j e f g h)));(repeat' with_reducible first|apply bc|refine ba ?_|intro)
 all_goals (first | exact bm | exact rfl)
def RH:Kn:=aM (ae (kC (aZ 0 0)) (ae (kC (aZ 1 0)) ak)) (aH (yR 35 (.nm .command)) (qL 1 av)) fun _ (c,z,_)=>⟨[nch z.snaps<=1048576],[.agg (cellsOf (.nm .reply) ((pK c z).2))],some (([.box 35 (cellsOf (.nm .command) (c))]++s_ 1 ((pK c z).1))),false⟩
def YZ:CK 312 RH:=ag fun _ (c,z,_) j=>by
 obtain ⟨v,e,f,m,g,h,b⟩:=z;have o:nch b<=1048576:=cg j;refine bw gv [] Tryz.func312 (?_:(fun d=>nch b<=1048576/\(I64 (↑(ll b):Int)->0=d.snd.code/\(↑(ll b):Int)=d.snd.n/\bt c c (dy (State.mk v e f c.n g h b) d.fst))) (pK c (State.mk v e f m g h b)));(repeat' with_reducible first|apply bc|refine ba ?_|intro)
 all_goals (first | exact bm | exact rfl)
def Gh:Kn:=aM (ae (kC (aZ 0 0)) (ae (kC cI) ak)) (qL 0 av) fun (_,i,_) (z,_)=>⟨[0<=i/\i<(z.snaps.length:Int),nch z.snaps<=1048576],[.agg (cellsOf (.nm .reply) ((eA z i.toNat).2))],some ((s_ 0 ((eA z i.toNat).1))),false⟩
theorem UB:CK 315 Gh:=ag fun (_,i,_) (z,_) g=>by
 obtain ⟨v,h,j,m,o,p,b⟩:=z;have s:0<=i/\i<(b.length:Int):=cg g;have t:nch b<=1048576:=cg (eU g);refine bw gv [] Tryz.func315 (?_:(fun e=>(fun f=>(fun d=>(fun c=>(fun q=>I64 i->e<=i/\i<(↑b.length:Int)/\ft d ((d.held=true->I64 17->I64 e->17=c.snd.code/\q)/\(d.held=false->(mE f i=true->I64 18->I64 e->18=c.snd.code/\q)/\(mE f i=false->nch b<=1048576/\((nk b d.id).length*8<=140737488355328->e=c.snd.code/\(↑(nk b d.id).length:Int)=c.snd.n/\dy (State.mk v h j m o p (br d.id b)) c.fst))))) (e=c.snd.n/\dy f c.fst)) (eA f i.toNat)) (b.getD i.toNat (ao (Sh.nm NT.snap)))) (State.mk v h j m o p b)) (0:Int));have r:((i.toNat:Nat):Int)=i:=by omega
 (repeat' with_reducible first|apply bc|refine ba ?_|intro)
 all_goals (first | exact bm | ((simp only [eA,r]; simp_all) <;> (intros; omega)) | (simp only [eA,r]; grind))
def PZ:Kn:=aM (ae (kC cI) (ae (kC (aZ 0 0)) ak)) (qL 0 av) fun (i,_,_) (z,_)=>⟨[0<=i/\i<(z.snaps.length:Int)],[.agg (cellsOf (.nm .reply) ((fW z i.toNat).2))],some ((s_ 0 ((fW z i.toNat).1))),false⟩
def aa2:CK 316 PZ:=ag fun (i,_,_) (z,_) d=>by
 obtain ⟨v,e,f,g,h,j,b⟩:=z;have m:0<=i/\i<(b.length:Int):=cg d;refine bw gv [] Tryz.func316 (?_:(fun c=>I64 i->0<=i/\i<(↑b.length:Int)/\ft (b.getD i.toNat (ao (Sh.nm NT.snap))) (0=(fW c i.toNat).snd.code/\(↑(b.getD i.toNat (ao (Sh.nm NT.snap))).chunks.length:Int)=(fW c i.toNat).snd.n/\dy c (fW c i.toNat).fst)) (State.mk v e f g h j b));(repeat' with_reducible first|apply bc|refine ba ?_|intro)
 all_goals (first | exact bm | rfl)
def HM:Kn:=aM (ae (kC cI) (ae (kC (aZ 0 0)) (ae (kC (aZ 1 0)) ak))) (aH (yR 35 (.nm .command)) (qL 1 av)) fun (i,_,_,_) (c,z,_)=>⟨[0<=i/\i<(z.snaps.length:Int)],[.agg (cellsOf (.nm .reply) ((sN c z i.toNat).2))],some (([.box 35 (cellsOf (.nm .command) (c))]++s_ 1 ((sN c z i.toNat).1))),false⟩
def UZ:CK 317 HM:=ag fun (i,_,_,_) (c,z,_) o=>by
 obtain ⟨v,f,g,h,j,m,b⟩:=z;have p:0<=i/\i<(b.length:Int):=cg o;refine bw gv [] Tryz.func317 (?_:(fun e=>(fun d=>I64 i->0<=i/\i<(↑b.length:Int)/\ft d (0=e.snd.code/\0=e.snd.n/\bt c c (dy (State.mk v f g h j m (b.set i.toNat (Snap.mk d.id d.set d.chunks d.held c.text))) e.fst))) (b.getD i.toNat (ao (Sh.nm NT.snap)))) (sN c (State.mk v f g h j m b) i.toNat));(repeat' with_reducible first|apply bc|refine ba ?_|intro)
 all_goals (first | exact bm | exact rfl)
def Ax:Kn:=aM (ae (kC cI) (ae (kC (aZ 0 0)) (ae (kC (aZ 4 0)) ak))) (qL 0 (aH (dQ 4 (ax cB dL)) av)) fun (i,_,_,_) (z,(b,_),_)=>⟨[0<=i/\i<(z.snaps.length:Int)],[.agg (cellsOf (.nm .reply) ((gL b z i.toNat).2))],some ((s_ 0 ((gL b z i.toNat).1)++[.box 4 ([.bool (.atom ((b)))])])),false⟩
theorem RM:CK 304 Ax:=ag fun (i,_,_,_) (z,(b,_),_) o=>by
 obtain ⟨v,f,g,h,j,m,d⟩:=z;have p:0<=i/\i<(d.length:Int):=cg o;refine bw gv [] Tryz.func304 (?_:(fun c=>(fun e=>I64 i->0<=i/\i<(↑d.length:Int)/\ft c (((c.held == b)=true->0=e.snd.code/\0=e.snd.n/\bQ (State.mk v f g h j m d) e.fst (b=b))/\((c.held == b)=false->0=e.snd.code/\1=e.snd.n/\bQ (State.mk v f g h j m (d.set i.toNat (Snap.mk c.id c.set c.chunks b c.tag))) e.fst (b=b)))) (gL b (State.mk v f g h j m d) i.toNat)) (d.getD i.toNat (ao (Sh.nm NT.snap))));(repeat' with_reducible first|apply bc|refine ba ?_|intro)
 all_goals (first | exact bm | ((simp only [gL]; simp_all) <;> (intros; omega)) | (simp only [gL]; grind))
def Yj:bF:=(aP 304 Ax (aP 317 HM (aP 316 PZ (aP 315 Gh (aP 312 RH (aP 311 QH (aP 342 w_ (aP 344 vy (aP 263 sX (aP 341 wN Xc))))))))))
def kX:aw Tryz.prog (aj tyT) Yj:=(ah RM (ah UZ (ah aa2 (ah UB (ah YZ (ah ZR (ah IS (ah Jz (ah El (ah Jj gv))))))))))
theorem Qg {p:α->Bool} {l:List α} (h:(l.take k).all p=true) (c:k<=l.length) (b:(l.length:Int)<=k\/(k:Int)<l.length/\∃ x,l[k]? = some x/\p x=false):k=(l.takeWhile p).length:=by
 induction l generalizing k with
 | nil=>simp at c; simp [c]
 | cons a l d=>
  cases k with
  | zero=>
   rcases b with b | ⟨_,x,e,f⟩
   ·grind
   simp_all
  | succ k=>
   simp only [ag9,ahp,Bool.and_eq_true] at h;rw [List.takeWhile_cons,h.1,if_pos rfl,List.length_cons];congr 1;refine d h.2 (by simpa using c) ?_;rcases b with b | ⟨g,x,e,f⟩
   ·grind
   grind
variable {op:List Opn}
theorem adR {v b d e:Int} {f:List Sess} {g:List Snap} {c:Command} {s:Nat} (h:al Opn.set c.set op<0) (j:s<=op.length) (m:(op.take s).all (fun y=>decide (y.set<c.set))=true) (p:(op.length:Int)<=s\/c.set<=(op.getD s (ao (.nm .opn))).set):op.take s++[Opn.mk c.set c.client]++op.drop s=(eW (State.mk v b d e f op g) c).1.opens:=by
 have o:¬ 0<=al Opn.set c.set op:=by omega
 simp only [eW,if_neg o];have:s=(op.takeWhile fun y=>decide (y.set<c.set)).length:=by
  refine Qg m j ?_;grind
 rw [<- this]; simp [Cy]
def ad9 {c:Command} {s:Nat} (b:(op.take s).all (fun y=>decide (y.set<c.set))=true) (h:(s:Int)<op.length) (e:(op.getD s (ao (.nm .opn))).set<c.set):(op.take (s+1)).all (fun y=>decide (y.set<c.set))=true:=by
 rw [ai (gd (d:=ao (.nm .opn)) h),ahI,b]; simp only [ahp,decide_eq_true e]; rfl
section
variable {v nx kp qt:Int} {se:List Sess} {op:List Opn} {sn:List Snap} {c:Command}
def bgN (h:al Opn.set c.set op<0):eW (State.mk v nx kp qt se op sn) c=(State.mk v nx kp qt se (Cy op (op.takeWhile fun y=>decide (y.set<c.set)).length ⟨c.set,c.client⟩) sn,⟨0,0⟩):=by
 have b:¬ 0<=al Opn.set c.set op:=by omega
 simp only [eW,if_neg b]
def bgY (h:0<=al Opn.set c.set op):eW (State.mk v nx kp qt se op sn) c=(State.mk v nx kp qt se op sn,⟨16,(op.getD (al Opn.set c.set op).toNat (ao (.nm .opn))).client⟩):=by
 simp only [eW,if_pos h]
def abY (h:cC (State.mk v nx kp qt se op sn) c<0):eY (State.mk v nx kp qt se op sn) c=(State.mk v nx kp qt se op sn,⟨15,0⟩):=by
 simp only [eY,if_pos h]
def abN (h:0<=cC (State.mk v nx kp qt se op sn) c):eY (State.mk v nx kp qt se op sn) c=(State.mk v nx kp qt se (op.take (cC (State.mk v nx kp qt se op sn) c).toNat++op.drop (cC (State.mk v nx kp qt se op sn) c+1).toNat) sn,⟨0,0⟩):=by
 have b:¬ cC (State.mk v nx kp qt se op sn) c<0:=by omega
 simp only [eY,if_neg b,Su]
end
def Tp (c:Command) (v:Int) (b:Int) (d:Int) (e:Int) (f:List Sess) (op:List Opn) (g:List Snap):List (Nat × LI):=[(5,{ σ:=Nat,F:=fun k=>([(0,one (.ptr 0 0)),(3,one (.ptr 4 0)),(4,one (.ptr 5 0)),(6,one (.int k))],(s_ 0 (State.mk v b d e f op g)++[.box 35 (cellsOf (.nm .command) (c)),.box 78 ([.int ((0)),.int ((0))])])),J:=fun k=>k<=op.length/\(op.take k).all (fun y=>decide (y.set<c.set))=true,μ:=fun k=>op.length - k })]
def yS:Kn:=aM (ae (kC (aZ 0 0)) (ae (kT (.nm .command)) ak)) (qL 0 av) fun (_,c,_) (z,_)=>⟨[z.opens.length<1048576],[.agg (cellsOf (.nm .reply) ((eW z c).2))],some ((s_ 0 ((eW z c).1))),false⟩
theorem ON:CK 306 yS:=ag fun (_,c,_) (z,_) A=>by
 obtain ⟨v,g,h,j,m,op,o⟩:=z;have B:op.length<1048576:=cg A;refine bw kX (Tp c v g h j m op o) Tryz.func306 (?_:(fun (q:den (Sh.nm NT.opn))=>(fun (f:Int)=>(fun (b:Int)=>(fun (e:Int)=>(fun (p:State × Reply)=>(fun (w:Prop)=>bH c (I64 e->(b<=e->b<=e/\e<f/\(I64 (op.getD e.toNat q).set->I64 (op.getD e.toNat q).client->16=p.snd.code/\(op.getD e.toNat q).client=p.snd.n/\dy (State.mk v g h j m op o) p.fst))/\(e<b->∃ (t:Nat),(b=(↑t:Int)/\w)/\(t<=op.length/\((List.take t op).all fun (y:Opn)=>decide (y.set<c.set))=true)/\∀ (s:Nat),(fun (u:Int)=>(fun (d:Int)=>s<=op.length/\((List.take s op).all fun (y:Opn)=>decide (y.set<c.set))=true->(d<f->b<=d/\d<f)/\((d<f->I64 u/\I64 (op.getD s q).client)->(d<f/\u<c.set->I64 (d+1)/\∃ (r:Nat),(d+1=(↑r:Int)/\w)/\(r <= op.length/\((List.take r op).all fun (y:Opn)=>decide (y.set<c.set))=true)/\op.length - r < op.length - s)/\(f<=d\/c.set<=u->((b<=d/\d<=f)/\op.length<1048576/\[Opn.mk c.set c.client].length=1)/\b=p.snd.code/\b=p.snd.n/\dy (State.mk v g h j m (List.take s op++[Opn.mk c.set c.client]++List.drop s op) o) p.fst))) (↑s:Int)) (op.getD s q).set))) (v=v/\g=g/\h=h/\j=j/\m=m/\op=op/\o=o/\bt c c (b=b/\b=b))) (eW (State.mk v g h j m op o) c)) (al Opn.set c.set op)) 0) (↑op.length:Int)) (ao (Sh.nm NT.opn)));iterate 3 ((all_goals (repeat' with_reducible first|apply bc|refine ba ?_|intro)); (all_goals try (first | exact bm | exact rfl | exact eh ab | exact (ad9 ab ab ab) | exact (adR ab aK ab ap) | (rw [bgN]; omega) | (rw [bgY]; omega))); all_goals try first | refine ⟨‹Nat› + 1,?_⟩ | refine ⟨0,?_⟩)
def zo:Kn:=aM (ae (kC (aZ 0 0)) (ae (kT (.nm .command)) ak)) (qL 0 av) fun (_,c,_) (z,_)=>⟨[z.opens.length<1048576],[.agg (cellsOf (.nm .reply) ((eY z c).2))],some ((s_ 0 ((eY z c).1))),false⟩
def OW:CK 310 zo:=ag fun (_,c,_) (z,_) r=>by
 obtain ⟨v,f,g,j,m,op,o⟩:=z;have s:op.length<1048576:=cg r;refine bw kX [] Tryz.func310 (?_:(fun b=>(fun e=>(fun p=>(fun d=>(fun q=>bH c (I64 d->(d<b->I64 15->I64 b->15=p.code/\b=p.n/\dy e (eY e c).fst)/\(b<=d->I64 q/\(b<=d/\d<(↑op.length:Int)/\q=q)/\b=p.code/\b=p.n/\dy (State.mk v f g j m (List.take d.toNat op++List.drop q.toNat op) o) (eY e c).fst))) (d+1)) (cC e c)) (eY e c).snd) (State.mk v f g j m op o)) (0:Int));have t:0<=cC (State.mk v f g j m op o) c->cC (State.mk v f g j m op o) c+1<=(op.length:Int):=fun h=>Nz h;(repeat' with_reducible first|apply bc|refine ba ?_|intro)
 all_goals (first | exact bm | (rw [abN]; omega) | (rw [abY]; omega))
def vf:Kn:=aM (ae (kC (aZ 0 0)) (ae (kT (.nm .command)) ak)) (qL 0 av) fun (_,c,_) (z,_)=>⟨[nch z.snaps<=1048576,z.snaps.length<1048576,z.opens.length<1048576,0<=z.next],[.agg (cellsOf (.nm .reply) ((eN z c).2))],some ((s_ 0 ((eN z c).1))),false⟩
theorem Jt:CK 308 vf:=ag fun (_,c,_) (z,_) p=>by
 obtain ⟨v,e,q,f,r,op,d⟩:=z;have w:nch d<=1048576:=cg p;have y:d.length<1048576:=cg (eU p);have A:op.length<1048576:=cg (eU (eU p));have B:0<=e:=cg (eU (eU (eU p)));refine bw kX [] Tryz.func308 (?_:(fun u=>(fun j=>(fun b=>(fun s=>(fun o=>(fun m=>(fun g=>(fun t=>bH c (I64 g->(g<b->I64 15->I64 b->15=m.code/\t)/\(b<=g->(16<=(↑d.length:Int)\/1048576<=e->I64 20->I64 b->20=m.code/\t)/\((↑d.length:Int)<16/\e<1048576->(¬f=b->nch d<=1048576)/\((¬f=b->I64 s)->(¬f=b/\f<s->I64 19->I64 b->19=m.code/\t)/\(f=b\/s<=f->c.chunks.length*8<=140737488355328->(d.length+[u].length)*64<=140737488355328/\I64 (e+j)/\I64 (g+j)/\(b<=g/\g<(↑op.length:Int)/\g+j=g+j)/\b=m.code/\e=m.n/\dy (State.mk v (e+j) q f r (List.take g.toNat op++List.drop (g+j).toNat op) (d++[u])) (eN o c).fst)))))) (b=m.n/\dy o (eN o c).fst)) (cC o c)) (eN o c).snd) (State.mk v e q f r op d)) (↑(ll (d++[Snap.mk b b c.chunks false (Str.mk [])])):Int)) (0:Int)) (1:Int)) (Snap.mk e c.set c.chunks false (Str.mk [])));have C:0<=cC (State.mk v e q f r op d) c->cC (State.mk v e q f r op d) c+1<=(op.length:Int):=fun h=>Nz h;(repeat' with_reducible first|apply bc|refine ba ?_|intro)
 all_goals (first | exact bm | (simp only [eN,Su]; grind) | (simp only [List.length_cons,List.length_nil]; omega))
def Rz:Kn:=aM (ae (kC cI) (ae (kC (aZ 0 0)) ak)) (qL 0 av) fun (i,_,_) (z,_)=>⟨[0<=i/\i<(z.snaps.length:Int),nch z.snaps<=1048576],[.agg (cellsOf (.nm .reply) ((eA z i.toNat).2))],some ((s_ 0 ((eA z i.toNat).1))),false⟩
def ZJ:CK 314 Rz:=ag fun (i,_,_) (z,_) d=>by
 obtain ⟨v,e,f,g,h,op,c⟩:=z;have j:0<=i/\i<(c.length:Int):=cg d;have m:nch c<=1048576:=cg (eU d);refine bw kX [] Tryz.func314 (?_:(fun b=>I64 i->(0<=i/\i<(↑c.length:Int))/\nch c<=1048576/\(I64 b.snd.code->I64 b.snd.n->b.snd.code=b.snd.code/\b.snd.n=b.snd.n/\dy b.fst b.fst)) (eA (State.mk v e f g h op c) i.toNat));(repeat' with_reducible first|apply bc|refine ba ?_|intro)
 all_goals (first | exact bm | exact rfl)
def YD:bF:=(aP 314 Rz (aP 308 vf (aP 310 zo (aP 306 yS Yj))))
def gF:aw Tryz.prog (aj tyT) YD:=(ah ZJ (ah Jt (ah OW (ah ON kX))))
def bC (f:State->Nat->State × Reply) (c:Command) (s:State):State × Reply:=if al Snap.id c.id s.snaps<0 then (s,⟨15,0⟩) else f s (al Snap.id c.id s.snaps).toNat
section
variable {v nx kp qt:Int} {se:List Sess} {op:List Opn} {sn:List Snap} {c:Command} {f:State->Nat->State × Reply}
def sdY (h:al Snap.id c.id sn<0):bC f c (State.mk v nx kp qt se op sn)=(State.mk v nx kp qt se op sn,⟨15,0⟩):=by
 simp only [bC,if_pos h]
def sdN (h:0<=al Snap.id c.id sn):bC f c (State.mk v nx kp qt se op sn)=f (State.mk v nx kp qt se op sn) (al Snap.id c.id sn).toNat:=by
 have b:¬ al Snap.id c.id sn<0:=by omega
 simp only [bC,if_neg b]
end
def QK:Kn:=aM (ae (kC (aZ 0 0)) (ae (kC (aZ 4 0)) ak)) (qL 0 (aH (yR 35 (.nm .command)) av)) fun _ (z,c,_)=>⟨[z.opens.length<1048576],[.agg (cellsOf (.nm .reply) ((eW z c).2))],some ((s_ 0 ((eW z c).1)++[.box 35 (cellsOf (.nm .command) (c))])),false⟩
def aa1:CK 305 QK:=ag fun _ (z,c,_) d=>by
 obtain ⟨v,e,f,g,h,op,j⟩:=z;have m:op.length<1048576:=cg d;refine bw gF [] Tryz.func305 (?_:(fun b=>op.length<1048576/\(I64 b.snd.code->I64 b.snd.n->b.snd.code=b.snd.code/\b.snd.n=b.snd.n/\bQ b.fst b.fst (aR c c))) (eW (State.mk v e f g h op j) c));(repeat' with_reducible first|apply bc|refine ba ?_|intro)
 all_goals (first | exact bm | exact rfl)
def PV:Kn:=aM (ae (kC (aZ 0 0)) (ae (kC (aZ 4 0)) ak)) (qL 0 (aH (yR 35 (.nm .command)) av)) fun _ (z,c,_)=>⟨[nch z.snaps<=1048576,z.snaps.length<1048576,z.opens.length<1048576,0<=z.next],[.agg (cellsOf (.nm .reply) ((eN z c).2))],some ((s_ 0 ((eN z c).1)++[.box 35 (cellsOf (.nm .command) (c))])),false⟩
def ZT:CK 307 PV:=ag fun _ (z,c,_) e=>by
 obtain ⟨v,f,g,h,j,op,d⟩:=z;have m:nch d<=1048576:=cg e;have o:d.length<1048576:=cg (eU e);have p:op.length<1048576:=cg (eU (eU e));have q:0<=f:=cg (eU (eU (eU e)));refine bw gF [] Tryz.func307 (?_:(fun b=>nch d<=1048576/\d.length<1048576/\op.length<1048576/\0<=f/\(I64 b.snd.code->I64 b.snd.n->b.snd.code=b.snd.code/\b.snd.n=b.snd.n/\bQ b.fst b.fst (aR c c))) (eN (State.mk v f g h j op d) c));(repeat' with_reducible first|apply bc|refine ba ?_|intro)
 all_goals (first | exact bm | exact rfl)
def LF:Kn:=aM (ae (kC (aZ 0 0)) (ae (kC (aZ 4 0)) ak)) (qL 0 (aH (yR 35 (.nm .command)) av)) fun _ (z,c,_)=>⟨[z.opens.length<1048576],[.agg (cellsOf (.nm .reply) ((eY z c).2))],some ((s_ 0 ((eY z c).1)++[.box 35 (cellsOf (.nm .command) (c))])),false⟩
def aaW:CK 309 LF:=ag fun _ (z,c,_) d=>by
 obtain ⟨v,e,f,g,h,op,j⟩:=z;have m:op.length<1048576:=cg d;refine bw gF [] Tryz.func309 (?_:(fun b=>op.length<1048576/\(I64 b.snd.code->I64 b.snd.n->b.snd.code=b.snd.code/\b.snd.n=b.snd.n/\bQ b.fst b.fst (aR c c))) (eY (State.mk v e f g h op j) c));(repeat' with_reducible first|apply bc|refine ba ?_|intro)
 all_goals (first | exact bm | exact rfl)
def nJ:Kn:=aM (ae (kC (rJ 314 [] [(0,0)])) (ae (kC (aZ 0 0)) (ae (kC (aZ 4 0)) ak))) (qL 0 (aH (yR 35 (.nm .command)) av)) fun _ (z,c,_)=>⟨[],[.c (.fn 301 [] [(0,0),(4,0),(5,0)])],some ((s_ 0 z++[.box 35 (cellsOf (.nm .command) (c)),.box 306 ([.fn 314 [] [(0,0)]])])),true⟩
def xG:CK 300 nJ:=ag fun _ (z,c,_) _=>by
 obtain ⟨v,b,d,e,f,op,g⟩:=z;refine dF gF [] Tryz.func300 (?_:v=v/\b=b/\d=d/\e=e/\f=f/\op=op/\g=g/\aR c c);(repeat' with_reducible first|apply bc|refine ba ?_|intro)
 all_goals (first | exact bm | exact rfl)
def qm:Kn:=aM (ae (kC (rJ 316 [] [(0,0)])) (ae (kC (aZ 0 0)) (ae (kC (aZ 4 0)) ak))) (qL 0 (aH (yR 35 (.nm .command)) av)) fun _ (z,c,_)=>⟨[],[.c (.fn 301 [] [(0,0),(4,0),(5,0)])],some ((s_ 0 z++[.box 35 (cellsOf (.nm .command) (c)),.box 306 ([.fn 316 [] [(0,0)]])])),true⟩
def BZ:CK 300 qm:=ag fun _ (z,c,_) _=>by
 obtain ⟨v,b,d,e,f,op,g⟩:=z;refine dF gF [] Tryz.func300 (?_:v=v/\b=b/\d=d/\e=e/\f=f/\op=op/\g=g/\aR c c);(repeat' with_reducible first|apply bc|refine ba ?_|intro)
 all_goals (first | exact bm | exact rfl)
def uF:Kn:=aM (ae (kC (rJ 317 [] [(0,0),(1,0)])) (ae (kC (aZ 1 0)) (ae (kC (aZ 0 0)) ak))) (aH (yR 35 (.nm .command)) (qL 1 av)) fun _ (c,z,_)=>⟨[],[.c (.fn 301 [] [(1,0),(0,0),(5,0)])],some (([.box 35 (cellsOf (.nm .command) (c))]++s_ 1 z++[.box 306 ([.fn 317 [] [(0,0),(1,0)]])])),true⟩
def Ex:CK 300 uF:=ag fun _ (c,z,_) _=>by
 obtain ⟨v,b,d,e,f,op,g⟩:=z;refine dF gF [] Tryz.func300 (?_:bt c c (v=v/\b=b/\d=d/\e=e/\f=f/\op=op/\g=g));(repeat' with_reducible first|apply bc|refine ba ?_|intro)
 all_goals (first | exact bm | exact rfl)
def qE:Kn:=aM (ae (kC (rJ 304 [] [(0,0),(4,0)])) (ae (kC (aZ 0 0)) (ae (kC (aZ 5 0)) ak))) (qL 0 (aH (dQ 4 (ax cB dL)) (aH (yR 35 (.nm .command)) av))) fun _ (z,(b,_),c,_)=>⟨[],[.c (.fn 301 [] [(0,0),(5,0),(6,0)])],some ((s_ 0 z++[.box 4 ([.bool (.atom ((b)))]),.box 35 (cellsOf (.nm .command) (c)),.box 306 ([.fn 304 [] [(0,0),(4,0)]])])),true⟩
def BT:CK 300 qE:=ag fun _ (z,(b,_),c,_) _=>by
 obtain ⟨v,d,e,f,g,op,h⟩:=z;refine dF gF [] Tryz.func300 (?_:v=v/\d=d/\e=e/\f=f/\g=g/\op=op/\h=h/\b=b/\aR c c);(repeat' with_reducible first|apply bc|refine ba ?_|intro)
 all_goals (first | exact bm | exact rfl)
def YG:bF:=(aP 300 qE (aP 300 uF (aP 300 qm (aP 300 nJ (aP 309 LF (aP 307 PV (aP 305 QK YD)))))))
def jl:aw Tryz.prog (aj tyT) YG:=(ah BT (ah Ex (ah BZ (ah xG (ah aaW (ah ZT (ah aa1 gF)))))))
def NP:Kn:=aM (ae (kC cB) (ae (kC (aZ 0 0)) (ae (kC (aZ 1 0)) ak))) (aH (dQ 308 (ax (rJ 300 [] [(1,0),(5,0)]) dL)) (qL 1 (aH (yR 35 (.nm .command)) av))) fun (b,_,_,_) ((_,_),z,c,_)=>⟨[],[.c (.fn 301 [] [(1,0),(5,0),(7,0)])],some (([.box 308 ([.fn 300 [] [(1,0),(5,0)]])]++s_ 1 z++[.box 35 (cellsOf (.nm .command) (c)),.box 4 ([.bool (.atom ((b)))]),.box 306 ([.fn 304 [] [(1,0),(6,0)]])])),true⟩
def ace:CK 303 NP:=ag fun (b,_,_,_) ((_,_),z,c,_) _=>by
 obtain ⟨v,d,e,f,g,op,h⟩:=z;refine dF jl [] Tryz.func303 (?_:v=v/\d=d/\e=e/\f=f/\g=g/\op=op/\h=h/\bt c c (b=b));(repeat' with_reducible first|apply bc|refine ba ?_|intro)
 all_goals (first | exact bm | exact rfl)
def uc:Kn:=aM (ae (kC (aZ 0 0)) (ae (kC (aZ 4 0)) (ae (kC (aZ 5 0)) ak))) (qL 0 (aH (yR 35 (.nm .command)) (aH (dQ 306 (ax (rJ 314 [] [(0,0)]) dL)) av))) fun _ (z,c,(_,_),_)=>⟨[nch z.snaps<=1048576],[.agg (cellsOf (.nm .reply) ((bC eA c z).2))],some ((s_ 0 ((bC eA c z).1)++[.box 35 (cellsOf (.nm .command) (c)),.box 306 ([.fn 314 [] [(0,0)]])])),false⟩
def DS:CK 301 uc:=ag fun _ (z,c,(_,_),_) h=>by
 obtain ⟨v,j,m,o,p,op,e⟩:=z;have q:nch e<=1048576:=cg h;refine bw jl [] Tryz.func301 (?_:(fun b=>(fun f=>(fun g=>(fun d=>I64 b->(b<0->I64 15->I64 0->15=d.snd.code/\0=d.snd.n/\bQ f d.fst (aR c c))/\(0<=b->(0<=b/\b<(↑e.length:Int))/\nch e<=1048576/\(I64 g.code->I64 g.n->g.code=d.snd.code/\g.n=d.snd.n/\bQ (eA f b.toNat).fst d.fst (aR c c)))) (bC eA c f)) (eA f b.toNat).snd) (State.mk v j m o p op e)) (al Snap.id c.id e));(repeat' with_reducible first|apply bc|refine ba ?_|intro)
 all_goals (first | exact bm | exact eh ab | (rw [sdY] <;> first | rfl | omega) | (rw [sdN] <;> first | rfl | omega))
def wX:Kn:=aM (ae (kC (aZ 0 0)) (ae (kC (aZ 4 0)) (ae (kC (aZ 5 0)) ak))) (qL 0 (aH (yR 35 (.nm .command)) (aH (dQ 306 (ax (rJ 316 [] [(0,0)]) dL)) av))) fun _ (z,c,(_,_),_)=>⟨[],[.agg (cellsOf (.nm .reply) ((bC fW c z).2))],some ((s_ 0 ((bC fW c z).1)++[.box 35 (cellsOf (.nm .command) (c)),.box 306 ([.fn 316 [] [(0,0)]])])),false⟩
def Iy:CK 301 wX:=ag fun _ (z,c,(_,_),_) _=>by
 obtain ⟨v,h,j,m,o,op,g⟩:=z;refine bw jl [] Tryz.func301 (?_:(fun b=>(fun e=>(fun f=>(fun d=>I64 b->(b<0->I64 15->I64 0->15=d.snd.code/\0=d.snd.n/\bQ e d.fst (aR c c))/\(0<=b->(0<=b/\b<(↑g.length:Int))/\(I64 f.code->I64 f.n->f.code=d.snd.code/\f.n=d.snd.n/\bQ (fW e b.toNat).fst d.fst (aR c c)))) (bC fW c e)) (fW e b.toNat).snd) (State.mk v h j m o op g)) (al Snap.id c.id g));(repeat' with_reducible first|apply bc|refine ba ?_|intro)
 all_goals (first | exact bm | exact eh ab | (rw [sdY] <;> first | rfl | omega) | (rw [sdN] <;> first | rfl | omega))
def Bw:Kn:=aM (ae (kC (aZ 0 0)) (ae (kC (aZ 4 0)) (ae (kC (aZ 5 0)) ak))) (qL 0 (aH (yR 35 (.nm .command)) (aH (dQ 306 (ax (rJ 317 [] [(4,0),(0,0)]) dL)) av))) fun _ (z,c,(_,_),_)=>⟨[],[.agg (cellsOf (.nm .reply) ((bC (sN c) c z).2))],some ((s_ 0 ((bC (sN c) c z).1)++[.box 35 (cellsOf (.nm .command) (c)),.box 306 ([.fn 317 [] [(4,0),(0,0)]])])),false⟩
def KQ:CK 301 Bw:=ag fun _ (z,c,(_,_),_) _=>by
 obtain ⟨v,h,j,m,o,op,g⟩:=z;refine bw jl [] Tryz.func301 (?_:(fun b=>(fun e=>(fun f=>(fun d=>I64 b->(b<0->I64 15->I64 0->15=d.snd.code/\0=d.snd.n/\bQ e d.fst (aR c c))/\(0<=b->(0<=b/\b<(↑g.length:Int))/\(I64 f.code->I64 f.n->f.code=d.snd.code/\f.n=d.snd.n/\bQ (sN c e b.toNat).fst d.fst (aR c c)))) (bC (sN c) c e)) (sN c e b.toNat).snd) (State.mk v h j m o op g)) (al Snap.id c.id g));(repeat' with_reducible first|apply bc|refine ba ?_|intro)
 all_goals (first | exact bm | exact eh ab | (rw [sdY] <;> first | rfl | omega) | (rw [sdN] <;> first | rfl | omega))
def we:Kn:=aM (ae (kC (aZ 0 0)) (ae (kC (aZ 4 0)) (ae (kC (aZ 5 0)) ak))) (qL 0 (aH (yR 35 (.nm .command)) (aH (dQ 306 (ax (rJ 304 [] [(0,0),(6,0)]) dL)) (aH (dQ 4 (ax cB dL)) av)))) fun _ (z,c,(_,_),(b,_),_)=>⟨[],[.agg (cellsOf (.nm .reply) ((bC (gL b) c z).2))],some ((s_ 0 ((bC (gL b) c z).1)++[.box 35 (cellsOf (.nm .command) (c)),.box 306 ([.fn 304 [] [(0,0),(6,0)]]),.box 4 ([.bool (.atom ((b)))])])),false⟩
def Ji:CK 301 we:=ag fun _ (z,c,(_,_),(b,_),_) _=>by
 obtain ⟨v,j,m,o,p,op,h⟩:=z;refine bw jl [] Tryz.func301 (?_:(fun d=>(fun f=>(fun g=>(fun e=>I64 d->(d<0->I64 15->I64 0->15=e.snd.code/\0=e.snd.n/\bQ f e.fst (bt c c (b=b)))/\(0<=d->(0<=d/\d<(↑h.length:Int))/\(I64 g.code->I64 g.n->g.code=e.snd.code/\g.n=e.snd.n/\bQ (gL b f d.toNat).fst e.fst (bt c c (b=b))))) (bC (gL b) c f)) (gL b f d.toNat).snd) (State.mk v j m o p op h)) (al Snap.id c.id h));(repeat' with_reducible first|apply bc|refine ba ?_|intro)
 all_goals (first | exact bm | exact eh ab | (rw [sdY] <;> first | rfl | omega) | (rw [sdN] <;> first | rfl | omega))
def Yl:bF:=(aP 301 we (aP 301 Bw (aP 301 wX (aP 301 uc (aP 303 NP YG)))))
def BY:aw Tryz.prog (aj tyT) Yl:=(ah Ji (ah KQ (ah Iy (ah DS (ah ace jl)))))
def fK (s:State) (c:Command):Int:=if eF s s.version=0 then bL c s.version else 1
def MI (s:State) (c:Command):State × Reply:=
 if c.kind=11 then bC (sN c) c s
 else if c.kind=10 then bC (gL false) c s
 else if c.kind=9 then bC (gL true) c s
 else if c.kind=7 then bC fW c s
 else if c.kind=5 then bC eA c s
 else if c.kind=12 then pK c s
 else if c.kind=6 then tV c s
 else if c.kind=4 then eY s c
 else if c.kind=3 then eN s c
 else if c.kind=2 then eW s c
 else (s,⟨1,0⟩)
def fg (s:State) (c:Command):State × Reply:=if ¬ fK s c=0 then (s,⟨fK s c,0⟩) else MI s c
theorem xV {α:Type} {c:α->Int} {b:Int}:∀ {l:List α} {a:Int},aA c b a l=true->l=[]\/a+(l.length:Int)<=b
 | [],_,_=>.inl rfl
 | x :: l,a,h=>by
  simp only [aA,Bool.and_eq_true] at h;have d:=Kz h.1;rcases xV h.2 with h2 | h2
  ·grind
  grind
theorem gX {s:State} {v:Int} (h:eF s v=0):cq v 1 3=true/\kO s v=true/\Bf s=true/\yK s=true/\ga s v=true:=by
 unfold eF at h;grind
theorem ZB {s:State} {v:Int} (h:eF s v=0):s.opens.length<=8:=by
 have b:=(gX h).2.2.2.1;simp only [yK,Bool.and_eq_true] at b;rcases xV b.1 with h2 | h2
 ·grind
 omega
theorem Y_ {s:State} {v:Int} (h:eF s v=0):s.sess.length<=8:=by
 have b:=(gX h).2.2.1;simp only [Bf,Bool.and_eq_true] at b;rcases xV b.1 with h2 | h2
 ·grind
 omega
theorem OG {s:State} {v:Int} (h:eF s v=0):s.snaps.length<=16/\aA Snap.id (s.next - 1) 0 s.snaps=true/\∀ x ∈ s.snaps,dH v (xr v) x=true:=by
 have b:=(gX h).2.2.2.2;simp only [ga] at b;grind
variable {t:Int}
def aaD {v:Int} (h:dH v t x=true):cH x.chunks=true:=by
 simp only [dH,Bool.and_eq_true,decide_eq_true_eq] at h;cases b:cH x.chunks with
 | true=>rfl
 | false=>have:=rO (l:=x.chunks) b; omega
theorem Qw:∀ {l:List Snap},(∀ x ∈ l,cH x.chunks=true)->nch l<=8*l.length
 | [],_=>Nat.le_refl _
 | x :: l,h=>by
  have c:=Qw (l:=l) fun y b=>h y (acT _ b);have d:=(EM (h x (acX))).2;have e:nch (x :: l)=x.chunks.length+nch l:=by simp [nch]
  grind
def SN {s:State} {v:Int} (h:eF s v=0):nch s.snaps<=128:=by
 have b:=OG h;have:=Qw (l:=s.snaps) fun x c=>aaD (b.2.2 x c);omega
def abA {s:State} {v:Int} (h:eF s v=0):1<=s.next/\s.next<=1048576:=by
 have b:=(gX h).2.1;simp only [kO,Bool.and_eq_true] at b;exact Kz b.1.1.2
theorem Dn {s:State} {c:Command} (h:(if eF s s.version=0 then bL c s.version else 1)=0):eF s s.version=0:=by grind
def aa3 {s:State} {c:Command} (h:(if eF s s.version=0 then bL c s.version else 1)=0):nch s.snaps<=1048576:=by have:=SN (Dn h); omega
def aeX {s:State} {c:Command} (h:(if eF s s.version=0 then bL c s.version else 1)=0):s.opens.length<1048576:=by have:=ZB (Dn h); omega
def Ya {s:State} {c:Command} (h:(if eF s s.version=0 then bL c s.version else 1)=0):s.sess.length<1048576:=by have:=Y_ (Dn h); omega
def ad3 {s:State} {c:Command} (h:(if eF s s.version=0 then bL c s.version else 1)=0):s.snaps.length<1048576:=by have:=(OG (Dn h)).1; omega
def aga {s:State} {c:Command} (h:(if eF s s.version=0 then bL c s.version else 1)=0):0<=s.next:=by have:=abA (Dn h); omega
def afb {s:State} {c:Command} (h:(if eF s s.version=0 then bL c s.version else 1)=0):fg s c=MI s c:=by
 have h:fK s c=0:=h;rw [fg,h]; rfl
def ajq {s:State} {c:Command} (h:¬ (if eF s s.version=0 then bL c s.version else 1)=0):fg s c=(s,⟨(if eF s s.version=0 then bL c s.version else 1),0⟩):=by
 have h:¬ fK s c=0:=h;rw [fg,if_pos h]; rfl
def Lj:Kn:=aM (ae (kT (.nm .state)) (ae (kT (.nm .command)) ak)) av fun (st,c,_) _=>⟨[],[.agg ([.int (((fg st c).1.version)),.int (((fg st c).1.next)),.int (((fg st c).1.keep)),.int (((fg st c).1.quota)),.own 0,.own 1,.own 2]),.agg (cellsOf (.nm .reply) ((fg st c).2))],some ([.row 137 (.nm .sess) (((fg st c).1.sess)),.row 139 (.nm .opn) (((fg st c).1.opens)),.row 172 (.nm .snap) (((fg st c).1.snaps))]),true⟩
def aal:CK 281 Lj:=ag fun (st,c,_) _ _=>by
 refine dF BY [] Tryz.func281 (?_:(fun w=>(fun F=>(fun G=>(fun s=>(fun H=>(fun u=>(fun h=>(fun j=>(fun m=>(fun r=>(fun y=>(fun z=>(fun A=>(fun B=>(fun C=>(fun D=>(fun J=>(fun v=>(fun b=>(fun I=>(fun o=>(fun p=>(fun q=>(fun d=>(fun e=>(fun f=>(fun g=>(fun K=>fL st (bH c (I64 w->I64 st.next->I64 st.keep->I64 st.quota->I64 J->(¬J=s->I64 J->I64 s->w=g/\st.next=d/\st.keep=e/\st.quota=f/\J=b/\K)/\(J=s->(r=11->I64 B.snd.code->I64 B.snd.n->B.fst.version=g/\B.fst.next=d/\B.fst.keep=e/\B.fst.quota=f/\B.snd.code=b/\B.snd.n=v.n/\B.fst.sess=o/\B.fst.opens=q/\B.fst.snaps=p)/\(¬r=11->(r=10->I64 D.snd.code->I64 D.snd.n->D.fst.version=g/\D.fst.next=d/\D.fst.keep=e/\D.fst.quota=f/\D.snd.code=b/\D.snd.n=v.n/\D.fst.sess=o/\D.fst.opens=q/\D.fst.snaps=p)/\(¬r=10->(r=9->I64 C.snd.code->I64 C.snd.n->C.fst.version=g/\C.fst.next=d/\C.fst.keep=e/\C.fst.quota=f/\C.snd.code=b/\C.snd.n=v.n/\C.fst.sess=o/\C.fst.opens=q/\C.fst.snaps=p)/\(¬r=9->(r=7->I64 A.snd.code->I64 A.snd.n->A.fst.version=g/\A.fst.next=d/\A.fst.keep=e/\A.fst.quota=f/\A.snd.code=b/\A.snd.n=v.n/\A.fst.sess=o/\A.fst.opens=q/\A.fst.snaps=p)/\(¬r=7->(r=5->G/\(I64 z.snd.code->I64 z.snd.n->z.fst.version=g/\z.fst.next=d/\z.fst.keep=e/\z.fst.quota=f/\z.snd.code=b/\z.snd.n=v.n/\z.fst.sess=o/\z.fst.opens=q/\z.fst.snaps=p))/\(¬r=5->(r=12->G/\(I64 h.snd.code->I64 h.snd.n->h.fst.version=g/\h.fst.next=d/\h.fst.keep=e/\h.fst.quota=f/\h.snd.code=b/\h.snd.n=v.n/\h.fst.sess=o/\h.fst.opens=q/\h.fst.snaps=p))/\(¬r=12->(r=6->I64 F.code->I64 F.n->u.version=g/\u.next=d/\u.keep=e/\u.quota=f/\F.code=b/\F.n=v.n/\u.sess=o/\u.opens=q/\u.snaps=p)/\(¬r=6->(r=4->H/\(I64 m.snd.code->I64 m.snd.n->m.fst.version=g/\m.fst.next=d/\m.fst.keep=e/\m.fst.quota=f/\m.snd.code=b/\m.snd.n=v.n/\m.fst.sess=o/\m.fst.opens=q/\m.fst.snaps=p))/\(¬r=4->(r=3->G/\st.snaps.length<1048576/\H/\s<=st.next/\(I64 y.snd.code->I64 y.snd.n->y.fst.version=g/\y.fst.next=d/\y.fst.keep=e/\y.fst.quota=f/\y.snd.code=b/\y.snd.n=v.n/\y.fst.sess=o/\y.fst.opens=q/\y.fst.snaps=p))/\(¬r=3->(r=2->H/\(I64 j.snd.code->I64 j.snd.n->j.fst.version=g/\j.fst.next=d/\j.fst.keep=e/\j.fst.quota=f/\j.snd.code=b/\j.snd.n=v.n/\j.fst.sess=o/\j.fst.opens=q/\j.fst.snaps=p))/\(¬r=2->I64 1->I64 s->w=g/\st.next=d/\st.keep=e/\st.quota=f/\1=b/\K)))))))))))))) (s=v.n/\st.sess=o/\st.opens=q/\st.snaps=p)) I.version) I.quota) I.keep) I.next) I.opens) I.snaps) I.sess) (fg st c).fst) v.code) (fg st c).snd) (if eF st w=s then bL c w else 1)) (bC (gL false) c st)) (bC (gL true) c st)) (bC (sN c) c st)) (bC fW c st)) (bC eA c st)) (eN st c)) c.kind) (eY st c)) (eW st c)) (pK c st)) (tV c st).fst) (st.opens.length<1048576)) (0:Int)) (nch st.snaps<=1048576)) (tV c st).snd) st.version)
 (repeat' with_reducible first|apply bc|refine ba ?_|intro)
 all_goals (first | exact bm | exact (aa3 ab) | exact (aeX ab) | exact (Ya ab) | exact (ad3 ab) | exact (aga ab) | (rw [ajq ab]; done) | (rw [afb ab]; simp only [MI, *]; done) | (rw [afb ab]; simp [MI, *]; done))
def Xs:bF:=(aP 281 Lj Yl)
def Aw:aw Tryz.prog (aj tyT) Xs:=(ah aal BY)
def cP (s:State) (c:Command):State × Reply:=
 if al Sess.client c.client s.sess<0 then (s,⟨11,0⟩)
 else if c.seq=(s.sess.getD (al Sess.client c.client s.sess).toNat (ao (.nm .sess))).seq then (s,(s.sess.getD (al Sess.client c.client s.sess).toNat (ao (.nm .sess))).last)
 else if c.seq<(s.sess.getD (al Sess.client c.client s.sess).toNat (ao (.nm .sess))).seq then (s,⟨13,0⟩)
 else if (s.sess.getD (al Sess.client c.client s.sess).toNat (ao (.nm .sess))).seq+1<c.seq then (s,⟨14,0⟩)
 else ({ (fg s c).1 with sess:=(fg s c).1.sess.set (al Sess.client c.client s.sess).toNat { (fg s c).1.sess.getD (al Sess.client c.client s.sess).toNat (ao (.nm .sess)) with seq:=c.seq,last:=(fg s c).2 } },(fg s c).2)
def rC (s:State) (c:Command):State × Reply:=
 if ¬ fK s c=0 then (s,⟨fK s c,0⟩)
 else if c.kind=8 then (if ¬ c.n=s.version+1 then (s,⟨1,0⟩) else ({ s with version:=c.n },⟨0,c.n⟩))
 else if c.kind=1 then (if 0<=al Sess.client c.client s.sess then (s,⟨12,0⟩) else ({ s with sess:=Cy s.sess (s.sess.takeWhile fun y=>decide (y.client<c.client)).length ⟨c.client,0,⟨0,0⟩⟩ },⟨0,0⟩))
 else cP s c
variable {Q:State × Reply->Prop}
def UG {s:State} {c:Command} (g:∀ e:Int,¬ e=0->Q (s,⟨e,0⟩))
  (d:∀ f:State->Nat->State × Reply,fK s c=0->(f=sN c\/(∃ b,f=gL b)\/f=fW\/f=eA)->Q (bC f c s))
  (j:fK s c=0->Q (pK c s)) (m:fK s c=0->Q (tV c s)) (o:fK s c=0->Q (eY s c)) (p:fK s c=0->Q (eN s c)) (q:fK s c=0->Q (eW s c)):Q (fg s c):=by
 unfold fg;split
 ·exact g _ ap
 rename_i h;have h:fK s c=0:=acY.1 h;unfold MI;split
 ·exact d _ h (.inl rfl)
 split
 ·exact d _ h (.inr (.inl ⟨_,rfl⟩))
 split
 ·exact d _ h (.inr (.inl ⟨_,rfl⟩))
 split
 ·exact d _ h (.inr (.inr (.inl rfl)))
 split
 ·exact d _ h (.inr (.inr (.inr rfl)))
 split
 ·exact j h
 split
 ·exact m h
 split
 ·exact o h
 split
 ·exact p h
 split
 ·exact q h
 exact g 1 am
theorem II {f:State->Nat->State × Reply} {s:State} {c:Command} (b:∀ e:Int,¬ e=0->Q (s,⟨e,0⟩)) (h:∀ n:Nat,(n:Int)=al Snap.id c.id s.snaps->Q (f s n)):Q (bC f c s):=by
 unfold bC;grind
def Kv {s:State} {c:Command}:(fg s c).1.sess=s.sess:=by
 refine UG (Q:=fun r=>r.1.sess=s.sess) (fun _ _=>rfl) (fun f _ d=>?_) (fun _=>rfl) (fun _=>rfl) (fun _=>?_) (fun _=>?_) (fun _=>?_)
 ·refine II (Q:=fun r=>r.1.sess=s.sess) (fun _ _=>rfl) fun n _=>?_;rcases d with rfl | ⟨b,rfl⟩ | rfl | rfl
  ·rfl
  ·unfold gL; split <;> rfl
  ·rfl
  unfold eA; split; rfl; split <;> rfl
 ·unfold eY; split <;> rfl
 ·unfold eN; split; rfl; split; rfl; split <;> rfl
 unfold eW; split <;> rfl
theorem Ap {l:List Sess} {q:Int} {R:Reply} (h:k<l.length):(l.set k (Sess.mk (l.getD k (ao (.nm .sess))).client q (l.getD k (ao (.nm .sess))).last)).set k (Sess.mk ((l.set k (Sess.mk (l.getD k (ao (.nm .sess))).client q (l.getD k (ao (.nm .sess))).last)).getD k (ao (.nm .sess))).client ((l.set k (Sess.mk (l.getD k (ao (.nm .sess))).client q (l.getD k (ao (.nm .sess))).last)).getD k (ao (.nm .sess))).seq R)=l.set k { l.getD k (ao (.nm .sess)) with seq:=q,last:=R }:=by simp_all
section
variable {v nx kp qt:Int} {se:List Sess} {op:List Opn} {sn:List Snap} {c:Command}
def as1 (h:al Sess.client c.client se<0):cP (State.mk v nx kp qt se op sn) c=(State.mk v nx kp qt se op sn,⟨11,0⟩):=by
 simp only [cP,if_pos h]
def as2 (h:0<=al Sess.client c.client se) (e:c.seq=(se.getD (al Sess.client c.client se).toNat (ao (.nm .sess))).seq):cP (State.mk v nx kp qt se op sn) c=(State.mk v nx kp qt se op sn,(se.getD (al Sess.client c.client se).toNat (ao (.nm .sess))).last):=by
 have b:¬ al Sess.client c.client se<0:=by omega
 simp only [cP,if_neg b,if_pos e]
def as3 (h:0<=al Sess.client c.client se) (e:¬ c.seq=(se.getD (al Sess.client c.client se).toNat (ao (.nm .sess))).seq) (l:c.seq<(se.getD (al Sess.client c.client se).toNat (ao (.nm .sess))).seq):cP (State.mk v nx kp qt se op sn) c=(State.mk v nx kp qt se op sn,⟨13,0⟩):=by
 have b:¬ al Sess.client c.client se<0:=by omega
 simp only [cP,if_neg b,if_neg e,if_pos l]
def as4 (h:0<=al Sess.client c.client se) (e:¬ c.seq=(se.getD (al Sess.client c.client se).toNat (ao (.nm .sess))).seq) (l:(se.getD (al Sess.client c.client se).toNat (ao (.nm .sess))).seq<=c.seq) (g:(se.getD (al Sess.client c.client se).toNat (ao (.nm .sess))).seq+1<c.seq):cP (State.mk v nx kp qt se op sn) c=(State.mk v nx kp qt se op sn,⟨14,0⟩):=by
 have b:¬ al Sess.client c.client se<0:=by omega
 have d:¬ c.seq<(se.getD (al Sess.client c.client se).toNat (ao (.nm .sess))).seq:=by omega
 simp only [cP,if_neg b,if_neg e,if_neg d,if_pos g]
def as5 (h:0<=al Sess.client c.client se) (e:¬ c.seq=(se.getD (al Sess.client c.client se).toNat (ao (.nm .sess))).seq) (l:(se.getD (al Sess.client c.client se).toNat (ao (.nm .sess))).seq<=c.seq) (g:c.seq<=(se.getD (al Sess.client c.client se).toNat (ao (.nm .sess))).seq+1):cP (State.mk v nx kp qt se op sn) c=({ (fg (State.mk v nx kp qt se op sn) c).1 with sess:=(fg (State.mk v nx kp qt se op sn) c).1.sess.set (al Sess.client c.client se).toNat { (fg (State.mk v nx kp qt se op sn) c).1.sess.getD (al Sess.client c.client se).toNat (ao (.nm .sess)) with seq:=c.seq,last:=(fg (State.mk v nx kp qt se op sn) c).2 } },(fg (State.mk v nx kp qt se op sn) c).2):=by
 have b:¬ al Sess.client c.client se<0:=by omega
 have d:¬ c.seq<(se.getD (al Sess.client c.client se).toNat (ao (.nm .sess))).seq:=by omega
 have f:¬ (se.getD (al Sess.client c.client se).toNat (ao (.nm .sess))).seq+1<c.seq:=by omega
 simp only [cP,if_neg b,if_neg e,if_neg d,if_neg f]
def KK (h:0<=al Sess.client c.client se):al Sess.client c.client se<((fg (State.mk v nx kp qt se op sn) c).1.sess.length:Int):=by rw [Kv]; exact eh h
def Cg (h:0<=al Sess.client c.client se):(al Sess.client c.client se).toNat<(fg (State.mk v nx kp qt se op sn) c).1.sess.length:=by have:=KK (v:=v) (nx:=nx) (kp:=kp) (qt:=qt) (op:=op) (sn:=sn) h; omega
def adp {x:Sess} (h:0<=al Sess.client c.client se):al Sess.client c.client se<(((fg (State.mk v nx kp qt se op sn) c).1.sess.set (al Sess.client c.client se).toNat x).length:Int):=by rw [agi]; exact KK h
def ai4 (h:fK (State.mk v nx kp qt se op sn) c=0) (f:0<=al Sess.client c.client se):I64 ((se.getD (al Sess.client c.client se).toNat (ao (.nm .sess))).seq+1):=by
 have b:=(gX (Dn h)).2.2.1;simp only [Bf,Bool.and_eq_true,agV] at b;have e:=b.2 _ (ac7 (gd (d:=ao (.nm .sess)) (k:=(al Sess.client c.client se).toNat) (l:=se) (by have:=eh f; omega)));simp only [eu,Bool.and_eq_true] at e;have g:=Kz e.1.1;constructor <;> omega
end
def CC:Kn:=aM (ae (kG (ax cI (ax cI (ax cI (ax cI (ax (eV 0) (ax (eV 1) (ax (eV 2) dL)))))))) (ae (kT (.nm .command)) ak)) (aH (e_ 137 (.nm .sess)) (aH (e_ 139 (.nm .opn)) (aH (e_ 172 (.nm .snap)) av))) fun ((v,b,d,e,_,_,_,_),c,_) (f,op,g,_)=>⟨[fK (State.mk v b d e f op g) c=0],[.agg ([.int (((cP (State.mk v b d e f op g) c).1.version)),.int (((cP (State.mk v b d e f op g) c).1.next)),.int (((cP (State.mk v b d e f op g) c).1.keep)),.int (((cP (State.mk v b d e f op g) c).1.quota)),.own 0,.own 1,.own 2]),.agg (cellsOf (.nm .reply) ((cP (State.mk v b d e f op g) c).2))],some ([.row 137 (.nm .sess) (((cP (State.mk v b d e f op g) c).1.sess)),.row 139 (.nm .opn) (((cP (State.mk v b d e f op g) c).1.opens)),.row 172 (.nm .snap) (((cP (State.mk v b d e f op g) c).1.snaps))]),false⟩
theorem RL:CK 264 CC:=ag fun ((v,D,F,G,_,_,_,_),c,_) (y,op,I,_) J=>by
 have K:=cg J;refine bw Aw [] Tryz.func264 (?_:(fun s=>(fun h=>(fun z=>(fun g=>(fun u=>(fun r=>(fun H=>(fun C=>(fun f=>(fun d=>(fun b=>(fun j=>(fun A=>(fun e=>(fun m=>(fun o=>(fun p=>(fun q=>(fun B=>(fun w=>I64 v->I64 D->I64 F->I64 G->bH c (I64 g->(g<h->I64 11->I64 h->q/\o/\m/\p/\11=d.code/\w)/\(h<=g->h<=g/\g<(↑y.length:Int)/\jQ r ((s=r.seq->q/\o/\m/\p/\r.last.code=d.code/\r.last.n=d.n/\B)/\(¬s=r.seq->(s<r.seq->I64 13->I64 h->q/\o/\m/\p/\13=d.code/\w)/\(r.seq<=s->I64 H/\(H<s->I64 14->I64 h->q/\o/\m/\p/\14=d.code/\w)/\(s<=H->I64 b.version->I64 b.next->I64 b.keep->I64 b.quota->I64 f.code->I64 f.n->(h<=g/\g<(↑b.sess.length:Int))/\jQ j (h<=g/\g<(↑A.length:Int))/\jQ j (jQ (A.getD u z) (b.version=e.version/\b.next=e.next/\b.keep=e.keep/\b.quota=e.quota/\f.code=d.code/\f.n=d.n/\A.set u (Sess.mk (A.getD u z).client (A.getD u z).seq f)=e.sess/\b.opens=e.opens/\b.snaps=e.snaps))))))))) (h=d.n/\B)) (y=e.sess/\op=e.opens/\I=e.snaps)) (v=e.version)) (G=e.quota)) (D=e.next)) (F=e.keep)) (cP C c).fst) (b.sess.set u (Sess.mk j.client s j.last))) (b.sess.getD u z)) (fg C c).fst) (cP C c).snd) (fg C c).snd) (State.mk v D F G y op I)) (r.seq+1)) (y.getD u z)) g.toNat) (al Sess.client c.client y)) (ao (Sh.nm NT.sess))) (0:Int)) c.seq);(repeat' with_reducible first|apply bc|refine ba ?_|intro)
 all_goals (first | exact bm | exact eh ab | exact KK ab | exact adp ab | exact ai4 ab ab | (rw [as1] <;> first | rfl | with_reducible assumption | exact Ap (Cg ab)) | (rw [as2] <;> first | rfl | with_reducible assumption | exact Ap (Cg ab)) | (rw [as3] <;> first | rfl | with_reducible assumption | exact Ap (Cg ab)) | (rw [as4] <;> first | rfl | with_reducible assumption | exact Ap (Cg ab)) | (rw [as5] <;> first | rfl | with_reducible assumption | exact Ap (Cg ab)))
def YS:bF:=(aP 264 CC Xs)
def zV:aw Tryz.prog (aj tyT) YS:=(ah RL Aw)
section
variable {s:State} {c:Command}
def ajh (h:(if eF s s.version=0 then bL c s.version else 1)=0):fK s c=0:=h
def agW (h:(if eF s s.version=0 then bL c s.version else 1)=0):I64 (s.version+1):=by
 have b:=(gX (Dn h)).2.1;simp only [kO,Bool.and_eq_true] at b;have:=Kz b.1.1.1;constructor <;> omega
def doE (h:¬ (if eF s s.version=0 then bL c s.version else 1)=0):rC s c=(s,⟨(if eF s s.version=0 then bL c s.version else 1),0⟩):=by
 have h:¬ fK s c=0:=h;rw [rC,if_pos h]; rfl
def doM (h:(if eF s s.version=0 then bL c s.version else 1)=0):rC s c=if c.kind=8 then (if ¬ c.n=s.version+1 then (s,⟨1,0⟩) else ({ s with version:=c.n },⟨0,c.n⟩))
 else if c.kind=1 then (if 0<=al Sess.client c.client s.sess then (s,⟨12,0⟩) else ({ s with sess:=Cy s.sess (s.sess.takeWhile fun y=>decide (y.client<c.client)).length ⟨c.client,0,⟨0,0⟩⟩ },⟨0,0⟩))
 else cP s c:=by
 have h:¬ ¬ fK s c=0:=fun k=>k h;rw [rC,if_neg h]
def ahO (h:(if eF s s.version=0 then bL c s.version else 1)=0) (k:c.kind=8) (n:¬ c.n=s.version+1):rC s c=(s,⟨1,0⟩):=by rw [doM h,if_pos k,if_pos n]
def ajR (h:(if eF s s.version=0 then bL c s.version else 1)=0) (k:c.kind=8) (n:c.n=s.version+1):rC s c=({ s with version:=c.n },⟨0,c.n⟩):=by rw [doM h,if_pos k,if_neg (fun h=>h n)]
def agP (h:(if eF s s.version=0 then bL c s.version else 1)=0) (k:c.kind=1) (n:0<=al Sess.client c.client s.sess):rC s c=(s,⟨12,0⟩):=by rw [doM h,if_neg aK,if_pos k,if_pos n]
def ajs (h:(if eF s s.version=0 then bL c s.version else 1)=0) (k:c.kind=1) (n:al Sess.client c.client s.sess<0):rC s c=({ s with sess:=Cy s.sess (s.sess.takeWhile fun y=>decide (y.client<c.client)).length ⟨c.client,0,⟨0,0⟩⟩ },⟨0,0⟩):=by rw [doM h,if_neg aK,if_pos k,if_neg aK]
def doX (h:(if eF s s.version=0 then bL c s.version else 1)=0) (k:¬ c.kind=8) (n:¬ c.kind=1):rC s c=cP s c:=by rw [doM h,if_neg k,if_neg n]
variable {l:List Sess}
theorem oZ {x:Sess} (b:k<=l.length) (d:(l.take k).all (fun y=>decide (y.client<c.client))=true) (e:(l.length:Int)<=k\/c.client<=(l.getD k (ao (.nm .sess))).client):l.take k++[x]++l.drop k=Cy l (l.takeWhile fun y=>decide (y.client<c.client)).length x:=by
 have:k=(l.takeWhile fun y=>decide (y.client<c.client)).length:=by
  refine Qg d b ?_;grind
 rw [<- this]; simp [Cy]
def afm (b:(l.take k).all (fun y=>decide (y.client<c.client))=true) (h:(k:Int)<l.length) (e:(l.getD k (ao (.nm .sess))).client<c.client):(l.take (k+1)).all (fun y=>decide (y.client<c.client))=true:=by
 rw [ai (gd (d:=ao (.nm .sess)) h),ahI,b]; simp only [ahp,decide_eq_true e]; rfl
end
def akg (st:State) (c:Command):List (Nat × LI):=[(15,{ σ:=Nat,F:=fun k=>([(2,one (.ptr 0 0)),(3,one (.ptr 1 0)),(4,one (.ptr 2 0)),(5,one (.ptr 3 0)),(7,one (.int k))],[.box 46 ([.int ((st.version)),.int ((st.next)),.int ((st.keep)),.int ((st.quota)),.own 4,.own 5,.own 6]),.box 35 (cellsOf (.nm .command) (c)),.box 46 ([.int ((0)),.int ((0)),.int ((0)),.int ((0)),.em true,.em true,.em true]),.box 78 ([.int ((0)),.int ((0))]),.row 137 (.nm .sess) ((st.sess)),.row 139 (.nm .opn) ((st.opens)),.row 172 (.nm .snap) ((st.snaps))]),J:=fun k=>k<=st.sess.length/\(st.sess.take k).all (fun y=>decide (y.client<c.client))=true,μ:=fun k=>st.sess.length - k })]
def WV:Kn:=aM (ae (kT (.nm .state)) (ae (kT (.nm .command)) ak)) av fun (st,c,_) _=>⟨[],[.agg ([.int (((rC st c).1.version)),.int (((rC st c).1.next)),.int (((rC st c).1.keep)),.int (((rC st c).1.quota)),.own 0,.own 1,.own 2]),.agg (cellsOf (.nm .reply) ((rC st c).2))],some ([.row 137 (.nm .sess) (((rC st c).1.sess)),.row 139 (.nm .opn) (((rC st c).1.opens)),.row 172 (.nm .snap) (((rC st c).1.snaps))]),true⟩
theorem ae1:CK 227 WV:=ag fun (st,c,_) _ _=>by
 refine dF zV (akg st c) Tryz.func227 (?_:(fun (G:List Opn)=>(fun (w:Int)=>(fun (z:Int)=>(fun (A:Reply)=>(fun (B:Int)=>(fun (T:den (Sh.nm NT.sess))=>(fun (F:Int)=>(fun (u:Int)=>(fun (v:Reply)=>(fun (m:State)=>(fun (C:Int)=>(fun (N:Int)=>(fun (O:Int)=>(fun (e:List Sess)=>(fun (H:Int)=>(fun (g:Int)=>(fun (b:Int)=>(fun (h:Prop)=>(fun (o:Int)=>(fun (S:Prop)=>(fun (f:State)=>(fun (J:Prop)=>(fun (D:Prop)=>(fun (p:Prop)=>(fun (q:Prop)=>(fun (r:Prop)=>(fun (K:Prop)=>(fun (I:Prop)=>fL st (bH c (I64 C->I64 w->I64 z->I64 B->I64 o->(¬o=b->I64 o->I64 b->D/\q/\p/\r/\o=v.code/\I)/\(o=b->(c.kind=8->I64 (C+u)/\(¬c.n=C+u->I64 u->I64 b->D/\q/\p/\r/\u=v.code/\I)/\(c.n=C+u->c.n=f.version/\q/\p/\r/\b=v.code/\c.n=v.n/\K))/\(¬c.kind=8->(c.kind=u->I64 H->(b<=H->I64 12->I64 b->D/\q/\p/\r/\12=v.code/\I)/\(H<b->∃ (P:Nat),(b=(↑P:Int)/\S)/\(P<=e.length/\((List.take P e).all fun (y:Sess)=>decide (y.client<F))=true)/\∀ (s:Nat),(fun (d:Int)=>(fun (j:den (Sh.nm NT.sess))=>s<=e.length/\((List.take s e).all fun (y:Sess)=>decide (y.client<F))=true->(d<g->b<=d/\d<g)/\((d<g->I64 j.client/\I64 j.seq/\I64 j.last.code/\I64 j.last.n)->(d<g/\j.client<F->I64 (d+u)/\∃ (L:Nat),(d+u=(↑L:Int)/\S)/\(L <= e.length/\((List.take L e).all fun (y:Sess)=>decide (y.client<F))=true)/\e.length - L < e.length - s)/\(g<=d\/F<=j.client->(b<=d/\d<=g)/\e.length<1048576/\[Sess.mk F b (Reply.mk b b)].length=1/\D/\q/\p/\r/\b=v.code/\b=v.n/\List.take s e++[Sess.mk F b (Reply.mk b b)]++List.drop s e=f.sess/\J))) (e.getD s T)) (↑s:Int)))/\(¬c.kind=u->fK st c=b/\(I64 m.version->I64 m.next->I64 m.keep->I64 m.quota->I64 A.code->I64 A.n->m.version=f.version/\m.next=f.next/\m.keep=f.keep/\m.quota=f.quota/\A.code=v.code/\A.n=v.n/\m.sess=f.sess/\m.opens=f.opens/\m.snaps=f.snaps))))))) (b=v.n/\K)) (e=f.sess/\J)) (B=f.quota)) (w=f.next)) (z=f.keep)) (C=f.version)) (G=f.opens/\st.snaps=f.snaps)) (rC st c).fst) (C=C/\w=w/\z=z/\B=B/\bt c c (h/\h/\h/\h/\h/\h/\e=e/\G=G/\st.snaps=st.snaps))) (if O=b then N else u)) (b=b)) 0) (↑e.length:Int)) (al Sess.client F e)) st.sess) (eF st C)) (bL c C)) st.version) (cP st c).fst) (rC st c).snd) 1) c.client) (ao (Sh.nm NT.sess))) st.quota) (cP st c).snd) st.keep) st.next) st.opens);iterate 3 ((all_goals (repeat' with_reducible first|apply bc|refine ba ?_|intro)); (all_goals try (first | exact bm | exact rfl | exact ajh ab | exact agW ab | exact Ya ab | exact afm ab ab ab | (rw [doE] <;> first | rfl | with_reducible assumption | exact oZ aK ab ap) | (rw [ahO] <;> first | rfl | with_reducible assumption | exact oZ aK ab ap) | (rw [ajR] <;> first | rfl | with_reducible assumption | exact oZ aK ab ap) | (rw [agP] <;> first | rfl | with_reducible assumption | exact oZ aK ab ap) | (rw [ajs] <;> first | rfl | with_reducible assumption | exact oZ aK ab ap) | (rw [doX] <;> first | rfl | with_reducible assumption | exact oZ aK ab ap))); all_goals try first | refine ⟨‹Nat› + 1,?_⟩ | refine ⟨0,?_⟩)
def Xy:bF:=(aP 227 WV YS)
def LV:aw Tryz.prog (aj tyT) Xy:=(ah ae1 zV)
def YA:bF:=Xy
def Oy:aw Tryz.prog (aj tyT) YA:=LV
def XA:bF:=YA
def Ld:aw Tryz.prog (aj tyT) XA:=Oy
section
variable {s:State} {c:Command}
end
def VY {c:Command} {v:Int} (h:bL c v=0):(1<=v/\v<=3)/\¬ cD c.kind=0/\cD c.kind<=v/\mR c=true:=by
 unfold bL at h;split at h
 ·cases h
 rename_i b;rw [Bool.or_eq_true,not_or] at b;simp only [ags,Bool.not_eq_false,decide_eq_true_eq] at b;split at h
 ·cases h
 split at h
 ·cases h
 rename_i e d;exact ⟨Kz b.1,b.2,aK,by simpa using d⟩
section
variable {α:Type} {key:α->Int} {most:Int}
end
section
variable {α:Type} {key:α->Int} {most:Int}
end
section
variable {s:State} {c:Command}
end
section
variable {α:Type} {key:α->Int} {most:Int}
end
section
variable {s:State} {x:Snap} {i:Nat}
end
section
variable {s:State} {x:Snap} {i:Nat}
end
section
variable {s:State} {x:Snap} {i:Nat}
end
section
variable {s:State} {c:Command} {k:Nat}
end
section
variable {α:Type} {key:α->Int} {most:Int}
end
section
variable {s:State} {c:Command}
end
section
variable {α:Type} {key:α->Int} {x y d:α}
variable {l:List α} {k:Nat}
end
def Xf:bF:=XA
def Pw:aw Tryz.prog (aj tyT) Xf:=Ld
section
variable {st:State} {c:Command}
variable {i:Int} {x:Snap}
end
def WT:bF:=Xf
def Qn:aw Tryz.prog (aj tyT) WT:=Pw
section
variable {st:State} {c:Command}
end
def YE:bF:=WT
def MY:aw Tryz.prog (aj tyT) YE:=Qn
section
variable {st:State} {c:Command}
end
def YX:bF:=YE
def Bl:aw Tryz.prog (aj tyT) YX:=MY
def wQ (l:List Int):Int:=match l.findIdx? (fun x=>!bT x) with
 | some i=>(i:Int)
 | none=>-1
section
variable {l:List Int} {k:Nat} {x:Int}
def vY:wQ l=al (fun x=>if bT x=true then 0 else 1) 1 l:=by
 have e:(fun x=>!bT x)=fun x:Int=>decide ((if bT x=true then (0:Int) else 1)=1):=by
  funext x;cases bT x <;> rfl
 unfold wQ al; rw [e]; rfl
def acv (h:wQ (l.take k) = -1) (c:l[k]? = some x) (b:(!bT x)=false):wQ (l.take (k+1)) = -1:=by
 rw [Bool.not_eq_false'] at b;rw [vY] at h ⊢;exact oa h c (by rw [if_pos b]; decide)
def TF (h:wQ (l.take k) = -1) (c:l[k]? = some x) (b:(!bT x)=true):(k:Int)=wQ l:=by
 rw [ags] at b;rw [vY] at h ⊢;exact lQ h c (by rw [b]; rfl)
def abR (h:wQ (l.take k) = -1) (b:l.length<=k):-1=wQ l:=by rw [List.take_of_length_le b] at h; exact h.symm
def Wt:decide (0<=wQ l) = !l.all bT:=by
 cases e:l.findIdx? (fun x=>!bT x) with
 | none=>
  have h:=List.findIdx?_eq_none_iff.1 e;have:l.all bT=true:=agV.2 fun x b=>by simpa using h x b
  unfold wQ; rw [e,this]; rfl
 | some i=>
  obtain ⟨c,d,_⟩:=agC.1 e;have:l.all bT=false:=by
   rw [List.all_eq_false];exact ⟨l[i],agy c,by simpa using d⟩
  unfold wQ; rw [e,this];show decide (0<=(i:Int))=true;rw [decide_eq_true_eq]; omega
end
def zi:Kn:=aM (ae (kC cI) ak) av fun (k,_) _=>⟨[],[.c (.bool (.atom ((bT k))))],none,false⟩
theorem Qy:CK 86 zi:=ag fun (k,_) _ _=>by
 refine aq Bl [] Tryz.func86 (?_:I64 k->(decide (1<=k) && decide (k<=3))=bT k);grind [bT]
def YO:bF:=(aP 86 zi YX)
def sA:aw Tryz.prog (aj tyT) YO:=(ah Qy Bl)
section
variable {st:State} {v:Int}
end
def wJ:Kn:=aM (ae (kC cI) (ae (kC cI) ak)) av fun (a,b,_) _=>⟨[],[.c (.int ((b_ a b)))],none,false⟩
theorem JQ:CK 43 wJ:=ag fun (a,b,_) _ _=>by
 refine aq sA [] Tryz.func43 (?_:I64 a->I64 b->(bT a=false\/bT b=false->1=b_ a b)/\(bT a=true/\bT b=true->(a<b->32=b_ a b)/\(b<=a->0=b_ a b)));grind [b_,bT]
def zy:Kn:=aM (ae (kC cI) ak) av fun (n,_) _=>⟨[],[.c (.bool (.atom ((!bT n))))],none,false⟩
theorem Mu:CK 157 zy:=ag fun (n,_) _ _=>by
 refine aq sA [] Tryz.func157 (?_:I64 n->(!bT n) = !bT n);grind
def WH:bF:=(aP 157 zy (aP 43 wJ YO))
def sG:aw Tryz.prog (aj tyT) WH:=(ah Mu (ah JQ sA))
variable {l:List Int}
def T_ {s:Nat} {x:Int} (b:l[((s:Int)+1).toNat]? = some x):min (iN l (s+1)) x=iN l (s+1+1):=DR aK (by rwa [show ((s:Int)+1).toNat=s+1 by omega] at b)
def VJ (l:List Int):List (Nat × LI):=[(2,{ σ:=Nat,F:=fun k=>([(0,one (.fz .int (l))),(1,one (.fn 157 [] [])),(7,one (.int (l).length)),(8,one (.int k))],[]),J:=fun k=>k<=l.length/\wQ (l.take k) = -1,μ:=fun k=>(l).length - k })]
def ade (l:List Int):List (Nat × LI):=[(5,{ σ:=Nat,F:=fun k=>([(0,one (.fz .int (l))),(3,one (.int (iN l (k+1)))),(4,one (.int (k+1)))],[]),J:=fun k=>k+1<=l.length,μ:=fun k=>l.length - k })]
def AK:Kn:=aM (ae (kC (cL .int)) (ae (kC (rJ 157 [] [])) ak)) av fun (l,_,_) _=>⟨[],[.c (.int ((wQ l)))],none,false⟩
theorem NO:CK 219 AK:=ag fun (l,_,_) _ _=>by
 refine aq sG (VJ l) Tryz.func219 (?_:(fun (c:Int)=>(fun (b:Nat)=>l.length*8<=140737488355328->∃ (e:Nat),(l=l/\(↑l.length:Int)=(↑b:Int)/\0=(↑e:Int))/\(e<=b/\wQ (List.take e l) = -c)/\∀ (s:Nat),s<=b/\wQ (List.take s l) = -c->((↑s:Int)<(↑b:Int)->0<=(↑s:Int)/\(↑s:Int)<(↑l.length:Int)/\∀ (x:Int),l[s]? = some x->I64 x->((!bT x)=true->(↑s:Int)=wQ l)/\((!bT x)=false->I64 ((↑s:Int)+c)/\∃ (d:Nat),(l=l/\(↑b:Int)=(↑b:Int)/\(↑s:Int)+c=(↑d:Int))/\(d <= b/\wQ (List.take d l) = -c)/\b - d < b - s))/\((↑b:Int)<=(↑s:Int) -> -c=wQ l)) l.length) 1);iterate 3 ((all_goals (repeat' with_reducible first|apply bc|refine ba ?_|intro)); (all_goals try (first | exact bm | exact rfl | exact (acv ab ab ab) | exact (TF ab ab ab) | exact (abR ab aK))); all_goals try first | refine ⟨‹Nat› + 1,?_⟩ | refine ⟨0,?_⟩)
def Ol:Kn:=aM (ae (kC (cL .int)) ak) av fun (l,_) _=>⟨[0<l.length],[.c (.int ((zN l)))],none,false⟩
theorem abV:CK 159 Ol:=ag fun (l,_) _ h=>by
 have j:=cg h;refine aq sG (ade l) Tryz.func159 (?_:(fun c=>(fun e=>(fun b=>l.length*(8:Nat)<=(140737488355328:Nat)->(e<b->False)/\(b<=e->(0:Int)<=(0:Int)/\(0:Int)<e/\∀ (x:Int),l[(0:Nat)]? = some x->I64 x->∃ g,(l=l/\x=iN l (g+c)/\b=(↑g:Int)+b)/\g+c<=l.length/\∀ (s:Nat),(fun d=>s+c<=l.length->(d<e->(0:Int)<=d/\d<e/\∀ (x:Int),l[d.toNat]? = some x->I64 x->I64 (d+b)/\∃ f,(l=l/\min (iN l (s+c)) x=iN l (f + c)/\d+b=(↑f:Int)+b)/\f + c<=l.length/\l.length - f < l.length - s)/\(e<=d->iN l (s+c)=zN l)) ((↑s:Int)+b))) (1:Int)) (↑l.length:Int)) (1:Nat));iterate 3 ((all_goals (repeat' with_reducible first|apply bc|refine ba ?_|intro)); (all_goals try (first | exact bm | exact (IQ ab) | exact (T_ ab) | exact (IE aK))); all_goals try first | refine ⟨‹Nat› + 1,?_⟩ | refine ⟨0,?_⟩)
def XH:bF:=(aP 159 Ol (aP 219 AK WH))
def zG:aw Tryz.prog (aj tyT) XH:=(ah abV (ah NO sG))
def ES:Kn:=aM (ae (kC (cL .int)) (ae (kC (rJ 157 [] [])) ak)) av fun (l,_,_) _=>⟨[],[.c (.bool (.atom ((!l.all bT))))],none,false⟩
def Wn:CK 158 ES:=ag fun (l,_,_) _ _=>by
 refine aq zG [] Tryz.func158 (?_:l.length*8<=140737488355328->I64 (wQ l)->decide (0<=wQ l) = !l.all bT);(repeat' with_reducible first|apply bc|refine ba ?_|intro)
 all_goals (first | exact bm | exact (Wt))
def XX:bF:=(aP 158 ES XH)
def CI:aw Tryz.prog (aj tyT) XX:=(ah Wn zG)
def ah0 (o:(l.length:Int)=0\/(!l.all bT)=true):0=iX l:=by
 have h:(decide (l.length=0) || !l.all bT)=true:=by
  rcases o with o | o
  ·rw [decide_eq_true aK]; rfl
  rw [o,Bool.or_true]
 unfold iX; rw [if_pos h]
def ahZ (o:¬ (l.length:Int)=0) (h:(!l.all bT)=false):zN l=iX l:=by
 have h:¬ (decide (l.length=0) || !l.all bT)=true:=by
  rw [h,akN aK]; decide
 unfold iX; rw [if_neg h]
def zW:Kn:=aM (ae (kC (cL .int)) ak) av fun (l,_) _=>⟨[],[.c (.int ((iX l)))],none,false⟩
def Rg:CK 92 zW:=ag fun (l,_) _ _=>by
 refine aq CI [] Tryz.func92 (?_:l.length*8<=140737488355328->((↑l.length:Int)=0\/(!l.all bT)=true->0=iX l)/\(¬(↑l.length:Int)=0/\(!l.all bT)=false->0<l.length/\(I64 (zN l)->zN l=iX l)));(repeat' with_reducible first|apply bc|refine ba ?_|intro)
 all_goals (first | exact bm | exact (ah0 ap) | exact (ahZ ab ab))
def XQ:bF:=(aP 92 zW XX)
def Cv:aw Tryz.prog (aj tyT) XQ:=(ah Rg CI)
def zL:Kn:=aM (ae (kC cI) (ae (kC (cL .int)) ak)) av fun (v,l,_) _=>⟨[],[.c (.bool (.atom ((kY v l))))],none,false⟩
theorem Rk:CK 53 zL:=ag fun (v,l,_) _ _=>by
 refine aq Cv [] Tryz.func53 (?_:I64 v->l.length*8<=140737488355328->(1<=v/\v<3->I64 (iX l))->(decide (1<=v) && decide (v<3) && decide (v<iX l))=kY v l);(repeat' with_reducible first|apply bc|refine ba ?_|intro)
 all_goals (first | exact bm | rfl | grind [kY])
def YT:bF:=(aP 53 zL XQ)
def MT:aw Tryz.prog (aj tyT) YT:=(ah Rk Cv)
def Xx:bF:=YT
def Qo:aw Tryz.prog (aj tyT) Xx:=MT
section
variable {s:State} {l:List Command} {x:Command} {k:Nat}
end
section
variable {s:State} {l:List Command} {x:Command} {k:Nat} {d:Command}
end
def Xa:bF:=Xx
def MB:aw Tryz.prog (aj tyT) Xa:=Qo
def Xq:bF:=Xa
def dJ:aw Tryz.prog (aj tyT) Xq:=MB
def eH (f:Field):Bool:=(decide (1<=f.num) && decide (f.num<=1000)) && (if f.wire=0 then decide (((f.b.length:Nat):Int)=0) else if f.wire=2 then decide ((f.n.n:Int)=0) else false)
def fX (a f:Field):Bool:=if f.num=a.num then (decide (f.wire=2) && decide (a.wire=2)) else decide (a.num<f.num)
def qg (num b:Int):Bool:=(decide (1<=num) && decide (num<=1000)) && (decide (b=0) || decide (b=2))
def oJ (num b:Int):List UInt8:=if qg num b then bj ((8*num)+b).toNat else []
def Cs (num b:Int):Int:=if qg num b then 0 else 1
def cG (f:Field):List UInt8:=if f.wire=0 then oJ f.num f.wire++bj f.n.n else (oJ f.num f.wire++bj f.b.length)++f.b
def okP:Option Field->Field->Bool
 | none,_=>true
 | some q,f=>fX q f
def stepT (p:Option Field) (f:Field):Int:=if eH f=false then 1 else if okP p f=false then 5 else if (16384:Int)<((f.b.length:Nat):Int) then 4 else 0
def ey:Option Field->List Field->Int
 | _,[]=>0
 | p,f :: r=>if stepT p f=0 then ey (some f) r else stepT p f
def iE (l:List Field):Nat:=(l.map fun f=>(cG f).length).sum
def cY (l:List Field):Int:=if ey none l=0 then (if (16384:Int)<((iE l:Nat):Int) then 4 else 0) else ey none l
def mU (l:List Field):List UInt8:=if cY l=0 then (l.map cG).flatten else []
def fo (l:List Field) (k:Nat):Option Field:=if k=0 then none else l[k - 1]?
def xK (l:List Field) (k:Nat) (x:Field):Prop:=(¬ 0<k)\/∃ y,l[k - 1]? = some y/\fX y x=true
variable {wire num:Int}
def Lk (h:(num<1\/1000<num)\/(¬ wire=0/\¬ wire=2)):qg num wire=false:=by
 rw [<- Bool.not_eq_true]; unfold qg; simp only [Bool.and_eq_true,Bool.or_eq_true,decide_eq_true_eq]; omega
def Gu (h:¬ ((num<1\/1000<num)\/(¬ wire=0/\¬ wire=2))):qg num wire=true:=by
 unfold qg; simp only [Bool.and_eq_true,Bool.or_eq_true,decide_eq_true_eq]; omega
def EO (h:(num<1\/1000<num)\/(¬ wire=0/\¬ wire=2)):[]=oJ num wire:=by rw [oJ,Lk h]; rfl
def Wa (h:(num<1\/1000<num)\/(¬ wire=0/\¬ wire=2)):1=Cs num wire:=by rw [Cs,Lk h]; rfl
def OH (h:¬ ((num<1\/1000<num)\/(¬ wire=0/\¬ wire=2))):bj ((8*num)+wire).toNat=oJ num wire:=by rw [oJ,Gu h]; rfl
def Q_ (h:¬ ((num<1\/1000<num)\/(¬ wire=0/\¬ wire=2))):0=Cs num wire:=by rw [Cs,Gu h]; rfl
def tq (num wire:Int):(oJ num wire).length<=10:=by
 unfold oJ;cases h:qg num wire with
 | false=>simp
 | true=>
  unfold qg at h; simp only [Bool.and_eq_true,Bool.or_eq_true,decide_eq_true_eq] at h;exact cO aK
variable {f:Field}
def um (d:f.b.length<=16384) (c:f.n.n<18446744073709551616):(cG f).length<=16404:=by
 have e:=tq f.num f.wire;unfold cG;split
 ·have:=cO c; rw [List.length_append]; omega
 have:=cO (n:=f.b.length) aK; rw [List.length_append,List.length_append]; omega
def TW (h:f.wire=0):oJ f.num f.wire++bj f.n.n=cG f:=by rw [cG,if_pos h]
def VK (h:¬ f.wire=0):(oJ f.num f.wire++bj f.b.length)++f.b=cG f:=by rw [cG,if_neg h]
variable {x:Field} {l:List Field}
def RN (b:l[k]? = some x):iE (l.take k)+(cG x).length=iE (l.take (k+1)):=by
 unfold iE; rw [ai b,List.map_append,List.sum_append]; simp
def GV (c:xK l k x):okP (fo l k) x=true:=by
 unfold fo;rcases c with h | ⟨y,d,e⟩
 ·rw [if_pos aK]; rfl
 by_cases b:k=0
 ·rw [if_pos b]; rfl
 rw [if_neg b,d]; exact e
def OS (b:l[k]? = some x):ey (fo l k) (l.drop k)=if stepT (fo l k) x=0 then ey (some x) (l.drop (k+1)) else stepT (fo l k) x:=by
 obtain ⟨c,d⟩:=aar.1 b;rw [agp c,d]; rfl
variable {e:Int}
def Pn (c:ey none l=ey (fo l k) (l.drop k)) (d:l[k]? = some x) (g:stepT (fo l k) x=e) (b:e≠0):e=cY l:=by
 have h:ey none l=e:=by rw [c,OS d,g,if_neg b]
 rw [cY,h,if_neg b]
def ZA (b:ey none l=ey (fo l k) (l.drop k)) (c:l[k]? = some x) (d:eH x=false):1=cY l:=Pn b c (by rw [stepT,if_pos d]) am
def aaZ {y:Field} (b:ey none l=ey (fo l k) (l.drop k)) (c:l[k]? = some x) (d:eH x=true) (j:0<k) (g:l[k - 1]? = some y) (h:fX y x=false):5=cY l:=
 Pn b c (by rw [stepT,if_neg (by rw [d]; decide),if_pos]; unfold fo; rw [if_neg aK,g]; exact h) am
def ZZ (c:ey none l=ey (fo l k) (l.drop k)) (d:l[k]? = some x) (g:eH x=true) (h:xK l k x) (j:(16384:Int)<((x.b.length:Nat):Int)):4=cY l:=
 Pn c d (by rw [stepT,if_neg (by rw [g]; decide),if_neg (by rw [GV h]; decide),if_pos j]) am
def Ly (d:ey none l=ey (fo l k) (l.drop k)) (c:l[k]? = some x) (g:eH x=true) (h:xK l k x) (j:¬ (16384:Int)<((x.b.length:Nat):Int)):ey none l=ey (fo l (k+1)) (l.drop (k+1)):=by
 rw [d,OS c,if_pos (by rw [stepT,if_neg (by rw [g]; decide),if_neg (by rw [GV h]; decide),if_neg j])];unfold fo; rw [if_neg aK,Nat.add_sub_cancel,c]
def Gw (b:ey none l=ey (fo l k) (l.drop k)) (c:l.length<=k):ey none l=0:=by
 rw [b,agv c]; rfl
def NU (d:ey none l=ey (fo l k) (l.drop k)) (b:l.length<=k) (c:(16384:Int)<((iE (l.take k):Nat):Int)):4=cY l:=by
 rw [List.take_of_length_le b] at c; rw [cY,if_pos (Gw d b),if_pos c]
def LU (d:ey none l=ey (fo l k) (l.drop k)) (b:l.length<=k) (c:¬ (16384:Int)<((iE (l.take k):Nat):Int)):0=cY l:=by
 rw [List.take_of_length_le b] at c; rw [cY,if_pos (Gw d b),if_neg c]
theorem Uc (h:cY l=0):iE l<=16384:=by
 unfold cY at h;grind
theorem Wm (h:cY l=0):ey none l=0:=by
 unfold cY at h;grind
theorem Fz:∀ {l:List Field} {p:Option Field},ey p l=0->∀ x ∈ l,x.b.length<=16384
 | f :: r,p,h,x,hx=>by
  unfold ey at h;split at h
  ·rename_i c;rcases acV.1 hx with rfl | hx
   ·unfold stepT at c;grind
   exact Fz h x hx
  grind
def yz (h:cY l=0) (c:x ∈ l):x.b.length<=16384:=Fz (Wm h) x c
def Ig (b:l[k]? = some x):((l.take k).map cG).flatten++cG x=((l.take (k+1)).map cG).flatten:=by
 rw [ai b,List.map_append,List.flatten_append]; simp
def Ru (l:List Field):((l.map cG).flatten).length=iE l:=by
 unfold iE; rw [List.length_flatten,List.map_map]; rfl
def RV:iE (l.take k)<=iE l:=by
 have:iE l=iE (l.take k)+iE (l.drop k):=by unfold iE; rw [<- List.sum_append,<- List.map_append,List.take_append_drop]
 omega
def Ot (h:cY l=0):((l.take k).map cG).flatten.length<=16384:=by
 have:=Uc h; have:=RV (l:=l) (k:=k); rw [Ru]; omega
def WA (h:cY l=0) (b:l.length<=k):((l.take k).map cG).flatten=mU l:=by rw [mU,if_pos h,List.take_of_length_le b]
def Zf (h:¬ cY l=0):[]=mU l:=by rw [mU,if_neg h]
theorem Ml (h:f.num<1\/1000<f.num):false=eH f:=by
 have:(decide (1<=f.num) && decide (f.num<=1000))=false:=by rw [<- Bool.not_eq_true]; simp only [Bool.and_eq_true,decide_eq_true_eq]; omega
 unfold eH; rw [this]; rfl
theorem QN (h:¬ (f.num<1\/1000<f.num)):eH f=(if f.wire=0 then decide (((f.b.length:Nat):Int)=0) else if f.wire=2 then decide ((f.n.n:Int)=0) else false):=by
 have:(decide (1<=f.num) && decide (f.num<=1000))=true:=by simp only [Bool.and_eq_true,decide_eq_true_eq]; omega
 unfold eH; rw [this]; rfl
def bS:List Spec:=([⟨1,0,1,true,false⟩,⟨2,0,1,false,false⟩,⟨3,0,1,false,false⟩,⟨4,0,1,false,false⟩,⟨5,0,1,false,false⟩,⟨6,0,1,false,false⟩,⟨7,2,1,false,false⟩,⟨8,2,3,false,false⟩]:List Spec)
def aW (v:Int):List Spec:=if v<1\/3<v then [] else bS.filter fun s=>decide (s.since<=v)
def db (v:Int):Int:=(aW v).foldl (fun t s=>max t s.num) 0
variable {x:Spec}
def Rm {v:Int} (b:bS[k]? = some x) (h:x.since<=v):(bS.take k).filter (fun s=>decide (s.since<=v))++[x]=(bS.take (k+1)).filter (fun s=>decide (s.since<=v)):=by
 rw [ai b,List.filter_append]; simp [h]
def TP {v:Int} (b:bS[k]? = some x) (h:¬ x.since<=v):(bS.take k).filter (fun s=>decide (s.since<=v))=(bS.take (k+1)).filter (fun s=>decide (s.since<=v)):=by
 rw [ai b,List.filter_append]; simp [h]
def Jv {v:Int} (h:v<1\/3<v):[]=aW v:=by rw [aW,if_pos h]
def QG {v:Int} (h:¬ (v<1\/3<v)) (b:bS.length<=k):(bS.take k).filter (fun s=>decide (s.since<=v))=aW v:=by rw [aW,if_neg h,List.take_of_length_le b]
def PG {v:Int}:((bS.take k).filter (fun s=>decide (s.since<=v))).length<=8:=by
 have b:=List.length_filter_le (fun s:Spec=>decide (s.since<=v)) (bS.take k);have c:(bS.take k).length<=8:=by rw [List.length_take]; exact Nat.le_trans (Nat.min_le_right _ _) am
 omega
def MW {v:Int} (b:(aW v)[k]? = some x):max (((aW v).take k).foldl (fun t s=>max t s.num) 0) x.num=((aW v).take (k+1)).foldl (fun t s=>max t s.num) 0:=by
 rw [ai b,List.foldl_append]; rfl
def qn (num n:Int):List Field:=if n=0 then [] else [⟨num,0,⟨n.toNat⟩,[]⟩]
def CZ (num:Int) (b:List UInt8):List Field:=if 0<((b.length:Nat):Int) then [⟨num,2,⟨0⟩,b⟩] else []
def yD (c:Command):List Field:=(((((([]++qn 1 c.kind)++qn 2 c.client)++qn 3 c.seq)++qn 4 c.set)++qn 5 c.id)++qn 6 c.n)++CZ 7 (eM c.chunks)
def dT (c:Command) (v:Int):List Field:=if 3<=v then yD c++CZ 8 c.text.b else yD c
def gI (num n:Int):(qn num n).length<=1:=by unfold qn; split <;> simp
def Ek (num:Int) (b:List UInt8):(CZ num b).length<=1:=by unfold CZ; split <;> simp
variable {xs:List Field}
def BL (h:¬ n=0):xs++[⟨num,0,⟨n.toNat⟩,[]⟩]=xs++qn num n:=by rw [qn,if_neg h]
def zt (h:n=0):xs=xs++qn num n:=by rw [qn,if_pos h,ads]
variable {b:List UInt8}
def CN (h:0<((b.length:Nat):Int)):xs++[⟨num,2,⟨0⟩,b⟩]=xs++CZ num b:=by rw [CZ,if_pos h]
def zu (h:¬ 0<((b.length:Nat):Int)):xs=xs++CZ num b:=by rw [CZ,if_neg h,ads]
def DM (c:Command) (v:Int):(dT c v).length<=8:=by
 have d:=gI 1 c.kind; have g:=gI 2 c.client; have h:=gI 3 c.seq; have j:=gI 4 c.set; have m:=gI 5 c.id; have o:=gI 6 c.n;have p:=Ek 7 (eM c.chunks); have q:=Ek 8 c.text.b;unfold dT yD;split <;> simp only [List.length_append,List.length_nil] <;> omega
def dW (c:Command) (d:List Field) (v:Int):Int:=if !(cq v 1 3) then 1 else if (gD c v=false/\¬ bL c v=0) then bL c v else if d.any (fun f=>decide (f.num<=db v)) then 6 else 0
def fw (c:Command) (d:List Field) (v:Int):Int:=if dW c d v=0 then cY (dT c v++d) else dW c d v
def gE (c:Command) (d:List Field) (v:Int):List UInt8:=if dW c d v=0 then mU (dT c v++d) else []
def Du {k:Int} (h:¬ cD k=0):1<=k/\k<=12:=Decidable.byContradiction fun c=>h (Ul c)
def aan {c:Command} {v:Int} (h:gD c v=true):0<=c.kind/\0<=c.client/\0<=c.seq/\0<=c.set/\0<=c.id/\0<=c.n:=by
 unfold gD vF cq at h;simp only [Bool.and_eq_true,decide_eq_true_eq] at h;omega
def xJ {m:Int} {b:Bool} (h:nM n m b=true):0<=n:=by
 unfold nM at h; cases b <;> simp at h <;> omega
def SD {k:Int} (h:1<=k/\k<=12):0<=(vQ k).1:=by
 have:k=1\/k=2\/k=3\/k=4\/k=5\/k=6\/k=7\/k=8\/k=9\/k=10\/k=11\/k=12:=by omega
 rcases this with rfl | rfl | rfl | rfl | rfl | rfl | rfl | rfl | rfl | rfl | rfl | rfl <;> decide
def LB {c:Command} {v:Int} (h:bL c v=0):(1<=v/\v<=3)/\¬ cD c.kind=0/\cD c.kind<=v/\mR c=true:=by
 unfold bL at h;split at h
 ·cases h
 rename_i d;rw [Bool.or_eq_true,not_or] at d;simp only [ags,Bool.not_eq_false,decide_eq_true_eq] at d;split at h
 ·cases h
 split at h
 ·cases h
 rename_i j g;exact ⟨Kz d.1,d.2,aK,by simpa using g⟩
def ZY {c:Command} {v:Int} (h:bL c v=0):0<=c.kind/\0<=c.client/\0<=c.seq/\0<=c.set/\0<=c.id/\0<=c.n:=by
 obtain ⟨_,g,_,d⟩:=LB h;have j:=Du g;have r:=SD j;unfold mR at d;simp only [Bool.and_eq_true,decide_eq_true_eq] at d;obtain ⟨⟨⟨⟨⟨⟨⟨s,u⟩,_⟩,_⟩,m⟩,o⟩,p⟩,q⟩:=d;exact ⟨aK,xJ m,xJ o,xJ p,xJ q,aK⟩
variable {rest:List Field}
def ag8 {c:Command} {v:Int} (h:(!(cq v 1 3))=true):dW c rest v=1:=by rw [dW,if_pos h]
def ajv {c:Command} {v:Int} (h:(!(cq v 1 3))=false) (d:gD c v=false) (g:¬ bL c v=0):dW c rest v=bL c v:=by rw [dW,h,if_neg am,if_pos ⟨d,g⟩]
def ahq {c:Command} {v:Int} {x:Field} (h:(!(cq v 1 3))=false) (h1:gD c v=true\/bL c v=0) (g:rest[k]? = some x) (j:x.num<=db v):dW c rest v=6:=by
 have:(rest.any fun f=>decide (f.num<=db v))=true:=List.any_eq_true.2 ⟨x,ac7 g,decide_eq_true j⟩;rw [dW,h,if_neg am,if_neg (fun d=>by rcases h1 with h1 | h1; rw [h1] at d; cases d.1; exact d.2 h1),if_pos this]
def agK {c:Command} {v:Int} (h:(!(cq v 1 3))=false) (h1:gD c v=true\/bL c v=0) (d:∀ j y,j<k->rest[j]? = some y->¬ y.num<=db v) (p:rest.length<=k):dW c rest v=0:=by
 have:(rest.any fun f=>decide (f.num<=db v))=false:=by
  rw [List.any_eq_false];intro y m;obtain ⟨j,o,rfl⟩:=List.getElem_of_mem m;have:=d j _ aK (List.getElem?_eq_getElem o);simpa using this
 rw [dW,h,if_neg am,if_neg (fun g=>by rcases h1 with h1 | h1; rw [h1] at g; cases g.1; exact g.2 h1),this,if_neg am]
def Ew {c:Command} {v:Int} (h:dW c rest v=e) (d:¬ e=0):e=fw c rest v:=by rw [fw,h,if_neg d]
def Dt {c:Command} {v:Int} (h:dW c rest v=e) (d:¬ e=0):[]=gE c rest v:=by rw [gE,h,if_neg d]
def aeZ {c:Command} {v:Int} (h:dW c rest v=0):cY (dT c v++rest)=fw c rest v:=by rw [fw,if_pos h]
def aej {c:Command} {v:Int} (h:dW c rest v=0):mU (dT c v++rest)=gE c rest v:=by rw [gE,if_pos h]
def IB {z:Field} (h:∀ j y,j<k->rest[j]? = some y->¬ y.num<=t) (g:rest[k]? = some z) (m:¬ z.num<=t):∀ j y,j<k+1->rest[j]? = some y->¬ y.num<=t:=by
 intro j y o c;by_cases d:j=k
 ·subst d; rw [g] at c; cases c; exact m
 exact h j y aK c
def yH (n:Nat):bj n=((List.range (bd n)).map (mc n)).set (bd n - 1) (mc n (bd n - 1) &&& 127):=by unfold bj fy; simp
def My:∀ m:Fin 128,(UInt8.ofNat m.val ||| 128) &&& 127=UInt8.ofNat m.val:=by decide
def ZO:∀ m:Fin 256,(UInt8.ofNat m.val ||| 128).toNat=m.val % 128+128:=by decide +kernel
variable {n:Nat}
def mY (h:n<128):bj n=[UInt8.ofNat n]:=by
 rw [yH,kj h];have:=My ⟨n,h⟩;simp only [mc,Nat.pow_zero,Nat.div_one,List.range_one,agB,List.map_nil,Nat.sub_self,List.set_cons_zero] at *;rw [this]
def Xp (n:Nat):(mc n 0).toNat=n % 128+128:=by
 have e:UInt8.ofNat n=UInt8.ofNat (n % 256):=UInt8.toNat_inj.1 (by simp [UInt8.toNat_ofNat']);have:=ZO ⟨n % 256,agR _ am⟩;simp only [mc,Nat.pow_zero,Nat.div_one];rw [e,this]; simp only; omega
def ug (h:¬ n<128):bj n=mc n 0 :: bj (n / 128):=by
 have e:∀ i,mc n (i+1)=mc (n / 128) i:=fun i=>by unfold mc; rw [Nat.pow_succ,Nat.mul_comm,<- Nat.div_div_eq_div_mul]
 have d:=ju (n / 128);obtain ⟨s,c⟩:∃ s,bd (n / 128)=s+1:=⟨bd (n / 128) - 1,aK⟩;rw [yH,yH (n / 128),nj h,c];simp only [Nat.add_sub_cancel];rw [List.range_succ_eq_map,agB,List.map_map,List.set_cons_succ,e s,show mc n ∘ Nat.succ=mc (n / 128) from funext e]
def bK:Nat->Nat->List UInt8->Nat × Nat × Int
 | k,_,[]=>if 10<=k then (0,0,3) else (0,0,2)
 | k,n,x :: r=>if 10<=k then (0,0,3) else if (0<k/\x.toNat=0)\/(k=9/\1<x.toNat) then (0,0,3) else if x.toNat<128 then (n+(x &&& 127).toNat*2 ^ (7*k),k+1,0) else bK (k+1) (n+(x &&& 127).toNat*2 ^ (7*k)) r
termination_by _ _ l=>l.length
def takeF (b:List UInt8):Nat × Nat × Int:=bK 0 0 b
def kL (x:UInt8):(x &&& 127).toNat=x.toNat % 128:=by rw [UInt8.toNat_and]; exact Nat.and_two_pow_sub_one_eq_mod x.toNat 7
variable {x:UInt8}
def Mg (g:k<=9) (h:k=9->x.toNat<=1):(x &&& 127).toNat*2 ^ (7*k)<18446744073709551616:=by
 rw [kL];by_cases c:k=9
 ·have:=h c;subst c;have:x.toNat % 128*2 ^ (7*9)<=1*2 ^ (7*9):=agn _ aK;exact agw this am
 have d:2 ^ (7*k)<=2 ^ 56:=Nat.pow_le_pow_right am aK;have:x.toNat % 128*2 ^ (7*k)<=127*2 ^ 56:=Nat.mul_le_mul aK d;exact agw this am
variable {m:Nat}
def OP (h:n<2 ^ (7*k)):n ||| m*2 ^ (7*k)=n+m*2 ^ (7*k):=by
 have:=Nat.two_pow_add_eq_or_of_lt h m;rw [Nat.or_comm,Nat.mul_comm m,<- this,Nat.add_comm]
def GK (h:n<2 ^ (7*k)):n+(x &&& 127).toNat*2 ^ (7*k)<2 ^ (7*(k+1)):=by
 rw [kL];have e:2 ^ (7*(k+1))=128*2 ^ (7*k):=by rw [show 7*(k+1)=7*k+7 by omega,Nat.pow_add,Nat.mul_comm]
 have:x.toNat % 128*2 ^ (7*k)<=127*2 ^ (7*k):=agn _ aK;rw [e]; omega
def QQ (d:k<10) (c:b.length<=k):bK k n (b.drop k)=(0,0,2):=by
 rw [agv c,bK,if_neg aK]
def ab_ (c:10<=k):bK k n (b.drop k)=(0,0,3):=by
 cases h:b.drop k with
 | nil=>rw [bK,if_pos c]
 | cons x r=>rw [bK,if_pos c]
def Nr (h:k<10) (d:b[k]? = some x):bK k n (b.drop k)=if (0<k/\x.toNat=0)\/(k=9/\1<x.toNat) then (0,0,3) else if x.toNat<128 then (n+(x &&& 127).toNat*2 ^ (7*k),k+1,0) else bK (k+1) (n+(x &&& 127).toNat*2 ^ (7*k)) (b.drop (k+1)):=by
 obtain ⟨c,g⟩:=aar.1 d;rw [agp c,g,bK,if_neg aK]
def Fl (h:takeF b=bK k n (b.drop k)) (c:k<10) (d:b[k]? = some x) (g:¬ (0<k/\x.toNat=0)) (j:¬ (k=9/\1<x.toNat)) (o:¬ x.toNat<128):takeF b=bK (k+1) (n+(x &&& 127).toNat*2 ^ (7*k)) (b.drop (k+1)):=by
 rw [h,Nr c d,if_neg (fun h=>h.elim g j),if_neg o]
theorem oW:∀ {l:List UInt8} {k n:Nat},k<=10->(bK k n l).2.1<=11/\(bK k n l).2.1<=k+l.length
 | [],k,n,h=>by rw [bK]; split <;> simp
 | x :: r,k,n,h=>by
  rw [bK];split
  ·simp
  split
  ·simp
  split
  ·simp; omega
  have:=oW (l:=r) (k:=k+1) (n:=n+(x &&& 127).toNat*2 ^ (7*k)) aK;simp only [List.length_cons]; omega
def xj (h:takeF b=bK k n (b.drop k)) (c:k<10) (d:b[k]? = some x) (g:(0<k/\x.toNat=0)\/(k=9/\1<x.toNat)):takeF b=(0,0,3):=by rw [h,Nr c d,if_pos g]
def HW (h:takeF b=bK k n (b.drop k)) (c:k<10) (d:b[k]? = some x) (g:¬ (0<k/\x.toNat=0)) (j:¬ (k=9/\1<x.toNat)) (o:x.toNat<128):takeF b=(n+(x &&& 127).toNat*2 ^ (7*k),k+1,0):=by
 rw [h,Nr c d,if_neg (fun h=>h.elim g j),if_pos o]
theorem RZ:∀ {l:List UInt8} {k n:Nat},1<=k->(bK k n l).2.2=0->2 ^ (7*k)<=(bK k n l).1
 | [],k,n,_,h=>by rw [bK] at h; split at h <;> cases h
 | x :: r,k,n,j,h=>by
  rw [bK] at h ⊢;split
  ·rename_i d; rw [if_pos d] at h; cases h
  rename_i d;rw [if_neg d] at h;split
  ·rename_i c; rw [if_pos c] at h; cases h
  rename_i c;rw [if_neg c] at h;split
  ·rename_i g;rw [kL];have:1<=x.toNat % 128:=by
    have:¬ x.toNat=0:=fun e=>c (.inl ⟨aK,e⟩);omega
   have:=agn (2 ^ (7*k)) this;show 2 ^ (7*k)<=n+x.toNat % 128*2 ^ (7*k);omega
  rename_i g;rw [if_neg g] at h;exact Nat.le_trans (Nat.pow_le_pow_right am aK) (RZ aK h)
def GJ (x:UInt8) (r:List UInt8):takeF (x :: r)=if x.toNat<128 then (x.toNat,1,0) else bK 1 (x.toNat % 128) r:=by
 unfold takeF;rw [bK,if_neg am,if_neg aK,kL];split
 ·rename_i h; rw [Nat.mod_eq_of_lt h]; simp
 simp
def Co (c:k<b.length):(b.drop k).take (b.length - k)=b[k] :: b.drop (k+1):=by
 rw [List.take_of_length_le aa,agp c]
def tk1 (c:k<b.length) (d:(takeF ((b.drop k).take (b.length - k))).2.2=0) (g:¬ (64:Int)<(((takeF ((b.drop k).take (b.length - k))).1:Nat):Int)) :
  ∃ x,b[k]? = some x/\takeF ((b.drop k).take (b.length - k))=(x.toNat,1,0)/\x.toNat<=64:=by
 rw [Co c,GJ] at *;by_cases h:b[k].toNat<128
 ·rw [if_pos h] at *; exact ⟨_,List.getElem?_eq_getElem c,rfl,by simp only at g; omega⟩
 rw [if_neg h] at *;have:=RZ (Nat.le_refl 1) d;omega
def tk2 (c:k<b.length) (h:(¬ (takeF ((b.drop k).take (b.length - k))).2.2=0)\/(64:Int)<(((takeF ((b.drop k).take (b.length - k))).1:Nat):Int)):∃ x,b[k]? = some x/\64<x.toNat:=by
 refine ⟨b[k],List.getElem?_eq_getElem c,?_⟩;rw [Co c,GJ] at h;by_cases d:b[k].toNat<128
 ·rw [if_pos d] at h; simp only [not_true_eq_false,false_or] at h; omega
 omega
def cN (b:List UInt8):List Int:=b.map fun x=>(x.toNat:Int)
def lh (b:List UInt8):List Int:=if cH (cN b) then cN b else []
def qK (b:List UInt8):Int:=if cH (cN b) then 0 else 6
def VD {p:Nat × Nat × Int} (c:b[k]? = some x) (d:p=(x.toNat,1,0)):cN (b.take k)++[((p.1:Nat):Int)]=cN (b.take (k+1)):=by
 subst d; unfold cN; rw [ai c,List.map_append]; rfl
def acm (c:k<b.length) (h:(¬ (takeF ((b.drop k).take (b.length - k))).2.2=0)\/(64:Int)<(((takeF ((b.drop k).take (b.length - k))).1:Nat):Int)):cH (cN b)=false:=by
 obtain ⟨x,d,g⟩:=tk2 c h;rw [<- Bool.not_eq_true];intro j;have:=(xt j (x.toNat:Int) (akF.2 ⟨x,ac7 d,rfl⟩)).2;omega
def DK (c:b.length<=k):cN (b.take k)=cN b:=by rw [List.take_of_length_le c]
def xp (h:cH (cN b)=false):[]=lh b:=by rw [lh,h]; rfl
def LG (h:cH (cN b)=false):6=qK b:=by rw [qK,h]; rfl
def TG (c:b.length<=k) (h:cH (cN (b.take k))=true):cN (b.take k)=lh b:=by rw [DK c] at *; rw [lh,h]; rfl
def Vy (c:b.length<=k) (h:cH (cN (b.take k))=true):0=qK b:=by rw [DK c] at *; rw [qK,h]; rfl
def Ev (c:b.length<=k) (h:cH (cN (b.take k))=false):cH (cN b)=false:=by rw [DK c] at h; exact h
def Hn (n:Nat):mc n 0=UInt8.ofNat (n % 128+128):=UInt8.toNat_inj.1 (by rw [Xp,UInt8.toNat_ofNat']; omega)
variable {r:Nat}
def Jh {p:List UInt8} (h:p++bj r=bj n) (c:¬ r<128):(p++[UInt8.ofNat (r % 128+128)])++bj (r / 128)=bj n:=by
 rw [<- h,ug c,Hn,List.append_assoc]; rfl
def Ra {p:List UInt8} (h:p++bj r=bj n) (c:r<128):p++[UInt8.ofNat r]=bj n:=by rw [<- h,mY c]
def LR {p:List UInt8} (h:p++bj r=bj n) (c:n<18446744073709551616):p.length<=10:=by
 have:=congrArg List.length h; rw [List.length_append] at this; have:=cO c; omega
structure TagR where
 num:Int
 wire:Int
 k:Nat
 e:Int
def DN (n:Nat):Bool:=decide ((n / 8<1\/1000<n / 8)\/(¬ n % 8=0/\¬ n % 8=2))
def aT (b:List UInt8):TagR:=if (takeF b).2.2=0 then (if DN (takeF b).1=true then ⟨0,0,0,6⟩ else ⟨(((takeF b).1 / 8:Nat):Int),(((takeF b).1 % 8:Nat):Int),(takeF b).2.1,0⟩) else ⟨0,0,0,(takeF b).2.2⟩
def Rj (h:¬ (takeF b).2.2=0):aT b=⟨0,0,0,(takeF b).2.2⟩:=by rw [aT,if_neg h]
def Om (h:(takeF b).2.2=0) (c:((takeF b).1 / 8<1\/1000<(takeF b).1 / 8)\/(¬ (takeF b).1 % 8=0/\¬ (takeF b).1 % 8=2)):aT b=⟨0,0,0,6⟩:=by rw [aT,if_pos h,if_pos (show DN _=true from decide_eq_true c)]
def Oj (h:(takeF b).2.2=0) (c:¬ (((takeF b).1 / 8<1\/1000<(takeF b).1 / 8)\/(¬ (takeF b).1 % 8=0/\¬ (takeF b).1 % 8=2))):aT b=⟨(((takeF b).1 / 8:Nat):Int),(((takeF b).1 % 8:Nat):Int),(takeF b).2.1,0⟩:=by
 rw [aT,if_pos h,if_neg (by unfold DN; simpa using c)]
def re (b:List UInt8):((aT b).k<=11/\(aT b).k<=b.length)/\(0<=(aT b).num/\(aT b).num<=1000)/\(0<=(aT b).wire/\(aT b).wire<=2):=by
 have d:(takeF b).2.1<=11/\(takeF b).2.1<=0+b.length:=oW (l:=b) (k:=0) (n:=0) aK;by_cases h:(takeF b).2.2=0
 ·by_cases c:((takeF b).1 / 8<1\/1000<(takeF b).1 / 8)\/(¬ (takeF b).1 % 8=0/\¬ (takeF b).1 % 8=2)
  ·rw [Om h c]; simp
  rw [Oj h c]; dsimp only; omega
 rw [Rj h]; simp
theorem OM:∀ {l:List UInt8} {k n:Nat},(bK k n l).2.2=0->1<=(bK k n l).2.1
 | [],k,n,h=>by rw [bK] at h; split at h <;> cases h
 | x :: r,k,n,h=>by
  rw [bK] at h ⊢;split
  ·grind
  rename_i c;rw [if_neg c] at h;split
  ·grind
  rename_i d;rw [if_neg d] at h;split
  ·simp
  rename_i g; rw [if_neg g] at h; exact OM h
def bk (b:List UInt8):Nat × Int:=
  if (aT b).e=0 then
    (if (takeF (b.drop (aT b).k)).2.2=0 then
      (if (aT b).wire=0 then ((aT b).k+(takeF (b.drop (aT b).k)).2.1,0)
       else if 16384<(takeF (b.drop (aT b).k)).1 then (0,4)
       else if ((b.length:Nat):Int) - (((aT b).k+(takeF (b.drop (aT b).k)).2.1:Nat):Int)<(((takeF (b.drop (aT b).k)).1:Nat):Int) then (0,2)
       else ((aT b).k+(takeF (b.drop (aT b).k)).2.1+(takeF (b.drop (aT b).k)).1,0))
     else (0,(takeF (b.drop (aT b).k)).2.2))
  else (0,(aT b).e)
def aj0 (h:¬ (aT b).e=0):bk b=(0,(aT b).e):=by rw [bk,if_neg h]
def aha (h:(aT b).e=0) (c:¬ (takeF (b.drop (aT b).k)).2.2=0):bk b=(0,(takeF (b.drop (aT b).k)).2.2):=by rw [bk,if_pos h,if_neg c]
def ajX (h:(aT b).e=0) (c:(takeF (b.drop (aT b).k)).2.2=0) (d:(aT b).wire=0):bk b=((aT b).k+(takeF (b.drop (aT b).k)).2.1,0):=by rw [bk,if_pos h,if_pos c,if_pos d]
def ag_ (h:(aT b).e=0) (c:(takeF (b.drop (aT b).k)).2.2=0) (d:¬ (aT b).wire=0) (g:16384<(takeF (b.drop (aT b).k)).1):bk b=(0,4):=by rw [bk,if_pos h,if_pos c,if_neg d,if_pos g]
def akD (h:(aT b).e=0) (c:(takeF (b.drop (aT b).k)).2.2=0) (d:¬ (aT b).wire=0) (g:¬ 16384<(takeF (b.drop (aT b).k)).1) (j:((b.length:Nat):Int) - (((aT b).k+(takeF (b.drop (aT b).k)).2.1:Nat):Int)<(((takeF (b.drop (aT b).k)).1:Nat):Int)):bk b=(0,2):=by rw [bk,if_pos h,if_pos c,if_neg d,if_neg g,if_pos j]
def ai8 (h:(aT b).e=0) (c:(takeF (b.drop (aT b).k)).2.2=0) (d:¬ (aT b).wire=0) (g:¬ 16384<(takeF (b.drop (aT b).k)).1) (j:¬ ((b.length:Nat):Int) - (((aT b).k+(takeF (b.drop (aT b).k)).2.1:Nat):Int)<(((takeF (b.drop (aT b).k)).1:Nat):Int)):bk b=((aT b).k+(takeF (b.drop (aT b).k)).2.1+(takeF (b.drop (aT b).k)).1,0):=by rw [bk,if_pos h,if_pos c,if_neg d,if_neg g,if_neg j]
theorem oR (b:List UInt8) (k:Nat):(takeF (b.drop k)).2.1<=11/\(takeF (b.drop k)).2.1+k<=max b.length k:=by
 have:=oW (l:=b.drop k) (k:=0) (n:=0) aK;unfold takeF;grind
theorem AL (b:List UInt8):(bk b).1<=b.length:=by
 have c:=re b; have d:=oR b (aT b).k;unfold bk;grind
theorem oC (h:(bk b).2=0):1<=(bk b).1:=by
 unfold bk at h ⊢;split
 ·rename_i d;rw [if_pos d] at h;split
  ·rename_i c;rw [if_pos c] at h;have:=OM (l:=b.drop (aT b).k) (k:=0) (n:=0) c;split
   ·dsimp only; unfold takeF; omega
   rename_i g;rw [if_neg g] at h;split
   ·grind
   rename_i j;rw [if_neg j] at h;split
   ·grind
   dsimp only; unfold takeF; omega
  grind
 grind
def ic (b:List UInt8):Field:=if (aT b).wire=0 then ⟨(aT b).num,(aT b).wire,⟨(takeF (b.drop (aT b).k)).1⟩,[]⟩ else ⟨(aT b).num,(aT b).wire,⟨0⟩,b.drop ((aT b).k+(takeF (b.drop (aT b).k)).2.1)⟩
def Hf (h:(aT b).wire=0):(⟨(aT b).num,(aT b).wire,⟨(takeF (b.drop (aT b).k)).1⟩,[]⟩:Field)=ic b:=by rw [ic,if_pos h]
def HN (h:¬ (aT b).wire=0):(⟨(aT b).num,(aT b).wire,⟨0⟩,b.drop ((aT b).k+(takeF (b.drop (aT b).k)).2.1)⟩:Field)=ic b:=by rw [ic,if_neg h]
def fY (c:List Field) (x:Field):Bool:=match c[c.length - 1]? with | none=>true | some y=>fX y x
def AN:Nat->List Field->List UInt8->List Field × Int
 | 0,c,_=>(c,0)
 | f+1,c,b=>if b.length=0 then (c,0) else if (bk b).2=0 then (if fY c (ic (b.take (bk b).1))=true then AN f (c++[ic (b.take (bk b).1)]) (b.drop (bk b).1) else ([],5)) else ([],(bk b).2)
def bP (b:List UInt8):List Field × Int:=if 16384<b.length then ([],4) else AN b.length [] b
def jg (b:List UInt8) (i:Nat) (c:List Field):Prop:=∃ f,b.length - i<=f/\bP b=AN f c (b.drop i)
def abo (h:16384<b.length):bP b=([],4):=by rw [bP,if_pos h]
def QF (h:¬ 16384<b.length):jg b 0 []:=⟨b.length,aK,by rw [bP,if_neg h]; rfl⟩
variable {acc:List Field}
def MS (h:jg b i acc) (d:i<b.length):∃ f,b.length - i<=f+1/\bP b=if (bk (b.drop i)).2=0 then (if fY acc (ic ((b.drop i).take (bk (b.drop i)).1))=true then AN f (acc++[ic ((b.drop i).take (bk (b.drop i)).1)]) ((b.drop i).drop (bk (b.drop i)).1) else ([],5)) else ([],(bk (b.drop i)).2):=by
 obtain ⟨f,c,e⟩:=h;cases f with
 | zero=>omega
 | succ f=>exact ⟨f,c,by rw [e,AN,if_neg (by rw [List.length_drop]; omega)]⟩
def UQ (h:jg b i acc) (c:i<b.length) (d:¬ (bk (b.drop i)).2=0):bP b=([],(bk (b.drop i)).2):=by
 obtain ⟨f,_,e⟩:=MS h c; rw [e,if_neg d]
def ZW (h:jg b i acc) (c:b.length<=i):bP b=(acc,0):=by
 obtain ⟨f,_,e⟩:=h;rw [e,agv c];cases f <;> rfl
theorem Bb:∀ {f:Nat} {acc:List Field} {b:List UInt8},(AN f acc b).1.length<=acc.length+b.length
 | 0,acc,b=>by simp [AN]
 | f+1,acc,b=>by
  unfold AN;split
  ·simp
  split
  ·rename_i d c;split
   ·have:=Bb (f:=f) (acc:=acc++[ic (b.take (bk b).1)]) (b:=b.drop (bk b).1);have g:=oC c;rw [List.length_append,List.length_drop] at this;simp only [List.length_cons,List.length_nil] at this;omega
   simp
  simp
def Ut (b:List UInt8):(bP b).1.length<=16384:=by
 unfold bP;split
 ·simp
 have:=Bb (f:=b.length) (acc:=[]) (b:=b);simp only [List.length_nil] at this;omega
def OV (x:Field) (s:Spec) (n:Int):Bool:=if ¬ x.wire=s.wire\/(1<n/\s.many=false) then false else if x.wire=0 then !decide ((x.n.n:Int)=0) else decide (0<((x.b.length:Nat):Int))
def iL (l:List Field) (q:Int):Nat:=l.countP fun x=>decide (x.num=q)
def WD (q:Int):iL (l.take k) q<=k:=Nat.le_trans List.countP_le_length (by rw [List.length_take]; exact Nat.min_le_left _ _)
variable {x:Field}
def QI (c:l[k]? = some x) (q:Int):iL (l.take (k+1)) q=if q=x.num then iL (l.take k) x.num+1 else iL (l.take k) q:=by
 unfold iL;rw [ai c,List.countP_append];by_cases h:q=x.num
 ·subst h; simp
 have:¬ x.num=q:=fun e=>h e.symm;simp [h,this]
def uJ (l:List Field) (c:List Spec) (k:Nat):Prop:=∀ j x,j<k->l[j]? = some x->∀ s ∈ c,s.num=x.num->OV x s ((iL (l.take (j+1)) x.num:Nat):Int)=true
def KD (l:List Field) (c:List Spec) (m:Nat):Prop:=∀ j y,j<m->c[j]? = some y->y.need=true->¬ iL l y.num=0
def OB (c:List Spec) (x:Field) (n:Int) (m:Nat):Prop:=∀ j y,j<m->c[j]? = some y->y.num=x.num->OV x y n=true
variable {ss:List Spec} {n:Int}
def ae0:OB ss x n 0:=fun j y h=>by omega
def aea:uJ l ss 0:=fun j y h=>by omega
def aeO:KD l ss 0:=fun j y h=>by omega
def Bd (l:List Field) (v:Int):Prop:=uJ l (aW v) l.length/\KD l (aW v) (aW v).length
open Classical in
def gG (l:List Field) (v:Int):Int:=if (aW v).length=0 then 1 else if cY l=0 then (if Bd l v then 0 else 6) else cY l
def ahB {v:Int} (h:(aW v).length=0):1=gG l v:=by rw [gG,if_pos h]
def akm {v:Int} (h:¬ (aW v).length=0) (c:¬ cY l=0):cY l=gG l v:=by rw [gG,if_neg h,if_neg c]
def afw {v:Int} (h:¬ (aW v).length=0) (c:cY l=0) (d:¬ Bd l v):6=gG l v:=by rw [gG,if_neg h,if_pos c,if_neg d]
def aho {v:Int} (h:¬ (aW v).length=0) (c:cY l=0) (d:Bd l v):0=gG l v:=by rw [gG,if_neg h,if_pos c,if_pos d]
def KS {y:Spec} (h:OB ss x n m) (g:ss[m]? = some y) (o:y.num=x.num->OV x y n=true):OB ss x n (m+1):=by
 intro j z p c;by_cases d:j=m
 ·subst d; rw [g] at c; cases c; exact o
 exact h j z aK c
def MX (h:uJ l ss k) (q:l[k]? = some x) (u:OB ss x n m) (w:ss.length<=m) (e:n=((iL (l.take (k+1)) x.num:Nat):Int)):uJ l ss (k+1):=by
 subst e;intro j z y c s g o;by_cases d:j=k
 ·subst d; rw [q] at c; cases c;obtain ⟨p,v,rfl⟩:=List.getElem_of_mem g;exact u p _ aK (List.getElem?_eq_getElem v) o
 exact h j z aK c s g o
def NG {y:Spec} (h:KD l ss m) (g:ss[m]? = some y) (o:y.need=true->¬ iL l y.num=0):KD l ss (m+1):=by
 intro j z p c;by_cases d:j=m
 ·subst d; rw [g] at c; cases c; exact o
 exact h j z aK c
def SA {v:Int} {y:Spec} (c:l[k]? = some x) (g:(aW v)[m]? = some y) (d:y.num=x.num/\OV x y n=false) (e:n=((iL (l.take (k+1)) x.num:Nat):Int)):¬ Bd l v:=by
 intro h;have:=h.1 k x (sM c) c y (ac7 g) d.1;rw [<- e,d.2] at this; cases this
variable {n:Nat}
def Tt {v:Int} {y:Spec} (c:(aW v)[m]? = some y) (d:y.need=true/\((n:Nat):Int)=0) (e:n=iL l y.num):¬ Bd l v:=
 fun h=>h.2 m y (sM c) c d.1 aK
def TM {v:Int} (c:uJ l (aW v) k) (h:l.length<=k) (d:KD l (aW v) m) (o:(aW v).length<=m):Bd l v:=
 ⟨fun j x g=>c j x aK,fun j y g=>d j y aK⟩
def Wk {v:Int} (c:l[k]? = some x) (h:x.num<=v):(l.take k).filter (fun f=>decide (f.num<=v))++[x]=(l.take (k+1)).filter (fun f=>decide (f.num<=v)):=by
 rw [ai c,List.filter_append]; simp [h]
def acI {v:Int} (c:l[k]? = some x) (h:¬ x.num<=v):(l.take k).filter (fun f=>decide (f.num<=v))=(l.take (k+1)).filter (fun f=>decide (f.num<=v)):=by
 rw [ai c,List.filter_append]; simp [h]
def Un {v:Int} (c:l[k]? = some x) (h:¬ x.num<=v):(l.take k).filter (fun f=>!decide (f.num<=v))++[x]=(l.take (k+1)).filter (fun f=>!decide (f.num<=v)):=by
 rw [ai c,List.filter_append]; simp [h]
def Zw {v:Int} (c:l[k]? = some x) (h:x.num<=v):(l.take k).filter (fun f=>!decide (f.num<=v))=(l.take (k+1)).filter (fun f=>!decide (f.num<=v)):=by
 rw [ai c,List.filter_append]; simp [h]
def Lc (l:List Field) (p:Field->Bool):(l.filter p).length<=l.length:=List.length_filter_le _ _
def d_ (l:List Field) (v:Int):List Field:=l.filter fun f=>decide (f.num<=v)
def eG (l:List Field) (v:Int):List Field:=l.filter fun f=>!decide (f.num<=v)
def Vk (l:List Field) (v:Int):(d_ l v).length<=l.length:=Lc _ _
def Ha (l:List Field) (v:Int):(eG l v).length<=l.length:=Lc _ _
def Iw {v:Int} (c:l.length<=k):(l.take k).filter (fun f=>decide (f.num<=v))=d_ l v:=by rw [List.take_of_length_le c]; rfl
def M_ {v:Int} (c:l.length<=k):(l.take k).filter (fun f=>!decide (f.num<=v))=eG l v:=by rw [List.take_of_length_le c]; rfl
def KF (f:Field):Int:=IntKind.i64.wrap ((f.n.n:Nat):Int)
def fD (c:Command) (f:Field):Command:=
 if f.num=1 then ⟨KF f,c.client,c.seq,c.set,c.id,c.n,c.chunks,c.text⟩ else
 if f.num=2 then ⟨c.kind,KF f,c.seq,c.set,c.id,c.n,c.chunks,c.text⟩ else
 if f.num=3 then ⟨c.kind,c.client,KF f,c.set,c.id,c.n,c.chunks,c.text⟩ else
 if f.num=4 then ⟨c.kind,c.client,c.seq,KF f,c.id,c.n,c.chunks,c.text⟩ else
 if f.num=5 then ⟨c.kind,c.client,c.seq,c.set,KF f,c.n,c.chunks,c.text⟩ else
 if f.num=6 then ⟨c.kind,c.client,c.seq,c.set,c.id,KF f,c.chunks,c.text⟩ else
 if f.num=7 then ⟨c.kind,c.client,c.seq,c.set,c.id,c.n,lh f.b,c.text⟩ else
 if f.num=8 then ⟨c.kind,c.client,c.seq,c.set,c.id,c.n,c.chunks,⟨f.b⟩⟩ else c
def cT:Command:=⟨0,0,0,0,0,0,[],⟨[]⟩⟩
def c_ (l:List Field):Command:=l.foldl fD cT
def dV (c:l[k]? = some x):c_ (l.take (k+1))=fD (c_ (l.take k)) x:=by
 unfold c_; rw [ai c,List.foldl_append]; rfl
def ah5 {c:Command} (h:f.num=1):(⟨KF f,c.client,c.seq,c.set,c.id,c.n,c.chunks,c.text⟩:Command)=fD c f:=by rw [fD,if_pos h]
def akB {c:Command} (h:f.num=2):(⟨c.kind,KF f,c.seq,c.set,c.id,c.n,c.chunks,c.text⟩:Command)=fD c f:=by rw [fD,if_neg aK,if_pos h]
def ahU {c:Command} (h:f.num=3):(⟨c.kind,c.client,KF f,c.set,c.id,c.n,c.chunks,c.text⟩:Command)=fD c f:=by rw [fD,if_neg aK,if_neg aK,if_pos h]
def ah_ {c:Command} (h:f.num=4):(⟨c.kind,c.client,c.seq,KF f,c.id,c.n,c.chunks,c.text⟩:Command)=fD c f:=by rw [fD,if_neg aK,if_neg aK,if_neg aK,if_pos h]
def akk {c:Command} (h:f.num=5):(⟨c.kind,c.client,c.seq,c.set,KF f,c.n,c.chunks,c.text⟩:Command)=fD c f:=by rw [fD,if_neg aK,if_neg aK,if_neg aK,if_neg aK,if_pos h]
def aid {c:Command} (h:f.num=6):(⟨c.kind,c.client,c.seq,c.set,c.id,KF f,c.chunks,c.text⟩:Command)=fD c f:=by rw [fD,if_neg aK,if_neg aK,if_neg aK,if_neg aK,if_neg aK,if_pos h]
def aiE {c:Command} (h:f.num=7):(⟨c.kind,c.client,c.seq,c.set,c.id,c.n,lh f.b,c.text⟩:Command)=fD c f:=by rw [fD,if_neg aK,if_neg aK,if_neg aK,if_neg aK,if_neg aK,if_neg aK,if_pos h]
def agQ {c:Command} (h:f.num=8):(⟨c.kind,c.client,c.seq,c.set,c.id,c.n,c.chunks,⟨f.b⟩⟩:Command)=fD c f:=by rw [fD,if_neg aK,if_neg aK,if_neg aK,if_neg aK,if_neg aK,if_neg aK,if_neg aK,if_pos h]
def ah1 {c:Command} (h:¬ (1<=f.num/\f.num<=8)):c=fD c f:=by rw [fD,if_neg aK,if_neg aK,if_neg aK,if_neg aK,if_neg aK,if_neg aK,if_neg aK,if_neg aK]
def nc (b:List UInt8) (v:Int):Int:=if (bP b).2=0 then gG (bP b).1 v else (bP b).2
structure TkR where
 c:Command
 r:List Field
 e:Int
def cJ (b:List UInt8) (v:Int):TkR:=
 if 1<=v/\v<=3 then (if nc b v=0 then (if fw (c_ (d_ (bP b).1 (db v))) (eG (bP b).1 (db v)) v=0/\gE (c_ (d_ (bP b).1 (db v))) (eG (bP b).1 (db v)) v=b then ⟨c_ (d_ (bP b).1 (db v)),eG (bP b).1 (db v),0⟩ else ⟨cT,[],6⟩) else ⟨cT,[],nc b v⟩) else ⟨cT,[],1⟩
def aiO {v:Int} (h:¬ (1<=v/\v<=3)):cJ b v=⟨cT,[],1⟩:=by rw [cJ,if_neg h]
def aex {v:Int} (h:1<=v/\v<=3) (c:¬ nc b v=0):cJ b v=⟨cT,[],nc b v⟩:=by rw [cJ,if_pos h,if_neg c]
def ahT {v:Int} (h:1<=v/\v<=3) (d:nc b v=0) (g:¬ fw (c_ (d_ (bP b).1 (db v))) (eG (bP b).1 (db v)) v=0\/¬ gE (c_ (d_ (bP b).1 (db v))) (eG (bP b).1 (db v)) v=b):cJ b v=⟨cT,[],6⟩:=by
 rw [cJ,if_pos h,if_pos d,if_neg (fun h=>g.elim (fun c=>c h.1) (fun c=>c h.2))]
def aiJ {v:Int} (h:1<=v/\v<=3) (c:nc b v=0) (d:fw (c_ (d_ (bP b).1 (db v))) (eG (bP b).1 (db v)) v=0/\gE (c_ (d_ (bP b).1 (db v))) (eG (bP b).1 (db v)) v=b):cJ b v=⟨c_ (d_ (bP b).1 (db v)),eG (bP b).1 (db v),0⟩:=by
 rw [cJ,if_pos h,if_pos c,if_pos d]
theorem Vi {v:Int} (h:nc b v=0):(bP b).2=0/\cY (bP b).1=0:=by
 unfold nc at h;split at h
 ·rename_i c;refine ⟨c,?_⟩;unfold gG at h;split at h
  ·cases h
  split at h
  ·assumption
  exact h
 rename_i c; exact absurd h c
def aaF {v:Int} {u:Int} (h:nc b v=0):∀ f ∈ d_ (bP b).1 u,f.b.length<=16384:=
 fun _ c=>yz (Vi h).2 (akY.1 c).1
variable {x:UInt8}
def wo (h:x.toNat<128):(x &&& 127).toNat=x.toNat:=by rw [kL]; omega
def Kk:∀ (n:Nat) {k m:Nat} {r:List UInt8},k<=9->n*2 ^ (7*k)<18446744073709551616->(0<k->n≠0)->bK k m (bj n++r)=(m+n*2 ^ (7*k),k+(bj n).length,0):=by
 intro n;induction n using Nat.strongRecOn with
 | _ n p=>
  intro k m r y z q;by_cases g:n<128
  ·rw [mY g];have c:(UInt8.ofNat n).toNat=n:=by rw [UInt8.toNat_ofNat']; omega
   simp only [List.cons_append,akz,List.length_cons,List.length_nil];have s:¬ ((0<k/\(UInt8.ofNat n).toNat=0)\/(k=9/\1<(UInt8.ofNat n).toNat)):=by
    rw [c];rintro (⟨u,j⟩ | ⟨rfl,j⟩)
    ·exact q u j
    have:2*2 ^ (7*9)<=n*2 ^ (7*9):=agn _ aK;have e:(2:Nat)*2 ^ (7*9)=18446744073709551616:=by decide
    omega
   rw [bK,if_neg aK,if_neg s,if_pos aK,wo aK,c]
  rw [ug g];simp only [List.cons_append,List.length_cons];have c:=Xp n;have v:k<=8:=by
   rcases Nat.lt_or_ge k 9 with h | h
   ·omega
   have d:k=9:=by omega
   subst d;have:128*2 ^ (7*9)<=n*2 ^ (7*9):=agn _ aK;have e:(128:Nat)*2 ^ (7*9)=1180591620717411303424:=by decide
   omega
  have o:(2:Nat) ^ (7*(k+1))=128*2 ^ (7*k):=by rw [show 7*(k+1)=7*k+7 by omega,Nat.pow_add,Nat.mul_comm]
  have A:n / 128*2 ^ (7*(k+1))<=n*2 ^ (7*k):=by
   rw [o,<- Nat.mul_assoc]; exact agn _ (Nat.div_mul_le_self _ _)
  rw [bK,if_neg aK,if_neg (by rw [c]; rintro (⟨_,h⟩ | ⟨h,_⟩) <;> omega),if_neg aK,kL,c];rw [p (n / 128) aK (k:=k+1) aK aK (fun _=>by omega)];have e:(n % 128+128) % 128=n % 128:=by omega
  have w:n % 128*2 ^ (7*k)+n / 128*2 ^ (7*(k+1))=n*2 ^ (7*k):=by
   rw [o,<- Nat.mul_assoc,<- aik]; congr 1; omega
  rw [e,Nat.add_assoc,w];congr 2;omega
def jh (h:n<18446744073709551616) (r:List UInt8):takeF (bj n++r)=(n,(bj n).length,0):=by
 unfold takeF;rw [Kk n aK (by simpa using h) (fun h=>absurd h aK)];simp
def tvX (c:b[k]? = some x):b.getD k (ao .u8)=x:=by rw [List.getD_eq_getElem?_getD,c]; rfl
def tvA (h:takeF b=bK k n (b.drop k)) (c:(k:Int)<10) (d:(k:Int)=(b.length:Int)):takeF b=(0,0,2):=h.trans (QQ aK aK)
def tvD (h:takeF b=bK k n (b.drop k)) (c:10<=(k:Int)):takeF b=(0,0,3):=h.trans (ab_ aK)
def tvG (c:k<=b.length) (d:¬ (k:Int)=(b.length:Int)):∃ x,b[k]? = some x:=⟨_,List.getElem?_eq_getElem aK⟩
def tvB (h:takeF b=bK k n (b.drop k)) (o:(k:Int)<10) (d:k<=b.length) (g:¬ (k:Int)=(b.length:Int)) (p:0<(k:Int)) (j:((b.getD k (ao .u8)).toNat:Int)=((UInt8.ofNat 0).toNat:Int)):takeF b=(0,0,3):=by
 obtain ⟨x,c⟩:=tvG d g;rw [tvX c,show (UInt8.ofNat 0).toNat=0 from rfl] at j;exact xj h aK c (.inl ⟨aK,aK⟩)
def tvC (h:takeF b=bK k n (b.drop k)) (d:(k:Int)<10) (g:k<=b.length) (j:¬ (k:Int)=(b.length:Int)) (p:(k:Int)=9) (o:((UInt8.ofNat 1).toNat:Int)<((b.getD k (ao .u8)).toNat:Int)):takeF b=(0,0,3):=by
 obtain ⟨x,c⟩:=tvG g j;rw [tvX c,show (UInt8.ofNat 1).toNat=1 from rfl] at o;exact xj h aK c (.inr ⟨aK,aK⟩)
def orN (n k:Nat) (x:UInt8):Nat:=n ||| (x &&& UInt8.ofNat 127).toNat*2 ^ (7*(k:Int)).toNat % 18446744073709551616
def tvN (c:n<2 ^ (7*k)) (d:k<=9) (g:k=9->x.toNat<=1):orN n k x=n+(x &&& 127).toNat*2 ^ (7*k):=by
 unfold orN;rw [show (UInt8.ofNat 127)=127 from rfl,show (7*(k:Int)).toNat=7*k by omega,Nat.mod_eq_of_lt (Mg d g)];exact OP c
theorem tvZ (c:b[k]? = some x) (d:(k:Int)<=0\/¬ ((b.getD k (ao .u8)).toNat:Int)=((UInt8.ofNat 0).toNat:Int)) (g:¬ (k:Int)=9\/((b.getD k (ao .u8)).toNat:Int)<=((UInt8.ofNat 1).toNat:Int)):(¬ (0<k/\x.toNat=0))/\¬ (k=9/\1<x.toNat):=by grind
def tvE {y:UInt8} (h:takeF b=bK k n (b.drop k)) (j:n<2 ^ (7*k)) (s:(k:Int)<10) (c:b[k]? = some x) (d:b[k]? = some y) (o:(k:Int)<=0\/¬ ((b.getD k (ao .u8)).toNat:Int)=((UInt8.ofNat 0).toNat:Int)) (p:¬ (k:Int)=9\/((b.getD k (ao .u8)).toNat:Int)<=((UInt8.ofNat 1).toNat:Int)) (q:(y.toNat:Int)<((UInt8.ofNat 128).toNat:Int)):takeF b=(orN n k x,k+1,0):=by
 have g:=tvZ c o p;rw [show (UInt8.ofNat 128).toNat=128 from rfl] at q;rw [c] at d; cases d;rw [tvN j aK aK];exact HW h aK c g.1 g.2 aK
def tvF {y:UInt8} (h:takeF b=bK k n (b.drop k)) (g:n<2 ^ (7*k)) (c:n<18446744073709551616) (u:(k:Int)<10) (d:b[k]? = some x) (j:b[k]? = some y) (p:(k:Int)<=0\/¬ ((b.getD k (ao .u8)).toNat:Int)=((UInt8.ofNat 0).toNat:Int)) (q:¬ (k:Int)=9\/((b.getD k (ao .u8)).toNat:Int)<=((UInt8.ofNat 1).toNat:Int)) (s:((UInt8.ofNat 128).toNat:Int)<=(y.toNat:Int)):orN n k x<2 ^ (7*(k+1))/\orN n k x<18446744073709551616/\takeF b=bK (k+1) (orN n k x) (b.drop (k+1)):=by
 have o:=tvZ d p q;rw [show (UInt8.ofNat 128).toNat=128 from rfl] at s;rw [d] at j; cases j;have e:=tvN g (show k<=9 by omega) (show k=9->x.toNat<=1 by omega);refine ⟨by rw [e]; exact GK g,?_,by rw [e]; exact Fl h aK d o.1 o.2 aK⟩;exact aiF (n:=64) c (agR _ am)
variable {x:Int}
theorem afh {c:Command} {v:Int} (d:[c.client,c.seq,c.set,c.id,c.n][k]? = some x) (h:x<0\/1048576<x):false=gD c v:=by
 refine Wc ?_;grind
def adM {c:Command} (h:(k:Int)<5):[c.client,c.seq,c.set,c.id,c.n][k]? = some ([c.client,c.seq,c.set,c.id,c.n].getD k (ao .int)):=by
 rw [List.getD_eq_getElem?_getD,List.getElem?_eq_getElem (by simp only [List.length_cons]; omega)]; rfl
def ae7 {n:Int} {p:Prop} (h:n<=0\/p):(¬ 0<n)\/p:=h.imp_left aK
def ajW {l:List Int} (h:((l.take k).all fun n=>cq n 0 1048576)=true) (c:l[k]? = some x) (d:0<=x) (g:x<=1048576):((l.take (k+1)).all fun n=>cq n 0 1048576)=true:=by
 rw [ai c,ahI,h]; simp [cq]; omega
def ael {c:Command} (h:(([c.client,c.seq,c.set,c.id,c.n].take k).all fun n=>cq n 0 1048576)=true) (d:5<=(k:Int)):¬ ((c.client<0\/1048576<c.client)\/(c.seq<0\/1048576<c.seq)\/(c.set<0\/1048576<c.set)\/(c.id<0\/1048576<c.id)\/(c.n<0\/1048576<c.n)):=by
 rw [List.take_of_length_le (by simp only [List.length_cons,List.length_nil]; omega)] at h;simp only [ahp,cq,Bool.and_eq_true,decide_eq_true_eq] at h;omega
def abC (b:List UInt8):List (Nat × LI):=[(3,{ σ:=Nat × Nat,F:=fun s=>([(0,one (.fz .u8 (b))),(5,one (.u64 s.2)),(6,one (.int 0)),(7,one (.int 3)),(9,one (.int s.1))],[]),J:=fun s=>s.1<=10/\s.2<2 ^ (7*s.1)/\s.2<18446744073709551616/\takeF b=bK s.1 s.2 (b.drop s.1)/\s.1<=b.length,μ:=fun s=>10 - s.1 })]
def Kb (c:Command) (v:Int):List (Nat × LI):=[(5,{ σ:=Nat,F:=fun k=>([(1,one (.int (v))),(2,one (.ptr 0 0)),(38,.one (.agg [.int c.client,.int c.seq,.int c.set,.int c.id,.int c.n])),(39,one (.int k))],[.box 35 (cellsOf (.nm .command) (c))]),J:=fun k=>k<=5/\([c.client,c.seq,c.set,c.id,c.n].take k).all (fun n=>cq n 0 1048576)=true,μ:=fun k=>5 - k })]
def Gr:Kn:=aM (ae (kC (cL .u8)) ak) av fun (b,_) _=>⟨[],[.c (.u64 ((U64.mk (takeF b).1)).n),.c (.int ((((takeF b).2.1:Nat)))),.c (.int (((takeF b).2.2)))],none,false⟩
theorem Tj:CK 210 Gr:=ag fun (b,_) _ _=>by
 refine aq dJ (abC b) Tryz.func210 (?_:(fun (F:UInt8)=>(fun (j:Nat)=>(fun (o:Nat)=>(fun (p:Nat)=>(fun (N:Int)=>(fun (I:Nat)=>(fun (T:Int)=>(fun (S:Int)=>(fun (J:Int)=>(fun (C:Int)=>(fun (D:Int)=>(fun (O:Prop)=>(fun (K:Int)=>(fun (L:Int)=>(fun (d:Int)=>(fun (G:Prop)=>(fun (w:Prop)=>(fun (P:Prop)=>(fun (z:Prop)=>b.length*1<=140737488355328->∃ (v:Nat × Nat),(b=b/\0=v.snd/\w/\D=D/\d=(↑v.fst:Int))/\(v.fst<=o/\v.snd<p ^ (7*v.fst)/\v.snd<j/\takeF b=bK v.fst v.snd (List.drop v.fst b)/\v.fst<=b.length)/\∀ (s:Nat × Nat),(fun (g:Nat)=>(fun (h:Int)=>(fun (A:Prop)=>(fun (c:Int)=>(fun (y:Int)=>(fun (q:Int)=>(fun (H:Prop)=>g<=o/\s.snd<p ^ (7*g)/\s.snd<j/\takeF b=bK g s.snd (List.drop g b)/\g<=b.length->(c<10->(c=C->(¬2=d->O/\d=L/\2=K)/\(2=d->s.snd=I/\z))/\(¬c=C->(d<c->d<=c/\c<C)/\(d<c/\h=J->(d<c/\h=J->A)/\(c<=d\/¬h=J->H))/\(c<=d\/¬h=J->(c=9->d<=c/\c<C)/\(c=9/\(↑(UInt8.ofNat 1).toNat:Int)<h->A)/\(¬c=9\/h<=(↑(UInt8.ofNat 1).toNat:Int)->H))))/\(10<=c->A)) (d<=c/\c<C/\∀ (x:UInt8),b[g]? = some x->I64 q/\d<=q/\q<64/\d<=c/\c<C/\∀ (B:UInt8),b[g]? = some B->((↑B.toNat:Int)<S->I64 y/\(¬w->O/\z)/\(w->s.snd ||| (x &&& F).toNat*p ^ q.toNat % j=I/\y=L/\d=K))/\(S<=(↑B.toNat:Int)->I64 y/\∃ (u:Nat × Nat),(b=b/\s.snd ||| (x &&& F).toNat*p ^ q.toNat % j=u.snd/\w/\D=D/\y=(↑u.fst:Int))/\(u.fst<=o/\u.snd<p ^ (7*u.fst)/\u.snd<j/\takeF b=bK u.fst u.snd (List.drop u.fst b)/\u.fst<=b.length)/\o - u.fst<o - g))) (T*c)) (c+N)) (↑g:Int)) ((¬G->P)/\(G->s.snd=I/\z))) (↑(UInt8.toNat (b.getD g (ao Sh.u8))):Int)) s.fst) (d=L/\d=K)) (O/\d=L/\D=K)) (d=d)) (D=d)) 0) (↑(takeF b).snd.fst:Int)) (takeF b).snd.snd) (0=I)) 3) (↑b.length:Int)) (↑(UInt8.ofNat 0).toNat:Int)) (↑(UInt8.ofNat 128).toNat:Int)) 7) (takeF b).fst) 1) 2) 10) 18446744073709551616) (UInt8.ofNat 127));(repeat' with_reducible first|apply bc|refine ba ?_|intro)
 all_goals try (first | exact bm | decide)
 all_goals (refine ⟨(0,0),⟨rfl,rfl,?_,?_,?_⟩,⟨aK,am,am,rfl,aK⟩,?_⟩)
 all_goals try (first | trivial | rfl)
 (repeat' with_reducible first|apply bc|refine ba ?_|intro)
 all_goals try (first | exact bm | (rw [tvA ab ab ab] <;> rfl) | (rw [tvD ab ab] <;> rfl) | (rw [tvB ab ab ab ab ab ab] <;> rfl) | (rw [tvC ab ab ab ab ab ab] <;> rfl) | exact (congrArg Prod.fst (tvE ab ab ab ab ab ab ab ab)).symm | exact (congrArg (fun t=>((t.2.1:Nat):Int)) (tvE ab ab ab ab ab ab ab ab)).symm | exact (congrArg (fun t=>t.2.2) (tvE ab ab ab ab ab ab ab ab)).symm)
 all_goals (refine ⟨(‹Nat × Nat›.1+1,_),⟨rfl,rfl,?_⟩,?_⟩; (repeat' with_reducible first|apply bc|refine ba ?_|intro))
 all_goals (first | exact bm | exact (tvF ab ab ab ab ab ab ab ab ab).1 | exact (tvF ab ab ab ab ab ab ab ab ab).2.1 | exact (tvF ab ab ab ab ab ab ab ab ab).2.2)
def Az:Kn:=aM (ae (kT (.nm .field)) (ae (kT (.nm .field)) ak)) av fun (x,y,_) _=>⟨[],[.c (.bool (.atom ((fX x y))))],none,false⟩
theorem Mi:CK 256 Az:=ag fun (x,y,_) _ _=>by
 refine aq dJ [] Tryz.func256 (?_:I64 x.num->I64 x.wire->x.n.n<18446744073709551616->x.b.length*1<=140737488355328->I64 y.num->I64 y.wire->y.n.n<18446744073709551616->y.b.length*1<=140737488355328->(y.num=x.num->(decide (y.wire=2) && decide (x.wire=2))=fX x y)/\(¬y.num=x.num->decide (x.num<y.num)=fX x y));grind [fX]
def BB:Kn:=aM (ae (kT (.nm .field)) ak) av fun (x,_) _=>⟨[],[.c (.bool (.atom ((eH x))))],none,false⟩
theorem Lb:CK 255 BB:=ag fun (x,_) _ _=>by
 refine aq dJ [] Tryz.func255 (?_:I64 x.num->I64 x.wire->x.n.n<(18446744073709551616:Nat)->x.b.length*(1:Nat)<=(140737488355328:Nat)->(x.num<(1:Int)\/(1000:Int)<x.num->false=eH x)/\((1:Int)<=x.num/\x.num<=(1000:Int)->(x.wire=(0:Int)->decide ((↑x.b.length:Int)=(0:Int))=eH x)/\(¬x.wire=(0:Int)->(x.wire=(2:Int)->decide ((↑x.n.n:Int)=(↑(0:Nat):Int))=eH x)/\(¬x.wire=(2:Int)->false=eH x))));grind [eH,Ml,QN]
def yX:Kn:=aM (ae (kC (cL .u8)) (ae (kC (cL .u8)) ak)) av fun (x,y,_) _=>⟨[],[.c (.bool (.atom ((decide (x=y)))))],none,false⟩
theorem Pg:CK 146 yX:=ag fun (x,y,_) _ _=>by
 refine aq dJ [] Tryz.func146 (?_:x.length*1<=140737488355328->y.length*1<=140737488355328->decide (Str.mk x=Str.mk y)=decide (x=y));grind
def CB:Kn:=aM (ae (kC (cL .u8)) ak) av fun (x,_) _=>⟨[],[.c (.fz .u8 ((x)))],none,false⟩
theorem RO:CK 332 CB:=ag fun (x,_) _ _=>by
 refine aq dJ [] Tryz.func332 (?_:(fun c=>c->∀ (b:Bool),(b=true->x=[])->(b=true->x=[])/\(b=false->c/\x=x)) (x.length*1<=140737488355328));grind
def Xr:Kn:=aM (ae (kC cI) (ae (kC cI) ak)) av fun (k,l,_) _=>⟨[],[.agg (cellsOf (.nm .spec) (⟨k,0,l,false,false⟩))],none,false⟩
theorem aen:CK 271 Xr:=ag fun (k,l,_) _ _=>by
 refine aq dJ [] Tryz.func271 (?_:I64 k->I64 l->k=k/\(0:Int)=0/\l=l/\false=false/\false=false);grind
def Yz:Kn:=aM (ae (kC cI) (ae (kC cI) ak)) av fun (k,l,_) _=>⟨[],[.agg (cellsOf (.nm .spec) (⟨k,2,l,false,false⟩))],none,false⟩
theorem ad8:CK 272 Yz:=ag fun (k,l,_) _ _=>by
 refine aq dJ [] Tryz.func272 (?_:I64 k->I64 l->k=k/\(2:Int)=2/\l=l/\false=false/\false=false);grind
def YL:Kn:=aM (ae (kT (.nm .spec)) ak) av fun (x,_) _=>⟨[],[.agg (cellsOf (.nm .spec) ({ x with need:=true }))],none,false⟩
theorem afv:CK 273 YL:=ag fun (x,_) _ _=>by
 refine aq dJ [] Tryz.func273 (?_:nn x (x.num=x.num/\x.wire=x.wire/\x.since=x.since/\true=true/\x.many=x.many));grind
def Yc:Kn:=aM (ae (kT (.nm .spec)) ak) av fun (x,_) _=>⟨[],[.agg (cellsOf (.nm .spec) ({ x with many:=true }))],none,false⟩
theorem afW:CK 274 Yc:=ag fun (x,_) _ _=>by
 refine aq dJ [] Tryz.func274 (?_:nn x (x.num=x.num/\x.wire=x.wire/\x.since=x.since/\x.need=x.need/\true=true));grind
def PK:Kn:=aM (ae (kT (.nm .field)) (ae (kT (.nm .spec)) (ae (kC cI) ak))) av fun (x,s,n,_) _=>⟨[],[.c (.bool (.atom ((OV x s n))))],none,false⟩
theorem aah:CK 331 PK:=ag fun (x,s,n,_) _ _=>by
 refine aq dJ [] Tryz.func331 (?_:I64 x.num->I64 x.wire->x.n.n<(18446744073709551616:Nat)->x.b.length*(1:Nat)<=(140737488355328:Nat)->nn s (I64 n->(¬x.wire=s.wire\/(1:Int)<n/\s.many=false->false=OV x s n)/\(x.wire=s.wire/\(n<=(1:Int)\/s.many=true)->(x.wire=(0:Int)->(!decide ((↑x.n.n:Int)=(↑(0:Nat):Int)))=OV x s n)/\(¬x.wire=(0:Int)->decide ((0:Int)<(↑x.b.length:Int))=OV x s n))));grind [OV]
def KM:Kn:=aM (ae (kC cI) (ae (kC cI) ak)) av fun (num,wire,_) _=>⟨[],[.c (.own 0),.c (.int ((Cs num wire)))],some ([.row 5 .u8 ((oJ num wire))]),true⟩
def abS:CK 257 KM:=ag fun (num,wire,_) _ _=>by
 refine dF dJ [] Tryz.func257 (?_:(fun c=>I64 num->I64 wire->((num<1\/1000<num)\/¬wire=0/\¬wire=2->1=Cs num wire/\oJ num wire=[])/\((1<=num/\num<=1000)/\(wire=0\/wire=2)->I64 (8*num)/\I64 c/\0<=c/\0=Cs num wire/\bj c.toNat=oJ num wire)) (8*num+wire));(repeat' with_reducible first|apply bc|refine ba ?_|intro)
 all_goals (first | exact bm | exact (Wa aK) | exact (Q_ aK) | exact (EO aK).symm | exact (EO aK) | exact (OH aK))
def uB:Kn:=aM (ae (kT (.nm .command)) (ae (kC cI) ak)) av fun (c,v,_) _=>⟨[],[.c (.bool (.atom ((gD c v))))],none,false⟩
theorem DO:CK 160 uB:=ag fun (c,v,_) _ _=>by
 refine aq dJ (Kb c v) Tryz.func160 (?_:(fun (p:Prop)=>(fun (g:Nat)=>(fun (h:Int)=>(fun (d:Int)=>(fun (q:List Int)=>(fun (w:List (den Sh.int))=>bH c (I64 v->I64 h->((c.kind<1\/99<c.kind)\/¬h=d/\h<=v->p)/\((1<=c.kind/\c.kind<=99)/\(h=d\/v<h)->∃ (u:Nat),(v=v/\c.client=c.client/\c.seq=c.seq/\c.set=c.set/\c.id=c.id/\c.n=c.n/\d=(↑u:Int)/\aR c c)/\(u<=g/\((List.take u q).all fun (n:Int)=>cq n d 1048576)=true)/\∀ (s:Nat),(fun (j:den Sh.int)=>s<=g/\((List.take s q).all fun (n:Int)=>cq n d 1048576)=true->((↑s:Int)<5->d<=(↑s:Int)/\(↑s:Int)<(↑g:Int)/\(I64 j->(j<d\/1048576<j->p)/\(d<=j/\j<=1048576->I64 ((↑s:Int)+1)/\∃ (o:Nat),(v=v/\c.client=c.client/\c.seq=c.seq/\c.set=c.set/\c.id=c.id/\c.n=c.n/\(↑s:Int)+1=(↑o:Int)/\aR c c)/\(o <= g/\((List.take o q).all fun (n:Int)=>cq n d 1048576)=true)/\g - o < g - s)))/\(5<=(↑s:Int)->(d<(↑c.chunks.length:Int)/\cH c.chunks=false->p)/\((↑c.chunks.length:Int)<=d\/cH c.chunks=true->(v<3->decide (c.text=Str.mk [])=gD c v)/\(3<=v->decide ((↑c.text.b.length:Int)<=16)=gD c v)))) (w.getD s (ao Sh.int))))) [c.client,c.seq,c.set,c.id,c.n]) [c.client,c.seq,c.set,c.id,c.n]) 0) (cD c.kind)) 5) (false=gD c v));iterate 3 ((all_goals (repeat' with_reducible first|apply bc|refine ba ?_|intro)); (all_goals try (first | exact bm | exact rfl | exact (Qq aK) | exact (afh (adM aK) ab) | exact (ajW ab (adM aK) ab ab) | exact (Vw (And.intro ab ab)) | exact (ab3 aK (ael ab aK) (ae7 ap) aK) | exact (abB aK (ael ab aK) (ae7 ap) aK))); all_goals try first | refine ⟨‹Nat› + 1,?_⟩ | refine ⟨0,?_⟩)
def ady:bF:=(aP 160 uB (aP 257 KM (aP 331 PK (aP 274 Yc (aP 273 YL (aP 272 Yz (aP 271 Xr (aP 332 CB (aP 146 yX (aP 255 BB (aP 256 Az (aP 210 Gr Xq))))))))))))
def oT:aw Tryz.prog (aj tyT) ady:=(ah DO (ah abS (ah aah (ah afW (ah afv (ah ad8 (ah aen (ah RO (ah Pg (ah Lb (ah Mi (ah Tj dJ))))))))))))
def oU (h:m<9223372036854775808):dq m=(m:Int):=by rw [dq,if_pos h]
def FV:(b.drop k).take (b.length - k)=b.drop k:=List.take_of_length_le (by rw [List.length_drop]; exact Nat.le_refl _)
def uk1 (d:(k:Int)<(b.length:Int)) (c:(takeF (b.drop k)).2.2=0) (g:(((takeF (b.drop k)).1:Nat):Int)<=((64:Nat):Int)):∃ x,b[k]? = some x/\takeF (b.drop k)=(x.toNat,1,0)/\x.toNat<=64:=by
 have h:=tk1 (b:=b) (k:=k) aK (by rw [FV]; exact c) (by rw [FV]; omega);rw [FV] at h; exact h
def ukS (d:(k:Int)<(b.length:Int)) (g:(takeF (b.drop k)).2.2=0) (j:(((takeF (b.drop k)).1:Nat):Int)<=((64:Nat):Int)):(k:Int)+((takeF (b.drop k)).2.1:Nat)=((k+1:Nat):Int)/\cN (b.take k)++[dq (takeF (b.drop k)).1]=cN (b.take (k+1)):=by
 obtain ⟨x,o,c,p⟩:=uk1 d g j;have h:=VD o c;rw [c] at h ⊢;exact ⟨rfl,by rw [<- h,oU (by show x.toNat<_; omega)]⟩
def ukR (c:(k:Int)<(b.length:Int)) (h:(¬ (takeF (b.drop k)).2.2=0)\/((64:Nat):Int)<(((takeF (b.drop k)).1:Nat):Int)):cH (cN b)=false:=acm (k:=k) aK (by rw [FV]; exact h)
def aaf (h:k<=b.length) (c:b.length<=100000):((cN (b.take k)).length+1)*8<=140737488355328:=by
 unfold cN; rw [List.length_map,List.length_take]; omega
def ae9 (b:List UInt8):List (Nat × LI):=[(3,{ σ:=Nat,F:=fun k=>([(0,one (.fz .u8 (b))),(4,one (.own 0)),(5,one (.int k))],[.row 3 .int ((cN (b.take k)))]),J:=fun k=>k<=b.length,μ:=fun k=>b.length - k })]
def Ll:Kn:=aM (ae (kC (cL .u8)) ak) av fun (b,_) _=>⟨[],[.c (.int (((aT b).num))),.c (.int (((aT b).wire))),.c (.int ((((aT b).k:Nat)))),.c (.int (((aT b).e)))],none,false⟩
def Zc:CK 355 Ll:=ag fun (b,_) _ _=>by
 refine aq oT [] Tryz.func355 (?_:(fun (p:Int)=>(fun (j:Int)=>(fun (c:TagR)=>(fun (d:Int)=>(fun (g:Prop)=>(fun (o:Nat)=>(fun (q:Prop)=>(fun (h:Int)=>(fun (s:Prop)=>b.length*(1:Nat)<=(140737488355328:Nat)->(takeF b).fst<(18446744073709551616:Nat)->I64 (↑(takeF b).snd.fst:Int)->I64 j->(¬j=d->d=c.num/\d=c.wire/\d=(↑c.k:Int)/\j=c.e)/\(j=d->g/\(p<=h->g)/\(s->g/\(¬q->g))/\((h<p\/(↑(1000:Nat):Int)<h)\/¬q/\¬(↑o:Int)=(↑(2:Nat):Int)->d=c.num/\d=c.wire/\d=(↑c.k:Int)/\(6:Int)=c.e)/\(s/\(q\/(↑o:Int)=(↑(2:Nat):Int))->g/\g/\dq ((takeF b).fst / (8:Nat))=c.num/\dq o=c.wire/\(↑(takeF b).snd.fst:Int)=(↑c.k:Int)/\d=c.e))) (p<=h/\h<=(↑(1000:Nat):Int))) (↑((takeF b).fst / (8:Nat)):Int)) ((↑o:Int)=(↑(0:Nat):Int))) ((takeF b).fst % (8:Nat))) ((0:Nat)<(8:Nat))) (0:Int)) (aT b)) (takeF b).snd.snd) (↑(1:Nat):Int));(repeat' with_reducible first|apply bc|refine ba ?_|intro)
 all_goals (first | exact bm | (rw [Rj ab] <;> rfl) | (rw [Om ab aK] <;> rfl) | (rw [Oj ab aK] <;> first | rfl | exact oU aK) | (have:=(oW (l:=b) (k:=0) (n:=0) aK).1; change (takeF b).2.1<=11 at this; omega))
def QJ:Kn:=aM (ae (kT (.nm .field)) ak) av fun (f,_) _=>⟨[f.b.length<=16384],[.c (.own 0)],some ([.row 5 .u8 ((cG f))]),true⟩
def ab7:CK 222 QJ:=ag fun (f,_) _ g=>by
 have h:=cg g;refine dF oT [] Tryz.func222 (?_:(fun (c:Nat)=>(fun (d:List UInt8)=>I64 f.num->I64 f.wire->f.n.n<18446744073709551616->c*1<=140737488355328->I64 (Cs f.num f.wire)->(f.wire=0->(d.length+(bj f.n.n).length)*1<=140737488355328/\d++bj f.n.n=cG f)/\(¬f.wire=0->0<=(↑c:Int)/\(d.length+(bj c).length)*1<=140737488355328/\((d++bj c).length+c)*1<=140737488355328/\d++bj c++f.b=cG f)) (oJ f.num f.wire)) f.b.length);(repeat' with_reducible first|apply bc|refine ba ?_|intro)
 all_goals (first | exact bm | exact (TW ab) | exact (VK ab) | (have:=tq f.num f.wire; have:=cO (n:=f.n.n) ab; omega) | (have:=tq f.num f.wire; have:=cO (n:=f.b.length) aK; (try simp only [List.length_append]); omega))
def Qh:Kn:=aM (ae (kC cI) ak) av fun (q,_) _=>⟨[q=1],[.c (.fz (.nm .spec) ((bS)))],none,false⟩
def acN:CK 254 Qh:=ag fun (q,_) _ C=>by
 have D:=cg C;refine aq oT [] Tryz.func254 (?_:(fun A=>(fun y=>(fun u=>(fun s=>(fun z=>(fun v=>(fun o=>(fun g=>(fun j=>(fun d=>(fun h=>(fun B=>(fun w=>(fun p=>(fun c=>I64 q->c->d->c->c->d->c->g->d->c->v->d->c->I64 s->d->c->I64 u->d->c->I64 y->d->c->I64 A->g->c->I64 8->g->v->c->d->c->c->d->c->g->d->c->g->d->c->v->g->c->v->g->c->I64 s->d->g->I64 u->g->v->c->d->c->c->d->c->g->d->c->g->d->c->c->d->c->c->d->c->g->d->c->v->d->c->I64 s->d->c->c->d->c->c->d->c->g->d->c->g->d->c->v->d->c->I64 s->g->c->I64 s->g->c->I64 u->g->c->I64 u->g->c->I64 y->g->c->I64 y->g->c->I64 A->d->v->c->d->c->c->d->c->g->d->c->g->d->c->v->d->c->v->d->c->I64 s->d->c->I64 s->d->c->I64 u->d->c->I64 y->d->c->I64 A->d->c->I64 8->d->c->I64 9->d->c->I64 10->g->c->I64 10->g->c->c->d->c->c->d->c->g->g->c->(if q=A then some [p,Spec.mk o o h false false] else if q=y then some [p,w,Spec.mk z j h true false,Spec.mk s j h true false,Spec.mk u j h false false,Spec.mk y j h false false,Spec.mk A j h false false,Spec.mk 8 j h false false,Spec.mk 9 j h false false,Spec.mk 10 o h false true] else if q=u then some [p,w,B,Spec.mk s o h false true,Spec.mk u o h false true,Spec.mk y o h false true,Spec.mk A j z false false] else if q=s then some [p,Spec.mk o j h false false,B,Spec.mk s j h false false] else if q=z then some [p,w] else if q=o then some [p,w,Spec.mk z o h true false,Spec.mk s j o false false,Spec.mk u o z false false] else if q=h then some [p,Spec.mk o j h false false,B,Spec.mk s j h false false,Spec.mk u j h false false,Spec.mk y j h false false,Spec.mk A o h false false,Spec.mk 8 o z false false] else none).getD (ao (Sh.nm NT.spec).lst)=bS) (I64 h)) (Spec.mk h j h true false)) (Spec.mk o j h true false)) (Spec.mk z j h false false)) (1:Int)) (I64 j)) (0:Int)) (I64 o)) (2:Int)) (I64 z)) (3:Int)) (4:Int)) (5:Int)) (6:Int)) (7:Int));subst D; (repeat' with_reducible first|apply bc|refine ba ?_|intro);all_goals (first | exact bm | exact rfl)
def Py:Kn:=aM (ae (kC (cL .u8)) ak) av fun (b,_) _=>⟨[b.length<=100000],[.c (.fz .int ((lh b))),.c (.int ((qK b)))],none,false⟩
theorem acP:CK 333 Py:=ag fun (b,_) _ o=>by
 have p:=cg o;refine aq oT (ae9 b) Tryz.func333 (?_:(fun (j:Prop)=>b.length*(1:Nat)<=(140737488355328:Nat)->∃ (h:Nat),(b=b/\(0:Int)=(↑h:Int)/\cN (List.take h b)=[])/\h<=b.length/\∀ (s:Nat),(fun (d:List Int)=>(fun (c:Nat × Nat × Int)=>s<=b.length->((↑s:Int)<(↑b.length:Int)->(0:Int)<=(↑s:Int)/\(↑s:Int)<=(↑b.length:Int)/\(c.fst<(18446744073709551616:Nat)->I64 (↑c.snd.fst:Int)->I64 c.snd.snd->(¬c.snd.snd=(0:Int)\/(↑(64:Nat):Int)<(↑c.fst:Int)->j)/\(c.snd.snd=(0:Int)/\(↑c.fst:Int)<=(↑(64:Nat):Int)->(d.length+[dq c.fst].length)*(8:Nat)<=(140737488355328:Nat)/\I64 ((↑s:Int)+(↑c.snd.fst:Int))/\∃ (g:Nat),(b=b/\(↑s:Int)+(↑c.snd.fst:Int)=(↑g:Int)/\d++[dq c.fst]=cN (List.take g b))/\g <= b.length/\b.length - g < b.length - s)))/\((↑b.length:Int)<=(↑s:Int)->(cH d=false->j)/\(cH d=true->d=lh b/\(0:Int)=qK b))) (takeF (List.drop s b))) (cN (List.take s b))) (lh b=[]/\(6:Int)=qK b));iterate 3 ((all_goals (repeat' with_reducible first|apply bc|refine ba ?_|intro)); (all_goals try (first | exact bm | exact rfl | exact (xp (ukR ab ap)) | exact (LG (ukR ab ap)) | exact (xp (ukR ab ap)).symm | exact (xp (Ev (k:=‹Nat›) aK ab)).symm | exact (xp (Ev (k:=‹Nat›) aK ab)) | exact (LG (Ev (k:=‹Nat›) aK ab)) | exact (TG aK ab) | exact (Vy (k:=‹Nat›) aK ab) | exact (ukS ab ab ab).1 | exact (ukS ab ab ab).2 | exact (aaf aK aK) | (have:=(ukS ab ab ab).1; refine bz ?_ ?_ <;> omega))); all_goals try first | refine ⟨‹Nat› + 1,?_⟩ | refine ⟨0,?_⟩)
def aeU:bF:=(aP 333 Py (aP 254 Qh (aP 222 QJ (aP 355 Ll ady))))
def jU:aw Tryz.prog (aj tyT) aeU:=(ah acP (ah acN (ah ab7 (ah Zc oT))))
def ac4 (c:k<=l.length) (d:0<(k:Int)):l[k - 1]? = some (l.getD ((k:Int) - 1).toNat (ao (.nm .field))):=by
 rw [show ((k:Int) - 1).toNat=k - 1 by omega,List.getD_eq_getElem?_getD,List.getElem?_eq_getElem aK]; rfl
variable {x:Field}
def Yr (h:(k:Int)<=0\/fX (l.getD ((k:Int) - 1).toNat (ao (.nm .field))) x=true) (c:k<=l.length):xK l k x:=by
 by_cases d:0<(k:Int)
 ·exact .inr ⟨_,ac4 c d,h.resolve_left aK⟩
 exact .inl aK
def afq {v:Int}:(((bS.take k).filter (fun s=>decide (s.since<=v))).length+1)*32<=140737488355328:=by
 have:=PG (v:=v) (k:=k); omega
def adz {v:Int} (c:1<=v) (d:v<=3) (g:8<=(k:Int)):(bS.take k).filter (fun s=>decide (s.since<=v))=aW v:=QG aK (by show 8<=k; omega)
def ahi {v:Int}:d_ (l.take 0) v=[]:=rfl
def ahL {v:Int}:eG (l.take 0) v=[]:=rfl
def agM {v:Int} (c:l[k]? = some x) (h:x.num<=v):d_ (l.take k) v++[x]=d_ (l.take (k+1)) v:=Wk c h
def ajE {v:Int} (c:l[k]? = some x) (h:¬ x.num<=v):d_ (l.take k) v=d_ (l.take (k+1)) v:=acI c h
def ag2 {v:Int} (c:l[k]? = some x) (h:¬ x.num<=v):eG (l.take k) v++[x]=eG (l.take (k+1)) v:=Un c h
def ajx {v:Int} (c:l[k]? = some x) (h:x.num<=v):eG (l.take k) v=eG (l.take (k+1)) v:=Zw c h
def ahM {v:Int} (c:l.length<=k):d_ (l.take k) v=d_ l v:=Iw c
def agS {v:Int} (c:l.length<=k):eG (l.take k) v=eG l v:=M_ c
attribute [local irreducible] d_ eG
def aat (l:List Field):List (Nat × LI):=[(3,{ σ:=Nat,F:=fun k=>([(0,one (.fz (.nm .field) (l))),(3,one (.int (iE (l.take k):Nat))),(6,one (.fz (.nm .field) (l))),(7,one (.int (l).length)),(8,one (.int k))],[]),J:=fun k=>k<=l.length/\ey none l=ey (fo l k) (l.drop k)/\iE (l.take k)<=k*16404,μ:=fun k=>(l).length - k })]
def ab9 (q:Int) (v:Int):List (Nat × LI):=[(5,{ σ:=Nat,F:=fun k=>([(1,one (.int (v))),(5,one (.own 0)),(15,one (.fz (.nm .spec) bS)),(16,one (.int 8)),(17,one (.int k))],[.row 255 (.nm .spec) (((bS.take k).filter (fun (s:Spec)=>decide (s.since<=v))))]),J:=fun k=>k<=8,μ:=fun k=>8 - k })]
def U_ (l:List Field) (v:Int):List (Nat × LI):=[(2,{ σ:=Nat,F:=fun k=>([(1,one (.int (v))),(4,one (.own 0)),(5,one (.own 1)),(8,one (.fz (.nm .field) (l))),(9,one (.int (l).length)),(10,one (.int k))],[.row 219 (.nm .field) ((d_ (l.take k) v)),.row 219 (.nm .field) ((eG (l.take k) v))]),J:=fun k=>k<=l.length,μ:=fun k=>(l).length - k })]
def aap (l:List Field):List (Nat × LI):=[(3,{ σ:=Nat,F:=fun k=>([(2,one (.ptr 0 0)),(3,one (.ptr 1 0)),(6,one (.fz (.nm .field) (l))),(7,one (.int (l).length)),(8,one (.int k))],[.box 35 (cellsOf (.nm .command) (cT)),.box 35 (cellsOf (.nm .command) ((c_ (l.take k))))]),J:=fun k=>k<=l.length,μ:=fun k=>(l).length - k })]
def Hb:Kn:=aM (ae (kC (aZ 0 0)) (ae (kC (aZ 1 0)) ak)) (aH (dQ 50 (ax (cL .u8) dL)) (aH (dQ 3 (ax cI dL)) av)) fun _ ((b,_),(s,_),_)=>⟨[0<=s,s<=(b.length:Int),b.length*1<=140737488355328],[.c (.u64 ((U64.mk (takeF (b.drop s.toNat)).1)).n),.c (.int (((takeF (b.drop s.toNat)).2.2)))],some ([.box 50 ([.fz .u8 ((b))]),.box 3 ([.int ((s+((takeF (b.drop s.toNat)).2.1:Nat)))])]),false⟩
def Vs:CK 356 Hb:=ag fun _ ((b,_),(s,_),_) d=>by
 have g:=cg d;have h:=cg (eU d);have j:=cg (eU (eU d));refine bw jU [] Tryz.func356 (?_:(fun c=>0<=s/\s<=(↑b.length:Int)/\(c.fst<18446744073709551616->I64 (↑c.snd.fst:Int)->I64 c.snd.snd->I64 (s+(↑c.snd.fst:Int))/\c.fst=(takeF (List.drop s.toNat b)).fst/\c.snd.snd=(takeF (List.drop s.toNat b)).snd.snd/\b=b/\s+(↑c.snd.fst:Int)=s+(↑(takeF (List.drop s.toNat b)).snd.fst:Int))) (takeF (List.drop s.toNat b)));(repeat' with_reducible first|apply bc|refine ba ?_|intro)
 all_goals (first | exact bm | (have:=(oR b s.toNat).1; refine bz ?_ ?_ <;> omega))
def zj:Kn:=aM (ae (kC (cL .u8)) ak) av fun (b,_) _=>⟨[],[.agg (cellsOf (.nm .field) (ic b))],none,false⟩
def Ox:CK 330 zj:=ag fun (b,_) _ _=>by
 refine aq jU [] Tryz.func330 (?_:(fun c=>(fun d=>(fun g=>b.length*1<=140737488355328->I64 c.num->I64 c.wire->I64 (↑c.k:Int)->I64 c.e->0<=(↑c.k:Int)/\(↑c.k:Int)<=(↑b.length:Int)/\(d.fst<18446744073709551616->I64 (↑d.snd.fst:Int)->I64 d.snd.snd->(c.wire=0->c.num=(ic b).num/\c.wire=(ic b).wire/\d.fst=(ic b).n.n/\(ic b).b=[])/\(¬c.wire=0->I64 g/\0<=g/\g<=(↑b.length:Int)/\(List.drop g.toNat b).length*1<=140737488355328/\c.num=(ic b).num/\c.wire=(ic b).wire/\0=(ic b).n.n/\List.drop g.toNat b=(ic b).b))) ((↑c.k:Int)+(↑d.snd.fst:Int))) (takeF (List.drop c.k b))) (aT b));(repeat' with_reducible first|apply bc|refine ba ?_|intro)
 all_goals (first | exact bm | exact (congrArg Field.num (Hf ab)) | exact (congrArg Field.wire (Hf ab)) | exact (congrArg (fun f=>f.n.n) (Hf ab)) | exact (congrArg Field.b (Hf ab)).symm | exact (congrArg Field.num (HN ab)) | exact (congrArg Field.wire (HN ab)) | exact (congrArg (fun f=>f.n.n) (HN ab)) | exact (congrArg Field.b (HN ab)) | (have h:=re b; have j:=oR b (aT b).k; first | omega | (refine bz ?_ ?_ <;> omega) | (rw [List.length_drop]; omega)))
def Fp:Kn:=aM (ae (kC (cL (.nm .field))) ak) av fun (l,_) _=>⟨[],[.c (.int ((cY l)))],none,false⟩
theorem Wu:CK 221 Fp:=ag fun (l,_) _ _=>by
 refine aq jU (aat l) Tryz.func221 (?_:(fun (u:den (Sh.nm NT.field))=>(fun (d:Nat)=>(fun (g:Int)=>(fun (j:Int)=>l.length*48<=140737488355328->∃ (o:Nat),(l=l/\g=(↑(iE (List.take o l)):Int)/\l=l/\(↑l.length:Int)=(↑d:Int)/\g=(↑o:Int))/\(o<=d/\ey none l=ey (fo l o) (List.drop o l)/\iE (List.take o l)<=o*16404)/\∀ (s:Nat),(fun (q:Int)=>(fun (c:Int)=>(fun (p:den (Sh.nm NT.field))=>s<=d/\ey none l=ey (fo l s) (List.drop s l)/\iE (List.take s l)<=s*16404->(c<(↑d:Int)->g<=c/\c<(↑l.length:Int)/\∀ (x:Field),l[s]? = some x->I64 x.num->I64 x.wire->x.n.n<18446744073709551616->x.b.length*1<=140737488355328->(eH x=false->j=cY l)/\(eH x=true->(g<c->I64 (c - j))/\(g<c->g<=c - j/\c - j<(↑l.length:Int))/\((g<c->I64 p.num/\I64 p.wire/\p.n.n<18446744073709551616/\p.b.length*1<=140737488355328)->(g<c/\fX p x=false->5=cY l)/\(c<=g\/fX p x=true->(16384<(↑x.b.length:Int)->4=cY l)/\((↑x.b.length:Int)<=16384->x.b.length<=16384/\I64 (q+(↑(cG x).length:Int))/\I64 (c+j)/\∃ (h:Nat),(l=l/\q+(↑(cG x).length:Int)=(↑(iE (List.take h l)):Int)/\l=l/\(↑d:Int)=(↑d:Int)/\c+j=(↑h:Int))/\(h <= d/\ey none l=ey (fo l h) (List.drop h l)/\iE (List.take h l)<=h * 16404)/\d - h < d - s)))))/\((↑d:Int)<=c->(16384<q->4=cY l)/\(q<=16384->g=cY l))) (l.getD (c - j).toNat u)) (↑s:Int)) (↑(iE (List.take s l)):Int)) 1) 0) l.length) (ao (Sh.nm NT.field)));iterate 3 ((all_goals (repeat' with_reducible first|apply bc|refine ba ?_|intro)); (all_goals try (first | exact bm | exact rfl | exact (Nat.le_refl 0) | exact (ZA ab ab ab) | exact (aaZ ab ab ab aK (ac4 aK ab) ab) | exact (ZZ ab ab ab (Yr ap aK) ab) | exact (Ly ab ab ab (Yr ap aK) aK) | exact (NU ab aK ab) | exact (LU ab aK aK) | (have v:=um (f:=‹Field›) aK ab; have w:=RN (show l[_]? = some ‹Field› by with_reducible assumption); first | omega | (refine bz ?_ ?_ <;> omega)))); all_goals try first | refine ⟨‹Nat› + 1,?_⟩ | refine ⟨0,?_⟩)
def FN:Kn:=aM (ae (kC cI) (ae (kC cI) ak)) av fun (q,v,_) _=>⟨[q=1],[.c (.fz (.nm .spec) ((aW v)))],none,false⟩
theorem Ty:CK 220 FN:=ag fun (q,v,_) _ u=>by
 have w:=cg u;refine aq jU (ab9 q v) Tryz.func220 (?_:(fun (g:Int)=>(fun (h:Int)=>(fun (d:Nat)=>I64 q->I64 v->(v<h\/3<v->aW v=[])/\(h<=v/\v<=3->q=h/\(bS.length*32<=140737488355328->∃ (p:Nat),(v=v/\bS=bS/\(↑bS.length:Int)=g/\0=(↑p:Int)/\List.filter (fun (s:Spec)=>decide (s.since<=v)) (List.take p bS)=[])/\p<=d/\∀ (s:Nat),(fun (j:Int)=>(fun (o:List (den (Sh.nm NT.spec)))=>s<=d->((↑s:Int)<g->0<=(↑s:Int)/\(↑s:Int)<(↑bS.length:Int)/\∀ (x:Spec),bS[s]? = some x->nn x ((x.since<=v->(o.length+[x].length)*32<=140737488355328/\I64 j/\∃ (c:Nat),(v=v/\bS=bS/\g=g/\j=(↑c:Int)/\o++[x]=List.filter (fun (s:Spec)=>decide (s.since<=v)) (List.take c bS))/\c <= d/\d - c < d - s)/\(v<x.since->I64 j/\∃ (c:Nat),(v=v/\bS=bS/\g=g/\j=(↑c:Int)/\o=List.filter (fun (s:Spec)=>decide (s.since<=v)) (List.take c bS))/\c <= d/\d - c < d - s)))/\(g<=(↑s:Int)->o=aW v)) (List.filter (fun (s:Spec)=>decide (s.since<=v)) (List.take s bS))) ((↑s:Int)+h)))) 8) 1) 8);iterate 3 ((all_goals (repeat' with_reducible first|apply bc|refine ba ?_|intro)); (all_goals try (first | exact bm | exact rfl | exact (Jv ab).symm | exact (Rm ab ab) | exact (TP ab aK) | exact afq | exact (adz aK aK aK) | (have y:bS.length=8:=rfl; omega))); all_goals try first | refine ⟨‹Nat› + 1,?_⟩ | refine ⟨0,?_⟩)
def zF:Kn:=aM (ae (kC (cL (.nm .field))) (ae (kC cI) ak)) av fun (l,v,_) _=>⟨[],[.c (.fz (.nm .field) ((d_ l v))),.c (.fz (.nm .field) ((eG l v)))],none,false⟩
theorem Nj:CK 288 zF:=ag fun (l,v,_) _ _=>by
 refine aq jU (U_ l v) Tryz.func288 (?_:(fun (d:Nat)=>(fun (h:Int)=>l.length*48<=140737488355328->I64 v->∃ (j:Nat),(v=v/\l=l/\(↑l.length:Int)=h/\0=(↑j:Int)/\d_ (List.take j l) v=[]/\eG (List.take j l) v=[])/\j<=d/\∀ (s:Nat),(fun (g:List Field)=>(fun (o:Int)=>s<=d->((↑s:Int)<h->0<=(↑s:Int)/\(↑s:Int)<(↑l.length:Int)/\∀ (x:Field),(fun (p:Prop)=>l[s]? = some x->I64 x.num->I64 x.wire->x.n.n<18446744073709551616->p->p->(x.num<=v->((d_ g v).length+[x].length)*48<=140737488355328/\I64 o/\∃ (c:Nat),(v=v/\l=l/\h=h/\o=(↑c:Int)/\d_ g v++[x]=d_ (List.take c l) v/\eG g v=eG (List.take c l) v)/\c <= d/\d - c < d - s)/\(v<x.num->((eG g v).length+[x].length)*48<=140737488355328/\I64 o/\∃ (c:Nat),(v=v/\l=l/\h=h/\o=(↑c:Int)/\d_ g v=d_ (List.take c l) v/\eG g v++[x]=eG (List.take c l) v)/\c <= d/\d - c < d - s)) (x.b.length*1<=140737488355328))/\(h<=(↑s:Int)->d_ g v=d_ l v/\eG g v=eG l v)) ((↑s:Int)+1)) (List.take s l)) (↑d:Int)) l.length);iterate 3 ((all_goals (repeat' with_reducible first|apply bc|refine ba ?_|intro)); (all_goals try (first | exact bm | exact ahi | exact ahL | exact (agM ab ab) | exact (ajE ab aK) | exact (ag2 ab aK) | exact (ajx ab ab) | exact (ahM aK) | exact (agS aK) | (have q:=Vk (l.take ‹Nat›) v; have u:=Ha (l.take ‹Nat›) v; rw [List.length_take] at q u; simp only [List.length_cons,List.length_nil]; omega))); all_goals try first | refine ⟨‹Nat› + 1,?_⟩ | refine ⟨0,?_⟩)
def Ho:Kn:=aM (ae (kC (cL (.nm .field))) ak) av fun (l,_) _=>⟨[∀ f ∈ l,f.b.length<=16384],[.agg (cellsOf (.nm .command) (c_ l))],none,false⟩
theorem To:CK 289 Ho:=ag fun (l,_) _ G=>by
 have H:=cg G;refine aq jU (aap l) Tryz.func289 (?_:(fun (w:Prop)=>(fun (u:Int)=>(fun (D:Int)=>(fun (h:Nat)=>(fun (z:Prop)=>l.length*48<=140737488355328->∃ (F:Nat),(fun (C:Command)=>(w/\(↑l.length:Int)=(↑h:Int)/\u=(↑F:Int)/\u=cT.kind/\u=cT.client/\u=cT.seq/\u=cT.set/\u=cT.id/\u=cT.n/\cT.chunks=[]/\Str.mk []=cT.text/\u=C.kind/\u=C.client/\u=C.seq/\u=C.set/\u=C.id/\u=C.n/\C.chunks=[]/\Str.mk []=C.text)/\F<=h/\∀ (s:Nat),(fun (A:Nat)=>(fun (y:Int)=>(fun (B:Prop)=>(fun (g:Command)=>(fun (j:Str)=>(fun (o:Int)=>(fun (p:List Int)=>(fun (q:Int)=>s<=h->((↑s:Int)<(↑h:Int)->u<=(↑s:Int)/\(↑s:Int)<(↑l.length:Int)/\∀ (x:Field),(fun (v:Int)=>(fun (d:Int)=>l[s]? = some x->I64 d->I64 x.wire->x.n.n<18446744073709551616->x.b.length*1<=140737488355328->(d=D->B/\∃ (c:Nat),(w/\z/\y=(↑c:Int)/\bt cT cT (aR (Command.mk v q g.seq g.set g.id g.n p j) (c_ (List.take c l))))/\c <= h/\h - c < A)/\(¬d=D->(d=2->B/\∃ (c:Nat),(w/\z/\y=(↑c:Int)/\bt cT cT (aR (Command.mk o v g.seq g.set g.id g.n p j) (c_ (List.take c l))))/\c <= h/\h - c < A)/\(¬d=2->(d=3->B/\∃ (c:Nat),(w/\z/\y=(↑c:Int)/\bt cT cT (aR (Command.mk o q v g.set g.id g.n p j) (c_ (List.take c l))))/\c <= h/\h - c < A)/\(¬d=3->(d=4->B/\∃ (c:Nat),(w/\z/\y=(↑c:Int)/\bt cT cT (aR (Command.mk o q g.seq v g.id g.n p j) (c_ (List.take c l))))/\c <= h/\h - c < A)/\(¬d=4->(d=5->B/\∃ (c:Nat),(w/\z/\y=(↑c:Int)/\bt cT cT (aR (Command.mk o q g.seq g.set v g.n p j) (c_ (List.take c l))))/\c <= h/\h - c < A)/\(¬d=5->(d=6->B/\∃ (c:Nat),(w/\z/\y=(↑c:Int)/\bt cT cT (aR (Command.mk o q g.seq g.set g.id v p j) (c_ (List.take c l))))/\c <= h/\h - c < A)/\(¬d=6->(d=7->x.b.length<=100000/\((lh x.b).length*8<=140737488355328->I64 (qK x.b)->B/\∃ (c:Nat),(w/\z/\y=(↑c:Int)/\bt cT cT (aR (Command.mk o q g.seq g.set g.id g.n (lh x.b) j) (c_ (List.take c l))))/\c <= h/\h - c < A))/\(¬d=7->(d=8->B/\∃ (c:Nat),(w/\z/\y=(↑c:Int)/\bt cT cT (aR (Command.mk o q g.seq g.set g.id g.n p (Str.mk x.b)) (c_ (List.take c l))))/\c <= h/\h - c < A)/\(¬d=8->B/\∃ (c:Nat),(w/\z/\y=(↑c:Int)/\bt cT cT (aR g (c_ (List.take c l))))/\c <= h/\h - c < A))))))))) x.num) (dq x.n.n))/\((↑h:Int)<=(↑s:Int)->aR g (c_ l))) g.client) g.chunks) g.kind) g.text) (c_ (List.take s l))) (I64 y)) ((↑s:Int)+D)) (h - s)) (c_ (List.take F l))) ((↑h:Int)=(↑h:Int))) l.length) 1) 0) (l=l));iterate 3 ((all_goals (repeat' with_reducible first|apply bc|refine ba ?_|intro)); (all_goals try (first | exact bm | exact rfl | (have:=H _ (ac7 ab); omega) | (rw [dV ab,<- ah5 ab] <;> first | rfl | exact (ef ab).symm) | (rw [dV ab,<- akB ab] <;> first | rfl | exact (ef ab).symm) | (rw [dV ab,<- ahU ab] <;> first | rfl | exact (ef ab).symm) | (rw [dV ab,<- ah_ ab] <;> first | rfl | exact (ef ab).symm) | (rw [dV ab,<- akk ab] <;> first | rfl | exact (ef ab).symm) | (rw [dV ab,<- aid ab] <;> first | rfl | exact (ef ab).symm) | (rw [dV ab,<- aiE ab] <;> first | rfl | exact (ef ab).symm) | (rw [dV ab,<- agQ ab] <;> first | rfl | exact (ef ab).symm) | (rw [dV ab,<- ah1 aK] <;> first | rfl | exact (ef ab).symm) | (rw [List.take_of_length_le aK]))); all_goals try first | refine ⟨‹Nat› + 1,?_⟩ | refine ⟨0,?_⟩)
def adS:bF:=(aP 289 Ho (aP 288 zF (aP 220 FN (aP 221 Fp (aP 330 zj (aP 356 Hb aeU))))))
def oS:aw Tryz.prog (aj tyT) adS:=(ah To (ah Nj (ah Ty (ah Wu (ah Ox (ah Vs jU))))))
def Gk:Kn:=aM (ae (kC cI) (ae (kC cI) (ae (kC (aZ 0 0)) ak))) (aH (dQ 177 (ax (cEm true) dL)) av) fun (k,n,_,_) ((_,_),_)=>⟨[0<=n],[],some ([.box 177 ([.own 1]),.row 219 (.nm .field) ((qn k n))]),false⟩
def We:CK 223 Gk:=ag fun (k,n,_,_) ((_,_),_) c=>by
 have d:=cg c;refine bw oS [] Tryz.func223 (?_:I64 k->I64 n->(¬n=0->0<=n/\[Field.mk k 0 (U64.mk n.toNat) []].length*48<=140737488355328/\[Field.mk k 0 (U64.mk n.toNat) []]=qn k n)/\(n=0->qn k n=[]));(repeat' with_reducible first|apply bc|refine ba ?_|intro)
 all_goals (first | exact bm | exact (BL ab) | exact (zt ab) | exact (CN ab) | exact (zu aK) | exact (BL (xs:=[]) ab) | exact (zt (xs:=[]) ab).symm | exact (CN (xs:=[]) ab) | exact (zu (xs:=[]) aK).symm | (simp only [List.length_cons,List.length_nil]; omega) | decide)
def Gi:Kn:=aM (ae (kC cI) (ae (kC cI) (ae (kC (aZ 0 0)) ak))) (aH (dQ 177 (ax (eV 1) dL)) (aH (e_ 219 (.nm .field)) av)) fun (k,n,_,_) ((_,_),xs,_)=>⟨[0<=n,xs.length<=1000],[],some ([.box 177 ([.own 1]),.row 219 (.nm .field) ((xs++qn k n))]),false⟩
def Va:CK 223 Gi:=ag fun (k,n,_,_) ((_,_),xs,_) c=>by
 have d:=cg c;have g:=cg (eU c);refine bw oS [] Tryz.func223 (?_:I64 k->I64 n->(¬n=0->0<=n/\(xs.length+[Field.mk k 0 (U64.mk n.toNat) []].length)*48<=140737488355328/\xs++[Field.mk k 0 (U64.mk n.toNat) []]=xs++qn k n)/\(n=0->xs=xs++qn k n));(repeat' with_reducible first|apply bc|refine ba ?_|intro)
 all_goals (first | exact bm | exact (BL ab) | exact (zt ab) | exact (CN ab) | exact (zu aK) | exact (BL (xs:=[]) ab) | exact (zt (xs:=[]) ab).symm | exact (CN (xs:=[]) ab) | exact (zu (xs:=[]) aK).symm | (simp only [List.length_cons,List.length_nil]; omega) | decide)
def GG:Kn:=aM (ae (kC cI) (ae (kC (cL .u8)) (ae (kC (aZ 0 0)) ak))) (aH (dQ 177 (ax (cEm true) dL)) av) fun (k,b,_,_) ((_,_),_)=>⟨[],[],some ([.box 177 ([.own 1]),.row 219 (.nm .field) ((CZ k b))]),false⟩
def UX:CK 224 GG:=ag fun (k,b,_,_) ((_,_),_) _=>by
 refine bw oS [] Tryz.func224 (?_:I64 k->b.length*1<=140737488355328->(0<(↑b.length:Int)->[Field.mk k 2 (U64.mk 0) b].length*48<=140737488355328/\[Field.mk k 2 (U64.mk 0) b]=CZ k b)/\((↑b.length:Int)<=0->CZ k b=[]));(repeat' with_reducible first|apply bc|refine ba ?_|intro)
 all_goals (first | exact bm | exact (BL ab) | exact (zt ab) | exact (CN ab) | exact (zu aK) | exact (BL (xs:=[]) ab) | exact (zt (xs:=[]) ab).symm | exact (CN (xs:=[]) ab) | exact (zu (xs:=[]) aK).symm | (simp only [List.length_cons,List.length_nil]; omega) | decide)
def FJ:Kn:=aM (ae (kC cI) (ae (kC (cL .u8)) (ae (kC (aZ 0 0)) ak))) (aH (dQ 177 (ax (eV 1) dL)) (aH (e_ 219 (.nm .field)) av)) fun (k,b,_,_) ((_,_),xs,_)=>⟨[xs.length<=1000],[],some ([.box 177 ([.own 1]),.row 219 (.nm .field) ((xs++CZ k b))]),false⟩
def Ue:CK 224 FJ:=ag fun (k,b,_,_) ((_,_),xs,_) c=>by
 have d:=cg c;refine bw oS [] Tryz.func224 (?_:I64 k->b.length*1<=140737488355328->(0<(↑b.length:Int)->(xs.length+[Field.mk k 2 (U64.mk 0) b].length)*48<=140737488355328/\xs++[Field.mk k 2 (U64.mk 0) b]=xs++CZ k b)/\((↑b.length:Int)<=0->xs=xs++CZ k b));(repeat' with_reducible first|apply bc|refine ba ?_|intro)
 all_goals (first | exact bm | exact (BL ab) | exact (zt ab) | exact (CN ab) | exact (zu aK) | exact (BL (xs:=[]) ab) | exact (zt (xs:=[]) ab).symm | exact (CN (xs:=[]) ab) | exact (zu (xs:=[]) aK).symm | (simp only [List.length_cons,List.length_nil]; omega) | decide)
def Yn:bF:=(aP 224 FJ (aP 224 GG (aP 223 Gi (aP 223 Gk adS))))
def zK:aw Tryz.prog (aj tyT) Yn:=(ah Ue (ah UX (ah Va (ah We oS))))
def vj:Kn:=aM (ae (kT (.nm .command)) (ae (kC cI) ak)) av fun (c,v,_) _=>⟨[0<=c.kind,0<=c.client,0<=c.seq,0<=c.set,0<=c.id,0<=c.n],[.c (.own 0)],some ([.row 219 (.nm .field) ((dT c v))]),true⟩
def IA:CK 163 vj:=ag fun (c,v,_) _ g=>by
 have B:=cg g;have u:=cg (eU g);have w:=cg (eU (eU g));have y:=cg (eU (eU (eU g)));have z:=cg (eU (eU (eU (eU g))));have A:=cg (eU (eU (eU (eU (eU g)))));refine dF zK [] Tryz.func163 (?_:(fun h=>(fun s=>(fun d=>(fun o=>(fun p=>(fun q=>(fun j=>bH c (I64 v->h<=c.kind/\h<=c.client/\(qn 1 c.kind).length<=d/\h<=c.seq/\s.length<=d/\h<=c.set/\q.length<=d/\h<=c.id/\(q++qn 4 c.set).length<=d/\h<=c.n/\j.length<=d/\((eM c.chunks).length*1<=140737488355328->I64 (fQ c.chunks)->(j++o).length<=d/\(3<=v->(j++o++p).length<=d/\j++o++p++CZ 8 c.text.b=dT c v)/\(v<3->j++o++p=dT c v)))) (q++qn 4 c.set++qn 5 c.id)) (s++qn 3 c.seq)) (CZ 7 (eM c.chunks))) (qn 6 c.n)) (1000:Nat)) (qn 1 c.kind++qn 2 c.client)) (0:Int));(repeat' with_reducible first|apply bc|refine ba ?_|intro)
 all_goals (first | exact bm | (rw [dT,if_pos aK]; rfl) | (rw [dT,if_neg aK]; rfl) | (have u:=gI 1 c.kind; have w:=gI 2 c.client; have y:=gI 3 c.seq; have z:=gI 4 c.set; have A:=gI 5 c.id; have C:=gI 6 c.n; have D:=Ek 7 (eM c.chunks); (try simp only [List.length_append]); omega))
def YJ:bF:=(aP 163 vj Yn)
def oB:aw Tryz.prog (aj tyT) YJ:=(ah IA zK)
