/- What leads to the law, part 5. Conditions: each lemma's own. -/
import Derived.Test.YticbaadnibdbkaaGreatNOM4
set_option linter.unusedVariables false
set_option linter.unusedSimpArgs false
set_option maxHeartbeats 2000000
set_option linter.defProp false
noncomputable section
namespace Go.Proofs.YticbaadnibdbkaaGreat
open Go.RowKit
def af7:=@List.take_succ_cons
def eE (s:State) (a:Nat) (k:Nat):Int:=(((s.snaps.drop (a+1)).take k).filter fun x=>decide (x.set=(s.snaps.getD a (au (.nm .snap))).set)).length
def mw (s:State) (a:Int):Bool:=if a<0\/(s.snaps.length:Int)<=a then false else decide (eE s a.toNat s.snaps.length<s.keep)
def nch (l:List Snap):Nat:=(l.flatMap Snap.chunks).length
def Dy (c:Int) (l:List Snap):Nat:=(l.flatMap Snap.chunks).count c
def bt (id:Int) (l:List Snap):List Snap:=l.filter fun x=>!decide (x.id=id)
variable {α:Type} {k:Nat}
def gd {l:List α} {d:α} (h:(k:Int)<l.length):l[k]? = some (l.getD k d):=by
 have a:k<l.length:=by omega
 rw [List.getD_eq_getElem?_getD,List.getElem?_eq_getElem a]; rfl
variable {a:Nat}
def aaf {s:State}:0=eE s a 0:=by simp [eE]
def RH {s:State}:eE s a k<=(k:Int):=by
 have b:=List.length_filter_le (fun x:Snap=>decide (x.set=(s.snaps.getD a (au (.nm .snap))).set)) ((s.snaps.drop (a+1)).take k);have c:((s.snaps.drop (a+1)).take k).length<=k:=by rw [List.length_take]; omega
 unfold eE; omega
def SM {s:State}:0<=eE s a k:=by unfold eE; omega
def Nr {s:State} (h:a+1+k<=s.snaps.length) (b:s.snaps.length*64<=140737488355328):I64 (eE s a k+1):=by
 have c:=RH (s:=s) (a:=a) (k:=k);have d:=SM (s:=s) (a:=a) (k:=k);constructor <;> omega
variable {x:Snap}
def ab5 {s:State} (b:(s.snaps.drop (a+1))[k]? = some x) (h:x.set=(s.snaps.getD a (au (.nm .snap))).set):eE s a k+1=eE s a (k+1):=by
 unfold eE;rw [ai b,List.filter_append,List.length_append];simp [h]
def ZU {s:State} (b:(s.snaps.drop (a+1))[k]? = some x) (h:¬ x.set=(s.snaps.getD a (au (.nm .snap))).set):eE s a k=eE s a (k+1):=by
 unfold eE;rw [ai b,List.filter_append,List.length_append];rw [show List.filter (fun x:Snap=>decide (x.set=(s.snaps.getD a (au (.nm .snap))).set)) [x]=[] by simp only [List.filter_cons,h,decide_false,List.filter_nil]; rfl];simp
variable {a:Int}
def KB {s:State} (b:0<=a) (c:a<s.snaps.length) (h:(s.snaps.length:Int)<=a+1+k):decide (eE s a.toNat k<s.keep)=mw s a:=by
 unfold mw;rw [if_neg aE];have e:∀ m:Nat,(s.snaps.length:Int)<=a+1+m->eE s a.toNat m=eE s a.toNat s.snaps.length:=fun m d=>by
  unfold eE;rw [List.take_of_length_le (by rw [List.length_drop]; omega),List.take_of_length_le (by rw [List.length_drop]; omega)]
 rw [e k h]
def LY {s:State} (h:a<0\/(s.snaps.length:Int)<=a):false=mw s a:=by unfold mw; rw [if_pos h]
variable {l:List Snap} {id:Int}
def aeo {y:Snap} (h:¬ x.id=id) (b:l[k]? = some x) (c:l[k]? = some y):bt id (l.take k)++[y]=bt id (l.take (k+1)):=by
 rw [b] at c; cases c;unfold bt; rw [ai b,List.filter_append]; simp [h]
def aeN (b:l[k]? = some x) (h:x.id=id):bt id (l.take k)=bt id (l.take (k+1)):=by
 unfold bt; rw [ai b,List.filter_append]; simp [h]
def ZW (h:(l.length:Int)<=k):bt id (l.take k)=bt id l:=by rw [List.take_of_length_le aE]
def Zb (h:(k:Int)<l.length) (c:l.length*64<=140737488355328):((bt id (l.take k)).length+[x].length)*64<=140737488355328:=by
 have b:=List.length_filter_le (fun x:Snap=>!decide (x.id=id)) (l.take k);rw [List.length_take] at b;unfold bt;simp;omega
def afI (st:State) (b:Int):List (Nat × LI):=[(5,{ σ:=Nat,F:=fun k=>([(1,one (.int (b))),(2,one (.ptr 0 0)),(5,one (.int (eE st b.toNat k))),(21,one (.fz (.nm .snap) (st.snaps.drop (b+1).toNat))),(22,one (.int (st.snaps.drop (b+1).toNat).length)),(23,one (.int k))],[.box 46 (cellsOf (.nm .state) (st))]),J:=fun k=>b.toNat+1+k<=st.snaps.length/\0<=b,μ:=fun k=>st.snaps.length - k })]
def Og:Kn:=aO (ae (kT (.nm .state)) (ae (kC cI) ao)) aw fun (st,b,_) _=>⟨[],[.c (.bool (.atom ((mw st b))))],none,false⟩
theorem ace:CK 347 Og:=ah fun (st,b,_) _ _=>by
 refine av Fw (afI st b) Tryz.func347 (?_:(fun j=>(fun i=>(fun m=>(fun n=>(fun p=>(fun o=>(fun r=>(fun q=>(fun h=>(fun u=>(fun c=>(fun d=>fK st (I64 b->(b<j\/q<=b->false=mw st b)/\(m/\b<q->I64 (b+i)/\j<=b+i/\b+i<=q/\∃ t,(b=b/\j=eE st n t/\c=c/\(↑c.length:Int)=d/\j=(↑t:Int)/\dq st st)/\(p+t<=h/\m)/\∀ (s:Nat),(fun e=>(fun f=>p+s<=h/\m->((↑s:Int)<d->j<=(↑s:Int)/\(↑s:Int)<(↑c.length:Int)/\∀ (x:Snap),c[s]? = some x->fq x (m/\b<q/\fq r ((x.set=r.set->I64 (e+i)/\I64 f/\∃ g,(b=b/\e+i=eE st n g /\ c=c/\d=d/\f=(↑g:Int)/\dq st st)/\(p+g <= h/\m)/\h - g < h - s)/\(¬x.set=r.set->I64 f/\∃ g,(b=b/\e=eE st n g /\ c=c/\d=d/\f=(↑g:Int)/\dq st st)/\(p+g <= h/\m)/\h - g < h - s))))/\(d<=(↑s:Int)->decide (e<st.keep)=mw st b)) ((↑s:Int)+i)) (eE st n s)))) (↑(List.drop u o).length:Int)) (List.drop u o)) (b+i).toNat) o.length) (↑o.length:Int)) (o.getD n (au (Sh.nm NT.snap)))) st.snaps) (n+1)) b.toNat) (j<=b)) (1:Int)) (0:Int));(repeat' (first | with_reducible apply aV | intro))
 all_goals try (exact (Nr aE aE))
 all_goals try (refine ⟨0,?_⟩; (repeat' with_reducible first|apply aV|refine bl ?_|intro))
 all_goals try (exact (Nr aE aE))
 all_goals try (refine ⟨‹Nat› + 1,?_⟩; (repeat' with_reducible first|apply aV|refine bl ?_|intro))
 all_goals (first | exact bY | exact aaf | exact (LY ap) | exact (KB aE aE (by rw [List.length_drop] at *; omega)) | exact (ab5 (by rw [show (b+1).toNat=b.toNat+1 by omega] at *; assumption) ab) | exact (by have:=‹_<((List.length (List.drop _ _):Nat):Int)›; rw [List.length_drop] at this; omega) | exact (ZU (by rw [show (b+1).toNat=b.toNat+1 by omega] at *; assumption) ab))
def afl:bP:=(aQ 347 Og adS)
def qN:aA Tryz.prog (ak tyT) afl:=(ag ace Fw)
theorem aav {l:List α} {d:α} (h:(k:Int)<l.length):l.set k (l.getD k d)=l:=by simp_all
def Lr (l:List Snap) (k:Nat):Nat:=((List.range k).filter fun (i:Nat)=>decide (0<Dy ((i:Int)+1) l)).length
def lf (l:List Snap):Nat:=Lr l 64
def aam (st:State):List (Nat × LI):=[(5,{ σ:=Nat,F:=fun k=>([(1,one (.ptr 0 0)),(2,one (.ptr 1 0)),(18,one (.int st.snaps.length)),(19,one (.int k))],[.box 46 ([.int ((st.version)),.int ((st.next)),.int ((st.keep)),.int ((st.quota)),.own 2,.own 3,.own 4]),.box 46 ([.int ((0)),.int ((0)),.int ((0)),.int ((0)),.em true,.em true,.em true]),.row 137 (.nm .sess) ((st.sess)),.row 139 (.nm .opn) ((st.opens)),.row 172 (.nm .snap) ((st.snaps))]),J:=fun k=>k<=st.snaps.length,μ:=fun k=>st.snaps.length - k })]
def KU:Kn:=aO (ae (kT (.nm .state)) (ae (kC cI) ao)) aw fun (st,v,_) _=>⟨[],[.c (.int ((eA st v)))],none,false⟩
theorem ab9:CK 276 KU:=ah fun (st,v,_) _ _=>by
 refine av qN [] Tryz.func276 (?_:(fun c=>(fun i=>(fun s=>(fun h=>(fun g=>(fun f=>(fun j=>(fun e=>(fun d=>(fun m=>(fun n=>(fun o=>(fun p=>(fun t=>(fun u=>(fun w=>(fun y=>(fun q=>(fun r=>fK st (I64 v->(cq v f h=false->f=c)/\(cq v f h=true->(v<h->e<=g/\e<=g/\(r->j)/\((((t\/m=false)\/p)\/o)\/fW st v=false->6=c)/\(r/\fW st v=true->d=c))/\(h<=v->e<=g/\e<=g/\(q->j)/\((((t\/n=false)\/p)\/o)\/fW st v=false->6=c)/\(q/\fW st v=true->d=c))))) (((y/\m=true)/\w)/\u)) (((y/\n=true)/\w)/\u)) ((cq st.version f h=true/\cq st.next f g=true)/\cq st.keep d e=true)) (aB Sess.client e d st.sess=true/\i=true)) (aB Opn.set e d st.opens=true/\s=true)) ((cq st.version f h=false\/cq st.next f g=false)\/cq st.keep d e=false)) (aB Sess.client e d st.sess=false\/i=false)) (aB Opn.set e d st.opens=false\/s=false)) (cq st.quota d 64)) (cq st.quota d d)) (0:Int)) (8:Int)) (f<=st.next/\st.next<=g)) (1:Int)) (1048576:Int)) (3:Int)) (st.opens.all ek)) (st.sess.all dZ)) (eA st v));(repeat' with_reducible first|apply aV|refine bl ?_|intro)
 all_goals (first | exact bY | exact (Ki (a:=1) (b:=1048576) ab).1 | exact (Ki (a:=1) (b:=1048576) ab).2 | (simp only [eA,kZ,A_,xo]; grind))
def Fl:Kn:=aO (ae (kT (.nm .command)) (ae (kC cI) ao)) aw fun (c,v,_) _=>⟨[],[.c (.int ((bK c v)))],none,false⟩
theorem TD:CK 52 Fl:=ah fun (c,v,_) _ _=>by
 refine av qN [] Tryz.func52 (?_:(fun b=>bF c (I64 v->I64 b->(cG v=false\/b=0->1=bK c v)/\(cG v=true/\¬b=0->(v<b->10=bK c v)/\(b<=v->(mu c=false->1=bK c v)/\(mu c=true->0=bK c v))))) (cE c.kind));rw [show cG v=cq v 1 3 from rfl];(repeat' with_reducible first|apply aV|refine bl ?_|intro)
 all_goals (first | exact bY | (simp only [bK]; grind))
def GQ:Kn:=aO (ae (kT (.nm .state)) ao) aw fun (st,_) _=>⟨[],[.agg ([.int ((st.version)),.int ((st.next)),.int ((st.keep)),.int ((st.quota)),.own 0,.own 1,.own 2])],some ([.row 137 (.nm .sess) ((st.sess)),.row 139 (.nm .opn) ((st.opens)),.row 172 (.nm .snap) ((st.snaps))]),true⟩
theorem VD:CK 61 GQ:=ah fun (st,_) _ _=>by
 refine cT qN (aam st) Tryz.func61 (?_:(fun (c:List Snap)=>(fun (b:Nat)=>(fun (d:Prop)=>fK st (∃ (g:Nat),((↑c.length:Int)=(↑b:Int)/\0=(↑g:Int)/\st.version=st.version/\st.next=st.next/\st.keep=st.keep/\st.quota=st.quota/\d/\d/\d/\d/\st.sess=st.sess/\st.opens=st.opens/\c=c)/\g<=b/\∀ (s:Nat),(fun (e:den (Sh.nm NT.snap))=>s<=b->((↑s:Int)<(↑b:Int)->0<=(↑s:Int)/\(↑s:Int)<(↑c.length:Int)/\0<=(↑s:Int)/\(↑s:Int)<(↑c.length:Int)/\fq e (e.chunks.length*8<=140737488355328->fq e (I64 ((↑s:Int)+1)/\∃ (f:Nat),((↑b:Int)=(↑b:Int)/\(↑s:Int)+1=(↑f:Int)/\st.version=st.version/\st.next=st.next/\st.keep=st.keep/\st.quota=st.quota/\d/\d/\d/\d/\st.sess=st.sess/\st.opens=st.opens/\c.set s e=c)/\f <= b/\b - f < b - s)))/\((↑b:Int)<=(↑s:Int)->dq st st)) (c.getD s (au (Sh.nm NT.snap))))) ((0:Int)=0)) c.length) st.snaps);iterate 3 ((all_goals (repeat' with_reducible first|apply aV|refine bl ?_|intro)); (all_goals try (first | exact bY | exact rfl | exact (aav aE))); all_goals try first | refine ⟨‹Nat› + 1,?_⟩ | refine ⟨0,?_⟩)
def Yb:bP:=(aQ 61 GQ (aQ 52 Fl (aQ 276 KU afl)))
def sk:aA Tryz.prog (ak tyT) Yb:=(ag VD (ag TD (ag ab9 qN)))
def Gd (l:List Snap) (id:Int) (k:Nat):List Int:=((List.range k).filter fun (i:Nat)=>decide (0<Dy ((i:Int)+1) l) && decide (Dy ((i:Int)+1) (bt id l)=0)).map fun (i:Nat)=>(i:Int)+1
def eu (b:List Int) (l:List Int):List Int:=l.foldl (fun b n=>if 1<=n/\n<=64 then b.set n.toNat (b.getD n.toNat 0+1) else b) b
theorem abp (h:nch l<=1048576):nch (bt id l)<=1048576:=by
 refine Nat.le_trans ?_ h;unfold nch bt;induction l with
 | nil=>exact Nat.le_refl _
 | cons x l b=>
  have c:(l.flatMap Snap.chunks).length<=1048576:=by unfold nch at h; rw [List.flatMap_cons,List.length_append] at h; omega
  have:=b c;grind
def mT (l:List Snap) (id:Int):List Int:=Gd l id 64
def FK (b l:List Int):Prop:=∀ i,0<=b.getD i 0/\b.getD i 0+l.length<=4611686018427387904
variable {i:Nat} {xs:List Int}
theorem LN {j:Nat} {v:Int}:(xs.set j v).getD i 0=if j=i/\j<xs.length then v else xs.getD i 0:=by grind
theorem Dx:∀ (l xs:List Int) (i:Nat),xs.getD i 0<=(eu xs l).getD i 0/\(eu xs l).getD i 0<=xs.getD i 0+l.length
 | [],xs,i=>by simp [eu]
 | n :: l,xs,i=>by
  have h:=Dx l (if 1<=n/\n<=64 then xs.set n.toNat (xs.getD n.toNat 0+1) else xs) i;have e:eu xs (n :: l)=eu (if 1<=n/\n<=64 then xs.set n.toNat (xs.getD n.toNat 0+1) else xs) l:=rfl;have b:xs.getD i 0<=(if 1<=n/\n<=64 then xs.set n.toNat (xs.getD n.toNat 0+1) else xs).getD i 0/\(if 1<=n/\n<=64 then xs.set n.toNat (xs.getD n.toNat 0+1) else xs).getD i 0<=xs.getD i 0+1:=by
   split
   ·rw [LN]; split
    ·grind
    omega
   omega
  grind
variable {l:List Int} {n:Int}
def BP (b:l[k]? = some n):eu xs (l.take (k+1))=if 1<=n/\n<=64 then (eu xs (l.take k)).set n.toNat ((eu xs (l.take k)).getD n.toNat 0+1) else eu xs (l.take k):=by
 rw [ai b,eu,List.foldl_append]; rfl
def Lu (b:l[k]? = some n) (h:1<=n/\n<=64):(eu xs (l.take k)).set n.toNat ((eu xs (l.take k)).getD n.toNat (au .int)+1)=eu xs (l.take (k+1)):=by rw [BP b,if_pos h]; rfl
def Wy (b:l[k]? = some n) (h:¬ (1<=n/\n<=64)):eu xs (l.take k)=eu xs (l.take (k+1)):=by rw [BP b,if_neg h]
def Wh (h:FK xs l):I64 ((eu xs (l.take k)).getD n.toNat (au .int)+1):=by
 have b:=Dx (l.take k) xs n.toNat;have c:=h n.toNat;rw [List.length_take] at b;show I64 ((eu xs (l.take k)).getD n.toNat 0+1);constructor <;> omega
def agC (l:List Int) (xs:List Int):List (Nat × LI):=[(1,{ σ:=Nat,F:=fun k=>([(0,one (.ptr 0 0)),(6,one (.fz .int (l))),(7,one (.int (l).length)),(8,one (.int k))],[.arr 338 .int 65 ((eu xs (l.take k)))]),J:=fun k=>k<=l.length,μ:=fun k=>(l).length - k })]
def LD:Kn:=aO (ae (kT (.nm .state)) (ae (kT (.nm .command)) ao)) aw fun (st,c,_) _=>⟨[],[.c (.int ((if eA st st.version=0 then bK c st.version else 1)))],none,false⟩
theorem aa8:CK 260 LD:=ah fun (st,c,_) _ _=>by
 refine av sk [] Tryz.func260 (?_:(fun d=>(fun b=>(fun e=>fK st (bF c (I64 b->(¬b=0->1=e)/\(b=0->I64 d->d=e)))) (if b=0 then d else 1)) (eA st st.version)) (bK c st.version));grind
def Xf:Kn:=aO (ae (kC (ba 0 0)) (ae (kC (cL .int)) ao)) (aC (Dg 338 .int 65) aw) fun (_,l,_) (xs,_)=>⟨[FK xs l],[],some ([.arr 338 .int 65 ((eu xs l))]),false⟩
theorem afA:CK 360 Xf:=ah fun (_,l,_) (xs,_) m=>by
 have o:=cg m;refine bz sk (agC l xs) Tryz.func360 (?_:(fun (e:Int)=>(fun (b:Nat)=>(fun (d:Int)=>l.length*(8:Nat)<=(140737488355328:Nat)->∃ (h:Nat),(l=l/\(↑l.length:Int)=d/\(0:Int)=(↑h:Int)/\xs=eu xs (List.take h l))/\h<=b/\∀ (s:Nat),(fun (f:Int)=>(fun (g:List Int)=>s<=b->((↑s:Int)<d->(0:Int)<=(↑s:Int)/\(↑s:Int)<(↑l.length:Int)/\∀ (x:Int),(fun (j:den Sh.int)=>l[s]? = some x->I64 x->(e<=x/\x<=(64:Int)->(0:Int)<=x/\x<(↑(65:Nat):Int)/\x.toNat<(65:Nat)/\I64 (j+e)/\(0:Int)<=x/\x<(↑(65:Nat):Int)/\(I64 j->x.toNat<(65:Nat)/\I64 f/\∃ (c:Nat),(l=l/\d=d/\f=(↑c:Int)/\g.set x.toNat (j+e)=eu xs (List.take c l))/\c <= b/\b - c < b - s))/\(x<e\/(64:Int)<x->I64 f/\∃ (c:Nat),(l=l/\d=d/\f=(↑c:Int)/\g=eu xs (List.take c l))/\c <= b/\b - c < b - s)) (g.getD x.toNat (au Sh.int)))/\(d<=(↑s:Int)->g=eu xs l)) (eu xs (List.take s l))) ((↑s:Int)+e)) (↑b:Int)) l.length) (1:Int));(repeat' (intro))
 all_goals try (first | (first | (refine aD ?_ ?_ <;> omega)) | exact rfl | exact (Lu ab (by constructor <;> omega)) | exact (Wy ab aE) | exact (by rw [List.take_of_length_le aE]) | exact (Wh ab))
 all_goals try (refine ⟨0,?_⟩; (repeat' (first | with_reducible apply aV | intro)))
 all_goals try (first | exact (Lu ab (by constructor <;> omega)))
 all_goals try (refine ⟨‹Nat› + 1,?_⟩; (repeat' (with_reducible apply aV)))
 all_goals (first | (first | omega | (refine aD ?_ ?_ <;> omega)) | exact rfl | exact (Lu ab (by constructor <;> omega)) | exact (Wy ab aE) | exact (by rw [List.take_of_length_le aE]) | exact (Wh ab))
def Wn:bP:=(aQ 360 Xf (aQ 260 LD Yb))
def PV:aA Tryz.prog (ak tyT) Wn:=(ag afA (ag aa8 sk))
section
variable {B:Bool} {k:Nat}
variable {st:State} {v:Int}
end
def XH:bP:=Wn
def Mk:aA Tryz.prog (ak tyT) XH:=PV
def XJ:bP:=XH
def kS:aA Tryz.prog (ak tyT) XJ:=Mk
def fG (xs:List Int) (c:Int):Bool:=decide (0<xs.getD c.toNat (au .int))
def fH (xs b:List Int) (c:Int):Bool:=decide (0<xs.getD c.toNat (au .int)) && decide (b.getD c.toNat (au .int)=0)
def lF (p:Int->Bool) (k:Nat):List Int:=((List.range k).map fun (i:Nat)=>(i:Int)+1).filter p
def acR {p:Int->Bool} (h:p ((k:Int)+1)=true):lF p k++[(k:Int)+1]=lF p (k+1):=by
 unfold lF; rw [List.range_succ,List.map_append,List.filter_append]; simp [h]
def afz {p:Int->Bool} (h:p ((k:Int)+1)=false):lF p k=lF p (k+1):=by
 unfold lF; rw [List.range_succ,List.map_append,List.filter_append]; simp [h]
def aeU {p:Int->Bool} (h:k<=64) (b:64<(k:Int)+1):lF p k=lF p 64:=by rw [show k=64 by omega]
def QA {p:Int->Bool} (h:k<=64):((lF p k).length+[n].length)*8<=140737488355328:=by
 have:=List.length_filter_le p ((List.range k).map fun (i:Nat)=>(i:Int)+1);rw [List.length_map,ajw] at this;unfold lF; simp only [List.length_cons,List.length_nil]; omega
def cn (l:List Snap):List Int:=l.foldl (fun t x=>eu t x.chunks) (List.replicate 65 0)
theorem rU:∀ (l xs:List Int),(eu xs l).length=xs.length
 | [],_=>rfl
 | n :: l,xs=>by
  show (eu (if 1<=n/\n<=64 then xs.set n.toNat (xs.getD n.toNat 0+1) else xs) l).length=_;rw [rU l]; split
  ·grind
  rfl
variable {l:List Snap}
def kN:cn (l++[x])=eu (cn l) x.chunks:=by unfold cn; rw [List.foldl_append]; rfl
def abG (b:l[k]? = some x):eu (cn (l.take k)) x.chunks=cn (l.take (k+1)):=by rw [ai b,kN]
theorem yn {p:List Snap->Prop} (b:p []) (c:∀ l x,p l->p (l++[x])) (l:List Snap):p l:=by
 have:∀ r:List Snap,p r.reverse:=fun r=>by
  induction r with
  | nil=>exact b
  | cons x r d=>rw [List.reverse_cons]; exact c _ _ d
 have h:=this l.reverse;grind
def jI (l:List Snap):(cn l).length=65:=by
 refine yn (p:=fun l=>(cn l).length=65) rfl (fun l x h=>?_) l;rw [kN,rU,h]
def AR:nch (l++[x])=nch l+x.chunks.length:=by unfold nch; simp
theorem Ph (l:List Snap) (i:Nat):0<=(cn l).getD i 0/\(cn l).getD i 0<=nch l:=by
 refine yn (p:=fun l=>0<=(cn l).getD i 0/\(cn l).getD i 0<=nch l) ?_ (fun l x h=>?_) l
 ·show 0<=(List.replicate 65 (0:Int)).getD i 0/\(List.replicate 65 (0:Int)).getD i 0<=_;grind
 have:=Dx x.chunks (cn l) i;rw [kN,AR]; omega
def HJ (b:l[k]? = some x) (h:nch l<=1048576):FK (cn (l.take k)) x.chunks:=fun i=>by
 have d:=Ph (l.take k) i;have c:nch (l.take (k+1))<=nch l:=by
  unfold nch; rw [<- List.take_append_drop (k+1) l,List.flatMap_append,List.length_append,List.take_append_drop]; omega
 rw [ai b,AR] at c;omega
def Fy {m:List Int} {s:Sh} (h:nch l<=1048576) (b:m.length*8<=140737488355328):FK (CO .int (cn l) 0 65) m:=fun i=>by
 rw [jK (jI l)];have c:=Ph l i;omega
theorem Fu:∀ (l xs:List Int) (c:Int),1<=c->c<=64->xs.length=65->(eu xs l).getD c.toNat 0=xs.getD c.toNat 0+(l.count c:Nat)
 | [],_,_,_,_,_=>by simp [eu]
 | n :: l,xs,c,d,e,b=>by
  show (eu (if 1<=n/\n<=64 then xs.set n.toNat (xs.getD n.toNat 0+1) else xs) l).getD c.toNat 0=_;rw [Fu l _ c d e (by split; rw [acF,b]; exact b),List.count_cons];split
  ·grind
  grind
def Dw (l:List Snap) (c:Int) (b:1<=c) (d:c<=64):(cn l).getD c.toNat 0=(Dy c l:Nat):=by
 refine yn (p:=fun l=>(cn l).getD c.toNat 0=(Dy c l:Nat)) ?_ (fun l x h=>?_) l
 ·show (List.replicate 65 (0:Int)).getD c.toNat 0=_;rw [List.getD_eq_getElem?_getD,List.getElem?_replicate]; split <;> simp [Dy]
 rw [kN,Fu _ _ _ b d (jI l),h];unfold Dy; simp
theorem Hs (l:List Snap):((lF (fG (cn l)) 64).length:Int)=(lf l:Int):=by
 unfold lF lf Lr;rw [List.filter_map,List.length_map];congr 2;apply List.filter_congr;intro i b;rw [List.mem_range] at b;have:=Dw l ((i:Int)+1) aE aE;simp only [Function.comp,fG];rw [show (au .int)=(0:Int) from rfl,this];grind
theorem L_ (l m:List Snap) (id:Int) (e:m=bt id l):lF (fH (cn l) (cn m)) 64=mT l id:=by
 subst e;unfold lF mT Gd;rw [List.filter_map];congr 1;apply List.filter_congr;intro i b;rw [List.mem_range] at b;have c:=Dw l ((i:Int)+1) aE aE;have d:=Dw (bt id l) ((i:Int)+1) aE aE;simp only [Function.comp,fH];rw [show (au .int)=(0:Int) from rfl,c,d];grind
def abS (l:List Snap):List (Nat × LI):=[(3,{ σ:=Nat,F:=fun k=>([(2,one (.ptr 0 0)),(3,one (.ptr 1 0)),(6,one (.fz (.nm .snap) (l))),(7,one (.int (l).length)),(8,one (.int k))],[.arr 338 .int 65 ((List.replicate 65 0)),.arr 338 .int 65 ((cn (l.take k)))]),J:=fun k=>k<=l.length,μ:=fun k=>l.length - k })]
def NN (l:List Snap) (id:Int):List (Nat × LI):=[(3,{ σ:=Nat,F:=fun k=>([(1,one (.int (id))),(5,one (.own 0)),(8,one (.fz (.nm .snap) (l))),(9,one (.int (l).length)),(10,one (.int k))],[.row 172 (.nm .snap) ((bt id (l.take k)))]),J:=fun k=>k<=l.length,μ:=fun k=>l.length - k })]
def Fg:Kn:=aO (ae (kC cI) (ae (kC (ba 0 0)) ao)) (aC (Dg 338 .int 65) aw) fun (n,_,_) (xs,_)=>⟨[0<=n/\n<65],[.c (.bool (.atom ((fG xs n))))],none,false⟩
theorem Sw:CK 362 Fg:=ah fun (n,_,_) (xs,_) b=>by
 have c:=cg b;refine av kS [] Tryz.func362 (?_:I64 n->(0:Int)<=n/\n<(↑(65:Nat):Int)/\n.toNat<(65:Nat)/\(I64 (xs.getD n.toNat (au Sh.int))->decide ((0:Int)<xs.getD n.toNat (au Sh.int))=fG xs n));(repeat' with_reducible first|apply aV|refine bl ?_|intro) <;> first | (first | with_reducible rfl | with_reducible assumption | omega | (refine aD ?_ ?_ <;> omega)) | rfl
def AN:Kn:=aO (ae (kC cI) (ae (kC (ba 0 0)) (ae (kC (ba 1 0)) ao))) (aC (Dg 338 .int 65) (aC (Dg 338 .int 65) aw)) fun (n,_,_,_) (xs,b,_)=>⟨[0<=n/\n<65],[.c (.bool (.atom ((fH xs b n))))],none,false⟩
theorem Lf:CK 363 AN:=ah fun (n,_,_,_) (xs,d,_) e=>by
 have f:=cg e;refine av kS [] Tryz.func363 (?_:(fun b=>(fun c=>I64 n->b<=n/\n<(↑(65:Nat):Int)/\n.toNat<(65:Nat)/\(I64 c->(b<c->b<=n/\n<(↑(65:Nat):Int)/\n.toNat<(65:Nat))/\((b<c->I64 (d.getD n.toNat (au Sh.int)))->(decide (b<c) && decide (d.getD n.toNat (au Sh.int)=b))=fH xs d n))) (xs.getD n.toNat (au Sh.int))) (0:Int));(repeat' with_reducible first|apply aV|refine bl ?_|intro) <;> first | (first | with_reducible rfl | with_reducible assumption | omega | (refine aD ?_ ?_ <;> omega)) | rfl
def Hl:Kn:=aO (ae (kC (cL (.nm .snap))) ao) aw fun (l,_) _=>⟨[nch l<=1048576],[.agg (ym .int ((cn l)) 0 65)],none,false⟩
theorem Vr:CK 346 Hl:=ah fun (l,_) _ q=>by
 have r:=cg q;refine av kS (abS l) Tryz.func346 (?_:(fun (f:Nat)=>(fun (d:List Int)=>(fun (m:Nat)=>(fun (g:Nat)=>(fun (c:Int)=>(fun (b:den Sh.int)=>(fun (p:List (den Sh.int))=>l.length*64<=140737488355328->∃ (o:Nat),(l=l/\(↑l.length:Int)=(↑f:Int)/\c=(↑o:Int)/\p=List.replicate g (0:den Sh.int)/\p=cn (List.take o l))/\o<=f/\∀ (s:Nat),(fun (h:List Int)=>(fun (e:List (den Sh.int))=>s<=f->((↑s:Int)<(↑f:Int)->c<=(↑s:Int)/\(↑s:Int)<(↑l.length:Int)/\∀ (x:Snap),l[s]? = some x->fq x ((∀ (i:Nat),c<=h.getD i c/\h.getD i c+(↑x.chunks.length:Int)<=4611686018427387904)/\I64 ((↑s:Int)+1)/\∃ (j:Nat),(l=l/\(↑f:Int)=(↑f:Int)/\(↑s:Int)+1=(↑j:Int)/\List.replicate g (0:den Sh.int)=List.replicate g (0:den Sh.int)/\eu h x.chunks=cn (List.take j l))/\j <= f/\f - j < f - s))/\((↑f:Int)<=(↑s:Int)->e.getD m b=d.getD m b/\e.getD 1 b=d.getD 1 b/\e.getD 2 b=d.getD 2 b/\e.getD 3 b=d.getD 3 b/\e.getD 4 b=d.getD 4 b/\e.getD 5 b=d.getD 5 b/\e.getD 6 b=d.getD 6 b/\e.getD 7 b=d.getD 7 b/\e.getD 8 b=d.getD 8 b/\e.getD 9 b=d.getD 9 b/\e.getD 10 b=d.getD 10 b/\e.getD 11 b=d.getD 11 b/\e.getD 12 b=d.getD 12 b/\e.getD 13 b=d.getD 13 b/\e.getD 14 b=d.getD 14 b/\e.getD 15 b=d.getD 15 b/\e.getD 16 b=d.getD 16 b/\e.getD 17 b=d.getD 17 b/\e.getD 18 b=d.getD 18 b/\e.getD 19 b=d.getD 19 b/\e.getD 20 b=d.getD 20 b/\e.getD 21 b=d.getD 21 b/\e.getD 22 b=d.getD 22 b/\e.getD 23 b=d.getD 23 b/\e.getD 24 b=d.getD 24 b/\e.getD 25 b=d.getD 25 b/\e.getD 26 b=d.getD 26 b/\e.getD 27 b=d.getD 27 b/\e.getD 28 b=d.getD 28 b/\e.getD 29 b=d.getD 29 b/\e.getD 30 b=d.getD 30 b/\e.getD 31 b=d.getD 31 b/\e.getD 32 b=d.getD 32 b/\e.getD 33 b=d.getD 33 b/\e.getD 34 b=d.getD 34 b/\e.getD 35 b=d.getD 35 b/\e.getD 36 b=d.getD 36 b/\e.getD 37 b=d.getD 37 b/\e.getD 38 b=d.getD 38 b/\e.getD 39 b=d.getD 39 b/\e.getD 40 b=d.getD 40 b/\e.getD 41 b=d.getD 41 b/\e.getD 42 b=d.getD 42 b/\e.getD 43 b=d.getD 43 b/\e.getD 44 b=d.getD 44 b/\e.getD 45 b=d.getD 45 b/\e.getD 46 b=d.getD 46 b/\e.getD 47 b=d.getD 47 b/\e.getD 48 b=d.getD 48 b/\e.getD 49 b=d.getD 49 b/\e.getD 50 b=d.getD 50 b/\e.getD 51 b=d.getD 51 b/\e.getD 52 b=d.getD 52 b/\e.getD 53 b=d.getD 53 b/\e.getD 54 b=d.getD 54 b/\e.getD 55 b=d.getD 55 b/\e.getD 56 b=d.getD 56 b/\e.getD 57 b=d.getD 57 b/\e.getD 58 b=d.getD 58 b/\e.getD 59 b=d.getD 59 b/\e.getD 60 b=d.getD 60 b/\e.getD 61 b=d.getD 61 b/\e.getD 62 b=d.getD 62 b/\e.getD 63 b=d.getD 63 b/\e.getD 64 b=d.getD 64 b)) (CO Sh.int h m g)) (cn (List.take s l))) [c,c,c,c,c,c,c,c,c,c,c,c,c,c,c,c,c,c,c,c,c,c,c,c,c,c,c,c,c,c,c,c,c,c,c,c,c,c,c,c,c,c,c,c,c,c,c,c,c,c,c,c,c,c,c,c,c,c,c,c,c,c,c,c,c]) (au Sh.int)) 0) 65) 0) (cn l)) l.length);iterate 3 ((all_goals (repeat' with_reducible first|apply aV|refine bl ?_|intro)); (all_goals try (first | exact bY | exact rfl | exact (abG ab) | exact (HJ ab ab _).1 | exact (HJ ab ab _).2 | exact (by rw [jK (jI _),List.take_of_length_le aE]))); all_goals try first | refine ⟨‹Nat› + 1,?_⟩ | refine ⟨0,?_⟩)
def vC:Kn:=aO (ae (kC (cL (.nm .snap))) (ae (kC cI) ao)) aw fun (l,id,_) _=>⟨[],[.c (.own 0)],some ([.row 172 (.nm .snap) ((bt id l))]),true⟩
theorem Jm:CK 349 vC:=ah fun (l,id,_) _ _=>by
 refine cT kS (NN l id) Tryz.func349 (?_:(fun (b:Nat)=>(fun (d:Int)=>l.length*64<=140737488355328->I64 id->∃ (g:Nat),(id=id/\l=l/\(↑l.length:Int)=d/\0=(↑g:Int)/\bt id (List.take g l)=[])/\g<=b/\∀ (s:Nat),(fun (e:List Snap)=>(fun (f:Int)=>s<=b->((↑s:Int)<d->0<=(↑s:Int)/\(↑s:Int)<(↑l.length:Int)/\∀ (x:Snap),l[s]? = some x->fq x ((¬x.id=id->x.chunks.length*8<=140737488355328->(e.length+[x].length)*64<=140737488355328/\I64 f/\∃ (c:Nat),(id=id/\l=l/\d=d/\f=(↑c:Int)/\e++[x]=bt id (List.take c l))/\c <= b/\b - c < b - s)/\(x.id=id->I64 f/\∃ (c:Nat),(id=id/\l=l/\d=d/\f=(↑c:Int)/\e=bt id (List.take c l))/\c <= b/\b - c < b - s)))/\(d<=(↑s:Int)->e=bt id l)) ((↑s:Int)+1)) (bt id (List.take s l))) (↑b:Int)) l.length);iterate 3 ((all_goals (repeat' with_reducible first|apply aV|refine bl ?_|intro)); (all_goals try (first | exact bY | exact rfl | exact (aeo ab ab ab) | exact (aeN ab ab) | exact (ZW aE) | exact (Zb aE aE))); all_goals try first | refine ⟨‹Nat› + 1,?_⟩ | refine ⟨0,?_⟩)
def WA:bP:=(aQ 349 vC (aQ 346 Hl (aQ 363 AN (aQ 362 Fg XJ))))
def sU:aA Tryz.prog (ak tyT) WA:=(ag Jm (ag Vr (ag Lf (ag Sw kS))))
def Mt (xs:List Int):List (Nat × LI):=[(3,{ σ:=Nat,F:=fun k=>([(0,one (.fn 362 [] [(0,0)])),(3,one (.own 1)),(4,one (.int (k+1)))],[.arr 338 .int 65 ((xs)),.row 3 .int ((lF (fG xs) k))]),J:=fun k=>k<=64,μ:=fun k=>64 - k })]
def Pj (xs:List Int) (b:List Int):List (Nat × LI):=[(3,{ σ:=Nat,F:=fun k=>([(0,one (.fn 363 [] [(0,0),(1,0)])),(3,one (.own 2)),(4,one (.int (k+1)))],[.arr 338 .int 65 ((xs)),.arr 338 .int 65 ((b)),.row 3 .int ((lF (fH xs b) k))]),J:=fun k=>k<=64,μ:=fun k=>64 - k })]
def uU:Kn:=aO (ae (kC (qL 362 [] [(0,0)])) ao) (aC (Dg 338 .int 65) aw) fun _ (xs,_)=>⟨[],[.c (.fz .int ((lF (fG xs) 64)))],none,false⟩
theorem IL:CK 361 uU:=ah fun _ (xs,_) _=>by
 refine av sU (Mt xs) Tryz.func361 (?_:(fun (c:Nat)=>(fun (d:Int)=>∃ (g:Nat),(d=(↑g:Int)+d/\xs=xs/\lF (fG xs) g=[])/\g<=c/\∀ (s:Nat),(fun (f:List Int)=>(fun (b:Int)=>s<=c->(b<=64->(0<=b/\b<65)/\(fG xs b=true->(f.length+[b].length)*8<=140737488355328/\I64 (b+d)/\∃ (e:Nat),(b+d=(↑e:Int)+d/\xs=xs/\f++[b]=lF (fG xs) e)/\e <= c/\c - e < c - s)/\(fG xs b=false->I64 (b+d)/\∃ (e:Nat),(b+d=(↑e:Int)+d/\xs=xs/\f=lF (fG xs) e)/\e <= c/\c - e < c - s))/\(64<b->f=lF (fG xs) c)) ((↑s:Int)+d)) (lF (fG xs) s)) 1) 64);iterate 3 ((all_goals (repeat' with_reducible first|apply aV|refine bl ?_|intro)); (all_goals try (first | exact bY | exact rfl | exact (acR ab) | exact (afz ab) | exact (aeU aE aE) | exact (QA aE) | exact (And.intro aE aE))); all_goals try first | refine ⟨‹Nat› + 1,?_⟩ | refine ⟨0,?_⟩)
def vO:Kn:=aO (ae (kC (qL 363 [] [(0,0),(1,0)])) ao) (aC (Dg 338 .int 65) (aC (Dg 338 .int 65) aw)) fun _ (xs,b,_)=>⟨[],[.c (.fz .int ((lF (fH xs b) 64)))],none,false⟩
theorem IS:CK 361 vO:=ah fun _ (xs,b,_) _=>by
 refine av sU (Pj xs b) Tryz.func361 (?_:(fun (d:Nat)=>(fun (e:Int)=>∃ (h:Nat),(e=(↑h:Int)+e/\xs=xs/\b=b/\lF (fH xs b) h=[])/\h<=d/\∀ (s:Nat),(fun (g:List Int)=>(fun (c:Int)=>s<=d->(c<=64->(0<=c/\c<65)/\(fH xs b c=true->(g.length+[c].length)*8<=140737488355328/\I64 (c+e)/\∃ (f:Nat),(c+e=(↑f:Int)+e/\xs=xs/\b=b/\g++[c]=lF (fH xs b) f)/\f <= d/\d - f < d - s)/\(fH xs b c=false->I64 (c+e)/\∃ (f:Nat),(c+e=(↑f:Int)+e/\xs=xs/\b=b/\g=lF (fH xs b) f)/\f <= d/\d - f < d - s))/\(64<c->g=lF (fH xs b) d)) ((↑s:Int)+e)) (lF (fH xs b) s)) 1) 64);iterate 3 ((all_goals (repeat' with_reducible first|apply aV|refine bl ?_|intro)); (all_goals try (first | exact bY | exact rfl | exact (acR ab) | exact (afz ab) | exact (aeU aE aE) | exact (QA aE) | exact (And.intro aE aE))); all_goals try first | refine ⟨‹Nat› + 1,?_⟩ | refine ⟨0,?_⟩)
def Ws:bP:=(aQ 361 vO (aQ 361 uU WA))
def rQ:aA Tryz.prog (ak tyT) Ws:=(ag IS (ag IL sU))
def KL:Kn:=aO (ae (kA .int 65) ao) aw fun (xs,_) _=>⟨[xs.length=65],[.c (.fz .int ((lF (fG xs) 64)))],none,false⟩
theorem YE:CK 345 KL:=ah fun (xs,_) _ e=>by
 have c:=cg e;refine av rQ [] Tryz.func345 (?_:(fun d=>(fun b=>I64 (xs.getD 0 b)->I64 (xs.getD 1 b)->I64 (xs.getD 2 b)->I64 (xs.getD 3 b)->I64 (xs.getD 4 b)->I64 (xs.getD 5 b)->I64 (xs.getD 6 b)->I64 (xs.getD 7 b)->I64 (xs.getD 8 b)->I64 (xs.getD 9 b)->I64 (xs.getD 10 b)->I64 (xs.getD 11 b)->I64 (xs.getD 12 b)->I64 (xs.getD 13 b)->I64 (xs.getD 14 b)->I64 (xs.getD 15 b)->I64 (xs.getD 16 b)->I64 (xs.getD 17 b)->I64 (xs.getD 18 b)->I64 (xs.getD 19 b)->I64 (xs.getD 20 b)->I64 (xs.getD 21 b)->I64 (xs.getD 22 b)->I64 (xs.getD 23 b)->I64 (xs.getD 24 b)->I64 (xs.getD 25 b)->I64 (xs.getD 26 b)->I64 (xs.getD 27 b)->I64 (xs.getD 28 b)->I64 (xs.getD 29 b)->I64 (xs.getD 30 b)->I64 (xs.getD 31 b)->I64 (xs.getD 32 b)->I64 (xs.getD 33 b)->I64 (xs.getD 34 b)->I64 (xs.getD 35 b)->I64 (xs.getD 36 b)->I64 (xs.getD 37 b)->I64 (xs.getD 38 b)->I64 (xs.getD 39 b)->I64 (xs.getD 40 b)->I64 (xs.getD 41 b)->I64 (xs.getD 42 b)->I64 (xs.getD 43 b)->I64 (xs.getD 44 b)->I64 (xs.getD 45 b)->I64 (xs.getD 46 b)->I64 (xs.getD 47 b)->I64 (xs.getD 48 b)->I64 (xs.getD 49 b)->I64 (xs.getD 50 b)->I64 (xs.getD 51 b)->I64 (xs.getD 52 b)->I64 (xs.getD 53 b)->I64 (xs.getD 54 b)->I64 (xs.getD 55 b)->I64 (xs.getD 56 b)->I64 (xs.getD 57 b)->I64 (xs.getD 58 b)->I64 (xs.getD 59 b)->I64 (xs.getD 60 b)->I64 (xs.getD 61 b)->I64 (xs.getD 62 b)->I64 (xs.getD 63 b)->I64 (xs.getD 64 b)->d.length*8<=140737488355328->d=lF (fG xs) 64) (au Sh.int)) (lF (fG (CO Sh.int xs 0 65)) 64));(repeat' with_reducible first|apply aV|refine bl ?_|intro)
 all_goals (first | exact bY | exact (by rw [jK c]) | exact (by rw [jK c]; assumption))
def BL:Kn:=aO (ae (kC (cL (.nm .snap))) (ae (kC cI) ao)) aw fun (l,id,_) _=>⟨[nch l<=1048576],[.c (.fz .int ((mT l id)))],none,false⟩
def Kt:CK 348 BL:=ah fun (l,id,_) _ g=>by
 have h:=cg g;refine av rQ [] Tryz.func348 (?_:(fun e=>(fun c=>(fun b=>(fun d=>(fun f=>l.length*64<=140737488355328->I64 id->nch l<=1048576/\(I64 (c.getD e b)->I64 (c.getD 1 b)->I64 (c.getD 2 b)->I64 (c.getD 3 b)->I64 (c.getD 4 b)->I64 (c.getD 5 b)->I64 (c.getD 6 b)->I64 (c.getD 7 b)->I64 (c.getD 8 b)->I64 (c.getD 9 b)->I64 (c.getD 10 b)->I64 (c.getD 11 b)->I64 (c.getD 12 b)->I64 (c.getD 13 b)->I64 (c.getD 14 b)->I64 (c.getD 15 b)->I64 (c.getD 16 b)->I64 (c.getD 17 b)->I64 (c.getD 18 b)->I64 (c.getD 19 b)->I64 (c.getD 20 b)->I64 (c.getD 21 b)->I64 (c.getD 22 b)->I64 (c.getD 23 b)->I64 (c.getD 24 b)->I64 (c.getD 25 b)->I64 (c.getD 26 b)->I64 (c.getD 27 b)->I64 (c.getD 28 b)->I64 (c.getD 29 b)->I64 (c.getD 30 b)->I64 (c.getD 31 b)->I64 (c.getD 32 b)->I64 (c.getD 33 b)->I64 (c.getD 34 b)->I64 (c.getD 35 b)->I64 (c.getD 36 b)->I64 (c.getD 37 b)->I64 (c.getD 38 b)->I64 (c.getD 39 b)->I64 (c.getD 40 b)->I64 (c.getD 41 b)->I64 (c.getD 42 b)->I64 (c.getD 43 b)->I64 (c.getD 44 b)->I64 (c.getD 45 b)->I64 (c.getD 46 b)->I64 (c.getD 47 b)->I64 (c.getD 48 b)->I64 (c.getD 49 b)->I64 (c.getD 50 b)->I64 (c.getD 51 b)->I64 (c.getD 52 b)->I64 (c.getD 53 b)->I64 (c.getD 54 b)->I64 (c.getD 55 b)->I64 (c.getD 56 b)->I64 (c.getD 57 b)->I64 (c.getD 58 b)->I64 (c.getD 59 b)->I64 (c.getD 60 b)->I64 (c.getD 61 b)->I64 (c.getD 62 b)->I64 (c.getD 63 b)->I64 (c.getD 64 b)->nch (bt id l)<=1048576/\(I64 (d.getD e b)->I64 (d.getD 1 b)->I64 (d.getD 2 b)->I64 (d.getD 3 b)->I64 (d.getD 4 b)->I64 (d.getD 5 b)->I64 (d.getD 6 b)->I64 (d.getD 7 b)->I64 (d.getD 8 b)->I64 (d.getD 9 b)->I64 (d.getD 10 b)->I64 (d.getD 11 b)->I64 (d.getD 12 b)->I64 (d.getD 13 b)->I64 (d.getD 14 b)->I64 (d.getD 15 b)->I64 (d.getD 16 b)->I64 (d.getD 17 b)->I64 (d.getD 18 b)->I64 (d.getD 19 b)->I64 (d.getD 20 b)->I64 (d.getD 21 b)->I64 (d.getD 22 b)->I64 (d.getD 23 b)->I64 (d.getD 24 b)->I64 (d.getD 25 b)->I64 (d.getD 26 b)->I64 (d.getD 27 b)->I64 (d.getD 28 b)->I64 (d.getD 29 b)->I64 (d.getD 30 b)->I64 (d.getD 31 b)->I64 (d.getD 32 b)->I64 (d.getD 33 b)->I64 (d.getD 34 b)->I64 (d.getD 35 b)->I64 (d.getD 36 b)->I64 (d.getD 37 b)->I64 (d.getD 38 b)->I64 (d.getD 39 b)->I64 (d.getD 40 b)->I64 (d.getD 41 b)->I64 (d.getD 42 b)->I64 (d.getD 43 b)->I64 (d.getD 44 b)->I64 (d.getD 45 b)->I64 (d.getD 46 b)->I64 (d.getD 47 b)->I64 (d.getD 48 b)->I64 (d.getD 49 b)->I64 (d.getD 50 b)->I64 (d.getD 51 b)->I64 (d.getD 52 b)->I64 (d.getD 53 b)->I64 (d.getD 54 b)->I64 (d.getD 55 b)->I64 (d.getD 56 b)->I64 (d.getD 57 b)->I64 (d.getD 58 b)->I64 (d.getD 59 b)->I64 (d.getD 60 b)->I64 (d.getD 61 b)->I64 (d.getD 62 b)->I64 (d.getD 63 b)->I64 (d.getD 64 b)->f.length*8<=140737488355328->f=mT l id))) (lF (fH (CO Sh.int c e 65) (CO Sh.int d e 65)) 64)) (cn (bt id l))) (au Sh.int)) (cn l)) (0:Nat))
 (repeat' with_reducible first|apply aV|refine bl ?_|intro)
 all_goals (first | exact bY | exact (abp ap) | exact (by rw [jK (jI _),jK (jI _)]; exact L_ _ _ _ rfl))
def XA:bP:=(aQ 348 BL (aQ 345 KL Ws))
def uc:aA Tryz.prog (ak tyT) XA:=(ag Kt (ag YE rQ))
def qy:Kn:=aO (ae (kC (cL (.nm .snap))) ao) aw fun (l,_) _=>⟨[nch l<=1048576],[.c (.int (((lf l:Int))))],none,false⟩
def Cy:CK 313 qy:=ah fun (l,_) _ e=>by
 have f:=cg e;refine av uc [] Tryz.func313 (?_:(fun (c:den Sh.int)=>(fun (b:List Int)=>(fun (d:Nat)=>l.length*64<=140737488355328->nch l<=1048576/\(I64 (b.getD 0 c)->I64 (b.getD 1 c)->I64 (b.getD 2 c)->I64 (b.getD 3 c)->I64 (b.getD 4 c)->I64 (b.getD 5 c)->I64 (b.getD 6 c)->I64 (b.getD 7 c)->I64 (b.getD 8 c)->I64 (b.getD 9 c)->I64 (b.getD 10 c)->I64 (b.getD 11 c)->I64 (b.getD 12 c)->I64 (b.getD 13 c)->I64 (b.getD 14 c)->I64 (b.getD 15 c)->I64 (b.getD 16 c)->I64 (b.getD 17 c)->I64 (b.getD 18 c)->I64 (b.getD 19 c)->I64 (b.getD 20 c)->I64 (b.getD 21 c)->I64 (b.getD 22 c)->I64 (b.getD 23 c)->I64 (b.getD 24 c)->I64 (b.getD 25 c)->I64 (b.getD 26 c)->I64 (b.getD 27 c)->I64 (b.getD 28 c)->I64 (b.getD 29 c)->I64 (b.getD 30 c)->I64 (b.getD 31 c)->I64 (b.getD 32 c)->I64 (b.getD 33 c)->I64 (b.getD 34 c)->I64 (b.getD 35 c)->I64 (b.getD 36 c)->I64 (b.getD 37 c)->I64 (b.getD 38 c)->I64 (b.getD 39 c)->I64 (b.getD 40 c)->I64 (b.getD 41 c)->I64 (b.getD 42 c)->I64 (b.getD 43 c)->I64 (b.getD 44 c)->I64 (b.getD 45 c)->I64 (b.getD 46 c)->I64 (b.getD 47 c)->I64 (b.getD 48 c)->I64 (b.getD 49 c)->I64 (b.getD 50 c)->I64 (b.getD 51 c)->I64 (b.getD 52 c)->I64 (b.getD 53 c)->I64 (b.getD 54 c)->I64 (b.getD 55 c)->I64 (b.getD 56 c)->I64 (b.getD 57 c)->I64 (b.getD 58 c)->I64 (b.getD 59 c)->I64 (b.getD 60 c)->I64 (b.getD 61 c)->I64 (b.getD 62 c)->I64 (b.getD 63 c)->I64 (b.getD 64 c)->(CO Sh.int b 0 65).length=65/\(d*8<=140737488355328->(↑d:Int)=(↑(lf l):Int)))) (lF (fG (CO Sh.int b 0 65)) 64).length) (cn l)) (au Sh.int));(repeat' with_reducible first|apply aV|refine bl ?_|intro)
 all_goals (first | exact bY | exact (qS 65 0) | exact (by rw [jK (jI _)]; exact Hs _))
def GG:Kn:=aO (ae (kC (cL (.nm .snap))) (ae (kC (cL .int)) ao)) aw fun (l,m,_) _=>⟨[nch l<=1048576],[.c (.int (((lf (l++[⟨0,0,m,false,⟨[]⟩⟩]):Int))))],none,false⟩
def Wg:CK 343 GG:=ah fun (l,m,_) _ h=>by
 have j:=cg h;refine av uc [] Tryz.func343 (?_:(fun d=>(fun e=>(fun c=>(fun b=>(fun f=>l.length*64<=140737488355328->m.length*8<=140737488355328->nch l<=1048576/\(I64 (b.getD e c)->I64 (b.getD 1 c)->I64 (b.getD 2 c)->I64 (b.getD 3 c)->I64 (b.getD 4 c)->I64 (b.getD 5 c)->I64 (b.getD 6 c)->I64 (b.getD 7 c)->I64 (b.getD 8 c)->I64 (b.getD 9 c)->I64 (b.getD 10 c)->I64 (b.getD 11 c)->I64 (b.getD 12 c)->I64 (b.getD 13 c)->I64 (b.getD 14 c)->I64 (b.getD 15 c)->I64 (b.getD 16 c)->I64 (b.getD 17 c)->I64 (b.getD 18 c)->I64 (b.getD 19 c)->I64 (b.getD 20 c)->I64 (b.getD 21 c)->I64 (b.getD 22 c)->I64 (b.getD 23 c)->I64 (b.getD 24 c)->I64 (b.getD 25 c)->I64 (b.getD 26 c)->I64 (b.getD 27 c)->I64 (b.getD 28 c)->I64 (b.getD 29 c)->I64 (b.getD 30 c)->I64 (b.getD 31 c)->I64 (b.getD 32 c)->I64 (b.getD 33 c)->I64 (b.getD 34 c)->I64 (b.getD 35 c)->I64 (b.getD 36 c)->I64 (b.getD 37 c)->I64 (b.getD 38 c)->I64 (b.getD 39 c)->I64 (b.getD 40 c)->I64 (b.getD 41 c)->I64 (b.getD 42 c)->I64 (b.getD 43 c)->I64 (b.getD 44 c)->I64 (b.getD 45 c)->I64 (b.getD 46 c)->I64 (b.getD 47 c)->I64 (b.getD 48 c)->I64 (b.getD 49 c)->I64 (b.getD 50 c)->I64 (b.getD 51 c)->I64 (b.getD 52 c)->I64 (b.getD 53 c)->I64 (b.getD 54 c)->I64 (b.getD 55 c)->I64 (b.getD 56 c)->I64 (b.getD 57 c)->I64 (b.getD 58 c)->I64 (b.getD 59 c)->I64 (b.getD 60 c)->I64 (b.getD 61 c)->I64 (b.getD 62 c)->I64 (b.getD 63 c)->I64 (b.getD 64 c)->(∀ (i:Nat),(fun g=>0<=g/\g+(↑m.length:Int)<=4611686018427387904) ((CO Sh.int b e d).getD i 0))/\f.length=d/\((lF (fG f) 64).length*8<=140737488355328->(↑(lF (fG f) 64).length:Int)=(↑(lf (l++[Snap.mk 0 0 m false (Str.mk [])])):Int)))) (CO Sh.int (eu (CO Sh.int b e d) m) e d)) (cn l)) (au Sh.int)) (0:Nat)) (65:Nat));(repeat' with_reducible first|apply aV|refine bl ?_|intro)
 all_goals (first | exact bY | exact (qS 65 0) | exact (Fy (s:=.int) ap ap _).1 | exact (Fy (s:=.int) ap ap _).2 | exact (by rw [jK (s:=.int) (xs:=eu _ _) (by rw [rU,qS]),jK (jI l)]; have:=Hs (l++[Snap.mk 0 0 m false ⟨[]⟩]); rw [kN] at this; exact this))
def XU:bP:=(aQ 343 GG (aQ 313 qy XA))
def gv:aA Tryz.prog (ak tyT) XU:=(ag Wg (ag Cy uc))
def Cd {α:Type} (l:List α) (i:Nat) (x:α):List α:=l.take i++x :: l.drop i
def RN {α:Type} (l:List α) (i:Int):List α:=l.take i.toNat++l.drop (i+1).toNat
def cz (s:State) (c:Command):Int:=if 0<=al Opn.set c.set s.opens/\¬ (s.opens.getD (al Opn.set c.set s.opens).toNat (au (.nm .opn))).client=c.client then -1 else al Opn.set c.set s.opens
def eV (s:State) (c:Command):State × Reply:=if 0<=al Opn.set c.set s.opens then (s,⟨16,(s.opens.getD (al Opn.set c.set s.opens).toNat (au (.nm .opn))).client⟩)
 else ({ s with opens:=Cd s.opens (s.opens.takeWhile fun y=>decide (y.set<c.set)).length ⟨c.set,c.client⟩ },⟨0,0⟩)
def eT (s:State) (c:Command):State × Reply:=if cz s c<0 then (s,⟨15,0⟩) else ({ s with opens:=RN s.opens (cz s c) },⟨0,0⟩)
def eJ (s:State) (c:Command):State × Reply:=
 if cz s c<0 then (s,⟨15,0⟩)
 else if 16<=(s.snaps.length:Int)\/1048576<=s.next then (s,⟨20,0⟩)
 else if ¬ s.quota=0/\s.quota<(lf (s.snaps++[⟨0,0,c.chunks,false,⟨[]⟩⟩]):Int) then (s,⟨19,0⟩)
 else ({ s with next:=s.next+1,opens:=RN s.opens (cz s c),snaps:=s.snaps++[⟨s.next,c.set,c.chunks,false,⟨[]⟩⟩] },⟨0,s.next⟩)
def ey (s:State) (b:Nat):State × Reply:=
 if (s.snaps.getD b (au (.nm .snap))).held=true then (s,⟨17,0⟩)
 else if mw s b=true then (s,⟨18,0⟩)
 else ({ s with snaps:=bt (s.snaps.getD b (au (.nm .snap))).id s.snaps },⟨0,(mT s.snaps (s.snaps.getD b (au (.nm .snap))).id).length⟩)
def gg (s:State) (b:Nat):State × Reply:=(s,⟨0,(s.snaps.getD b (au (.nm .snap))).chunks.length⟩)
def gD (b:Bool) (s:State) (c:Nat):State × Reply:=
 if (s.snaps.getD c (au (.nm .snap))).held=b then (s,⟨0,0⟩)
 else ({ s with snaps:=s.snaps.set c { s.snaps.getD c (au (.nm .snap)) with held:=b } },⟨0,1⟩)
def sQ (c:Command) (s:State) (b:Nat):State × Reply:=({ s with snaps:=s.snaps.set b { s.snaps.getD b (au (.nm .snap)) with tag:=c.text } },⟨0,0⟩)
def um (c:Command) (s:State):State × Reply:=({ s with keep:=c.n },⟨0,0⟩)
def oX (c:Command) (s:State):State × Reply:=({ s with quota:=c.n },⟨0,lf s.snaps⟩)
def dX {c:α->Int} {b:Int} {l:List α} (h:0<=al c b l):al c b l<(l.length:Int):=by
 unfold al at *;split
 ·rename_i i d;have:=(afZ.1 d).1;omega
 omega
theorem Qe {s:State} {c:Command} (h:0<=cz s c):cz s c+1<=(s.opens.length:Int):=by
 unfold cz at *;split
 ·grind
 rename_i b; rw [if_neg b] at h;have:=dX h;omega
def Jk (i:Int) (m:List Opn) (l:List Opn) (b:0<=i/\i<=(l.length:Int)) (d:l.length<1048576) (e:m.length=1):Sat Tryz.prog (ak tyT) 341 [.c (.own 0),.c (.int (i)),.c (.fz (.nm .opn) (m))] [.row 139 (.nm .opn) (l)] ⟨[0<=i/\i<=(l.length:Int),l.length<1048576,m.length=1],[.c (.own 0)],some ([.row 139 (.nm .opn) ((l.take i.toNat++m++l.drop i.toNat))]),false⟩:=xY i l m b d e
def wL:Kn:=aO (ae (kC (eI 0)) (ae (kC cI) (ae (kC (cL (.nm .opn))) ao))) (aC (eG 139 (.nm .opn)) aw) fun (_,i,m,_) (l,_)=>⟨[0<=i/\i<=(l.length:Int),l.length<1048576,m.length=1],[.c (.own 0)],some ([.row 139 (.nm .opn) ((l.take i.toNat++m++l.drop i.toNat))]),false⟩
def JR:CK 341 wL:=ah fun (_,i,m,_) (l,_) b=>Jk i m l (cg b) (cg (eP b)) (cg (eP (eP b)))
def DH (i:Int) (l:List Sess) (m:List Sess) (b:0<=i/\i<=(l.length:Int)) (d:l.length<1048576) (e:m.length=1):Sat Tryz.prog (ak tyT) 263 [.c (.own 0),.c (.int (i)),.c (.own 1)] [.row 137 (.nm .sess) (l),.row 137 (.nm .sess) (m)] ⟨[0<=i/\i<=(l.length:Int),l.length<1048576,m.length=1],[.c (.own 0)],some ([.row 137 (.nm .sess) ((l.take i.toNat++m++l.drop i.toNat)),.row 137 (.nm .sess) ((m))]),false⟩:=xR i l m b d e
def rT:Kn:=aO (ae (kC (eI 0)) (ae (kC cI) (ae (kC (eI 1)) ao))) (aC (eG 137 (.nm .sess)) (aC (eG 137 (.nm .sess)) aw)) fun (_,i,_,_) (l,m,_)=>⟨[0<=i/\i<=(l.length:Int),l.length<1048576,m.length=1],[.c (.own 0)],some ([.row 137 (.nm .sess) ((l.take i.toNat++m++l.drop i.toNat)),.row 137 (.nm .sess) ((m))]),false⟩
def CW:CK 263 rT:=ah fun (_,i,_,_) (l,m,_) b=>DH i l m (cg b) (cg (eP b)) (cg (eP (eP b)))
def IQ (i:Int) (j:Int) (l:List Opn) (b:0<=i/\i<(l.length:Int)/\j=i+1):Sat Tryz.prog (ak tyT) 344 [.c (.own 0),.c (.int (i)),.c (.int (j))] [.row 139 (.nm .opn) (l)] ⟨[0<=i/\i<(l.length:Int)/\j=i+1],[.c (.own 0)],some ([.row 139 (.nm .opn) ((l.take i.toNat++l.drop j.toNat))]),false⟩:=Cj i j l b
def vL:Kn:=aO (ae (kC (eI 0)) (ae (kC cI) (ae (kC cI) ao))) (aC (eG 139 (.nm .opn)) aw) fun (_,i,j,_) (l,_)=>⟨[0<=i/\i<(l.length:Int)/\j=i+1],[.c (.own 0)],some ([.row 139 (.nm .opn) ((l.take i.toNat++l.drop j.toNat))]),false⟩
def Jw:CK 344 vL:=ah fun (_,i,j,_) (l,_) b=>IQ i j l (cg b)
def vI:Kn:=aO (ae (kC (ba 0 0)) (ae (kT (.nm .command)) ao)) (qD 0 aw) fun (_,c,_) (z,_)=>⟨[],[.c (.int ((cz z c)))],none,false⟩
theorem Iq:CK 342 vI:=ah fun (_,c,_) (z,_) _=>by
 obtain ⟨v,h,j,m,o,d,p⟩:=z;refine av gv [] Tryz.func342 (?_:(fun g=>(fun b=>(fun e=>(fun f=>bF c (I64 b->(e->e/\b<(↑d.length:Int))/\((e->I64 f.set/\I64 f.client)->(e/\¬f.client=c.client -> -1=g)/\(b<0\/f.client=c.client->b=g)))) (d.getD b.toNat (au (Sh.nm NT.opn)))) (0<=b)) (al Opn.set c.set d)) (cz (State.mk v h j m o d p) c));(repeat' with_reducible first|apply aV|refine bl ?_|intro)
 all_goals (first | exact bY | exact dX ab | (unfold cz; grind))
def Kq:Kn:=aO (ae (kC (ba 0 0)) (ae (kC (ba 1 0)) ao)) (aC (yI 35 (.nm .command)) (qD 1 aw)) fun _ (c,z,_)=>⟨[],[.agg (cellsOf (.nm .reply) ((um c z).2))],some (([.box 35 (cellsOf (.nm .command) (c))]++rz 1 ((um c z).1))),false⟩
def abe:CK 311 Kq:=ah fun _ (c,z,_) _=>by
 obtain ⟨v,d,j,e,f,g,h⟩:=z;refine bz gv [] Tryz.func311 (?_:(fun b=>0=b.snd.code/\0=b.snd.n/\bu c c (dq (State.mk v d c.n e f g h) b.fst)) (um c (State.mk v d j e f g h)));(repeat' with_reducible first|apply aV|refine bl ?_|intro)
 all_goals (first | exact bY | exact rfl)
def LR:Kn:=aO (ae (kC (ba 0 0)) (ae (kC (ba 1 0)) ao)) (aC (yI 35 (.nm .command)) (qD 1 aw)) fun _ (c,z,_)=>⟨[nch z.snaps<=1048576],[.agg (cellsOf (.nm .reply) ((oX c z).2))],some (([.box 35 (cellsOf (.nm .command) (c))]++rz 1 ((oX c z).1))),false⟩
def Z_:CK 312 LR:=ah fun _ (c,z,_) j=>by
 obtain ⟨v,e,f,m,g,h,b⟩:=z;have o:nch b<=1048576:=cg j;refine bz gv [] Tryz.func312 (?_:(fun d=>nch b<=1048576/\(I64 (↑(lf b):Int)->0=d.snd.code/\(↑(lf b):Int)=d.snd.n/\bu c c (dq (State.mk v e f c.n g h b) d.fst))) (oX c (State.mk v e f m g h b)));(repeat' with_reducible first|apply aV|refine bl ?_|intro)
 all_goals (first | exact bY | exact rfl)
def Fx:Kn:=aO (ae (kC (ba 0 0)) (ae (kC cI) ao)) (qD 0 aw) fun (_,i,_) (z,_)=>⟨[0<=i/\i<(z.snaps.length:Int),nch z.snaps<=1048576],[.agg (cellsOf (.nm .reply) ((ey z i.toNat).2))],some ((rz 0 ((ey z i.toNat).1))),false⟩
theorem Ue:CK 315 Fx:=ah fun (_,i,_) (z,_) g=>by
 obtain ⟨v,h,j,m,o,p,b⟩:=z;have s:0<=i/\i<(b.length:Int):=cg g;have t:nch b<=1048576:=cg (eP g);refine bz gv [] Tryz.func315 (?_:(fun e=>(fun f=>(fun d=>(fun c=>(fun q=>I64 i->e<=i/\i<(↑b.length:Int)/\fq d ((d.held=true->I64 17->I64 e->17=c.snd.code/\q)/\(d.held=false->(mw f i=true->I64 18->I64 e->18=c.snd.code/\q)/\(mw f i=false->nch b<=1048576/\((mT b d.id).length*8<=140737488355328->e=c.snd.code/\(↑(mT b d.id).length:Int)=c.snd.n/\dq (State.mk v h j m o p (bt d.id b)) c.fst))))) (e=c.snd.n/\dq f c.fst)) (ey f i.toNat)) (b.getD i.toNat (au (Sh.nm NT.snap)))) (State.mk v h j m o p b)) (0:Int));have r:((i.toNat:Nat):Int)=i:=by omega
 (repeat' with_reducible first|apply aV|refine bl ?_|intro)
 all_goals (first | exact bY | ((simp only [ey,r]; simp_all) <;> (intros; omega)) | (simp only [ey,r]; grind))
def Nf:Kn:=aO (ae (kC cI) (ae (kC (ba 0 0)) ao)) (qD 0 aw) fun (i,_,_) (z,_)=>⟨[0<=i/\i<(z.snaps.length:Int)],[.agg (cellsOf (.nm .reply) ((gg z i.toNat).2))],some ((rz 0 ((gg z i.toNat).1))),false⟩
def ZZ:CK 316 Nf:=ah fun (i,_,_) (z,_) d=>by
 obtain ⟨v,e,f,g,h,j,b⟩:=z;have m:0<=i/\i<(b.length:Int):=cg d;refine bz gv [] Tryz.func316 (?_:(fun c=>I64 i->0<=i/\i<(↑b.length:Int)/\fq (b.getD i.toNat (au (Sh.nm NT.snap))) (0=(gg c i.toNat).snd.code/\(↑(b.getD i.toNat (au (Sh.nm NT.snap))).chunks.length:Int)=(gg c i.toNat).snd.n/\dq c (gg c i.toNat).fst)) (State.mk v e f g h j b));(repeat' with_reducible first|apply aV|refine bl ?_|intro)
 all_goals (first | exact bY | rfl)
def GK:Kn:=aO (ae (kC cI) (ae (kC (ba 0 0)) (ae (kC (ba 1 0)) ao))) (aC (yI 35 (.nm .command)) (qD 1 aw)) fun (i,_,_,_) (c,z,_)=>⟨[0<=i/\i<(z.snaps.length:Int)],[.agg (cellsOf (.nm .reply) ((sQ c z i.toNat).2))],some (([.box 35 (cellsOf (.nm .command) (c))]++rz 1 ((sQ c z i.toNat).1))),false⟩
def Te:CK 317 GK:=ah fun (i,_,_,_) (c,z,_) o=>by
 obtain ⟨v,f,g,h,j,m,b⟩:=z;have p:0<=i/\i<(b.length:Int):=cg o;refine bz gv [] Tryz.func317 (?_:(fun e=>(fun d=>I64 i->0<=i/\i<(↑b.length:Int)/\fq d (0=e.snd.code/\0=e.snd.n/\bu c c (dq (State.mk v f g h j m (b.set i.toNat (Snap.mk d.id d.set d.chunks d.held c.text))) e.fst))) (b.getD i.toNat (au (Sh.nm NT.snap)))) (sQ c (State.mk v f g h j m b) i.toNat));(repeat' with_reducible first|apply aV|refine bl ?_|intro)
 all_goals (first | exact bY | exact rfl)
def zx:Kn:=aO (ae (kC cI) (ae (kC (ba 0 0)) (ae (kC (ba 4 0)) ao))) (qD 0 (aC (dC 4 (ax cB dA)) aw)) fun (i,_,_,_) (z,(b,_),_)=>⟨[0<=i/\i<(z.snaps.length:Int)],[.agg (cellsOf (.nm .reply) ((gD b z i.toNat).2))],some ((rz 0 ((gD b z i.toNat).1)++[.box 4 ([.bool (.atom ((b)))])])),false⟩
theorem Oz:CK 304 zx:=ah fun (i,_,_,_) (z,(b,_),_) o=>by
 obtain ⟨v,f,g,h,j,m,d⟩:=z;have p:0<=i/\i<(d.length:Int):=cg o;refine bz gv [] Tryz.func304 (?_:(fun c=>(fun e=>I64 i->0<=i/\i<(↑d.length:Int)/\fq c (((c.held == b)=true->0=e.snd.code/\0=e.snd.n/\bO (State.mk v f g h j m d) e.fst (b=b))/\((c.held == b)=false->0=e.snd.code/\1=e.snd.n/\bO (State.mk v f g h j m (d.set i.toNat (Snap.mk c.id c.set c.chunks b c.tag))) e.fst (b=b)))) (gD b (State.mk v f g h j m d) i.toNat)) (d.getD i.toNat (au (Sh.nm NT.snap))));(repeat' with_reducible first|apply aV|refine bl ?_|intro)
 all_goals (first | exact bY | ((simp only [gD]; simp_all) <;> (intros; omega)) | (simp only [gD]; grind))
def XZ:bP:=(aQ 304 zx (aQ 317 GK (aQ 316 Nf (aQ 315 Fx (aQ 312 LR (aQ 311 Kq (aQ 342 vI (aQ 344 vL (aQ 263 rT (aQ 341 wL XU))))))))))
def lp:aA Tryz.prog (ak tyT) XZ:=(ag Oz (ag Te (ag ZZ (ag Ue (ag Z_ (ag abe (ag Iq (ag Jw (ag CW (ag JR gv))))))))))
theorem LU {p:α->Bool} {l:List α} (h:(l.take k).all p=true) (c:k<=l.length) (b:(l.length:Int)<=k\/(k:Int)<l.length/\∃ x,l[k]? = some x/\p x=false):k=(l.takeWhile p).length:=by
 induction l generalizing k with
 | nil=>simp at c; simp [c]
 | cons a l d=>
  cases k with
  | zero=>
   rcases b with b | ⟨_,x,e,f⟩
   ·grind
   simp_all
  | succ k=>
   simp only [af7,List.all_cons,Bool.and_eq_true] at h;rw [List.takeWhile_cons,h.1,if_pos rfl,List.length_cons];congr 1;refine d h.2 (by simpa using c) ?_;rcases b with b | ⟨g,x,e,f⟩
   ·grind
   grind
variable {op:List Opn}
theorem ad2 {v b d e:Int} {f:List Sess} {g:List Snap} {c:Command} {s:Nat} (h:al Opn.set c.set op<0) (j:s<=op.length) (m:(op.take s).all (fun y=>decide (y.set<c.set))=true) (p:(op.length:Int)<=s\/c.set<=(op.getD s (au (.nm .opn))).set):op.take s++[Opn.mk c.set c.client]++op.drop s=(eV (State.mk v b d e f op g) c).1.opens:=by
 have o:¬ 0<=al Opn.set c.set op:=by omega
 simp only [eV,if_neg o];have:s=(op.takeWhile fun y=>decide (y.set<c.set)).length:=by
  refine LU m j ?_;grind
 rw [<- this]; simp [Cd]
def ad5 {c:Command} {s:Nat} (b:(op.take s).all (fun y=>decide (y.set<c.set))=true) (h:(s:Int)<op.length) (e:(op.getD s (au (.nm .opn))).set<c.set):(op.take (s+1)).all (fun y=>decide (y.set<c.set))=true:=by
 rw [ai (gd (d:=au (.nm .opn)) h),List.all_append,b]; simp only [List.all_cons,decide_eq_true e]; rfl
section
variable {v nx kp qt:Int} {se:List Sess} {op:List Opn} {sn:List Snap} {c:Command}
def bgN (h:al Opn.set c.set op<0):eV (State.mk v nx kp qt se op sn) c=(State.mk v nx kp qt se (Cd op (op.takeWhile fun y=>decide (y.set<c.set)).length ⟨c.set,c.client⟩) sn,⟨0,0⟩):=by
 have b:¬ 0<=al Opn.set c.set op:=by omega
 simp only [eV,if_neg b]
def bgY (h:0<=al Opn.set c.set op):eV (State.mk v nx kp qt se op sn) c=(State.mk v nx kp qt se op sn,⟨16,(op.getD (al Opn.set c.set op).toNat (au (.nm .opn))).client⟩):=by
 simp only [eV,if_pos h]
def abY (h:cz (State.mk v nx kp qt se op sn) c<0):eT (State.mk v nx kp qt se op sn) c=(State.mk v nx kp qt se op sn,⟨15,0⟩):=by
 simp only [eT,if_pos h]
def abN (h:0<=cz (State.mk v nx kp qt se op sn) c):eT (State.mk v nx kp qt se op sn) c=(State.mk v nx kp qt se (op.take (cz (State.mk v nx kp qt se op sn) c).toNat++op.drop (cz (State.mk v nx kp qt se op sn) c+1).toNat) sn,⟨0,0⟩):=by
 have b:¬ cz (State.mk v nx kp qt se op sn) c<0:=by omega
 simp only [eT,if_neg b,RN]
end
def Su (c:Command) (v:Int) (b:Int) (d:Int) (e:Int) (f:List Sess) (op:List Opn) (g:List Snap):List (Nat × LI):=[(5,{ σ:=Nat,F:=fun k=>([(0,one (.ptr 0 0)),(3,one (.ptr 4 0)),(4,one (.ptr 5 0)),(6,one (.int k))],(rz 0 (State.mk v b d e f op g)++[.box 35 (cellsOf (.nm .command) (c)),.box 78 ([.int ((0)),.int ((0))])])),J:=fun k=>k<=op.length/\(op.take k).all (fun y=>decide (y.set<c.set))=true,μ:=fun k=>op.length - k })]
def Aj:Kn:=aO (ae (kC (ba 0 0)) (ae (kT (.nm .command)) ao)) (qD 0 aw) fun (_,c,_) (z,_)=>⟨[z.opens.length<1048576],[.agg (cellsOf (.nm .reply) ((eV z c).2))],some ((rz 0 ((eV z c).1))),false⟩
theorem Pq:CK 306 Aj:=ah fun (_,c,_) (z,_) A=>by
 obtain ⟨v,g,h,j,m,op,o⟩:=z;have B:op.length<1048576:=cg A;refine bz lp (Su c v g h j m op o) Tryz.func306 (?_:(fun (q:den (Sh.nm NT.opn))=>(fun (f:Int)=>(fun (b:Int)=>(fun (e:Int)=>(fun (p:State × Reply)=>(fun (w:Prop)=>bF c (I64 e->(b<=e->b<=e/\e<f/\(I64 (op.getD e.toNat q).set->I64 (op.getD e.toNat q).client->16=p.snd.code/\(op.getD e.toNat q).client=p.snd.n/\dq (State.mk v g h j m op o) p.fst))/\(e<b->∃ (t:Nat),(b=(↑t:Int)/\w)/\(t<=op.length/\((List.take t op).all fun (y:Opn)=>decide (y.set<c.set))=true)/\∀ (s:Nat),(fun (u:Int)=>(fun (d:Int)=>s<=op.length/\((List.take s op).all fun (y:Opn)=>decide (y.set<c.set))=true->(d<f->b<=d/\d<f)/\((d<f->I64 u/\I64 (op.getD s q).client)->(d<f/\u<c.set->I64 (d+1)/\∃ (r:Nat),(d+1=(↑r:Int)/\w)/\(r <= op.length/\((List.take r op).all fun (y:Opn)=>decide (y.set<c.set))=true)/\op.length - r < op.length - s)/\(f<=d\/c.set<=u->((b<=d/\d<=f)/\op.length<1048576/\[Opn.mk c.set c.client].length=1)/\b=p.snd.code/\b=p.snd.n/\dq (State.mk v g h j m (List.take s op++[Opn.mk c.set c.client]++List.drop s op) o) p.fst))) (↑s:Int)) (op.getD s q).set))) (v=v/\g=g/\h=h/\j=j/\m=m/\op=op/\o=o/\bu c c (b=b/\b=b))) (eV (State.mk v g h j m op o) c)) (al Opn.set c.set op)) 0) (↑op.length:Int)) (au (Sh.nm NT.opn)));iterate 3 ((all_goals (repeat' with_reducible first|apply aV|refine bl ?_|intro)); (all_goals try (first | exact bY | exact rfl | exact dX ab | exact (ad5 ab ab ab) | exact (ad2 ab aE ab ap) | (rw [bgN]; omega) | (rw [bgY]; omega))); all_goals try first | refine ⟨‹Nat› + 1,?_⟩ | refine ⟨0,?_⟩)
def zW:Kn:=aO (ae (kC (ba 0 0)) (ae (kT (.nm .command)) ao)) (qD 0 aw) fun (_,c,_) (z,_)=>⟨[z.opens.length<1048576],[.agg (cellsOf (.nm .reply) ((eT z c).2))],some ((rz 0 ((eT z c).1))),false⟩
def Pw:CK 310 zW:=ah fun (_,c,_) (z,_) r=>by
 obtain ⟨v,f,g,j,m,op,o⟩:=z;have s:op.length<1048576:=cg r;refine bz lp [] Tryz.func310 (?_:(fun b=>(fun e=>(fun p=>(fun d=>(fun q=>bF c (I64 d->(d<b->I64 15->I64 b->15=p.code/\b=p.n/\dq e (eT e c).fst)/\(b<=d->I64 q/\(b<=d/\d<(↑op.length:Int)/\q=q)/\b=p.code/\b=p.n/\dq (State.mk v f g j m (List.take d.toNat op++List.drop q.toNat op) o) (eT e c).fst))) (d+1)) (cz e c)) (eT e c).snd) (State.mk v f g j m op o)) (0:Int));have t:0<=cz (State.mk v f g j m op o) c->cz (State.mk v f g j m op o) c+1<=(op.length:Int):=fun h=>Qe h;(repeat' with_reducible first|apply aV|refine bl ?_|intro)
 all_goals (first | exact bY | (rw [abN]; omega) | (rw [abY]; omega))
def vp:Kn:=aO (ae (kC (ba 0 0)) (ae (kT (.nm .command)) ao)) (qD 0 aw) fun (_,c,_) (z,_)=>⟨[nch z.snaps<=1048576,z.snaps.length<1048576,z.opens.length<1048576,0<=z.next],[.agg (cellsOf (.nm .reply) ((eJ z c).2))],some ((rz 0 ((eJ z c).1))),false⟩
theorem IH:CK 308 vp:=ah fun (_,c,_) (z,_) p=>by
 obtain ⟨v,e,q,f,r,op,d⟩:=z;have w:nch d<=1048576:=cg p;have y:d.length<1048576:=cg (eP p);have A:op.length<1048576:=cg (eP (eP p));have B:0<=e:=cg (eP (eP (eP p)));refine bz lp [] Tryz.func308 (?_:(fun u=>(fun j=>(fun b=>(fun s=>(fun o=>(fun m=>(fun g=>(fun t=>bF c (I64 g->(g<b->I64 15->I64 b->15=m.code/\t)/\(b<=g->(16<=(↑d.length:Int)\/1048576<=e->I64 20->I64 b->20=m.code/\t)/\((↑d.length:Int)<16/\e<1048576->(¬f=b->nch d<=1048576)/\((¬f=b->I64 s)->(¬f=b/\f<s->I64 19->I64 b->19=m.code/\t)/\(f=b\/s<=f->c.chunks.length*8<=140737488355328->(d.length+[u].length)*64<=140737488355328/\I64 (e+j)/\I64 (g+j)/\(b<=g/\g<(↑op.length:Int)/\g+j=g+j)/\b=m.code/\e=m.n/\dq (State.mk v (e+j) q f r (List.take g.toNat op++List.drop (g+j).toNat op) (d++[u])) (eJ o c).fst)))))) (b=m.n/\dq o (eJ o c).fst)) (cz o c)) (eJ o c).snd) (State.mk v e q f r op d)) (↑(lf (d++[Snap.mk b b c.chunks false (Str.mk [])])):Int)) (0:Int)) (1:Int)) (Snap.mk e c.set c.chunks false (Str.mk [])));have C:0<=cz (State.mk v e q f r op d) c->cz (State.mk v e q f r op d) c+1<=(op.length:Int):=fun h=>Qe h;(repeat' with_reducible first|apply aV|refine bl ?_|intro)
 all_goals (first | exact bY | (simp only [eJ,RN]; grind) | (simp only [List.length_cons,List.length_nil]; omega))
def NS:Kn:=aO (ae (kC cI) (ae (kC (ba 0 0)) ao)) (qD 0 aw) fun (i,_,_) (z,_)=>⟨[0<=i/\i<(z.snaps.length:Int),nch z.snaps<=1048576],[.agg (cellsOf (.nm .reply) ((ey z i.toNat).2))],some ((rz 0 ((ey z i.toNat).1))),false⟩
def acm:CK 314 NS:=ah fun (i,_,_) (z,_) d=>by
 obtain ⟨v,e,f,g,h,op,c⟩:=z;have j:0<=i/\i<(c.length:Int):=cg d;have m:nch c<=1048576:=cg (eP d);refine bz lp [] Tryz.func314 (?_:(fun b=>I64 i->(0<=i/\i<(↑c.length:Int))/\nch c<=1048576/\(I64 b.snd.code->I64 b.snd.n->b.snd.code=b.snd.code/\b.snd.n=b.snd.n/\dq b.fst b.fst)) (ey (State.mk v e f g h op c) i.toNat));(repeat' with_reducible first|apply aV|refine bl ?_|intro)
 all_goals (first | exact bY | exact rfl)
def XG:bP:=(aQ 314 NS (aQ 308 vp (aQ 310 zW (aQ 306 Aj XZ))))
def gy:aA Tryz.prog (ak tyT) XG:=(ag acm (ag IH (ag Pw (ag Pq lp))))
def bD (f:State->Nat->State × Reply) (c:Command) (s:State):State × Reply:=if al Snap.id c.id s.snaps<0 then (s,⟨15,0⟩) else f s (al Snap.id c.id s.snaps).toNat
section
variable {v nx kp qt:Int} {se:List Sess} {op:List Opn} {sn:List Snap} {c:Command} {f:State->Nat->State × Reply}
def sdY (h:al Snap.id c.id sn<0):bD f c (State.mk v nx kp qt se op sn)=(State.mk v nx kp qt se op sn,⟨15,0⟩):=by
 simp only [bD,if_pos h]
def sdN (h:0<=al Snap.id c.id sn):bD f c (State.mk v nx kp qt se op sn)=f (State.mk v nx kp qt se op sn) (al Snap.id c.id sn).toNat:=by
 have b:¬ al Snap.id c.id sn<0:=by omega
 simp only [bD,if_neg b]
end
def ND:Kn:=aO (ae (kC (ba 0 0)) (ae (kC (ba 4 0)) ao)) (qD 0 (aC (yI 35 (.nm .command)) aw)) fun _ (z,c,_)=>⟨[z.opens.length<1048576],[.agg (cellsOf (.nm .reply) ((eV z c).2))],some ((rz 0 ((eV z c).1)++[.box 35 (cellsOf (.nm .command) (c))])),false⟩
def acf:CK 305 ND:=ah fun _ (z,c,_) d=>by
 obtain ⟨v,e,f,g,h,op,j⟩:=z;have m:op.length<1048576:=cg d;refine bz gy [] Tryz.func305 (?_:(fun b=>op.length<1048576/\(I64 b.snd.code->I64 b.snd.n->b.snd.code=b.snd.code/\b.snd.n=b.snd.n/\bO b.fst b.fst (aS c c))) (eV (State.mk v e f g h op j) c));(repeat' with_reducible first|apply aV|refine bl ?_|intro)
 all_goals (first | exact bY | exact rfl)
def Qm:Kn:=aO (ae (kC (ba 0 0)) (ae (kC (ba 4 0)) ao)) (qD 0 (aC (yI 35 (.nm .command)) aw)) fun _ (z,c,_)=>⟨[nch z.snaps<=1048576,z.snaps.length<1048576,z.opens.length<1048576,0<=z.next],[.agg (cellsOf (.nm .reply) ((eJ z c).2))],some ((rz 0 ((eJ z c).1)++[.box 35 (cellsOf (.nm .command) (c))])),false⟩
def aac:CK 307 Qm:=ah fun _ (z,c,_) e=>by
 obtain ⟨v,f,g,h,j,op,d⟩:=z;have m:nch d<=1048576:=cg e;have o:d.length<1048576:=cg (eP e);have p:op.length<1048576:=cg (eP (eP e));have q:0<=f:=cg (eP (eP (eP e)));refine bz gy [] Tryz.func307 (?_:(fun b=>nch d<=1048576/\d.length<1048576/\op.length<1048576/\0<=f/\(I64 b.snd.code->I64 b.snd.n->b.snd.code=b.snd.code/\b.snd.n=b.snd.n/\bO b.fst b.fst (aS c c))) (eJ (State.mk v f g h j op d) c));(repeat' with_reducible first|apply aV|refine bl ?_|intro)
 all_goals (first | exact bY | exact rfl)
def KF:Kn:=aO (ae (kC (ba 0 0)) (ae (kC (ba 4 0)) ao)) (qD 0 (aC (yI 35 (.nm .command)) aw)) fun _ (z,c,_)=>⟨[z.opens.length<1048576],[.agg (cellsOf (.nm .reply) ((eT z c).2))],some ((rz 0 ((eT z c).1)++[.box 35 (cellsOf (.nm .command) (c))])),false⟩
def ZF:CK 309 KF:=ah fun _ (z,c,_) d=>by
 obtain ⟨v,e,f,g,h,op,j⟩:=z;have m:op.length<1048576:=cg d;refine bz gy [] Tryz.func309 (?_:(fun b=>op.length<1048576/\(I64 b.snd.code->I64 b.snd.n->b.snd.code=b.snd.code/\b.snd.n=b.snd.n/\bO b.fst b.fst (aS c c))) (eT (State.mk v e f g h op j) c));(repeat' with_reducible first|apply aV|refine bl ?_|intro)
 all_goals (first | exact bY | exact rfl)
def nO:Kn:=aO (ae (kC (qL 314 [] [(0,0)])) (ae (kC (ba 0 0)) (ae (kC (ba 4 0)) ao))) (qD 0 (aC (yI 35 (.nm .command)) aw)) fun _ (z,c,_)=>⟨[],[.c (.fn 301 [] [(0,0),(4,0),(5,0)])],some ((rz 0 z++[.box 35 (cellsOf (.nm .command) (c)),.box 306 ([.fn 314 [] [(0,0)]])])),true⟩
def xP:CK 300 nO:=ah fun _ (z,c,_) _=>by
 obtain ⟨v,b,d,e,f,op,g⟩:=z;refine cT gy [] Tryz.func300 (?_:v=v/\b=b/\d=d/\e=e/\f=f/\op=op/\g=g/\aS c c);(repeat' with_reducible first|apply aV|refine bl ?_|intro)
 all_goals (first | exact bY | exact rfl)
def qx:Kn:=aO (ae (kC (qL 316 [] [(0,0)])) (ae (kC (ba 0 0)) (ae (kC (ba 4 0)) ao))) (qD 0 (aC (yI 35 (.nm .command)) aw)) fun _ (z,c,_)=>⟨[],[.c (.fn 301 [] [(0,0),(4,0),(5,0)])],some ((rz 0 z++[.box 35 (cellsOf (.nm .command) (c)),.box 306 ([.fn 316 [] [(0,0)]])])),true⟩
def An:CK 300 qx:=ah fun _ (z,c,_) _=>by
 obtain ⟨v,b,d,e,f,op,g⟩:=z;refine cT gy [] Tryz.func300 (?_:v=v/\b=b/\d=d/\e=e/\f=f/\op=op/\g=g/\aS c c);(repeat' with_reducible first|apply aV|refine bl ?_|intro)
 all_goals (first | exact bY | exact rfl)
def sm:Kn:=aO (ae (kC (qL 317 [] [(0,0),(1,0)])) (ae (kC (ba 1 0)) (ae (kC (ba 0 0)) ao))) (aC (yI 35 (.nm .command)) (qD 1 aw)) fun _ (c,z,_)=>⟨[],[.c (.fn 301 [] [(1,0),(0,0),(5,0)])],some (([.box 35 (cellsOf (.nm .command) (c))]++rz 1 z++[.box 306 ([.fn 317 [] [(0,0),(1,0)]])])),true⟩
def CU:CK 300 sm:=ah fun _ (c,z,_) _=>by
 obtain ⟨v,b,d,e,f,op,g⟩:=z;refine cT gy [] Tryz.func300 (?_:bu c c (v=v/\b=b/\d=d/\e=e/\f=f/\op=op/\g=g));(repeat' with_reducible first|apply aV|refine bl ?_|intro)
 all_goals (first | exact bY | exact rfl)
def qu:Kn:=aO (ae (kC (qL 304 [] [(0,0),(4,0)])) (ae (kC (ba 0 0)) (ae (kC (ba 5 0)) ao))) (qD 0 (aC (dC 4 (ax cB dA)) (aC (yI 35 (.nm .command)) aw))) fun _ (z,(b,_),c,_)=>⟨[],[.c (.fn 301 [] [(0,0),(5,0),(6,0)])],some ((rz 0 z++[.box 4 ([.bool (.atom ((b)))]),.box 35 (cellsOf (.nm .command) (c)),.box 306 ([.fn 304 [] [(0,0),(4,0)]])])),true⟩
def AQ:CK 300 qu:=ah fun _ (z,(b,_),c,_) _=>by
 obtain ⟨v,d,e,f,g,op,h⟩:=z;refine cT gy [] Tryz.func300 (?_:v=v/\d=d/\e=e/\f=f/\g=g/\op=op/\h=h/\b=b/\aS c c);(repeat' with_reducible first|apply aV|refine bl ?_|intro)
 all_goals (first | exact bY | exact rfl)
def XW:bP:=(aQ 300 qu (aQ 300 sm (aQ 300 qx (aQ 300 nO (aQ 309 KF (aQ 307 Qm (aQ 305 ND XG)))))))
def ju:aA Tryz.prog (ak tyT) XW:=(ag AQ (ag CU (ag An (ag xP (ag ZF (ag aac (ag acf gy)))))))
def Oo:Kn:=aO (ae (kC cB) (ae (kC (ba 0 0)) (ae (kC (ba 1 0)) ao))) (aC (dC 308 (ax (qL 300 [] [(1,0),(5,0)]) dA)) (qD 1 (aC (yI 35 (.nm .command)) aw))) fun (b,_,_,_) ((_,_),z,c,_)=>⟨[],[.c (.fn 301 [] [(1,0),(5,0),(7,0)])],some (([.box 308 ([.fn 300 [] [(1,0),(5,0)]])]++rz 1 z++[.box 35 (cellsOf (.nm .command) (c)),.box 4 ([.bool (.atom ((b)))]),.box 306 ([.fn 304 [] [(1,0),(6,0)]])])),true⟩
def aay:CK 303 Oo:=ah fun (b,_,_,_) ((_,_),z,c,_) _=>by
 obtain ⟨v,d,e,f,g,op,h⟩:=z;refine cT ju [] Tryz.func303 (?_:v=v/\d=d/\e=e/\f=f/\g=g/\op=op/\h=h/\bu c c (b=b));(repeat' with_reducible first|apply aV|refine bl ?_|intro)
 all_goals (first | exact bY | exact rfl)
def rS:Kn:=aO (ae (kC (ba 0 0)) (ae (kC (ba 4 0)) (ae (kC (ba 5 0)) ao))) (qD 0 (aC (yI 35 (.nm .command)) (aC (dC 306 (ax (qL 314 [] [(0,0)]) dA)) aw))) fun _ (z,c,(_,_),_)=>⟨[nch z.snaps<=1048576],[.agg (cellsOf (.nm .reply) ((bD ey c z).2))],some ((rz 0 ((bD ey c z).1)++[.box 35 (cellsOf (.nm .command) (c)),.box 306 ([.fn 314 [] [(0,0)]])])),false⟩
def En:CK 301 rS:=ah fun _ (z,c,(_,_),_) h=>by
 obtain ⟨v,j,m,o,p,op,e⟩:=z;have q:nch e<=1048576:=cg h;refine bz ju [] Tryz.func301 (?_:(fun b=>(fun f=>(fun g=>(fun d=>I64 b->(b<0->I64 15->I64 0->15=d.snd.code/\0=d.snd.n/\bO f d.fst (aS c c))/\(0<=b->(0<=b/\b<(↑e.length:Int))/\nch e<=1048576/\(I64 g.code->I64 g.n->g.code=d.snd.code/\g.n=d.snd.n/\bO (ey f b.toNat).fst d.fst (aS c c)))) (bD ey c f)) (ey f b.toNat).snd) (State.mk v j m o p op e)) (al Snap.id c.id e));(repeat' with_reducible first|apply aV|refine bl ?_|intro)
 all_goals (first | exact bY | exact dX ab | (rw [sdY] <;> first | rfl | omega) | (rw [sdN] <;> first | rfl | omega))
def vF:Kn:=aO (ae (kC (ba 0 0)) (ae (kC (ba 4 0)) (ae (kC (ba 5 0)) ao))) (qD 0 (aC (yI 35 (.nm .command)) (aC (dC 306 (ax (qL 316 [] [(0,0)]) dA)) aw))) fun _ (z,c,(_,_),_)=>⟨[],[.agg (cellsOf (.nm .reply) ((bD gg c z).2))],some ((rz 0 ((bD gg c z).1)++[.box 35 (cellsOf (.nm .command) (c)),.box 306 ([.fn 316 [] [(0,0)]])])),false⟩
def Jt:CK 301 vF:=ah fun _ (z,c,(_,_),_) _=>by
 obtain ⟨v,h,j,m,o,op,g⟩:=z;refine bz ju [] Tryz.func301 (?_:(fun b=>(fun e=>(fun f=>(fun d=>I64 b->(b<0->I64 15->I64 0->15=d.snd.code/\0=d.snd.n/\bO e d.fst (aS c c))/\(0<=b->(0<=b/\b<(↑g.length:Int))/\(I64 f.code->I64 f.n->f.code=d.snd.code/\f.n=d.snd.n/\bO (gg e b.toNat).fst d.fst (aS c c)))) (bD gg c e)) (gg e b.toNat).snd) (State.mk v h j m o op g)) (al Snap.id c.id g));(repeat' with_reducible first|apply aV|refine bl ?_|intro)
 all_goals (first | exact bY | exact dX ab | (rw [sdY] <;> first | rfl | omega) | (rw [sdN] <;> first | rfl | omega))
def Bq:Kn:=aO (ae (kC (ba 0 0)) (ae (kC (ba 4 0)) (ae (kC (ba 5 0)) ao))) (qD 0 (aC (yI 35 (.nm .command)) (aC (dC 306 (ax (qL 317 [] [(4,0),(0,0)]) dA)) aw))) fun _ (z,c,(_,_),_)=>⟨[],[.agg (cellsOf (.nm .reply) ((bD (sQ c) c z).2))],some ((rz 0 ((bD (sQ c) c z).1)++[.box 35 (cellsOf (.nm .command) (c)),.box 306 ([.fn 317 [] [(4,0),(0,0)]])])),false⟩
def Lj:CK 301 Bq:=ah fun _ (z,c,(_,_),_) _=>by
 obtain ⟨v,h,j,m,o,op,g⟩:=z;refine bz ju [] Tryz.func301 (?_:(fun b=>(fun e=>(fun f=>(fun d=>I64 b->(b<0->I64 15->I64 0->15=d.snd.code/\0=d.snd.n/\bO e d.fst (aS c c))/\(0<=b->(0<=b/\b<(↑g.length:Int))/\(I64 f.code->I64 f.n->f.code=d.snd.code/\f.n=d.snd.n/\bO (sQ c e b.toNat).fst d.fst (aS c c)))) (bD (sQ c) c e)) (sQ c e b.toNat).snd) (State.mk v h j m o op g)) (al Snap.id c.id g));(repeat' with_reducible first|apply aV|refine bl ?_|intro)
 all_goals (first | exact bY | exact dX ab | (rw [sdY] <;> first | rfl | omega) | (rw [sdN] <;> first | rfl | omega))
def wi:Kn:=aO (ae (kC (ba 0 0)) (ae (kC (ba 4 0)) (ae (kC (ba 5 0)) ao))) (qD 0 (aC (yI 35 (.nm .command)) (aC (dC 306 (ax (qL 304 [] [(0,0),(6,0)]) dA)) (aC (dC 4 (ax cB dA)) aw)))) fun _ (z,c,(_,_),(b,_),_)=>⟨[],[.agg (cellsOf (.nm .reply) ((bD (gD b) c z).2))],some ((rz 0 ((bD (gD b) c z).1)++[.box 35 (cellsOf (.nm .command) (c)),.box 306 ([.fn 304 [] [(0,0),(6,0)]]),.box 4 ([.bool (.atom ((b)))])])),false⟩
def IN:CK 301 wi:=ah fun _ (z,c,(_,_),(b,_),_) _=>by
 obtain ⟨v,j,m,o,p,op,h⟩:=z;refine bz ju [] Tryz.func301 (?_:(fun d=>(fun f=>(fun g=>(fun e=>I64 d->(d<0->I64 15->I64 0->15=e.snd.code/\0=e.snd.n/\bO f e.fst (bu c c (b=b)))/\(0<=d->(0<=d/\d<(↑h.length:Int))/\(I64 g.code->I64 g.n->g.code=e.snd.code/\g.n=e.snd.n/\bO (gD b f d.toNat).fst e.fst (bu c c (b=b))))) (bD (gD b) c f)) (gD b f d.toNat).snd) (State.mk v j m o p op h)) (al Snap.id c.id h));(repeat' with_reducible first|apply aV|refine bl ?_|intro)
 all_goals (first | exact bY | exact dX ab | (rw [sdY] <;> first | rfl | omega) | (rw [sdN] <;> first | rfl | omega))
def Wx:bP:=(aQ 301 wi (aQ 301 Bq (aQ 301 vF (aQ 301 rS (aQ 303 Oo XW)))))
def Bx:aA Tryz.prog (ak tyT) Wx:=(ag IN (ag Lj (ag Jt (ag En (ag aay ju)))))
def fL (s:State) (c:Command):Int:=if eA s s.version=0 then bK c s.version else 1
def Na (s:State) (c:Command):State × Reply:=
 if c.kind=11 then bD (sQ c) c s
 else if c.kind=10 then bD (gD false) c s
 else if c.kind=9 then bD (gD true) c s
 else if c.kind=7 then bD gg c s
 else if c.kind=5 then bD ey c s
 else if c.kind=12 then oX c s
 else if c.kind=6 then um c s
 else if c.kind=4 then eT s c
 else if c.kind=3 then eJ s c
 else if c.kind=2 then eV s c
 else (s,⟨1,0⟩)
def fb (s:State) (c:Command):State × Reply:=if ¬ fL s c=0 then (s,⟨fL s c,0⟩) else Na s c
theorem yf {α:Type} {c:α->Int} {b:Int}:∀ {l:List α} {a:Int},aB c b a l=true->l=[]\/a+(l.length:Int)<=b
 | [],_,_=>.inl rfl
 | x :: l,a,h=>by
  simp only [aB,Bool.and_eq_true] at h;have d:=Ki h.1;rcases yf h.2 with h2 | h2
  ·grind
  grind
theorem gO {s:State} {v:Int} (h:eA s v=0):cq v 1 3=true/\kZ s v=true/\A_ s=true/\xo s=true/\fW s v=true:=by
 unfold eA at h;grind
theorem Zw {s:State} {v:Int} (h:eA s v=0):s.opens.length<=8:=by
 have b:=(gO h).2.2.2.1;simp only [xo,Bool.and_eq_true] at b;rcases yf b.1 with h2 | h2
 ·grind
 omega
theorem aaU {s:State} {v:Int} (h:eA s v=0):s.sess.length<=8:=by
 have b:=(gO h).2.2.1;simp only [A_,Bool.and_eq_true] at b;rcases yf b.1 with h2 | h2
 ·grind
 omega
theorem Ok {s:State} {v:Int} (h:eA s v=0):s.snaps.length<=16/\aB Snap.id (s.next - 1) 0 s.snaps=true/\∀ x ∈ s.snaps,dE v (xv v) x=true:=by
 have b:=(gO h).2.2.2.2;simp only [fW] at b;grind
variable {t:Int}
def YV {v:Int} (h:dE v t x=true):cJ x.chunks=true:=by
 simp only [dE,Bool.and_eq_true,decide_eq_true_eq] at h;cases b:cJ x.chunks with
 | true=>rfl
 | false=>have:=tL (l:=x.chunks) b; omega
theorem Np:∀ {l:List Snap},(∀ x ∈ l,cJ x.chunks=true)->nch l<=8*l.length
 | [],_=>Nat.le_refl _
 | x :: l,h=>by
  have c:=Np (l:=l) fun y b=>h y (acs _ b);have d:=(Eu (h x (acy))).2;have e:nch (x :: l)=x.chunks.length+nch l:=by simp [nch]
  grind
def Vm {s:State} {v:Int} (h:eA s v=0):nch s.snaps<=128:=by
 have b:=Ok h;have:=Np (l:=s.snaps) fun x c=>YV (b.2.2 x c);omega
def abW {s:State} {v:Int} (h:eA s v=0):1<=s.next/\s.next<=1048576:=by
 have b:=(gO h).2.1;simp only [kZ,Bool.and_eq_true] at b;exact Ki b.1.1.2
theorem Em {s:State} {c:Command} (h:(if eA s s.version=0 then bK c s.version else 1)=0):eA s s.version=0:=by grind
def Zg {s:State} {c:Command} (h:(if eA s s.version=0 then bK c s.version else 1)=0):nch s.snaps<=1048576:=by have:=Vm (Em h); omega
def aeP {s:State} {c:Command} (h:(if eA s s.version=0 then bK c s.version else 1)=0):s.opens.length<1048576:=by have:=Zw (Em h); omega
def WK {s:State} {c:Command} (h:(if eA s s.version=0 then bK c s.version else 1)=0):s.sess.length<1048576:=by have:=aaU (Em h); omega
def aeA {s:State} {c:Command} (h:(if eA s s.version=0 then bK c s.version else 1)=0):s.snaps.length<1048576:=by have:=(Ok (Em h)).1; omega
def adE {s:State} {c:Command} (h:(if eA s s.version=0 then bK c s.version else 1)=0):0<=s.next:=by have:=abW (Em h); omega
def afC {s:State} {c:Command} (h:(if eA s s.version=0 then bK c s.version else 1)=0):fb s c=Na s c:=by
 have h:fL s c=0:=h;rw [fb,h]; rfl
def aiw {s:State} {c:Command} (h:¬ (if eA s s.version=0 then bK c s.version else 1)=0):fb s c=(s,⟨(if eA s s.version=0 then bK c s.version else 1),0⟩):=by
 have h:¬ fL s c=0:=h;rw [fb,if_pos h]; rfl
def MT:Kn:=aO (ae (kT (.nm .state)) (ae (kT (.nm .command)) ao)) aw fun (st,c,_) _=>⟨[],[.agg ([.int (((fb st c).1.version)),.int (((fb st c).1.next)),.int (((fb st c).1.keep)),.int (((fb st c).1.quota)),.own 0,.own 1,.own 2]),.agg (cellsOf (.nm .reply) ((fb st c).2))],some ([.row 137 (.nm .sess) (((fb st c).1.sess)),.row 139 (.nm .opn) (((fb st c).1.opens)),.row 172 (.nm .snap) (((fb st c).1.snaps))]),true⟩
def aag:CK 281 MT:=ah fun (st,c,_) _ _=>by
 refine cT Bx [] Tryz.func281 (?_:(fun w=>(fun F=>(fun G=>(fun s=>(fun H=>(fun u=>(fun h=>(fun j=>(fun m=>(fun r=>(fun y=>(fun z=>(fun A=>(fun B=>(fun C=>(fun D=>(fun J=>(fun v=>(fun b=>(fun I=>(fun o=>(fun p=>(fun q=>(fun d=>(fun e=>(fun f=>(fun g=>(fun K=>fK st (bF c (I64 w->I64 st.next->I64 st.keep->I64 st.quota->I64 J->(¬J=s->I64 J->I64 s->w=g/\st.next=d/\st.keep=e/\st.quota=f/\J=b/\K)/\(J=s->(r=11->I64 B.snd.code->I64 B.snd.n->B.fst.version=g/\B.fst.next=d/\B.fst.keep=e/\B.fst.quota=f/\B.snd.code=b/\B.snd.n=v.n/\B.fst.sess=o/\B.fst.opens=q/\B.fst.snaps=p)/\(¬r=11->(r=10->I64 D.snd.code->I64 D.snd.n->D.fst.version=g/\D.fst.next=d/\D.fst.keep=e/\D.fst.quota=f/\D.snd.code=b/\D.snd.n=v.n/\D.fst.sess=o/\D.fst.opens=q/\D.fst.snaps=p)/\(¬r=10->(r=9->I64 C.snd.code->I64 C.snd.n->C.fst.version=g/\C.fst.next=d/\C.fst.keep=e/\C.fst.quota=f/\C.snd.code=b/\C.snd.n=v.n/\C.fst.sess=o/\C.fst.opens=q/\C.fst.snaps=p)/\(¬r=9->(r=7->I64 A.snd.code->I64 A.snd.n->A.fst.version=g/\A.fst.next=d/\A.fst.keep=e/\A.fst.quota=f/\A.snd.code=b/\A.snd.n=v.n/\A.fst.sess=o/\A.fst.opens=q/\A.fst.snaps=p)/\(¬r=7->(r=5->G/\(I64 z.snd.code->I64 z.snd.n->z.fst.version=g/\z.fst.next=d/\z.fst.keep=e/\z.fst.quota=f/\z.snd.code=b/\z.snd.n=v.n/\z.fst.sess=o/\z.fst.opens=q/\z.fst.snaps=p))/\(¬r=5->(r=12->G/\(I64 h.snd.code->I64 h.snd.n->h.fst.version=g/\h.fst.next=d/\h.fst.keep=e/\h.fst.quota=f/\h.snd.code=b/\h.snd.n=v.n/\h.fst.sess=o/\h.fst.opens=q/\h.fst.snaps=p))/\(¬r=12->(r=6->I64 F.code->I64 F.n->u.version=g/\u.next=d/\u.keep=e/\u.quota=f/\F.code=b/\F.n=v.n/\u.sess=o/\u.opens=q/\u.snaps=p)/\(¬r=6->(r=4->H/\(I64 m.snd.code->I64 m.snd.n->m.fst.version=g/\m.fst.next=d/\m.fst.keep=e/\m.fst.quota=f/\m.snd.code=b/\m.snd.n=v.n/\m.fst.sess=o/\m.fst.opens=q/\m.fst.snaps=p))/\(¬r=4->(r=3->G/\st.snaps.length<1048576/\H/\s<=st.next/\(I64 y.snd.code->I64 y.snd.n->y.fst.version=g/\y.fst.next=d/\y.fst.keep=e/\y.fst.quota=f/\y.snd.code=b/\y.snd.n=v.n/\y.fst.sess=o/\y.fst.opens=q/\y.fst.snaps=p))/\(¬r=3->(r=2->H/\(I64 j.snd.code->I64 j.snd.n->j.fst.version=g/\j.fst.next=d/\j.fst.keep=e/\j.fst.quota=f/\j.snd.code=b/\j.snd.n=v.n/\j.fst.sess=o/\j.fst.opens=q/\j.fst.snaps=p))/\(¬r=2->I64 1->I64 s->w=g/\st.next=d/\st.keep=e/\st.quota=f/\1=b/\K)))))))))))))) (s=v.n/\st.sess=o/\st.opens=q/\st.snaps=p)) I.version) I.quota) I.keep) I.next) I.opens) I.snaps) I.sess) (fb st c).fst) v.code) (fb st c).snd) (if eA st w=s then bK c w else 1)) (bD (gD false) c st)) (bD (gD true) c st)) (bD (sQ c) c st)) (bD gg c st)) (bD ey c st)) (eJ st c)) c.kind) (eT st c)) (eV st c)) (oX c st)) (um c st).fst) (st.opens.length<1048576)) (0:Int)) (nch st.snaps<=1048576)) (um c st).snd) st.version)
 (repeat' with_reducible first|apply aV|refine bl ?_|intro)
 all_goals (first | exact bY | exact (Zg ab) | exact (aeP ab) | exact (WK ab) | exact (aeA ab) | exact (adE ab) | (rw [aiw ab]; done) | (rw [afC ab]; simp only [Na, *]; done) | (rw [afC ab]; simp [Na, *]; done))
def Wt:bP:=(aQ 281 MT Wx)
def CH:aA Tryz.prog (ak tyT) Wt:=(ag aag Bx)
def cO (s:State) (c:Command):State × Reply:=
 if al Sess.client c.client s.sess<0 then (s,⟨11,0⟩)
 else if c.seq=(s.sess.getD (al Sess.client c.client s.sess).toNat (au (.nm .sess))).seq then (s,(s.sess.getD (al Sess.client c.client s.sess).toNat (au (.nm .sess))).last)
 else if c.seq<(s.sess.getD (al Sess.client c.client s.sess).toNat (au (.nm .sess))).seq then (s,⟨13,0⟩)
 else if (s.sess.getD (al Sess.client c.client s.sess).toNat (au (.nm .sess))).seq+1<c.seq then (s,⟨14,0⟩)
 else ({ (fb s c).1 with sess:=(fb s c).1.sess.set (al Sess.client c.client s.sess).toNat { (fb s c).1.sess.getD (al Sess.client c.client s.sess).toNat (au (.nm .sess)) with seq:=c.seq,last:=(fb s c).2 } },(fb s c).2)
def rf (s:State) (c:Command):State × Reply:=
 if ¬ fL s c=0 then (s,⟨fL s c,0⟩)
 else if c.kind=8 then (if ¬ c.n=s.version+1 then (s,⟨1,0⟩) else ({ s with version:=c.n },⟨0,c.n⟩))
 else if c.kind=1 then (if 0<=al Sess.client c.client s.sess then (s,⟨12,0⟩) else ({ s with sess:=Cd s.sess (s.sess.takeWhile fun y=>decide (y.client<c.client)).length ⟨c.client,0,⟨0,0⟩⟩ },⟨0,0⟩))
 else cO s c
variable {Q:State × Reply->Prop}
def Vw {s:State} {c:Command} (g:∀ e:Int,¬ e=0->Q (s,⟨e,0⟩))
  (d:∀ f:State->Nat->State × Reply,fL s c=0->(f=sQ c\/(∃ b,f=gD b)\/f=gg\/f=ey)->Q (bD f c s))
  (j:fL s c=0->Q (oX c s)) (m:fL s c=0->Q (um c s)) (o:fL s c=0->Q (eT s c)) (p:fL s c=0->Q (eJ s c)) (q:fL s c=0->Q (eV s c)):Q (fb s c):=by
 unfold fb;split
 ·exact g _ ap
 rename_i h;have h:fL s c=0:=Classical.not_not.1 h;unfold Na;split
 ·exact d _ h (.inl rfl)
 split
 ·exact d _ h (.inr (.inl ⟨_,rfl⟩))
 split
 ·exact d _ h (.inr (.inl ⟨_,rfl⟩))
 split
 ·exact d _ h (.inr (.inr (.inl rfl)))
 split
 ·exact d _ h (.inr (.inr (.inr rfl)))
 split
 ·exact j h
 split
 ·exact m h
 split
 ·exact o h
 split
 ·exact p h
 split
 ·exact q h
 exact g 1 am
theorem IA {f:State->Nat->State × Reply} {s:State} {c:Command} (b:∀ e:Int,¬ e=0->Q (s,⟨e,0⟩)) (h:∀ n:Nat,(n:Int)=al Snap.id c.id s.snaps->Q (f s n)):Q (bD f c s):=by
 unfold bD;grind
def JO {s:State} {c:Command}:(fb s c).1.sess=s.sess:=by
 refine Vw (Q:=fun r=>r.1.sess=s.sess) (fun _ _=>rfl) (fun f _ d=>?_) (fun _=>rfl) (fun _=>rfl) (fun _=>?_) (fun _=>?_) (fun _=>?_)
 ·refine IA (Q:=fun r=>r.1.sess=s.sess) (fun _ _=>rfl) fun n _=>?_;rcases d with rfl | ⟨b,rfl⟩ | rfl | rfl
  ·rfl
  ·unfold gD; split <;> rfl
  ·rfl
  unfold ey; split; rfl; split <;> rfl
 ·unfold eT; split <;> rfl
 ·unfold eJ; split; rfl; split; rfl; split <;> rfl
 unfold eV; split <;> rfl
theorem Co {l:List Sess} {q:Int} {R:Reply} (h:k<l.length):(l.set k (Sess.mk (l.getD k (au (.nm .sess))).client q (l.getD k (au (.nm .sess))).last)).set k (Sess.mk ((l.set k (Sess.mk (l.getD k (au (.nm .sess))).client q (l.getD k (au (.nm .sess))).last)).getD k (au (.nm .sess))).client ((l.set k (Sess.mk (l.getD k (au (.nm .sess))).client q (l.getD k (au (.nm .sess))).last)).getD k (au (.nm .sess))).seq R)=l.set k { l.getD k (au (.nm .sess)) with seq:=q,last:=R }:=by simp_all
section
variable {v nx kp qt:Int} {se:List Sess} {op:List Opn} {sn:List Snap} {c:Command}
def as1 (h:al Sess.client c.client se<0):cO (State.mk v nx kp qt se op sn) c=(State.mk v nx kp qt se op sn,⟨11,0⟩):=by
 simp only [cO,if_pos h]
def as2 (h:0<=al Sess.client c.client se) (e:c.seq=(se.getD (al Sess.client c.client se).toNat (au (.nm .sess))).seq):cO (State.mk v nx kp qt se op sn) c=(State.mk v nx kp qt se op sn,(se.getD (al Sess.client c.client se).toNat (au (.nm .sess))).last):=by
 have b:¬ al Sess.client c.client se<0:=by omega
 simp only [cO,if_neg b,if_pos e]
def as3 (h:0<=al Sess.client c.client se) (e:¬ c.seq=(se.getD (al Sess.client c.client se).toNat (au (.nm .sess))).seq) (l:c.seq<(se.getD (al Sess.client c.client se).toNat (au (.nm .sess))).seq):cO (State.mk v nx kp qt se op sn) c=(State.mk v nx kp qt se op sn,⟨13,0⟩):=by
 have b:¬ al Sess.client c.client se<0:=by omega
 simp only [cO,if_neg b,if_neg e,if_pos l]
def as4 (h:0<=al Sess.client c.client se) (e:¬ c.seq=(se.getD (al Sess.client c.client se).toNat (au (.nm .sess))).seq) (l:(se.getD (al Sess.client c.client se).toNat (au (.nm .sess))).seq<=c.seq) (g:(se.getD (al Sess.client c.client se).toNat (au (.nm .sess))).seq+1<c.seq):cO (State.mk v nx kp qt se op sn) c=(State.mk v nx kp qt se op sn,⟨14,0⟩):=by
 have b:¬ al Sess.client c.client se<0:=by omega
 have d:¬ c.seq<(se.getD (al Sess.client c.client se).toNat (au (.nm .sess))).seq:=by omega
 simp only [cO,if_neg b,if_neg e,if_neg d,if_pos g]
def as5 (h:0<=al Sess.client c.client se) (e:¬ c.seq=(se.getD (al Sess.client c.client se).toNat (au (.nm .sess))).seq) (l:(se.getD (al Sess.client c.client se).toNat (au (.nm .sess))).seq<=c.seq) (g:c.seq<=(se.getD (al Sess.client c.client se).toNat (au (.nm .sess))).seq+1):cO (State.mk v nx kp qt se op sn) c=({ (fb (State.mk v nx kp qt se op sn) c).1 with sess:=(fb (State.mk v nx kp qt se op sn) c).1.sess.set (al Sess.client c.client se).toNat { (fb (State.mk v nx kp qt se op sn) c).1.sess.getD (al Sess.client c.client se).toNat (au (.nm .sess)) with seq:=c.seq,last:=(fb (State.mk v nx kp qt se op sn) c).2 } },(fb (State.mk v nx kp qt se op sn) c).2):=by
 have b:¬ al Sess.client c.client se<0:=by omega
 have d:¬ c.seq<(se.getD (al Sess.client c.client se).toNat (au (.nm .sess))).seq:=by omega
 have f:¬ (se.getD (al Sess.client c.client se).toNat (au (.nm .sess))).seq+1<c.seq:=by omega
 simp only [cO,if_neg b,if_neg e,if_neg d,if_neg f]
def KV (h:0<=al Sess.client c.client se):al Sess.client c.client se<((fb (State.mk v nx kp qt se op sn) c).1.sess.length:Int):=by rw [JO]; exact dX h
def Bu (h:0<=al Sess.client c.client se):(al Sess.client c.client se).toNat<(fb (State.mk v nx kp qt se op sn) c).1.sess.length:=by have:=KV (v:=v) (nx:=nx) (kp:=kp) (qt:=qt) (op:=op) (sn:=sn) h; omega
def adF {x:Sess} (h:0<=al Sess.client c.client se):al Sess.client c.client se<(((fb (State.mk v nx kp qt se op sn) c).1.sess.set (al Sess.client c.client se).toNat x).length:Int):=by rw [acF]; exact KV h
def ahI (h:fL (State.mk v nx kp qt se op sn) c=0) (f:0<=al Sess.client c.client se):I64 ((se.getD (al Sess.client c.client se).toNat (au (.nm .sess))).seq+1):=by
 have b:=(gO (Em h)).2.2.1;simp only [A_,Bool.and_eq_true,List.all_eq_true] at b;have e:=b.2 _ (acA (gd (d:=au (.nm .sess)) (k:=(al Sess.client c.client se).toNat) (l:=se) (by have:=dX f; omega)));simp only [dZ,Bool.and_eq_true] at e;have g:=Ki e.1.1;constructor <;> omega
end
def zl:Kn:=aO (ae (kG (ax cI (ax cI (ax cI (ax cI (ax (eI 0) (ax (eI 1) (ax (eI 2) dA)))))))) (ae (kT (.nm .command)) ao)) (aC (eG 137 (.nm .sess)) (aC (eG 139 (.nm .opn)) (aC (eG 172 (.nm .snap)) aw))) fun ((v,b,d,e,_,_,_,_),c,_) (f,op,g,_)=>⟨[fL (State.mk v b d e f op g) c=0],[.agg ([.int (((cO (State.mk v b d e f op g) c).1.version)),.int (((cO (State.mk v b d e f op g) c).1.next)),.int (((cO (State.mk v b d e f op g) c).1.keep)),.int (((cO (State.mk v b d e f op g) c).1.quota)),.own 0,.own 1,.own 2]),.agg (cellsOf (.nm .reply) ((cO (State.mk v b d e f op g) c).2))],some ([.row 137 (.nm .sess) (((cO (State.mk v b d e f op g) c).1.sess)),.row 139 (.nm .opn) (((cO (State.mk v b d e f op g) c).1.opens)),.row 172 (.nm .snap) (((cO (State.mk v b d e f op g) c).1.snaps))]),false⟩
theorem Mi:CK 264 zl:=ah fun ((v,D,F,G,_,_,_,_),c,_) (y,op,I,_) J=>by
 have K:=cg J;refine bz CH [] Tryz.func264 (?_:(fun s=>(fun h=>(fun z=>(fun g=>(fun u=>(fun r=>(fun H=>(fun C=>(fun f=>(fun d=>(fun b=>(fun j=>(fun A=>(fun e=>(fun m=>(fun o=>(fun p=>(fun q=>(fun B=>(fun w=>I64 v->I64 D->I64 F->I64 G->bF c (I64 g->(g<h->I64 11->I64 h->q/\o/\m/\p/\11=d.code/\w)/\(h<=g->h<=g/\g<(↑y.length:Int)/\jO r ((s=r.seq->q/\o/\m/\p/\r.last.code=d.code/\r.last.n=d.n/\B)/\(¬s=r.seq->(s<r.seq->I64 13->I64 h->q/\o/\m/\p/\13=d.code/\w)/\(r.seq<=s->I64 H/\(H<s->I64 14->I64 h->q/\o/\m/\p/\14=d.code/\w)/\(s<=H->I64 b.version->I64 b.next->I64 b.keep->I64 b.quota->I64 f.code->I64 f.n->(h<=g/\g<(↑b.sess.length:Int))/\jO j (h<=g/\g<(↑A.length:Int))/\jO j (jO (A.getD u z) (b.version=e.version/\b.next=e.next/\b.keep=e.keep/\b.quota=e.quota/\f.code=d.code/\f.n=d.n/\A.set u (Sess.mk (A.getD u z).client (A.getD u z).seq f)=e.sess/\b.opens=e.opens/\b.snaps=e.snaps))))))))) (h=d.n/\B)) (y=e.sess/\op=e.opens/\I=e.snaps)) (v=e.version)) (G=e.quota)) (D=e.next)) (F=e.keep)) (cO C c).fst) (b.sess.set u (Sess.mk j.client s j.last))) (b.sess.getD u z)) (fb C c).fst) (cO C c).snd) (fb C c).snd) (State.mk v D F G y op I)) (r.seq+1)) (y.getD u z)) g.toNat) (al Sess.client c.client y)) (au (Sh.nm NT.sess))) (0:Int)) c.seq);(repeat' with_reducible first|apply aV|refine bl ?_|intro)
 all_goals (first | exact bY | exact dX ab | exact KV ab | exact adF ab | exact ahI ab ab | (rw [as1] <;> first | rfl | with_reducible assumption | exact Co (Bu ab)) | (rw [as2] <;> first | rfl | with_reducible assumption | exact Co (Bu ab)) | (rw [as3] <;> first | rfl | with_reducible assumption | exact Co (Bu ab)) | (rw [as4] <;> first | rfl | with_reducible assumption | exact Co (Bu ab)) | (rw [as5] <;> first | rfl | with_reducible assumption | exact Co (Bu ab)))
def XQ:bP:=(aQ 264 zl Wt)
def Bv:aA Tryz.prog (ak tyT) XQ:=(ag Mi CH)
section
variable {s:State} {c:Command}
def ahi (h:(if eA s s.version=0 then bK c s.version else 1)=0):fL s c=0:=h
def ahk (h:(if eA s s.version=0 then bK c s.version else 1)=0):I64 (s.version+1):=by
 have b:=(gO (Em h)).2.1;simp only [kZ,Bool.and_eq_true] at b;have:=Ki b.1.1.1;constructor <;> omega
def doE (h:¬ (if eA s s.version=0 then bK c s.version else 1)=0):rf s c=(s,⟨(if eA s s.version=0 then bK c s.version else 1),0⟩):=by
 have h:¬ fL s c=0:=h;rw [rf,if_pos h]; rfl
def doM (h:(if eA s s.version=0 then bK c s.version else 1)=0):rf s c=if c.kind=8 then (if ¬ c.n=s.version+1 then (s,⟨1,0⟩) else ({ s with version:=c.n },⟨0,c.n⟩))
 else if c.kind=1 then (if 0<=al Sess.client c.client s.sess then (s,⟨12,0⟩) else ({ s with sess:=Cd s.sess (s.sess.takeWhile fun y=>decide (y.client<c.client)).length ⟨c.client,0,⟨0,0⟩⟩ },⟨0,0⟩))
 else cO s c:=by
 have h:¬ ¬ fL s c=0:=fun k=>k h;rw [rf,if_neg h]
def ahR (h:(if eA s s.version=0 then bK c s.version else 1)=0) (k:c.kind=8) (n:¬ c.n=s.version+1):rf s c=(s,⟨1,0⟩):=by rw [doM h,if_pos k,if_pos n]
def ahZ (h:(if eA s s.version=0 then bK c s.version else 1)=0) (k:c.kind=8) (n:c.n=s.version+1):rf s c=({ s with version:=c.n },⟨0,c.n⟩):=by rw [doM h,if_pos k,if_neg (fun h=>h n)]
def ah5 (h:(if eA s s.version=0 then bK c s.version else 1)=0) (k:c.kind=1) (n:0<=al Sess.client c.client s.sess):rf s c=(s,⟨12,0⟩):=by rw [doM h,if_neg aE,if_pos k,if_pos n]
def aik (h:(if eA s s.version=0 then bK c s.version else 1)=0) (k:c.kind=1) (n:al Sess.client c.client s.sess<0):rf s c=({ s with sess:=Cd s.sess (s.sess.takeWhile fun y=>decide (y.client<c.client)).length ⟨c.client,0,⟨0,0⟩⟩ },⟨0,0⟩):=by rw [doM h,if_neg aE,if_pos k,if_neg aE]
def doX (h:(if eA s s.version=0 then bK c s.version else 1)=0) (k:¬ c.kind=8) (n:¬ c.kind=1):rf s c=cO s c:=by rw [doM h,if_neg k,if_neg n]
variable {l:List Sess}
theorem ph {x:Sess} (b:k<=l.length) (d:(l.take k).all (fun y=>decide (y.client<c.client))=true) (e:(l.length:Int)<=k\/c.client<=(l.getD k (au (.nm .sess))).client):l.take k++[x]++l.drop k=Cd l (l.takeWhile fun y=>decide (y.client<c.client)).length x:=by
 have:k=(l.takeWhile fun y=>decide (y.client<c.client)).length:=by
  refine LU d b ?_;grind
 rw [<- this]; simp [Cd]
def aew (b:(l.take k).all (fun y=>decide (y.client<c.client))=true) (h:(k:Int)<l.length) (e:(l.getD k (au (.nm .sess))).client<c.client):(l.take (k+1)).all (fun y=>decide (y.client<c.client))=true:=by
 rw [ai (gd (d:=au (.nm .sess)) h),List.all_append,b]; simp only [List.all_cons,decide_eq_true e]; rfl
end
def agB (st:State) (c:Command):List (Nat × LI):=[(15,{ σ:=Nat,F:=fun k=>([(2,one (.ptr 0 0)),(3,one (.ptr 1 0)),(4,one (.ptr 2 0)),(5,one (.ptr 3 0)),(7,one (.int k))],[.box 46 ([.int ((st.version)),.int ((st.next)),.int ((st.keep)),.int ((st.quota)),.own 4,.own 5,.own 6]),.box 35 (cellsOf (.nm .command) (c)),.box 46 ([.int ((0)),.int ((0)),.int ((0)),.int ((0)),.em true,.em true,.em true]),.box 78 ([.int ((0)),.int ((0))]),.row 137 (.nm .sess) ((st.sess)),.row 139 (.nm .opn) ((st.opens)),.row 172 (.nm .snap) ((st.snaps))]),J:=fun k=>k<=st.sess.length/\(st.sess.take k).all (fun y=>decide (y.client<c.client))=true,μ:=fun k=>st.sess.length - k })]
def Xp:Kn:=aO (ae (kT (.nm .state)) (ae (kT (.nm .command)) ao)) aw fun (st,c,_) _=>⟨[],[.agg ([.int (((rf st c).1.version)),.int (((rf st c).1.next)),.int (((rf st c).1.keep)),.int (((rf st c).1.quota)),.own 0,.own 1,.own 2]),.agg (cellsOf (.nm .reply) ((rf st c).2))],some ([.row 137 (.nm .sess) (((rf st c).1.sess)),.row 139 (.nm .opn) (((rf st c).1.opens)),.row 172 (.nm .snap) (((rf st c).1.snaps))]),true⟩
theorem aeG:CK 227 Xp:=ah fun (st,c,_) _ _=>by
 refine cT Bv (agB st c) Tryz.func227 (?_:(fun (G:List Opn)=>(fun (w:Int)=>(fun (z:Int)=>(fun (A:Reply)=>(fun (B:Int)=>(fun (T:den (Sh.nm NT.sess))=>(fun (F:Int)=>(fun (u:Int)=>(fun (v:Reply)=>(fun (m:State)=>(fun (C:Int)=>(fun (N:Int)=>(fun (O:Int)=>(fun (e:List Sess)=>(fun (H:Int)=>(fun (g:Int)=>(fun (b:Int)=>(fun (h:Prop)=>(fun (o:Int)=>(fun (S:Prop)=>(fun (f:State)=>(fun (J:Prop)=>(fun (D:Prop)=>(fun (p:Prop)=>(fun (q:Prop)=>(fun (r:Prop)=>(fun (K:Prop)=>(fun (I:Prop)=>fK st (bF c (I64 C->I64 w->I64 z->I64 B->I64 o->(¬o=b->I64 o->I64 b->D/\q/\p/\r/\o=v.code/\I)/\(o=b->(c.kind=8->I64 (C+u)/\(¬c.n=C+u->I64 u->I64 b->D/\q/\p/\r/\u=v.code/\I)/\(c.n=C+u->c.n=f.version/\q/\p/\r/\b=v.code/\c.n=v.n/\K))/\(¬c.kind=8->(c.kind=u->I64 H->(b<=H->I64 12->I64 b->D/\q/\p/\r/\12=v.code/\I)/\(H<b->∃ (P:Nat),(b=(↑P:Int)/\S)/\(P<=e.length/\((List.take P e).all fun (y:Sess)=>decide (y.client<F))=true)/\∀ (s:Nat),(fun (d:Int)=>(fun (j:den (Sh.nm NT.sess))=>s<=e.length/\((List.take s e).all fun (y:Sess)=>decide (y.client<F))=true->(d<g->b<=d/\d<g)/\((d<g->I64 j.client/\I64 j.seq/\I64 j.last.code/\I64 j.last.n)->(d<g/\j.client<F->I64 (d+u)/\∃ (L:Nat),(d+u=(↑L:Int)/\S)/\(L <= e.length/\((List.take L e).all fun (y:Sess)=>decide (y.client<F))=true)/\e.length - L < e.length - s)/\(g<=d\/F<=j.client->(b<=d/\d<=g)/\e.length<1048576/\[Sess.mk F b (Reply.mk b b)].length=1/\D/\q/\p/\r/\b=v.code/\b=v.n/\List.take s e++[Sess.mk F b (Reply.mk b b)]++List.drop s e=f.sess/\J))) (e.getD s T)) (↑s:Int)))/\(¬c.kind=u->fL st c=b/\(I64 m.version->I64 m.next->I64 m.keep->I64 m.quota->I64 A.code->I64 A.n->m.version=f.version/\m.next=f.next/\m.keep=f.keep/\m.quota=f.quota/\A.code=v.code/\A.n=v.n/\m.sess=f.sess/\m.opens=f.opens/\m.snaps=f.snaps))))))) (b=v.n/\K)) (e=f.sess/\J)) (B=f.quota)) (w=f.next)) (z=f.keep)) (C=f.version)) (G=f.opens/\st.snaps=f.snaps)) (rf st c).fst) (C=C/\w=w/\z=z/\B=B/\bu c c (h/\h/\h/\h/\h/\h/\e=e/\G=G/\st.snaps=st.snaps))) (if O=b then N else u)) (b=b)) 0) (↑e.length:Int)) (al Sess.client F e)) st.sess) (eA st C)) (bK c C)) st.version) (cO st c).fst) (rf st c).snd) 1) c.client) (au (Sh.nm NT.sess))) st.quota) (cO st c).snd) st.keep) st.next) st.opens);iterate 3 ((all_goals (repeat' with_reducible first|apply aV|refine bl ?_|intro)); (all_goals try (first | exact bY | exact rfl | exact ahi ab | exact ahk ab | exact WK ab | exact aew ab ab ab | (rw [doE] <;> first | rfl | with_reducible assumption | exact ph aE ab ap) | (rw [ahR] <;> first | rfl | with_reducible assumption | exact ph aE ab ap) | (rw [ahZ] <;> first | rfl | with_reducible assumption | exact ph aE ab ap) | (rw [ah5] <;> first | rfl | with_reducible assumption | exact ph aE ab ap) | (rw [aik] <;> first | rfl | with_reducible assumption | exact ph aE ab ap) | (rw [doX] <;> first | rfl | with_reducible assumption | exact ph aE ab ap))); all_goals try first | refine ⟨‹Nat› + 1,?_⟩ | refine ⟨0,?_⟩)
def Xo:bP:=(aQ 227 Xp XQ)
def MF:aA Tryz.prog (ak tyT) Xo:=(ag aeG Bv)
def XF:bP:=Xo
def Ng:aA Tryz.prog (ak tyT) XF:=MF
def Wr:bP:=XF
def OM:aA Tryz.prog (ak tyT) Wr:=Ng
section
variable {s:State} {c:Command}
end
def RT {c:Command} {v:Int} (h:bK c v=0):(1<=v/\v<=3)/\¬ cE c.kind=0/\cE c.kind<=v/\mu c=true:=by
 unfold bK at h;split at h
 ·cases h
 rename_i b;rw [Bool.or_eq_true,not_or] at b;simp only [Bool.not_eq_true',Bool.not_eq_false,decide_eq_true_eq] at b;split at h
 ·cases h
 split at h
 ·cases h
 rename_i e d;exact ⟨Ki b.1,b.2,aE,by simpa using d⟩
section
variable {α:Type} {key:α->Int} {most:Int}
end
section
variable {α:Type} {key:α->Int} {most:Int}
end
section
variable {s:State} {c:Command}
end
section
variable {α:Type} {key:α->Int} {most:Int}
end
section
variable {s:State} {x:Snap} {i:Nat}
end
section
variable {s:State} {x:Snap} {i:Nat}
end
section
variable {s:State} {x:Snap} {i:Nat}
end
section
variable {s:State} {c:Command} {k:Nat}
end
section
variable {α:Type} {key:α->Int} {most:Int}
end
section
variable {s:State} {c:Command}
end
section
variable {α:Type} {key:α->Int} {x y d:α}
variable {l:List α} {k:Nat}
end
def Ya:bP:=Wr
def NW:aA Tryz.prog (ak tyT) Ya:=OM
section
variable {st:State} {c:Command}
variable {i:Int} {x:Snap}
end
def Xm:bP:=Ya
def Ml:aA Tryz.prog (ak tyT) Xm:=NW
section
variable {st:State} {c:Command}
end
def XX:bP:=Xm
def PG:aA Tryz.prog (ak tyT) XX:=Ml
section
variable {st:State} {c:Command}
end
def WI:bP:=XX
def BH:aA Tryz.prog (ak tyT) WI:=PG
def wk (l:List Int):Int:=match l.findIdx? (fun x=>!bR x) with
 | some i=>(i:Int)
 | none=>-1
section
variable {l:List Int} {k:Nat} {x:Int}
def wO:wk l=al (fun x=>if bR x=true then 0 else 1) 1 l:=by
 have e:(fun x=>!bR x)=fun x:Int=>decide ((if bR x=true then (0:Int) else 1)=1):=by
  funext x;cases bR x <;> rfl
 unfold wk al; rw [e]; rfl
def aaQ (h:wk (l.take k) = -1) (c:l[k]? = some x) (b:(!bR x)=false):wk (l.take (k+1)) = -1:=by
 rw [Bool.not_eq_false'] at b;rw [wO] at h ⊢;exact nP h c (by rw [if_pos b]; decide)
def S_ (h:wk (l.take k) = -1) (c:l[k]? = some x) (b:(!bR x)=true):(k:Int)=wk l:=by
 rw [Bool.not_eq_true'] at b;rw [wO] at h ⊢;exact lX h c (by rw [b]; rfl)
def abq (h:wk (l.take k) = -1) (b:l.length<=k):-1=wk l:=by rw [List.take_of_length_le b] at h; exact h.symm
def Ug:decide (0<=wk l) = !l.all bR:=by
 cases e:l.findIdx? (fun x=>!bR x) with
 | none=>
  have h:=List.findIdx?_eq_none_iff.1 e;have:l.all bR=true:=List.all_eq_true.2 fun x b=>by simpa using h x b
  unfold wk; rw [e,this]; rfl
 | some i=>
  obtain ⟨c,d,_⟩:=afZ.1 e;have:l.all bR=false:=by
   rw [List.all_eq_false];exact ⟨l[i],afT c,by simpa using d⟩
  unfold wk; rw [e,this];show decide (0<=(i:Int))=true;rw [decide_eq_true_eq]; omega
end
def Ay:Kn:=aO (ae (kC cI) ao) aw fun (k,_) _=>⟨[],[.c (.bool (.atom ((bR k))))],none,false⟩
theorem KR:CK 86 Ay:=ah fun (k,_) _ _=>by
 refine av BH [] Tryz.func86 (?_:I64 k->(decide (1<=k) && decide (k<=3))=bR k);grind [bR]
def WV:bP:=(aQ 86 Ay WI)
def t_:aA Tryz.prog (ak tyT) WV:=(ag KR BH)
section
variable {st:State} {v:Int}
end
def vA:Kn:=aO (ae (kC cI) (ae (kC cI) ao)) aw fun (a,b,_) _=>⟨[],[.c (.int ((b_ a b)))],none,false⟩
theorem HP:CK 43 vA:=ah fun (a,b,_) _ _=>by
 refine av t_ [] Tryz.func43 (?_:I64 a->I64 b->(bR a=false\/bR b=false->1=b_ a b)/\(bR a=true/\bR b=true->(a<b->32=b_ a b)/\(b<=a->0=b_ a b)));grind [b_,bR]
def Cw:Kn:=aO (ae (kC cI) ao) aw fun (n,_) _=>⟨[],[.c (.bool (.atom ((!bR n))))],none,false⟩
theorem Qw:CK 157 Cw:=ah fun (n,_) _ _=>by
 refine av t_ [] Tryz.func157 (?_:I64 n->(!bR n) = !bR n);grind
def Xb:bP:=(aQ 157 Cw (aQ 43 vA WV))
def sL:aA Tryz.prog (ak tyT) Xb:=(ag Qw (ag HP t_))
variable {l:List Int}
def TO {s:Nat} {x:Int} (b:l[((s:Int)+1).toNat]? = some x):min (iK l (s+1)) x=iK l (s+1+1):=DW aE (by rwa [show ((s:Int)+1).toNat=s+1 by omega] at b)
def SU (l:List Int):List (Nat × LI):=[(2,{ σ:=Nat,F:=fun k=>([(0,one (.fz .int (l))),(1,one (.fn 157 [] [])),(7,one (.int (l).length)),(8,one (.int k))],[]),J:=fun k=>k<=l.length/\wk (l.take k) = -1,μ:=fun k=>(l).length - k })]
def adT (l:List Int):List (Nat × LI):=[(5,{ σ:=Nat,F:=fun k=>([(0,one (.fz .int (l))),(3,one (.int (iK l (k+1)))),(4,one (.int (k+1)))],[]),J:=fun k=>k+1<=l.length,μ:=fun k=>l.length - k })]
def BQ:Kn:=aO (ae (kC (cL .int)) (ae (kC (qL 157 [] [])) ao)) aw fun (l,_,_) _=>⟨[],[.c (.int ((wk l)))],none,false⟩
theorem KG:CK 219 BQ:=ah fun (l,_,_) _ _=>by
 refine av sL (SU l) Tryz.func219 (?_:(fun (c:Int)=>(fun (b:Nat)=>l.length*8<=140737488355328->∃ (e:Nat),(l=l/\(↑l.length:Int)=(↑b:Int)/\0=(↑e:Int))/\(e<=b/\wk (List.take e l) = -c)/\∀ (s:Nat),s<=b/\wk (List.take s l) = -c->((↑s:Int)<(↑b:Int)->0<=(↑s:Int)/\(↑s:Int)<(↑l.length:Int)/\∀ (x:Int),l[s]? = some x->I64 x->((!bR x)=true->(↑s:Int)=wk l)/\((!bR x)=false->I64 ((↑s:Int)+c)/\∃ (d:Nat),(l=l/\(↑b:Int)=(↑b:Int)/\(↑s:Int)+c=(↑d:Int))/\(d <= b/\wk (List.take d l) = -c)/\b - d < b - s))/\((↑b:Int)<=(↑s:Int) -> -c=wk l)) l.length) 1);iterate 3 ((all_goals (repeat' with_reducible first|apply aV|refine bl ?_|intro)); (all_goals try (first | exact bY | exact rfl | exact (aaQ ab ab ab) | exact (S_ ab ab ab) | exact (abq ab aE))); all_goals try first | refine ⟨‹Nat› + 1,?_⟩ | refine ⟨0,?_⟩)
def OW:Kn:=aO (ae (kC (cL .int)) ao) aw fun (l,_) _=>⟨[0<l.length],[.c (.int ((zH l)))],none,false⟩
theorem YS:CK 159 OW:=ah fun (l,_) _ h=>by
 have j:=cg h;refine av sL (adT l) Tryz.func159 (?_:(fun c=>(fun e=>(fun b=>l.length*(8:Nat)<=(140737488355328:Nat)->(e<b->False)/\(b<=e->(0:Int)<=(0:Int)/\(0:Int)<e/\∀ (x:Int),l[(0:Nat)]? = some x->I64 x->∃ g,(l=l/\x=iK l (g+c)/\b=(↑g:Int)+b)/\g+c<=l.length/\∀ (s:Nat),(fun d=>s+c<=l.length->(d<e->(0:Int)<=d/\d<e/\∀ (x:Int),l[d.toNat]? = some x->I64 x->I64 (d+b)/\∃ f,(l=l/\min (iK l (s+c)) x=iK l (f + c)/\d+b=(↑f:Int)+b)/\f + c<=l.length/\l.length - f < l.length - s)/\(e<=d->iK l (s+c)=zH l)) ((↑s:Int)+b))) (1:Int)) (↑l.length:Int)) (1:Nat));iterate 3 ((all_goals (repeat' with_reducible first|apply aV|refine bl ?_|intro)); (all_goals try (first | exact bY | exact (Ka ab) | exact (TO ab) | exact (IC aE))); all_goals try first | refine ⟨‹Nat› + 1,?_⟩ | refine ⟨0,?_⟩)
def Xs:bP:=(aQ 159 OW (aQ 219 BQ Xb))
def CL:aA Tryz.prog (ak tyT) Xs:=(ag YS (ag KG sL))
def FN:Kn:=aO (ae (kC (cL .int)) (ae (kC (qL 157 [] [])) ao)) aw fun (l,_,_) _=>⟨[],[.c (.bool (.atom ((!l.all bR))))],none,false⟩
def Uj:CK 158 FN:=ah fun (l,_,_) _ _=>by
 refine av CL [] Tryz.func158 (?_:l.length*8<=140737488355328->I64 (wk l)->decide (0<=wk l) = !l.all bR);(repeat' with_reducible first|apply aV|refine bl ?_|intro)
 all_goals (first | exact bY | exact (Ug))
def Xw:bP:=(aQ 158 FN Xs)
def Bs:aA Tryz.prog (ak tyT) Xw:=(ag Uj CL)
def ags (o:(l.length:Int)=0\/(!l.all bR)=true):0=iZ l:=by
 have h:(decide (l.length=0) || !l.all bR)=true:=by
  rcases o with o | o
  ·rw [decide_eq_true aE]; rfl
  rw [o,Bool.or_true]
 unfold iZ; rw [if_pos h]
def af_ (o:¬ (l.length:Int)=0) (h:(!l.all bR)=false):zH l=iZ l:=by
 have h:¬ (decide (l.length=0) || !l.all bR)=true:=by
  rw [h,decide_eq_false aE]; decide
 unfold iZ; rw [if_neg h]
def yJ:Kn:=aO (ae (kC (cL .int)) ao) aw fun (l,_) _=>⟨[],[.c (.int ((iZ l)))],none,false⟩
def Qr:CK 92 yJ:=ah fun (l,_) _ _=>by
 refine av Bs [] Tryz.func92 (?_:l.length*8<=140737488355328->((↑l.length:Int)=0\/(!l.all bR)=true->0=iZ l)/\(¬(↑l.length:Int)=0/\(!l.all bR)=false->0<l.length/\(I64 (zH l)->zH l=iZ l)));(repeat' with_reducible first|apply aV|refine bl ?_|intro)
 all_goals (first | exact bY | exact (ags ap) | exact (af_ ab ab))
def Yl:bP:=(aQ 92 yJ Xw)
def Ch:aA Tryz.prog (ak tyT) Yl:=(ag Qr Bs)
def BS:Kn:=aO (ae (kC cI) (ae (kC (cL .int)) ao)) aw fun (v,l,_) _=>⟨[],[.c (.bool (.atom ((kF v l))))],none,false⟩
theorem OC:CK 53 BS:=ah fun (v,l,_) _ _=>by
 refine av Ch [] Tryz.func53 (?_:I64 v->l.length*8<=140737488355328->(1<=v/\v<3->I64 (iZ l))->(decide (1<=v) && decide (v<3) && decide (v<iZ l))=kF v l);(repeat' with_reducible first|apply aV|refine bl ?_|intro)
 all_goals (first | exact bY | rfl | grind [kF])
def WB:bP:=(aQ 53 BS Yl)
def LP:aA Tryz.prog (ak tyT) WB:=(ag OC Ch)
def Xi:bP:=WB
def OO:aA Tryz.prog (ak tyT) Xi:=LP
section
variable {s:State} {l:List Command} {x:Command} {k:Nat}
end
section
variable {s:State} {l:List Command} {x:Command} {k:Nat} {d:Command}
end
def XT:bP:=Xi
def Qu:aA Tryz.prog (ak tyT) XT:=OO
def Xe:bP:=XT
def dG:aA Tryz.prog (ak tyT) Xe:=Qu
def eB (f:Field):Bool:=(decide (1<=f.num) && decide (f.num<=1000)) && (if f.wire=0 then decide (((f.b.length:Nat):Int)=0) else if f.wire=2 then decide ((f.n.n:Int)=0) else false)
def fX (a f:Field):Bool:=if f.num=a.num then (decide (f.wire=2) && decide (a.wire=2)) else decide (a.num<f.num)
def qc (num b:Int):Bool:=(decide (1<=num) && decide (num<=1000)) && (decide (b=0) || decide (b=2))
def ng (num b:Int):List UInt8:=if qc num b then de ((8*num)+b).toNat else []
def CE (num b:Int):Int:=if qc num b then 0 else 1
def cF (f:Field):List UInt8:=if f.wire=0 then ng f.num f.wire++de f.n.n else (ng f.num f.wire++de f.b.length)++f.b
def okP:Option Field->Field->Bool
 | none,_=>true
 | some q,f=>fX q f
def stepT (p:Option Field) (f:Field):Int:=if eB f=false then 1 else if okP p f=false then 5 else if (16384:Int)<((f.b.length:Nat):Int) then 4 else 0
def ej:Option Field->List Field->Int
 | _,[]=>0
 | p,f :: r=>if stepT p f=0 then ej (some f) r else stepT p f
def iD (l:List Field):Nat:=(l.map fun f=>(cF f).length).sum
def cZ (l:List Field):Int:=if ej none l=0 then (if (16384:Int)<((iD l:Nat):Int) then 4 else 0) else ej none l
def mC (l:List Field):List UInt8:=if cZ l=0 then (l.map cF).flatten else []
def eZ (l:List Field) (k:Nat):Option Field:=if k=0 then none else l[k - 1]?
def xJ (l:List Field) (k:Nat) (x:Field):Prop:=(¬ 0<k)\/∃ y,l[k - 1]? = some y/\fX y x=true
variable {num wire:Int}
def Kw (h:(num<1\/1000<num)\/(¬ wire=0/\¬ wire=2)):qc num wire=false:=by
 rw [<- Bool.not_eq_true]; unfold qc; simp only [Bool.and_eq_true,Bool.or_eq_true,decide_eq_true_eq]; omega
def Gx (h:¬ ((num<1\/1000<num)\/(¬ wire=0/\¬ wire=2))):qc num wire=true:=by
 unfold qc; simp only [Bool.and_eq_true,Bool.or_eq_true,decide_eq_true_eq]; omega
def UU (h:(num<1\/1000<num)\/(¬ wire=0/\¬ wire=2)):[]=ng num wire:=by rw [ng,Kw h]; rfl
def Va (h:(num<1\/1000<num)\/(¬ wire=0/\¬ wire=2)):1=CE num wire:=by rw [CE,Kw h]; rfl
def Pf (h:¬ ((num<1\/1000<num)\/(¬ wire=0/\¬ wire=2))):de ((8*num)+wire).toNat=ng num wire:=by rw [ng,Gx h]; rfl
def Rg (h:¬ ((num<1\/1000<num)\/(¬ wire=0/\¬ wire=2))):0=CE num wire:=by rw [CE,Gx h]; rfl
def sx (num wire:Int):(ng num wire).length<=10:=by
 unfold ng;cases h:qc num wire with
 | false=>simp
 | true=>
  unfold qc at h; simp only [Bool.and_eq_true,Bool.or_eq_true,decide_eq_true_eq] at h;exact db aE
variable {f:Field}
def ke (d:f.b.length<=16384) (c:f.n.n<18446744073709551616):(cF f).length<=16404:=by
 have e:=sx f.num f.wire;unfold cF;split
 ·have:=db c; rw [List.length_append]; omega
 have:=db (n:=f.b.length) aE; rw [List.length_append,List.length_append]; omega
def TU (h:f.wire=0):ng f.num f.wire++de f.n.n=cF f:=by rw [cF,if_pos h]
def RG (h:¬ f.wire=0):(ng f.num f.wire++de f.b.length)++f.b=cF f:=by rw [cF,if_neg h]
variable {x:Field} {l:List Field}
def sF (b:l[k]? = some x):iD (l.take k)+(cF x).length=iD (l.take (k+1)):=by
 unfold iD; rw [ai b,List.map_append,List.sum_append]; simp
def ES (c:xJ l k x):okP (eZ l k) x=true:=by
 unfold eZ;rcases c with h | ⟨y,d,e⟩
 ·rw [if_pos aE]; rfl
 by_cases b:k=0
 ·rw [if_pos b]; rfl
 rw [if_neg b,d]; exact e
def QO (b:l[k]? = some x):ej (eZ l k) (l.drop k)=if stepT (eZ l k) x=0 then ej (some x) (l.drop (k+1)) else stepT (eZ l k) x:=by
 obtain ⟨c,d⟩:=aaw.1 b;rw [afP c,d]; rfl
variable {e:Int}
def NU (c:ej none l=ej (eZ l k) (l.drop k)) (d:l[k]? = some x) (g:stepT (eZ l k) x=e) (b:e≠0):e=cZ l:=by
 have h:ej none l=e:=by rw [c,QO d,g,if_neg b]
 rw [cZ,h,if_neg b]
def Dp (b:ej none l=ej (eZ l k) (l.drop k)) (c:l[k]? = some x) (d:eB x=false):1=cZ l:=NU b c (by rw [stepT,if_pos d]) am
def Dz {y:Field} (b:ej none l=ej (eZ l k) (l.drop k)) (c:l[k]? = some x) (d:eB x=true) (j:0<k) (g:l[k - 1]? = some y) (h:fX y x=false):5=cZ l:=
 NU b c (by rw [stepT,if_neg (by rw [d]; decide),if_pos]; unfold eZ; rw [if_neg aE,g]; exact h) am
def Dm (c:ej none l=ej (eZ l k) (l.drop k)) (d:l[k]? = some x) (g:eB x=true) (h:xJ l k x) (j:(16384:Int)<((x.b.length:Nat):Int)):4=cZ l:=
 NU c d (by rw [stepT,if_neg (by rw [g]; decide),if_neg (by rw [ES h]; decide),if_pos j]) am
def rD (d:ej none l=ej (eZ l k) (l.drop k)) (c:l[k]? = some x) (g:eB x=true) (h:xJ l k x) (j:¬ (16384:Int)<((x.b.length:Nat):Int)):ej none l=ej (eZ l (k+1)) (l.drop (k+1)):=by
 rw [d,QO c,if_pos (by rw [stepT,if_neg (by rw [g]; decide),if_neg (by rw [ES h]; decide),if_neg j])];unfold eZ; rw [if_neg aE,Nat.add_sub_cancel,c]
def Fz (b:ej none l=ej (eZ l k) (l.drop k)) (c:l.length<=k):ej none l=0:=by
 rw [b,afY c]; rfl
def sZ (d:ej none l=ej (eZ l k) (l.drop k)) (b:l.length<=k) (c:(16384:Int)<((iD (l.take k):Nat):Int)):4=cZ l:=by
 rw [List.take_of_length_le b] at c; rw [cZ,if_pos (Fz d b),if_pos c]
def tf (d:ej none l=ej (eZ l k) (l.drop k)) (b:l.length<=k) (c:¬ (16384:Int)<((iD (l.take k):Nat):Int)):0=cZ l:=by
 rw [List.take_of_length_le b] at c; rw [cZ,if_pos (Fz d b),if_neg c]
theorem RP (h:cZ l=0):iD l<=16384:=by
 unfold cZ at h;grind
theorem VQ (h:cZ l=0):ej none l=0:=by
 unfold cZ at h;grind
theorem Gc:∀ {l:List Field} {p:Option Field},ej p l=0->∀ x ∈ l,x.b.length<=16384
 | f :: r,p,h,x,hx=>by
  unfold ej at h;split at h
  ·rename_i c;rcases acw.1 hx with rfl | hx
   ·unfold stepT at c;grind
   exact Gc h x hx
  grind
def xa (h:cZ l=0) (c:x ∈ l):x.b.length<=16384:=Gc (VQ h) x c
def Kb (b:l[k]? = some x):((l.take k).map cF).flatten++cF x=((l.take (k+1)).map cF).flatten:=by
 rw [ai b,List.map_append,List.flatten_append]; simp
def Mh (l:List Field):((l.map cF).flatten).length=iD l:=by
 unfold iD; rw [List.length_flatten,List.map_map]; rfl
def NQ:iD (l.take k)<=iD l:=by
 have:iD l=iD (l.take k)+iD (l.drop k):=by unfold iD; rw [<- List.sum_append,<- List.map_append,List.take_append_drop]
 omega
def NM (h:cZ l=0):((l.take k).map cF).flatten.length<=16384:=by
 have:=RP h; have:=NQ (l:=l) (k:=k); rw [Mh]; omega
def RW (h:cZ l=0) (b:l.length<=k):((l.take k).map cF).flatten=mC l:=by rw [mC,if_pos h,List.take_of_length_le b]
def YT (h:¬ cZ l=0):[]=mC l:=by rw [mC,if_neg h]
theorem Me (h:f.num<1\/1000<f.num):false=eB f:=by
 have:(decide (1<=f.num) && decide (f.num<=1000))=false:=by rw [<- Bool.not_eq_true]; simp only [Bool.and_eq_true,decide_eq_true_eq]; omega
 unfold eB; rw [this]; rfl
theorem MJ (h:¬ (f.num<1\/1000<f.num)):eB f=(if f.wire=0 then decide (((f.b.length:Nat):Int)=0) else if f.wire=2 then decide ((f.n.n:Int)=0) else false):=by
 have:(decide (1<=f.num) && decide (f.num<=1000))=true:=by simp only [Bool.and_eq_true,decide_eq_true_eq]; omega
 unfold eB; rw [this]; rfl
def bQ:List Spec:=([⟨1,0,1,true,false⟩,⟨2,0,1,false,false⟩,⟨3,0,1,false,false⟩,⟨4,0,1,false,false⟩,⟨5,0,1,false,false⟩,⟨6,0,1,false,false⟩,⟨7,2,1,false,false⟩,⟨8,2,3,false,false⟩]:List Spec)
def aY (v:Int):List Spec:=if v<1\/3<v then [] else bQ.filter fun s=>decide (s.since<=v)
def dg (v:Int):Int:=(aY v).foldl (fun t s=>max t s.num) 0
variable {x:Spec}
def tY {v:Int} (b:bQ[k]? = some x) (h:x.since<=v):(bQ.take k).filter (fun s=>decide (s.since<=v))++[x]=(bQ.take (k+1)).filter (fun s=>decide (s.since<=v)):=by
 rw [ai b,List.filter_append]; simp [h]
def Ts {v:Int} (b:bQ[k]? = some x) (h:¬ x.since<=v):(bQ.take k).filter (fun s=>decide (s.since<=v))=(bQ.take (k+1)).filter (fun s=>decide (s.since<=v)):=by
 rw [ai b,List.filter_append]; simp [h]
def Im {v:Int} (h:v<1\/3<v):[]=aY v:=by rw [aY,if_pos h]
def Qs {v:Int} (h:¬ (v<1\/3<v)) (b:bQ.length<=k):(bQ.take k).filter (fun s=>decide (s.since<=v))=aY v:=by rw [aY,if_neg h,List.take_of_length_le b]
def NA {v:Int}:((bQ.take k).filter (fun s=>decide (s.since<=v))).length<=8:=by
 have b:=List.length_filter_le (fun s:Spec=>decide (s.since<=v)) (bQ.take k);have c:(bQ.take k).length<=8:=by rw [List.length_take]; exact Nat.le_trans (Nat.min_le_right _ _) am
 omega
def Pk {v:Int} (b:(aY v)[k]? = some x):max (((aY v).take k).foldl (fun t s=>max t s.num) 0) x.num=((aY v).take (k+1)).foldl (fun t s=>max t s.num) 0:=by
 rw [ai b,List.foldl_append]; rfl
def qo (num n:Int):List Field:=if n=0 then [] else [⟨num,0,⟨n.toNat⟩,[]⟩]
def CQ (num:Int) (b:List UInt8):List Field:=if 0<((b.length:Nat):Int) then [⟨num,2,⟨0⟩,b⟩] else []
def xS (c:Command):List Field:=(((((([]++qo 1 c.kind)++qo 2 c.client)++qo 3 c.seq)++qo 4 c.set)++qo 5 c.id)++qo 6 c.n)++CQ 7 (eM c.chunks)
def dI (c:Command) (v:Int):List Field:=if 3<=v then xS c++CQ 8 c.text.b else xS c
def gC (num n:Int):(qo num n).length<=1:=by unfold qo; split <;> simp
def Ef (num:Int) (b:List UInt8):(CQ num b).length<=1:=by unfold CQ; split <;> simp
variable {xs:List Field}
def zT (h:¬ n=0):xs++[⟨num,0,⟨n.toNat⟩,[]⟩]=xs++qo num n:=by rw [qo,if_neg h]
def BA (h:n=0):xs=xs++qo num n:=by rw [qo,if_pos h,ad8]
variable {b:List UInt8}
def zI (h:0<((b.length:Nat):Int)):xs++[⟨num,2,⟨0⟩,b⟩]=xs++CQ num b:=by rw [CQ,if_pos h]
def Ai (h:¬ 0<((b.length:Nat):Int)):xs=xs++CQ num b:=by rw [CQ,if_neg h,ad8]
def mF (c:Command) (v:Int):(dI c v).length<=8:=by
 have d:=gC 1 c.kind; have g:=gC 2 c.client; have h:=gC 3 c.seq; have j:=gC 4 c.set; have m:=gC 5 c.id; have o:=gC 6 c.n;have p:=Ef 7 (eM c.chunks); have q:=Ef 8 c.text.b;unfold dI xS;split <;> simp only [List.length_append,List.length_nil] <;> omega
def dJ (c:Command) (d:List Field) (v:Int):Int:=if !(cq v 1 3) then 1 else if (gw c v=false/\¬ bK c v=0) then bK c v else if d.any (fun f=>decide (f.num<=dg v)) then 6 else 0
def fu (c:Command) (d:List Field) (v:Int):Int:=if dJ c d v=0 then cZ (dI c v++d) else dJ c d v
def gm (c:Command) (d:List Field) (v:Int):List UInt8:=if dJ c d v=0 then mC (dI c v++d) else []
def DP {k:Int} (h:¬ cE k=0):1<=k/\k<=12:=Decidable.byContradiction fun c=>h (UJ c)
def abi {c:Command} {v:Int} (h:gw c v=true):0<=c.kind/\0<=c.client/\0<=c.seq/\0<=c.set/\0<=c.id/\0<=c.n:=by
 unfold gw wj cq at h;simp only [Bool.and_eq_true,decide_eq_true_eq] at h;omega
def yo {m:Int} {b:Bool} (h:oF n m b=true):0<=n:=by
 unfold oF at h; cases b <;> simp at h <;> omega
def RZ {k:Int} (h:1<=k/\k<=12):0<=(vi k).1:=by
 have:k=1\/k=2\/k=3\/k=4\/k=5\/k=6\/k=7\/k=8\/k=9\/k=10\/k=11\/k=12:=by omega
 rcases this with rfl | rfl | rfl | rfl | rfl | rfl | rfl | rfl | rfl | rfl | rfl | rfl <;> decide
def Qa {c:Command} {v:Int} (h:bK c v=0):(1<=v/\v<=3)/\¬ cE c.kind=0/\cE c.kind<=v/\mu c=true:=by
 unfold bK at h;split at h
 ·cases h
 rename_i d;rw [Bool.or_eq_true,not_or] at d;simp only [Bool.not_eq_true',Bool.not_eq_false,decide_eq_true_eq] at d;split at h
 ·cases h
 split at h
 ·cases h
 rename_i j g;exact ⟨Ki d.1,d.2,aE,by simpa using g⟩
def CZ {c:Command} {v:Int} (h:bK c v=0):0<=c.kind/\0<=c.client/\0<=c.seq/\0<=c.set/\0<=c.id/\0<=c.n:=by
 obtain ⟨_,g,_,d⟩:=Qa h;have j:=DP g;have r:=RZ j;unfold mu at d;simp only [Bool.and_eq_true,decide_eq_true_eq] at d;obtain ⟨⟨⟨⟨⟨⟨⟨s,u⟩,_⟩,_⟩,m⟩,o⟩,p⟩,q⟩:=d;exact ⟨aE,yo m,yo o,yo p,yo q,aE⟩
variable {rest:List Field}
def ajr {c:Command} {v:Int} (h:(!(cq v 1 3))=true):dJ c rest v=1:=by rw [dJ,if_pos h]
def ah1 {c:Command} {v:Int} (h:(!(cq v 1 3))=false) (d:gw c v=false) (g:¬ bK c v=0):dJ c rest v=bK c v:=by rw [dJ,h,if_neg am,if_pos ⟨d,g⟩]
def agX {c:Command} {v:Int} {x:Field} (h:(!(cq v 1 3))=false) (h1:gw c v=true\/bK c v=0) (g:rest[k]? = some x) (j:x.num<=dg v):dJ c rest v=6:=by
 have:(rest.any fun f=>decide (f.num<=dg v))=true:=List.any_eq_true.2 ⟨x,acA g,decide_eq_true j⟩;rw [dJ,h,if_neg am,if_neg (fun d=>by rcases h1 with h1 | h1; rw [h1] at d; cases d.1; exact d.2 h1),if_pos this]
def ag6 {c:Command} {v:Int} (h:(!(cq v 1 3))=false) (h1:gw c v=true\/bK c v=0) (d:∀ j y,j<k->rest[j]? = some y->¬ y.num<=dg v) (p:rest.length<=k):dJ c rest v=0:=by
 have:(rest.any fun f=>decide (f.num<=dg v))=false:=by
  rw [List.any_eq_false];intro y m;obtain ⟨j,o,rfl⟩:=List.getElem_of_mem m;have:=d j _ aE (List.getElem?_eq_getElem o);simpa using this
 rw [dJ,h,if_neg am,if_neg (fun g=>by rcases h1 with h1 | h1; rw [h1] at g; cases g.1; exact g.2 h1),this,if_neg am]
def jG {c:Command} {v:Int} (h:dJ c rest v=e) (d:¬ e=0):e=fu c rest v:=by rw [fu,h,if_neg d]
def jV {c:Command} {v:Int} (h:dJ c rest v=e) (d:¬ e=0):[]=gm c rest v:=by rw [gm,h,if_neg d]
def LG {c:Command} {v:Int} (h:dJ c rest v=0):cZ (dI c v++rest)=fu c rest v:=by rw [fu,if_pos h]
def NK {c:Command} {v:Int} (h:dJ c rest v=0):mC (dI c v++rest)=gm c rest v:=by rw [gm,if_pos h]
def HU {z:Field} (h:∀ j y,j<k->rest[j]? = some y->¬ y.num<=t) (g:rest[k]? = some z) (m:¬ z.num<=t):∀ j y,j<k+1->rest[j]? = some y->¬ y.num<=t:=by
 intro j y o c;by_cases d:j=k
 ·subst d; rw [g] at c; cases c; exact m
 exact h j y aE c
def xE (n:Nat):de n=((List.range (bf n)).map (mV n)).set (bf n - 1) (mV n (bf n - 1) &&& 127):=by unfold de ft; simp
def MB:∀ m:Fin 128,(UInt8.ofNat m.val ||| 128) &&& 127=UInt8.ofNat m.val:=by decide
def aa6:∀ m:Fin 256,(UInt8.ofNat m.val ||| 128).toNat=m.val % 128+128:=by decide +kernel
variable {n:Nat}
def Ep (h:n<128):de n=[UInt8.ofNat n]:=by
 rw [xE,jL h];have:=MB ⟨n,h⟩;simp only [mV,Nat.pow_zero,Nat.div_one,List.range_one,afV,List.map_nil,Nat.sub_self,List.set_cons_zero] at *;rw [this]
def acG (n:Nat):(mV n 0).toNat=n % 128+128:=by
 have e:UInt8.ofNat n=UInt8.ofNat (n % 256):=UInt8.toNat_inj.1 (by simp [UInt8.toNat_ofNat']);have:=aa6 ⟨n % 256,af4 _ am⟩;simp only [mV,Nat.pow_zero,Nat.div_one];rw [e,this]; simp only; omega
def La (h:¬ n<128):de n=mV n 0 :: de (n / 128):=by
 have e:∀ i,mV n (i+1)=mV (n / 128) i:=fun i=>by unfold mV; rw [Nat.pow_succ,Nat.mul_comm,<- Nat.div_div_eq_div_mul]
 have d:=jo (n / 128);obtain ⟨s,c⟩:∃ s,bf (n / 128)=s+1:=⟨bf (n / 128) - 1,aE⟩;rw [xE,xE (n / 128),mM h,c];simp only [Nat.add_sub_cancel];rw [List.range_succ_eq_map,afV,List.map_map,List.set_cons_succ,e s,show mV n ∘ Nat.succ=mV (n / 128) from funext e]
def bW:Nat->Nat->List UInt8->Nat × Nat × Int
 | k,_,[]=>if 10<=k then (0,0,3) else (0,0,2)
 | k,n,x :: r=>if 10<=k then (0,0,3) else if (0<k/\x.toNat=0)\/(k=9/\1<x.toNat) then (0,0,3) else if x.toNat<128 then (n+(x &&& 127).toNat*2 ^ (7*k),k+1,0) else bW (k+1) (n+(x &&& 127).toNat*2 ^ (7*k)) r
termination_by _ _ l=>l.length
def aj (b:List UInt8):Nat × Nat × Int:=bW 0 0 b
def pH (x:UInt8):(x &&& 127).toNat=x.toNat % 128:=by rw [UInt8.toNat_and]; exact Nat.and_two_pow_sub_one_eq_mod x.toNat 7
variable {x:UInt8}
def YU (g:k<=9) (h:k=9->x.toNat<=1):(x &&& 127).toNat*2 ^ (7*k)<18446744073709551616:=by
 rw [pH];by_cases c:k=9
 ·have:=h c;subst c;have:x.toNat % 128*2 ^ (7*9)<=1*2 ^ (7*9):=afK _ aE;exact afW this am
 have d:2 ^ (7*k)<=2 ^ 56:=Nat.pow_le_pow_right am aE;have:x.toNat % 128*2 ^ (7*k)<=127*2 ^ 56:=Nat.mul_le_mul aE d;exact afW this am
variable {m:Nat}
def aa9 (h:n<2 ^ (7*k)):n ||| m*2 ^ (7*k)=n+m*2 ^ (7*k):=by
 have:=Nat.two_pow_add_eq_or_of_lt h m;rw [Nat.or_comm,Nat.mul_comm m,<- this,Nat.add_comm]
def Se (h:n<2 ^ (7*k)):n+(x &&& 127).toNat*2 ^ (7*k)<2 ^ (7*(k+1)):=by
 rw [pH];have e:2 ^ (7*(k+1))=128*2 ^ (7*k):=by rw [show 7*(k+1)=7*k+7 by omega,Nat.pow_add,Nat.mul_comm]
 have:x.toNat % 128*2 ^ (7*k)<=127*2 ^ (7*k):=afK _ aE;rw [e]; omega
def aa0 (d:k<10) (c:b.length<=k):bW k n (b.drop k)=(0,0,2):=by
 rw [afY c,bW,if_neg aE]
def ab7 (c:10<=k):bW k n (b.drop k)=(0,0,3):=by
 cases h:b.drop k with
 | nil=>rw [bW,if_pos c]
 | cons x r=>rw [bW,if_pos c]
def Qg (h:k<10) (d:b[k]? = some x):bW k n (b.drop k)=if (0<k/\x.toNat=0)\/(k=9/\1<x.toNat) then (0,0,3) else if x.toNat<128 then (n+(x &&& 127).toNat*2 ^ (7*k),k+1,0) else bW (k+1) (n+(x &&& 127).toNat*2 ^ (7*k)) (b.drop (k+1)):=by
 obtain ⟨c,g⟩:=aaw.1 d;rw [afP c,g,bW,if_neg aE]
def VG (h:aj b=bW k n (b.drop k)) (c:k<10) (d:b[k]? = some x) (g:¬ (0<k/\x.toNat=0)) (j:¬ (k=9/\1<x.toNat)) (o:¬ x.toNat<128):aj b=bW (k+1) (n+(x &&& 127).toNat*2 ^ (7*k)) (b.drop (k+1)):=by
 rw [h,Qg c d,if_neg (fun h=>h.elim g j),if_neg o]
theorem oD:∀ {l:List UInt8} {k n:Nat},k<=10->(bW k n l).2.1<=11/\(bW k n l).2.1<=k+l.length
 | [],k,n,h=>by rw [bW]; split <;> simp
 | x :: r,k,n,h=>by
  rw [bW];split
  ·simp
  split
  ·simp
  split
  ·simp; omega
  have:=oD (l:=r) (k:=k+1) (n:=n+(x &&& 127).toNat*2 ^ (7*k)) aE;simp only [List.length_cons]; omega
theorem NP (h:aj b=bW k n (b.drop k)) (c:k<10) (d:b[k]? = some x) (g:(0<k/\x.toNat=0)\/(k=9/\1<x.toNat)):aj b=(0,0,3):=by rw [h,Qg c d,if_pos g]
theorem Wb (h:aj b=bW k n (b.drop k)) (c:k<10) (d:b[k]? = some x) (g:¬ (0<k/\x.toNat=0)) (j:¬ (k=9/\1<x.toNat)) (o:x.toNat<128):aj b=(n+(x &&& 127).toNat*2 ^ (7*k),k+1,0):=by
 rw [h,Qg c d,if_neg (fun h=>h.elim g j),if_pos o]
theorem Mj:∀ {l:List UInt8} {k n:Nat},1<=k->(bW k n l).2.2=0->2 ^ (7*k)<=(bW k n l).1
 | [],k,n,_,h=>by rw [bW] at h; split at h <;> cases h
 | x :: r,k,n,j,h=>by
  rw [bW] at h ⊢;split
  ·rename_i d; rw [if_pos d] at h; cases h
  rename_i d;rw [if_neg d] at h;split
  ·rename_i c; rw [if_pos c] at h; cases h
  rename_i c;rw [if_neg c] at h;split
  ·rename_i g;rw [pH];have:1<=x.toNat % 128:=by
    have:¬ x.toNat=0:=fun e=>c (.inl ⟨aE,e⟩);omega
   have:=afK (2 ^ (7*k)) this;show 2 ^ (7*k)<=n+x.toNat % 128*2 ^ (7*k);omega
  rename_i g;rw [if_neg g] at h;exact Nat.le_trans (Nat.pow_le_pow_right am aE) (Mj aE h)
def GI (x:UInt8) (r:List UInt8):aj (x :: r)=if x.toNat<128 then (x.toNat,1,0) else bW 1 (x.toNat % 128) r:=by
 unfold aj;rw [bW,if_neg am,if_neg aE,pH];split
 ·rename_i h; rw [Nat.mod_eq_of_lt h]; simp
 simp
def zV (c:k<b.length):(b.drop k).take (b.length - k)=b[k] :: b.drop (k+1):=by
 rw [List.take_of_length_le aa,afP c]
def tk1 (c:k<b.length) (d:(aj ((b.drop k).take (b.length - k))).2.2=0) (g:¬ (64:Int)<(((aj ((b.drop k).take (b.length - k))).1:Nat):Int)) :
  ∃ x,b[k]? = some x/\aj ((b.drop k).take (b.length - k))=(x.toNat,1,0)/\x.toNat<=64:=by
 rw [zV c,GI] at *;by_cases h:b[k].toNat<128
 ·rw [if_pos h] at *; exact ⟨_,List.getElem?_eq_getElem c,rfl,by simp only at g; omega⟩
 rw [if_neg h] at *;have:=Mj (Nat.le_refl 1) d;omega
def tk2 (c:k<b.length) (h:(¬ (aj ((b.drop k).take (b.length - k))).2.2=0)\/(64:Int)<(((aj ((b.drop k).take (b.length - k))).1:Nat):Int)):∃ x,b[k]? = some x/\64<x.toNat:=by
 refine ⟨b[k],List.getElem?_eq_getElem c,?_⟩;rw [zV c,GI] at h;by_cases d:b[k].toNat<128
 ·rw [if_pos d] at h; simp only [not_true_eq_false,false_or] at h; omega
 omega
def cN (b:List UInt8):List Int:=b.map fun x=>(x.toNat:Int)
def kQ (b:List UInt8):List Int:=if cJ (cN b) then cN b else []
def ql (b:List UInt8):Int:=if cJ (cN b) then 0 else 6
def VE {p:Nat × Nat × Int} (c:b[k]? = some x) (d:p=(x.toNat,1,0)):cN (b.take k)++[((p.1:Nat):Int)]=cN (b.take (k+1)):=by
 subst d; unfold cN; rw [ai c,List.map_append]; rfl
def YG (c:k<b.length) (h:(¬ (aj ((b.drop k).take (b.length - k))).2.2=0)\/(64:Int)<(((aj ((b.drop k).take (b.length - k))).1:Nat):Int)):cJ (cN b)=false:=by
 obtain ⟨x,d,g⟩:=tk2 c h;rw [<- Bool.not_eq_true];intro j;have:=(xH j (x.toNat:Int) (ahE.2 ⟨x,acA d,rfl⟩)).2;omega
def C_ (c:b.length<=k):cN (b.take k)=cN b:=by rw [List.take_of_length_le c]
def yq (h:cJ (cN b)=false):[]=kQ b:=by rw [kQ,h]; rfl
def Ps (h:cJ (cN b)=false):6=ql b:=by rw [ql,h]; rfl
def Vj (c:b.length<=k) (h:cJ (cN (b.take k))=true):cN (b.take k)=kQ b:=by rw [C_ c] at *; rw [kQ,h]; rfl
def VL (c:b.length<=k) (h:cJ (cN (b.take k))=true):0=ql b:=by rw [C_ c] at *; rw [ql,h]; rfl
def CX (c:b.length<=k) (h:cJ (cN (b.take k))=false):cJ (cN b)=false:=by rw [C_ c] at h; exact h
structure TagR where
 num:Int
 wire:Int
 k:Nat
 e:Int
def DS (n:Nat):Bool:=decide ((n / 8<1\/1000<n / 8)\/(¬ n % 8=0/\¬ n % 8=2))
def aX (b:List UInt8):TagR:=if (aj b).2.2=0 then (if DS (aj b).1=true then ⟨0,0,0,6⟩ else ⟨(((aj b).1 / 8:Nat):Int),(((aj b).1 % 8:Nat):Int),(aj b).2.1,0⟩) else ⟨0,0,0,(aj b).2.2⟩
def QZ (h:¬ (aj b).2.2=0):aX b=⟨0,0,0,(aj b).2.2⟩:=by rw [aX,if_neg h]
def N_ (h:(aj b).2.2=0) (c:((aj b).1 / 8<1\/1000<(aj b).1 / 8)\/(¬ (aj b).1 % 8=0/\¬ (aj b).1 % 8=2)):aX b=⟨0,0,0,6⟩:=by rw [aX,if_pos h,if_pos (show DS _=true from decide_eq_true c)]
def NC (h:(aj b).2.2=0) (c:¬ (((aj b).1 / 8<1\/1000<(aj b).1 / 8)\/(¬ (aj b).1 % 8=0/\¬ (aj b).1 % 8=2))):aX b=⟨(((aj b).1 / 8:Nat):Int),(((aj b).1 % 8:Nat):Int),(aj b).2.1,0⟩:=by
 rw [aX,if_pos h,if_neg (by unfold DS; simpa using c)]
def qU (b:List UInt8):((aX b).k<=11/\(aX b).k<=b.length)/\(0<=(aX b).num/\(aX b).num<=1000)/\(0<=(aX b).wire/\(aX b).wire<=2):=by
 have d:(aj b).2.1<=11/\(aj b).2.1<=0+b.length:=oD (l:=b) (k:=0) (n:=0) aE;by_cases h:(aj b).2.2=0
 ·by_cases c:((aj b).1 / 8<1\/1000<(aj b).1 / 8)\/(¬ (aj b).1 % 8=0/\¬ (aj b).1 % 8=2)
  ·rw [N_ h c]; simp
  rw [NC h c]; dsimp only; omega
 rw [QZ h]; simp
theorem Ow:∀ {l:List UInt8} {k n:Nat},(bW k n l).2.2=0->1<=(bW k n l).2.1
 | [],k,n,h=>by rw [bW] at h; split at h <;> cases h
 | x :: r,k,n,h=>by
  rw [bW] at h ⊢;split
  ·grind
  rename_i c;rw [if_neg c] at h;split
  ·grind
  rename_i d;rw [if_neg d] at h;split
  ·simp
  rename_i g; rw [if_neg g] at h; exact Ow h
def bq (b:List UInt8):Nat × Int:=
  if (aX b).e=0 then
    (if (aj (b.drop (aX b).k)).2.2=0 then
      (if (aX b).wire=0 then ((aX b).k+(aj (b.drop (aX b).k)).2.1,0)
       else if 16384<(aj (b.drop (aX b).k)).1 then (0,4)
       else if ((b.length:Nat):Int) - (((aX b).k+(aj (b.drop (aX b).k)).2.1:Nat):Int)<(((aj (b.drop (aX b).k)).1:Nat):Int) then (0,2)
       else ((aX b).k+(aj (b.drop (aX b).k)).2.1+(aj (b.drop (aX b).k)).1,0))
     else (0,(aj (b.drop (aX b).k)).2.2))
  else (0,(aX b).e)
def aif (h:¬ (aX b).e=0):bq b=(0,(aX b).e):=by rw [bq,if_neg h]
def agY (h:(aX b).e=0) (c:¬ (aj (b.drop (aX b).k)).2.2=0):bq b=(0,(aj (b.drop (aX b).k)).2.2):=by rw [bq,if_pos h,if_neg c]
def aiO (h:(aX b).e=0) (c:(aj (b.drop (aX b).k)).2.2=0) (d:(aX b).wire=0):bq b=((aX b).k+(aj (b.drop (aX b).k)).2.1,0):=by rw [bq,if_pos h,if_pos c,if_pos d]
def aic (h:(aX b).e=0) (c:(aj (b.drop (aX b).k)).2.2=0) (d:¬ (aX b).wire=0) (g:16384<(aj (b.drop (aX b).k)).1):bq b=(0,4):=by rw [bq,if_pos h,if_pos c,if_neg d,if_pos g]
def ah9 (h:(aX b).e=0) (c:(aj (b.drop (aX b).k)).2.2=0) (d:¬ (aX b).wire=0) (g:¬ 16384<(aj (b.drop (aX b).k)).1) (j:((b.length:Nat):Int) - (((aX b).k+(aj (b.drop (aX b).k)).2.1:Nat):Int)<(((aj (b.drop (aX b).k)).1:Nat):Int)):bq b=(0,2):=by rw [bq,if_pos h,if_pos c,if_neg d,if_neg g,if_pos j]
def ai8 (h:(aX b).e=0) (c:(aj (b.drop (aX b).k)).2.2=0) (d:¬ (aX b).wire=0) (g:¬ 16384<(aj (b.drop (aX b).k)).1) (j:¬ ((b.length:Nat):Int) - (((aX b).k+(aj (b.drop (aX b).k)).2.1:Nat):Int)<(((aj (b.drop (aX b).k)).1:Nat):Int)):bq b=((aX b).k+(aj (b.drop (aX b).k)).2.1+(aj (b.drop (aX b).k)).1,0):=by rw [bq,if_pos h,if_pos c,if_neg d,if_neg g,if_neg j]
theorem oH (b:List UInt8) (k:Nat):(aj (b.drop k)).2.1<=11/\(aj (b.drop k)).2.1+k<=max b.length k:=by
 have:=oD (l:=b.drop k) (k:=0) (n:=0) aE;unfold aj;grind
theorem AP (b:List UInt8):(bq b).1<=b.length:=by
 have c:=qU b; have d:=oH b (aX b).k;unfold bq;grind
theorem nj (h:(bq b).2=0):1<=(bq b).1:=by
 unfold bq at h ⊢;split
 ·rename_i d;rw [if_pos d] at h;split
  ·rename_i c;rw [if_pos c] at h;have:=Ow (l:=b.drop (aX b).k) (k:=0) (n:=0) c;split
   ·dsimp only; unfold aj; omega
   rename_i g;rw [if_neg g] at h;split
   ·grind
   rename_i j;rw [if_neg j] at h;split
   ·grind
   dsimp only; unfold aj; omega
  grind
 grind
def iz (b:List UInt8):Field:=if (aX b).wire=0 then ⟨(aX b).num,(aX b).wire,⟨(aj (b.drop (aX b).k)).1⟩,[]⟩ else ⟨(aX b).num,(aX b).wire,⟨0⟩,b.drop ((aX b).k+(aj (b.drop (aX b).k)).2.1)⟩
def HF (h:(aX b).wire=0):(⟨(aX b).num,(aX b).wire,⟨(aj (b.drop (aX b).k)).1⟩,[]⟩:Field)=iz b:=by rw [iz,if_pos h]
def Hi (h:¬ (aX b).wire=0):(⟨(aX b).num,(aX b).wire,⟨0⟩,b.drop ((aX b).k+(aj (b.drop (aX b).k)).2.1)⟩:Field)=iz b:=by rw [iz,if_neg h]
def fY (c:List Field) (x:Field):Bool:=match c[c.length - 1]? with | none=>true | some y=>fX y x
def Bd:Nat->List Field->List UInt8->List Field × Int
 | 0,c,_=>(c,0)
 | f+1,c,b=>if b.length=0 then (c,0) else if (bq b).2=0 then (if fY c (iz (b.take (bq b).1))=true then Bd f (c++[iz (b.take (bq b).1)]) (b.drop (bq b).1) else ([],5)) else ([],(bq b).2)
def bI (b:List UInt8):List Field × Int:=if 16384<b.length then ([],4) else Bd b.length [] b
def jh (b:List UInt8) (i:Nat) (c:List Field):Prop:=∃ f,b.length - i<=f/\bI b=Bd f c (b.drop i)
def ZV (h:16384<b.length):bI b=([],4):=by rw [bI,if_pos h]
def Mm (h:¬ 16384<b.length):jh b 0 []:=⟨b.length,aE,by rw [bI,if_neg h]; rfl⟩
variable {acc:List Field}
def No (h:jh b i acc) (d:i<b.length):∃ f,b.length - i<=f+1/\bI b=if (bq (b.drop i)).2=0 then (if fY acc (iz ((b.drop i).take (bq (b.drop i)).1))=true then Bd f (acc++[iz ((b.drop i).take (bq (b.drop i)).1)]) ((b.drop i).drop (bq (b.drop i)).1) else ([],5)) else ([],(bq (b.drop i)).2):=by
 obtain ⟨f,c,e⟩:=h;cases f with
 | zero=>omega
 | succ f=>exact ⟨f,c,by rw [e,Bd,if_neg (by rw [List.length_drop]; omega)]⟩
def Sk (h:jh b i acc) (c:i<b.length) (d:¬ (bq (b.drop i)).2=0):bI b=([],(bq (b.drop i)).2):=by
 obtain ⟨f,_,e⟩:=No h c; rw [e,if_neg d]
def ZI (h:jh b i acc) (c:b.length<=i):bI b=(acc,0):=by
 obtain ⟨f,_,e⟩:=h;rw [e,afY c];cases f <;> rfl
theorem Ce:∀ {f:Nat} {acc:List Field} {b:List UInt8},(Bd f acc b).1.length<=acc.length+b.length
 | 0,acc,b=>by simp [Bd]
 | f+1,acc,b=>by
  unfold Bd;split
  ·simp
  split
  ·rename_i d c;split
   ·have:=Ce (f:=f) (acc:=acc++[iz (b.take (bq b).1)]) (b:=b.drop (bq b).1);have g:=nj c;rw [List.length_append,List.length_drop] at this;simp only [List.length_cons,List.length_nil] at this;omega
   simp
  simp
def Uh (b:List UInt8):(bI b).1.length<=16384:=by
 unfold bI;split
 ·simp
 have:=Ce (f:=b.length) (acc:=[]) (b:=b);simp only [List.length_nil] at this;omega
def MA (x:Field) (s:Spec) (n:Int):Bool:=if ¬ x.wire=s.wire\/(1<n/\s.many=false) then false else if x.wire=0 then !decide ((x.n.n:Int)=0) else decide (0<((x.b.length:Nat):Int))
def iH (l:List Field) (q:Int):Nat:=l.countP fun x=>decide (x.num=q)
def rq (q:Int):iH (l.take k) q<=k:=Nat.le_trans List.countP_le_length (by rw [List.length_take]; exact Nat.min_le_left _ _)
variable {x:Field}
def QC (c:l[k]? = some x) (q:Int):iH (l.take (k+1)) q=if q=x.num then iH (l.take k) x.num+1 else iH (l.take k) q:=by
 unfold iH;rw [ai c,List.countP_append];by_cases h:q=x.num
 ·subst h; simp
 have:¬ x.num=q:=fun e=>h e.symm;simp [h,this]
def uv (l:List Field) (c:List Spec) (k:Nat):Prop:=∀ j x,j<k->l[j]? = some x->∀ s ∈ c,s.num=x.num->MA x s ((iH (l.take (j+1)) x.num:Nat):Int)=true
def Kf (l:List Field) (c:List Spec) (m:Nat):Prop:=∀ j y,j<m->c[j]? = some y->y.need=true->¬ iH l y.num=0
def Ra (c:List Spec) (x:Field) (n:Int) (m:Nat):Prop:=∀ j y,j<m->c[j]? = some y->y.num=x.num->MA x y n=true
variable {n:Int} {ss:List Spec}
def Hf:Ra ss x n 0:=fun j y h=>by omega
def FL:uv l ss 0:=fun j y h=>by omega
def GD:Kf l ss 0:=fun j y h=>by omega
def zM (l:List Field) (v:Int):Prop:=uv l (aY v) l.length/\Kf l (aY v) (aY v).length
open Classical in
def gu (l:List Field) (v:Int):Int:=if (aY v).length=0 then 1 else if cZ l=0 then (if zM l v then 0 else 6) else cZ l
def Sd {v:Int} (h:(aY v).length=0):1=gu l v:=by rw [gu,if_pos h]
def Tp {v:Int} (h:¬ (aY v).length=0) (c:¬ cZ l=0):cZ l=gu l v:=by rw [gu,if_neg h,if_neg c]
def yL {v:Int} (h:¬ (aY v).length=0) (c:cZ l=0) (d:¬ zM l v):6=gu l v:=by rw [gu,if_neg h,if_pos c,if_neg d]
def UF {v:Int} (h:¬ (aY v).length=0) (c:cZ l=0) (d:zM l v):0=gu l v:=by rw [gu,if_neg h,if_pos c,if_pos d]
def OG {y:Spec} (h:Ra ss x n m) (g:ss[m]? = some y) (o:y.num=x.num->MA x y n=true):Ra ss x n (m+1):=by
 intro j z p c;by_cases d:j=m
 ·subst d; rw [g] at c; cases c; exact o
 exact h j z aE c
def PB (h:uv l ss k) (q:l[k]? = some x) (r:Ra ss x n m) (v:ss.length<=m) (e:n=((iH (l.take (k+1)) x.num:Nat):Int)):uv l ss (k+1):=by
 subst e;intro j z w c s g o;by_cases d:j=k
 ·subst d; rw [q] at c; cases c;obtain ⟨p,u,rfl⟩:=List.getElem_of_mem g;exact r p _ aE (List.getElem?_eq_getElem u) o
 exact h j z aE c s g o
def Pp {y:Spec} (h:Kf l ss m) (g:ss[m]? = some y) (o:y.need=true->¬ iH l y.num=0):Kf l ss (m+1):=by
 intro j z p c;by_cases d:j=m
 ·subst d; rw [g] at c; cases c; exact o
 exact h j z aE c
def qX {v:Int} {y:Spec} (c:l[k]? = some x) (g:(aY v)[m]? = some y) (d:y.num=x.num/\MA x y n=false) (e:n=((iH (l.take (k+1)) x.num:Nat):Int)):¬ zM l v:=by
 intro h;have:=h.1 k x (xN c) c y (acA g) d.1;rw [<- e,d.2] at this; cases this
variable {n:Nat}
def Rw {v:Int} {y:Spec} (c:(aY v)[m]? = some y) (d:y.need=true/\((n:Nat):Int)=0) (e:n=iH l y.num):¬ zM l v:=
 fun h=>h.2 m y (xN c) c d.1 aE
def Vk {v:Int} (c:uv l (aY v) k) (h:l.length<=k) (d:Kf l (aY v) m) (o:(aY v).length<=m):zM l v:=
 ⟨fun j x g=>c j x aE,fun j y g=>d j y aE⟩
def Sn {v:Int} (c:l[k]? = some x) (h:x.num<=v):(l.take k).filter (fun f=>decide (f.num<=v))++[x]=(l.take (k+1)).filter (fun f=>decide (f.num<=v)):=by
 rw [ai c,List.filter_append]; simp [h]
def Zm {v:Int} (c:l[k]? = some x) (h:¬ x.num<=v):(l.take k).filter (fun f=>decide (f.num<=v))=(l.take (k+1)).filter (fun f=>decide (f.num<=v)):=by
 rw [ai c,List.filter_append]; simp [h]
def Wc {v:Int} (c:l[k]? = some x) (h:¬ x.num<=v):(l.take k).filter (fun f=>!decide (f.num<=v))++[x]=(l.take (k+1)).filter (fun f=>!decide (f.num<=v)):=by
 rw [ai c,List.filter_append]; simp [h]
def Zn {v:Int} (c:l[k]? = some x) (h:x.num<=v):(l.take k).filter (fun f=>!decide (f.num<=v))=(l.take (k+1)).filter (fun f=>!decide (f.num<=v)):=by
 rw [ai c,List.filter_append]; simp [h]
def MH (l:List Field) (p:Field->Bool):(l.filter p).length<=l.length:=List.length_filter_le _ _
def dW (l:List Field) (v:Int):List Field:=l.filter fun f=>decide (f.num<=v)
def eC (l:List Field) (v:Int):List Field:=l.filter fun f=>!decide (f.num<=v)
def GN (l:List Field) (v:Int):(dW l v).length<=l.length:=MH _ _
def xI (l:List Field) (v:Int):(eC l v).length<=l.length:=MH _ _
def HY {v:Int} (c:l.length<=k):(l.take k).filter (fun f=>decide (f.num<=v))=dW l v:=by rw [List.take_of_length_le c]; rfl
def KW {v:Int} (c:l.length<=k):(l.take k).filter (fun f=>!decide (f.num<=v))=eC l v:=by rw [List.take_of_length_le c]; rfl
def Kh (f:Field):Int:=IntKind.i64.wrap ((f.n.n:Nat):Int)
def fC (c:Command) (f:Field):Command:=
 if f.num=1 then ⟨Kh f,c.client,c.seq,c.set,c.id,c.n,c.chunks,c.text⟩ else
 if f.num=2 then ⟨c.kind,Kh f,c.seq,c.set,c.id,c.n,c.chunks,c.text⟩ else
 if f.num=3 then ⟨c.kind,c.client,Kh f,c.set,c.id,c.n,c.chunks,c.text⟩ else
 if f.num=4 then ⟨c.kind,c.client,c.seq,Kh f,c.id,c.n,c.chunks,c.text⟩ else
 if f.num=5 then ⟨c.kind,c.client,c.seq,c.set,Kh f,c.n,c.chunks,c.text⟩ else
 if f.num=6 then ⟨c.kind,c.client,c.seq,c.set,c.id,Kh f,c.chunks,c.text⟩ else
 if f.num=7 then ⟨c.kind,c.client,c.seq,c.set,c.id,c.n,kQ f.b,c.text⟩ else
 if f.num=8 then ⟨c.kind,c.client,c.seq,c.set,c.id,c.n,c.chunks,⟨f.b⟩⟩ else c
def cS:Command:=⟨0,0,0,0,0,0,[],⟨[]⟩⟩
def c_ (l:List Field):Command:=l.foldl fC cS
def aR (c:l[k]? = some x):c_ (l.take (k+1))=fC (c_ (l.take k)) x:=by
 unfold c_; rw [ai c,List.foldl_append]; rfl
def abX {c:Command} (h:f.num=1):(⟨Kh f,c.client,c.seq,c.set,c.id,c.n,c.chunks,c.text⟩:Command)=fC c f:=by rw [fC,if_pos h]
def ab6 {c:Command} (h:f.num=2):(⟨c.kind,Kh f,c.seq,c.set,c.id,c.n,c.chunks,c.text⟩:Command)=fC c f:=by rw [fC,if_neg aE,if_pos h]
def ZK {c:Command} (h:f.num=3):(⟨c.kind,c.client,Kh f,c.set,c.id,c.n,c.chunks,c.text⟩:Command)=fC c f:=by rw [fC,if_neg aE,if_neg aE,if_pos h]
def aaL {c:Command} (h:f.num=4):(⟨c.kind,c.client,c.seq,Kh f,c.id,c.n,c.chunks,c.text⟩:Command)=fC c f:=by rw [fC,if_neg aE,if_neg aE,if_neg aE,if_pos h]
def ZR {c:Command} (h:f.num=5):(⟨c.kind,c.client,c.seq,c.set,Kh f,c.n,c.chunks,c.text⟩:Command)=fC c f:=by rw [fC,if_neg aE,if_neg aE,if_neg aE,if_neg aE,if_pos h]
def YY {c:Command} (h:f.num=6):(⟨c.kind,c.client,c.seq,c.set,c.id,Kh f,c.chunks,c.text⟩:Command)=fC c f:=by rw [fC,if_neg aE,if_neg aE,if_neg aE,if_neg aE,if_neg aE,if_pos h]
def aci {c:Command} (h:f.num=7):(⟨c.kind,c.client,c.seq,c.set,c.id,c.n,kQ f.b,c.text⟩:Command)=fC c f:=by rw [fC,if_neg aE,if_neg aE,if_neg aE,if_neg aE,if_neg aE,if_neg aE,if_pos h]
def Yw {c:Command} (h:f.num=8):(⟨c.kind,c.client,c.seq,c.set,c.id,c.n,c.chunks,⟨f.b⟩⟩:Command)=fC c f:=by rw [fC,if_neg aE,if_neg aE,if_neg aE,if_neg aE,if_neg aE,if_neg aE,if_neg aE,if_pos h]
def YL {c:Command} (h:¬ (1<=f.num/\f.num<=8)):c=fC c f:=by rw [fC,if_neg aE,if_neg aE,if_neg aE,if_neg aE,if_neg aE,if_neg aE,if_neg aE,if_neg aE]
def mR (b:List UInt8) (v:Int):Int:=if (bI b).2=0 then gu (bI b).1 v else (bI b).2
structure TkR where
 c:Command
 r:List Field
 e:Int
def cK (b:List UInt8) (v:Int):TkR:=
 if 1<=v/\v<=3 then (if mR b v=0 then (if fu (c_ (dW (bI b).1 (dg v))) (eC (bI b).1 (dg v)) v=0/\gm (c_ (dW (bI b).1 (dg v))) (eC (bI b).1 (dg v)) v=b then ⟨c_ (dW (bI b).1 (dg v)),eC (bI b).1 (dg v),0⟩ else ⟨cS,[],6⟩) else ⟨cS,[],mR b v⟩) else ⟨cS,[],1⟩
def ag7 {v:Int} (h:¬ (1<=v/\v<=3)):cK b v=⟨cS,[],1⟩:=by rw [cK,if_neg h]
def afB {v:Int} (h:1<=v/\v<=3) (c:¬ mR b v=0):cK b v=⟨cS,[],mR b v⟩:=by rw [cK,if_pos h,if_neg c]
def agG {v:Int} (h:1<=v/\v<=3) (d:mR b v=0) (g:¬ fu (c_ (dW (bI b).1 (dg v))) (eC (bI b).1 (dg v)) v=0\/¬ gm (c_ (dW (bI b).1 (dg v))) (eC (bI b).1 (dg v)) v=b):cK b v=⟨cS,[],6⟩:=by
 rw [cK,if_pos h,if_pos d,if_neg (fun h=>g.elim (fun c=>c h.1) (fun c=>c h.2))]
def aja {v:Int} (h:1<=v/\v<=3) (c:mR b v=0) (d:fu (c_ (dW (bI b).1 (dg v))) (eC (bI b).1 (dg v)) v=0/\gm (c_ (dW (bI b).1 (dg v))) (eC (bI b).1 (dg v)) v=b):cK b v=⟨c_ (dW (bI b).1 (dg v)),eC (bI b).1 (dg v),0⟩:=by
 rw [cK,if_pos h,if_pos c,if_pos d]
theorem Rr {v:Int} (h:mR b v=0):(bI b).2=0/\cZ (bI b).1=0:=by
 unfold mR at h;split at h
 ·rename_i c;refine ⟨c,?_⟩;unfold gu at h;split at h
  ·cases h
  split at h
  ·assumption
  exact h
 rename_i c; exact absurd h c
def aaW {v:Int} {u:Int} (h:mR b v=0):∀ f ∈ dW (bI b).1 u,f.b.length<=16384:=
 fun _ c=>xa (Rr h).2 (ajt.1 c).1
variable {x:UInt8}
def Il (h:x.toNat<128):(x &&& 127).toNat=x.toNat:=by rw [pH]; omega
def IU:∀ (n:Nat) {k m:Nat} {r:List UInt8},k<=9->n*2 ^ (7*k)<18446744073709551616->(0<k->n≠0)->bW k m (de n++r)=(m+n*2 ^ (7*k),k+(de n).length,0):=by
 intro n;induction n using Nat.strongRecOn with
 | _ n p=>
  intro k m r y z q;by_cases g:n<128
  ·rw [Ep g];have c:(UInt8.ofNat n).toNat=n:=by rw [UInt8.toNat_ofNat']; omega
   simp only [List.cons_append,ail,List.length_cons,List.length_nil];have s:¬ ((0<k/\(UInt8.ofNat n).toNat=0)\/(k=9/\1<(UInt8.ofNat n).toNat)):=by
    rw [c];rintro (⟨u,j⟩ | ⟨rfl,j⟩)
    ·exact q u j
    have:2*2 ^ (7*9)<=n*2 ^ (7*9):=afK _ aE;have e:(2:Nat)*2 ^ (7*9)=18446744073709551616:=by decide
    omega
   rw [bW,if_neg aE,if_neg s,if_pos aE,Il aE,c]
  rw [La g];simp only [List.cons_append,List.length_cons];have c:=acG n;have v:k<=8:=by
   rcases Nat.lt_or_ge k 9 with h | h
   ·omega
   have d:k=9:=by omega
   subst d;have:128*2 ^ (7*9)<=n*2 ^ (7*9):=afK _ aE;have e:(128:Nat)*2 ^ (7*9)=1180591620717411303424:=by decide
   omega
  have o:(2:Nat) ^ (7*(k+1))=128*2 ^ (7*k):=by rw [show 7*(k+1)=7*k+7 by omega,Nat.pow_add,Nat.mul_comm]
  have A:n / 128*2 ^ (7*(k+1))<=n*2 ^ (7*k):=by
   rw [o,<- Nat.mul_assoc]; exact afK _ (Nat.div_mul_le_self _ _)
  rw [bW,if_neg aE,if_neg (by rw [c]; rintro (⟨_,h⟩ | ⟨h,_⟩) <;> omega),if_neg aE,pH,c];rw [p (n / 128) aE (k:=k+1) aE aE (fun _=>by omega)];have e:(n % 128+128) % 128=n % 128:=by omega
  have w:n % 128*2 ^ (7*k)+n / 128*2 ^ (7*(k+1))=n*2 ^ (7*k):=by
   rw [o,<- Nat.mul_assoc,<- ag8]; congr 1; omega
  rw [e,Nat.add_assoc,w];congr 2;omega
def wC (h:n<18446744073709551616) (r:List UInt8):aj (de n++r)=(n,(de n).length,0):=by
 unfold aj;rw [IU n aE (by simpa using h) (fun h=>absurd h aE)];simp
def tvA (h:aj b=bW k n (b.drop k)) (c:(k:Int)<10) (d:(k:Int)=(b.length:Int)):aj b=(0,0,2):=h.trans (aa0 aE aE)
def tvD (h:aj b=bW k n (b.drop k)) (c:10<=(k:Int)):aj b=(0,0,3):=h.trans (ab7 aE)
theorem tvB (h:aj b=bW k n (b.drop k)) (c:(k:Int)<10) (d:k<=b.length) (g:¬ (k:Int)=(b.length:Int)) (j:0<(k:Int)) (o:((b.getD k (au .u8)).toNat:Int)=((UInt8.ofNat 0).toNat:Int)):aj b=(0,0,3):=by grind [NP]
theorem tvC (h:aj b=bW k n (b.drop k)) (c:(k:Int)<10) (d:k<=b.length) (g:¬ (k:Int)=(b.length:Int)) (j:(k:Int)=9) (o:((UInt8.ofNat 1).toNat:Int)<((b.getD k (au .u8)).toNat:Int)):aj b=(0,0,3):=by grind [NP]
def orN (n k:Nat) (x:UInt8):Nat:=n ||| (x &&& UInt8.ofNat 127).toNat*2 ^ (7*(k:Int)).toNat % 18446744073709551616
theorem tvN (c:n<2 ^ (7*k)) (d:k<=9) (g:k=9->x.toNat<=1):orN n k x=n+(x &&& 127).toNat*2 ^ (7*k):=by
 unfold orN;rw [show (UInt8.ofNat 127)=127 from rfl,show (7*(k:Int)).toNat=7*k by omega,Nat.mod_eq_of_lt (YU d g)];exact aa9 c
theorem tvZ (c:b[k]? = some x) (d:(k:Int)<=0\/¬ ((b.getD k (au .u8)).toNat:Int)=((UInt8.ofNat 0).toNat:Int)) (g:¬ (k:Int)=9\/((b.getD k (au .u8)).toNat:Int)<=((UInt8.ofNat 1).toNat:Int)):(¬ (0<k/\x.toNat=0))/\¬ (k=9/\1<x.toNat):=by grind
theorem tvE {y:UInt8} (h:aj b=bW k n (b.drop k)) (c:n<2 ^ (7*k)) (d:(k:Int)<10) (g:b[k]? = some x) (j:b[k]? = some y) (o:(k:Int)<=0\/¬ ((b.getD k (au .u8)).toNat:Int)=((UInt8.ofNat 0).toNat:Int)) (p:¬ (k:Int)=9\/((b.getD k (au .u8)).toNat:Int)<=((UInt8.ofNat 1).toNat:Int)) (q:(y.toNat:Int)<((UInt8.ofNat 128).toNat:Int)):aj b=(orN n k x,k+1,0):=by grind [tvZ,tvN,Wb]
def tvF {y:UInt8} (h:aj b=bW k n (b.drop k)) (g:n<2 ^ (7*k)) (c:n<18446744073709551616) (s:(k:Int)<10) (d:b[k]? = some x) (j:b[k]? = some y) (p:(k:Int)<=0\/¬ ((b.getD k (au .u8)).toNat:Int)=((UInt8.ofNat 0).toNat:Int)) (q:¬ (k:Int)=9\/((b.getD k (au .u8)).toNat:Int)<=((UInt8.ofNat 1).toNat:Int)) (r:((UInt8.ofNat 128).toNat:Int)<=(y.toNat:Int)):orN n k x<2 ^ (7*(k+1))/\orN n k x<18446744073709551616/\aj b=bW (k+1) (orN n k x) (b.drop (k+1)):=by
 have o:=tvZ d p q;rw [show (UInt8.ofNat 128).toNat=128 from rfl] at r;rw [d] at j; cases j;have e:=tvN g (show k<=9 by omega) (show k=9->x.toNat<=1 by omega);refine ⟨by rw [e]; exact Se g,?_,by rw [e]; exact VG h aE d o.1 o.2 aE⟩;exact ahG (n:=64) c (af4 _ am)
variable {x:Int}
theorem Yj {c:Command} {v:Int} (d:[c.client,c.seq,c.set,c.id,c.n][k]? = some x) (h:x<0\/1048576<x):false=gw c v:=by
 refine Ub ?_;grind
def abx {c:Command} (h:(k:Int)<5):[c.client,c.seq,c.set,c.id,c.n][k]? = some ([c.client,c.seq,c.set,c.id,c.n].getD k (au .int)):=by
 rw [List.getD_eq_getElem?_getD,List.getElem?_eq_getElem (by simp; omega)]; rfl
def aed {n:Int} {p:Prop} (h:n<=0\/p):(¬ 0<n)\/p:=h.imp_left aE
def agU {l:List Int} (h:((l.take k).all fun n=>cq n 0 1048576)=true) (c:l[k]? = some x) (d:0<=x) (g:x<=1048576):((l.take (k+1)).all fun n=>cq n 0 1048576)=true:=by
 rw [ai c,List.all_append,h]; simp [cq]; omega
def adW {c:Command} (h:(([c.client,c.seq,c.set,c.id,c.n].take k).all fun n=>cq n 0 1048576)=true) (d:5<=(k:Int)):¬ ((c.client<0\/1048576<c.client)\/(c.seq<0\/1048576<c.seq)\/(c.set<0\/1048576<c.set)\/(c.id<0\/1048576<c.id)\/(c.n<0\/1048576<c.n)):=by
 rw [List.take_of_length_le (by simp; omega)] at h;simp [cq] at h;omega
def YB (b:List UInt8):List (Nat × LI):=[(3,{ σ:=Nat × Nat,F:=fun s=>([(0,one (.fz .u8 (b))),(5,one (.u64 s.2)),(6,one (.int 0)),(7,one (.int 3)),(9,one (.int s.1))],[]),J:=fun s=>s.1<=10/\s.2<2 ^ (7*s.1)/\s.2<18446744073709551616/\aj b=bW s.1 s.2 (b.drop s.1)/\s.1<=b.length,μ:=fun s=>10 - s.1 })]
def Js (c:Command) (v:Int):List (Nat × LI):=[(5,{ σ:=Nat,F:=fun k=>([(1,one (.int (v))),(2,one (.ptr 0 0)),(38,.one (.agg [.int c.client,.int c.seq,.int c.set,.int c.id,.int c.n])),(39,one (.int k))],[.box 35 (cellsOf (.nm .command) (c))]),J:=fun k=>k<=5/\([c.client,c.seq,c.set,c.id,c.n].take k).all (fun n=>cq n 0 1048576)=true,μ:=fun k=>5 - k })]
def Ev:Kn:=aO (ae (kC (cL .u8)) ao) aw fun (b,_) _=>⟨[],[.c (.u64 ((U64.mk (aj b).1)).n),.c (.int ((((aj b).2.1:Nat)))),.c (.int (((aj b).2.2)))],none,false⟩
theorem Vu:CK 210 Ev:=ah fun (b,_) _ _=>by
 refine av dG (YB b) Tryz.func210 (?_:(fun (D:UInt8)=>(fun (j:Nat)=>(fun (o:Nat)=>(fun (p:Nat)=>(fun (L:Int)=>(fun (H:Nat)=>(fun (S:Int)=>(fun (P:Int)=>(fun (I:Int)=>(fun (B:Int)=>(fun (C:Int)=>(fun (N:Prop)=>(fun (J:Int)=>(fun (K:Int)=>(fun (d:Int)=>(fun (F:Prop)=>(fun (v:Prop)=>(fun (O:Prop)=>(fun (y:Prop)=>b.length*1<=140737488355328->∃ (u:Nat × Nat),(b=b/\0=u.snd/\v/\C=C/\d=(↑u.fst:Int))/\(u.fst<=o/\u.snd<p ^ (7*u.fst)/\u.snd<j/\aj b=bW u.fst u.snd (List.drop u.fst b)/\u.fst<=b.length)/\∀ (s:Nat × Nat),(fun (g:Nat)=>(fun (h:Int)=>(fun (z:Prop)=>(fun (c:Int)=>(fun (w:Int)=>(fun (q:Int)=>(fun (G:Prop)=>g<=o/\s.snd<p ^ (7*g)/\s.snd<j/\aj b=bW g s.snd (List.drop g b)/\g<=b.length->(c<10->(c=B->(¬2=d->N/\d=K/\2=J)/\(2=d->s.snd=H/\y))/\(¬c=B->(d<c->d<=c/\c<B)/\(d<c/\h=I->(d<c/\h=I->z)/\(c<=d\/¬h=I->G))/\(c<=d\/¬h=I->(c=9->d<=c/\c<B)/\(c=9/\(↑(UInt8.ofNat 1).toNat:Int)<h->z)/\(¬c=9\/h<=(↑(UInt8.ofNat 1).toNat:Int)->G))))/\(10<=c->z)) (d<=c/\c<B/\∀ (x:UInt8),b[g]? = some x->I64 q/\d<=q/\q<64/\d<=c/\c<B/\∀ (A:UInt8),b[g]? = some A->((↑A.toNat:Int)<P->I64 w/\(¬v->N/\y)/\(v->s.snd ||| (x &&& D).toNat*p ^ q.toNat % j=H/\w=K/\d=J))/\(P<=(↑A.toNat:Int)->I64 w/\∃ (r:Nat × Nat),(b=b/\s.snd ||| (x &&& D).toNat*p ^ q.toNat % j=r.snd/\v/\C=C/\w=(↑r.fst:Int))/\(r.fst<=o/\r.snd<p ^ (7*r.fst)/\r.snd<j/\aj b=bW r.fst r.snd (List.drop r.fst b)/\r.fst<=b.length)/\o - r.fst<o - g))) (S*c)) (c+L)) (↑g:Int)) ((¬F->O)/\(F->s.snd=H/\y))) (↑(UInt8.toNat (b.getD g (au Sh.u8))):Int)) s.fst) (d=K/\d=J)) (N/\d=K/\C=J)) (d=d)) (C=d)) 0) (↑(aj b).snd.fst:Int)) (aj b).snd.snd) (0=H)) 3) (↑b.length:Int)) (↑(UInt8.ofNat 0).toNat:Int)) (↑(UInt8.ofNat 128).toNat:Int)) 7) (aj b).fst) 1) 2) 10) 18446744073709551616) (UInt8.ofNat 127));(repeat' (intro))
 all_goals try (first | (first | (refine aD ?_ ?_ <;> omega)) | decide)
 all_goals (refine ⟨(0,0),⟨rfl,rfl,?_,?_,?_⟩,⟨aE,am,am,rfl,aE⟩,?_⟩)
 all_goals try (rfl)
 (repeat' with_reducible first|apply aV|refine bl ?_|intro)
 all_goals try (first | (first | omega | (refine aD ?_ ?_ <;> omega)) | (rw [tvA ab ab ab] <;> rfl) | (rw [tvD ab ab] <;> rfl) | (rw [tvB ab ab ab ab ab ab] <;> rfl) | (rw [tvC ab ab ab ab ab ab] <;> rfl) | exact (congrArg Prod.fst (tvE ab ab ab ab ab ab ab ab)).symm | exact (congrArg (fun t=>((t.2.1:Nat):Int)) (tvE ab ab ab ab ab ab ab ab)).symm | exact (congrArg (fun t=>t.2.2) (tvE ab ab ab ab ab ab ab ab)).symm)
 all_goals (refine ⟨(‹Nat × Nat›.1+1,_),⟨rfl,rfl,?_⟩,?_⟩; (repeat' (with_reducible apply aV)))
 all_goals (first | (omega) | exact (tvF ab ab ab ab ab ab ab ab ab).1 | exact (tvF ab ab ab ab ab ab ab ab ab).2.1 | exact (tvF ab ab ab ab ab ab ab ab ab).2.2)
def Bh:Kn:=aO (ae (kT (.nm .field)) (ae (kT (.nm .field)) ao)) aw fun (x,y,_) _=>⟨[],[.c (.bool (.atom ((fX x y))))],none,false⟩
theorem NJ:CK 256 Bh:=ah fun (x,y,_) _ _=>by
 refine av dG [] Tryz.func256 (?_:I64 x.num->I64 x.wire->x.n.n<18446744073709551616->x.b.length*1<=140737488355328->I64 y.num->I64 y.wire->y.n.n<18446744073709551616->y.b.length*1<=140737488355328->(y.num=x.num->(decide (y.wire=2) && decide (x.wire=2))=fX x y)/\(¬y.num=x.num->decide (x.num<y.num)=fX x y));grind [fX]
def zm:Kn:=aO (ae (kT (.nm .field)) ao) aw fun (x,_) _=>⟨[],[.c (.bool (.atom ((eB x))))],none,false⟩
theorem PZ:CK 255 zm:=ah fun (x,_) _ _=>by
 refine av dG [] Tryz.func255 (?_:I64 x.num->I64 x.wire->x.n.n<(18446744073709551616:Nat)->x.b.length*(1:Nat)<=(140737488355328:Nat)->(x.num<(1:Int)\/(1000:Int)<x.num->false=eB x)/\((1:Int)<=x.num/\x.num<=(1000:Int)->(x.wire=(0:Int)->decide ((↑x.b.length:Int)=(0:Int))=eB x)/\(¬x.wire=(0:Int)->(x.wire=(2:Int)->decide ((↑x.n.n:Int)=(↑(0:Nat):Int))=eB x)/\(¬x.wire=(2:Int)->false=eB x))));grind [eB,Me,MJ]
def zd:Kn:=aO (ae (kC (cL .u8)) (ae (kC (cL .u8)) ao)) aw fun (x,y,_) _=>⟨[],[.c (.bool (.atom ((decide (x=y)))))],none,false⟩
theorem OL:CK 146 zd:=ah fun (x,y,_) _ _=>by
 refine av dG [] Tryz.func146 (?_:x.length*1<=140737488355328->y.length*1<=140737488355328->decide (Str.mk x=Str.mk y)=decide (x=y));grind
def yO:Kn:=aO (ae (kC (cL .u8)) ao) aw fun (x,_) _=>⟨[],[.c (.fz .u8 ((x)))],none,false⟩
theorem Pv:CK 332 yO:=ah fun (x,_) _ _=>by
 refine av dG [] Tryz.func332 (?_:(fun c=>c->∀ (b:Bool),(b=true->x=[])->(b=true->x=[])/\(b=false->c/\x=x)) (x.length*1<=140737488355328));grind
def Wp:Kn:=aO (ae (kC cI) (ae (kC cI) ao)) aw fun (k,l,_) _=>⟨[],[.agg (cellsOf (.nm .spec) (⟨k,0,l,false,false⟩))],none,false⟩
theorem adP:CK 271 Wp:=ah fun (k,l,_) _ _=>by
 refine av dG [] Tryz.func271 (?_:I64 k->I64 l->k=k/\(0:Int)=0/\l=l/\false=false/\false=false);grind
def Wk:Kn:=aO (ae (kC cI) (ae (kC cI) ao)) aw fun (k,l,_) _=>⟨[],[.agg (cellsOf (.nm .spec) (⟨k,2,l,false,false⟩))],none,false⟩
theorem ady:CK 272 Wk:=ah fun (k,l,_) _ _=>by
 refine av dG [] Tryz.func272 (?_:I64 k->I64 l->k=k/\(2:Int)=2/\l=l/\false=false/\false=false);grind
def XS:Kn:=aO (ae (kT (.nm .spec)) ao) aw fun (x,_) _=>⟨[],[.agg (cellsOf (.nm .spec) ({ x with need:=true }))],none,false⟩
theorem aeJ:CK 273 XS:=ah fun (x,_) _ _=>by
 refine av dG [] Tryz.func273 (?_:mS x (x.num=x.num/\x.wire=x.wire/\x.since=x.since/\true=true/\x.many=x.many));grind
def Xn:Kn:=aO (ae (kT (.nm .spec)) ao) aw fun (x,_) _=>⟨[],[.agg (cellsOf (.nm .spec) ({ x with many:=true }))],none,false⟩
theorem ac2:CK 274 Xn:=ah fun (x,_) _ _=>by
 refine av dG [] Tryz.func274 (?_:mS x (x.num=x.num/\x.wire=x.wire/\x.since=x.since/\x.need=x.need/\true=true));grind
def MY:Kn:=aO (ae (kT (.nm .field)) (ae (kT (.nm .spec)) (ae (kC cI) ao))) aw fun (x,s,n,_) _=>⟨[],[.c (.bool (.atom ((MA x s n))))],none,false⟩
theorem abk:CK 331 MY:=ah fun (x,s,n,_) _ _=>by
 refine av dG [] Tryz.func331 (?_:I64 x.num->I64 x.wire->x.n.n<(18446744073709551616:Nat)->x.b.length*(1:Nat)<=(140737488355328:Nat)->mS s (I64 n->(¬x.wire=s.wire\/(1:Int)<n/\s.many=false->false=MA x s n)/\(x.wire=s.wire/\(n<=(1:Int)\/s.many=true)->(x.wire=(0:Int)->(!decide ((↑x.n.n:Int)=(↑(0:Nat):Int)))=MA x s n)/\(¬x.wire=(0:Int)->decide ((0:Int)<(↑x.b.length:Int))=MA x s n))));grind [MA]
def Mz:Kn:=aO (ae (kC cI) (ae (kC cI) ao)) aw fun (num,wire,_) _=>⟨[],[.c (.own 0),.c (.int ((CE num wire)))],some ([.row 5 .u8 ((ng num wire))]),true⟩
def Zv:CK 257 Mz:=ah fun (num,wire,_) _ _=>by
 refine cT dG [] Tryz.func257 (?_:(fun c=>I64 num->I64 wire->((num<1\/1000<num)\/¬wire=0/\¬wire=2->1=CE num wire/\ng num wire=[])/\((1<=num/\num<=1000)/\(wire=0\/wire=2)->I64 (8*num)/\I64 c/\0<=c/\0=CE num wire/\de c.toNat=ng num wire)) (8*num+wire));(repeat' (first | with_reducible apply aV | intro))
 all_goals (first | (first | omega | (refine aD ?_ ?_ <;> omega)) | exact (Va aE) | exact (Rg aE) | exact (UU aE).symm | exact (Pf aE))
def sW:Kn:=aO (ae (kT (.nm .command)) (ae (kC cI) ao)) aw fun (c,v,_) _=>⟨[],[.c (.bool (.atom ((gw c v))))],none,false⟩
theorem Ei:CK 160 sW:=ah fun (c,v,_) _ _=>by
 refine av dG (Js c v) Tryz.func160 (?_:(fun (p:Prop)=>(fun (g:Nat)=>(fun (h:Int)=>(fun (d:Int)=>(fun (q:List Int)=>(fun (u:List (den Sh.int))=>bF c (I64 v->I64 h->((c.kind<1\/99<c.kind)\/¬h=d/\h<=v->p)/\((1<=c.kind/\c.kind<=99)/\(h=d\/v<h)->∃ (r:Nat),(v=v/\c.client=c.client/\c.seq=c.seq/\c.set=c.set/\c.id=c.id/\c.n=c.n/\d=(↑r:Int)/\aS c c)/\(r<=g/\((List.take r q).all fun (n:Int)=>cq n d 1048576)=true)/\∀ (s:Nat),(fun (j:den Sh.int)=>s<=g/\((List.take s q).all fun (n:Int)=>cq n d 1048576)=true->((↑s:Int)<5->d<=(↑s:Int)/\(↑s:Int)<(↑g:Int)/\(I64 j->(j<d\/1048576<j->p)/\(d<=j/\j<=1048576->I64 ((↑s:Int)+1)/\∃ (o:Nat),(v=v/\c.client=c.client/\c.seq=c.seq/\c.set=c.set/\c.id=c.id/\c.n=c.n/\(↑s:Int)+1=(↑o:Int)/\aS c c)/\(o <= g/\((List.take o q).all fun (n:Int)=>cq n d 1048576)=true)/\g - o < g - s)))/\(5<=(↑s:Int)->(d<(↑c.chunks.length:Int)/\cJ c.chunks=false->p)/\((↑c.chunks.length:Int)<=d\/cJ c.chunks=true->(v<3->decide (c.text=Str.mk [])=gw c v)/\(3<=v->decide ((↑c.text.b.length:Int)<=16)=gw c v)))) (u.getD s (au Sh.int))))) [c.client,c.seq,c.set,c.id,c.n]) [c.client,c.seq,c.set,c.id,c.n]) 0) (cE c.kind)) 5) (false=gw c v));(repeat' (first | with_reducible apply aV | intro))
 all_goals try (exact (Yj (abx aE) ab))
 all_goals try (refine ⟨0,?_⟩; (repeat' with_reducible first|apply aV|refine bl ?_|intro))
 all_goals try (exact (Yj (abx aE) ab))
 all_goals try (refine ⟨‹Nat› + 1,?_⟩; (repeat' with_reducible first|apply aV|refine bl ?_|intro))
 all_goals (first | (first | omega | (refine aD ?_ ?_ <;> omega)) | exact rfl | exact (Mf aE) | exact (agU ab (abx aE) ab ab) | exact (Sa (And.intro ab ab)) | exact (aar aE (adW ab aE) (aed ap) aE) | exact (Yu aE (adW ab aE) (aed ap) aE))
def adC:bP:=(aQ 160 sW (aQ 257 Mz (aQ 331 MY (aQ 274 Xn (aQ 273 XS (aQ 272 Wk (aQ 271 Wp (aQ 332 yO (aQ 146 zd (aQ 255 zm (aQ 256 Bh (aQ 210 Ev Xe))))))))))))
def nC:aA Tryz.prog (ak tyT) adC:=(ag Ei (ag Zv (ag abk (ag ac2 (ag aeJ (ag ady (ag adP (ag Pv (ag OL (ag PZ (ag NJ (ag Vu dG))))))))))))
def nN (h:m<9223372036854775808):eQ m=(m:Int):=by rw [eQ,if_pos h]
def Ga:(b.drop k).take (b.length - k)=b.drop k:=List.take_of_length_le (by rw [List.length_drop]; exact Nat.le_refl _)
def uk1 (d:(k:Int)<(b.length:Int)) (c:(aj (b.drop k)).2.2=0) (g:(((aj (b.drop k)).1:Nat):Int)<=((64:Nat):Int)):∃ x,b[k]? = some x/\aj (b.drop k)=(x.toNat,1,0)/\x.toNat<=64:=by
 have h:=tk1 (b:=b) (k:=k) aE (by rw [Ga]; exact c) (by rw [Ga]; omega);rw [Ga] at h; exact h
def ukS (d:(k:Int)<(b.length:Int)) (g:(aj (b.drop k)).2.2=0) (j:(((aj (b.drop k)).1:Nat):Int)<=((64:Nat):Int)):(k:Int)+((aj (b.drop k)).2.1:Nat)=((k+1:Nat):Int)/\cN (b.take k)++[eQ (aj (b.drop k)).1]=cN (b.take (k+1)):=by
 obtain ⟨x,o,c,p⟩:=uk1 d g j;have h:=VE o c;rw [c] at h ⊢;exact ⟨rfl,by rw [<- h,nN (by show x.toNat<_; omega)]⟩
def ukR (c:(k:Int)<(b.length:Int)) (h:(¬ (aj (b.drop k)).2.2=0)\/((64:Nat):Int)<(((aj (b.drop k)).1:Nat):Int)):cJ (cN b)=false:=YG (k:=k) aE (by rw [Ga]; exact h)
def YF (h:k<=b.length) (c:b.length<=100000):((cN (b.take k)).length+1)*8<=140737488355328:=by
 unfold cN; rw [List.length_map,List.length_take]; omega
def acX (b:List UInt8):List (Nat × LI):=[(3,{ σ:=Nat,F:=fun k=>([(0,one (.fz .u8 (b))),(4,one (.own 0)),(5,one (.int k))],[.row 3 .int ((cN (b.take k)))]),J:=fun k=>k<=b.length,μ:=fun k=>b.length - k })]
def Qo:Kn:=aO (ae (kC (cL .u8)) ao) aw fun (b,_) _=>⟨[],[.c (.int (((aX b).num))),.c (.int (((aX b).wire))),.c (.int ((((aX b).k:Nat)))),.c (.int (((aX b).e)))],none,false⟩
def Ze:CK 355 Qo:=ah fun (b,_) _ _=>by
 refine av nC [] Tryz.func355 (?_:(fun (p:Int)=>(fun (j:Int)=>(fun (c:TagR)=>(fun (d:Int)=>(fun (g:Prop)=>(fun (o:Nat)=>(fun (q:Prop)=>(fun (h:Int)=>(fun (r:Prop)=>b.length*(1:Nat)<=(140737488355328:Nat)->(aj b).fst<(18446744073709551616:Nat)->I64 (↑(aj b).snd.fst:Int)->I64 j->(¬j=d->d=c.num/\d=c.wire/\d=(↑c.k:Int)/\j=c.e)/\(j=d->g/\(p<=h->g)/\(r->g/\(¬q->g))/\((h<p\/(↑(1000:Nat):Int)<h)\/¬q/\¬(↑o:Int)=(↑(2:Nat):Int)->d=c.num/\d=c.wire/\d=(↑c.k:Int)/\(6:Int)=c.e)/\(r/\(q\/(↑o:Int)=(↑(2:Nat):Int))->g/\g/\eQ ((aj b).fst / (8:Nat))=c.num/\eQ o=c.wire/\(↑(aj b).snd.fst:Int)=(↑c.k:Int)/\d=c.e))) (p<=h/\h<=(↑(1000:Nat):Int))) (↑((aj b).fst / (8:Nat)):Int)) ((↑o:Int)=(↑(0:Nat):Int))) ((aj b).fst % (8:Nat))) ((0:Nat)<(8:Nat))) (0:Int)) (aX b)) (aj b).snd.snd) (↑(1:Nat):Int));(repeat' with_reducible first|apply aV|refine bl ?_|intro)
 all_goals (first | exact bY | (rw [QZ ab] <;> rfl) | (rw [N_ ab aE] <;> rfl) | (rw [NC ab aE] <;> first | rfl | exact nN aE) | (have:=(oD (l:=b) (k:=0) (n:=0) aE).1; change (aj b).2.1<=11 at this; omega))
def Qy:Kn:=aO (ae (kT (.nm .field)) ao) aw fun (f,_) _=>⟨[f.b.length<=16384],[.c (.own 0)],some ([.row 5 .u8 ((cF f))]),true⟩
def YD:CK 222 Qy:=ah fun (f,_) _ g=>by
 have h:=cg g;refine cT nC [] Tryz.func222 (?_:(fun (c:Nat)=>(fun (d:List UInt8)=>I64 f.num->I64 f.wire->f.n.n<18446744073709551616->c*1<=140737488355328->I64 (CE f.num f.wire)->(f.wire=0->(d.length+(de f.n.n).length)*1<=140737488355328/\d++de f.n.n=cF f)/\(¬f.wire=0->0<=(↑c:Int)/\(d.length+(de c).length)*1<=140737488355328/\((d++de c).length+c)*1<=140737488355328/\d++de c++f.b=cF f)) (ng f.num f.wire)) f.b.length);(repeat' with_reducible first|apply aV|refine bl ?_|intro)
 all_goals (first | exact bY | exact (TU ab) | exact (RG ab) | (have:=sx f.num f.wire; have:=db (n:=f.n.n) ab; omega) | (have:=sx f.num f.wire; have:=db (n:=f.b.length) aE; (try simp only [List.length_append]); omega))
def Kv:Kn:=aO (ae (kC cI) ao) aw fun (q,_) _=>⟨[q=1],[.c (.fz (.nm .spec) ((bQ)))],none,false⟩
def Zs:CK 254 Kv:=ah fun (q,_) _ B=>by
 have C:=cg B;refine av nC [] Tryz.func254 (?_:(fun z=>(fun w=>(fun s=>(fun r=>(fun y=>(fun u=>(fun o=>(fun g=>(fun j=>(fun d=>(fun h=>(fun A=>(fun v=>(fun p=>(fun c=>I64 q->c->d->c->c->d->c->g->d->c->u->d->c->I64 r->d->c->I64 s->d->c->I64 w->d->c->I64 z->g->c->I64 8->g->u->c->d->c->c->d->c->g->d->c->g->d->c->u->g->c->u->g->c->I64 r->d->g->I64 s->g->u->c->d->c->c->d->c->g->d->c->g->d->c->c->d->c->c->d->c->g->d->c->u->d->c->I64 r->d->c->c->d->c->c->d->c->g->d->c->g->d->c->u->d->c->I64 r->g->c->I64 r->g->c->I64 s->g->c->I64 s->g->c->I64 w->g->c->I64 w->g->c->I64 z->d->u->c->d->c->c->d->c->g->d->c->g->d->c->u->d->c->u->d->c->I64 r->d->c->I64 r->d->c->I64 s->d->c->I64 w->d->c->I64 z->d->c->I64 8->d->c->I64 9->d->c->I64 10->g->c->I64 10->g->c->c->d->c->c->d->c->g->g->c->(if q=z then some [p,Spec.mk o o h false false] else if q=w then some [p,v,Spec.mk y j h true false,Spec.mk r j h true false,Spec.mk s j h false false,Spec.mk w j h false false,Spec.mk z j h false false,Spec.mk 8 j h false false,Spec.mk 9 j h false false,Spec.mk 10 o h false true] else if q=s then some [p,v,A,Spec.mk r o h false true,Spec.mk s o h false true,Spec.mk w o h false true,Spec.mk z j y false false] else if q=r then some [p,Spec.mk o j h false false,A,Spec.mk r j h false false] else if q=y then some [p,v] else if q=o then some [p,v,Spec.mk y o h true false,Spec.mk r j o false false,Spec.mk s o y false false] else if q=h then some [p,Spec.mk o j h false false,A,Spec.mk r j h false false,Spec.mk s j h false false,Spec.mk w j h false false,Spec.mk z o h false false,Spec.mk 8 o y false false] else none).getD (au (Sh.nm NT.spec).lst)=bQ) (I64 h)) (Spec.mk h j h true false)) (Spec.mk o j h true false)) (Spec.mk y j h false false)) (1:Int)) (I64 j)) (0:Int)) (I64 o)) (2:Int)) (I64 y)) (3:Int)) (4:Int)) (5:Int)) (6:Int)) (7:Int));subst C; (repeat' with_reducible first|apply aV|refine bl ?_|intro);all_goals (first | exact bY | exact rfl)
def QL:Kn:=aO (ae (kC (cL .u8)) ao) aw fun (b,_) _=>⟨[b.length<=100000],[.c (.fz .int ((kQ b))),.c (.int ((ql b)))],none,false⟩
theorem Zf:CK 333 QL:=ah fun (b,_) _ o=>by
 have p:=cg o;refine av nC (acX b) Tryz.func333 (?_:(fun (j:Prop)=>b.length*(1:Nat)<=(140737488355328:Nat)->∃ (h:Nat),(b=b/\(0:Int)=(↑h:Int)/\cN (List.take h b)=[])/\h<=b.length/\∀ (s:Nat),(fun (d:List Int)=>(fun (c:Nat × Nat × Int)=>s<=b.length->((↑s:Int)<(↑b.length:Int)->(0:Int)<=(↑s:Int)/\(↑s:Int)<=(↑b.length:Int)/\(c.fst<(18446744073709551616:Nat)->I64 (↑c.snd.fst:Int)->I64 c.snd.snd->(¬c.snd.snd=(0:Int)\/(↑(64:Nat):Int)<(↑c.fst:Int)->j)/\(c.snd.snd=(0:Int)/\(↑c.fst:Int)<=(↑(64:Nat):Int)->(d.length+[eQ c.fst].length)*(8:Nat)<=(140737488355328:Nat)/\I64 ((↑s:Int)+(↑c.snd.fst:Int))/\∃ (g:Nat),(b=b/\(↑s:Int)+(↑c.snd.fst:Int)=(↑g:Int)/\d++[eQ c.fst]=cN (List.take g b))/\g <= b.length/\b.length - g < b.length - s)))/\((↑b.length:Int)<=(↑s:Int)->(cJ d=false->j)/\(cJ d=true->d=kQ b/\(0:Int)=ql b))) (aj (List.drop s b))) (cN (List.take s b))) (kQ b=[]/\(6:Int)=ql b));iterate 3 ((all_goals (repeat' with_reducible first|apply aV|refine bl ?_|intro)); (all_goals try (first | exact bY | exact rfl | exact (yq (ukR ab ap)) | exact (Ps (ukR ab ap)) | exact (yq (ukR ab ap)).symm | exact (yq (CX (k:=‹Nat›) aE ab)).symm | exact (yq (CX (k:=‹Nat›) aE ab)) | exact (Ps (CX (k:=‹Nat›) aE ab)) | exact (Vj aE ab) | exact (VL (k:=‹Nat›) aE ab) | exact (ukS ab ab ab).1 | exact (ukS ab ab ab).2 | exact (YF aE aE) | (have:=(ukS ab ab ab).1; refine aD ?_ ?_ <;> omega))); all_goals try first | refine ⟨‹Nat› + 1,?_⟩ | refine ⟨0,?_⟩)
def adV:bP:=(aQ 333 QL (aQ 254 Kv (aQ 222 Qy (aQ 355 Qo adC))))
def kn:aA Tryz.prog (ak tyT) adV:=(ag Zf (ag Zs (ag YD (ag Ze nC))))
def TH (c:k<=l.length) (d:0<(k:Int)):l[k - 1]? = some (l.getD ((k:Int) - 1).toNat (au (.nm .field))):=by
 rw [show ((k:Int) - 1).toNat=k - 1 by omega,List.getD_eq_getElem?_getD,List.getElem?_eq_getElem aE]; rfl
variable {x:Field}
def vQ (h:(k:Int)<=0\/fX (l.getD ((k:Int) - 1).toNat (au (.nm .field))) x=true) (c:k<=l.length):xJ l k x:=by
 by_cases d:0<(k:Int)
 ·exact .inr ⟨_,TH c d,h.resolve_left aE⟩
 exact .inl aE
def aeH {v:Int}:(((bQ.take k).filter (fun s=>decide (s.since<=v))).length+1)*32<=140737488355328:=by
 have:=NA (v:=v) (k:=k); omega
def ac8 {v:Int} (c:1<=v) (d:v<=3) (g:8<=(k:Int)):(bQ.take k).filter (fun s=>decide (s.since<=v))=aY v:=Qs aE (by show 8<=k; omega)
def acJ {v:Int}:dW (l.take 0) v=[]:=rfl
def afJ {v:Int}:eC (l.take 0) v=[]:=rfl
def aep {v:Int} (c:l[k]? = some x) (h:x.num<=v):dW (l.take k) v++[x]=dW (l.take (k+1)) v:=Sn c h
def acE {v:Int} (c:l[k]? = some x) (h:¬ x.num<=v):dW (l.take k) v=dW (l.take (k+1)) v:=Zm c h
def acZ {v:Int} (c:l[k]? = some x) (h:¬ x.num<=v):eC (l.take k) v++[x]=eC (l.take (k+1)) v:=Wc c h
def aee {v:Int} (c:l[k]? = some x) (h:x.num<=v):eC (l.take k) v=eC (l.take (k+1)) v:=Zn c h
def adt {v:Int} (c:l.length<=k):dW (l.take k) v=dW l v:=HY c
def ac5 {v:Int} (c:l.length<=k):eC (l.take k) v=eC l v:=KW c
attribute [local irreducible] dW eC
def YW (l:List Field):List (Nat × LI):=[(3,{ σ:=Nat,F:=fun k=>([(0,one (.fz (.nm .field) (l))),(3,one (.int (iD (l.take k):Nat))),(6,one (.fz (.nm .field) (l))),(7,one (.int (l).length)),(8,one (.int k))],[]),J:=fun k=>k<=l.length/\ej none l=ej (eZ l k) (l.drop k)/\iD (l.take k)<=k*16404,μ:=fun k=>(l).length - k })]
def abh (q:Int) (v:Int):List (Nat × LI):=[(5,{ σ:=Nat,F:=fun k=>([(1,one (.int (v))),(5,one (.own 0)),(15,one (.fz (.nm .spec) bQ)),(16,one (.int 8)),(17,one (.int k))],[.row 255 (.nm .spec) (((bQ.take k).filter (fun (s:Spec)=>decide (s.since<=v))))]),J:=fun k=>k<=8,μ:=fun k=>8 - k })]
def Ta (l:List Field) (v:Int):List (Nat × LI):=[(2,{ σ:=Nat,F:=fun k=>([(1,one (.int (v))),(4,one (.own 0)),(5,one (.own 1)),(8,one (.fz (.nm .field) (l))),(9,one (.int (l).length)),(10,one (.int k))],[.row 219 (.nm .field) ((dW (l.take k) v)),.row 219 (.nm .field) ((eC (l.take k) v))]),J:=fun k=>k<=l.length,μ:=fun k=>(l).length - k })]
def aaC (l:List Field):List (Nat × LI):=[(3,{ σ:=Nat,F:=fun k=>([(2,one (.ptr 0 0)),(3,one (.ptr 1 0)),(6,one (.fz (.nm .field) (l))),(7,one (.int (l).length)),(8,one (.int k))],[.box 35 (cellsOf (.nm .command) (cS)),.box 35 (cellsOf (.nm .command) ((c_ (l.take k))))]),J:=fun k=>k<=l.length,μ:=fun k=>(l).length - k })]
def Hg:Kn:=aO (ae (kC (ba 0 0)) (ae (kC (ba 1 0)) ao)) (aC (dC 50 (ax (cL .u8) dA)) (aC (dC 3 (ax cI dA)) aw)) fun _ ((b,_),(s,_),_)=>⟨[0<=s,s<=(b.length:Int),b.length*1<=140737488355328],[.c (.u64 ((U64.mk (aj (b.drop s.toNat)).1)).n),.c (.int (((aj (b.drop s.toNat)).2.2)))],some ([.box 50 ([.fz .u8 ((b))]),.box 3 ([.int ((s+((aj (b.drop s.toNat)).2.1:Nat)))])]),false⟩
def Wa:CK 356 Hg:=ah fun _ ((b,_),(s,_),_) d=>by
 have g:=cg d;have h:=cg (eP d);have j:=cg (eP (eP d));refine bz kn [] Tryz.func356 (?_:(fun c=>0<=s/\s<=(↑b.length:Int)/\(c.fst<18446744073709551616->I64 (↑c.snd.fst:Int)->I64 c.snd.snd->I64 (s+(↑c.snd.fst:Int))/\c.fst=(aj (List.drop s.toNat b)).fst/\c.snd.snd=(aj (List.drop s.toNat b)).snd.snd/\b=b/\s+(↑c.snd.fst:Int)=s+(↑(aj (List.drop s.toNat b)).snd.fst:Int))) (aj (List.drop s.toNat b)));(repeat' (first | with_reducible apply aV | intro))
 all_goals (first | (first | with_reducible rfl | omega) | (have:=(oH b s.toNat).1; refine aD ?_ ?_ <;> omega))
def BC:Kn:=aO (ae (kC (cL .u8)) ao) aw fun (b,_) _=>⟨[],[.agg (cellsOf (.nm .field) (iz b))],none,false⟩
def NV:CK 330 BC:=ah fun (b,_) _ _=>by
 refine av kn [] Tryz.func330 (?_:(fun c=>(fun d=>(fun g=>b.length*1<=140737488355328->I64 c.num->I64 c.wire->I64 (↑c.k:Int)->I64 c.e->0<=(↑c.k:Int)/\(↑c.k:Int)<=(↑b.length:Int)/\(d.fst<18446744073709551616->I64 (↑d.snd.fst:Int)->I64 d.snd.snd->(c.wire=0->c.num=(iz b).num/\c.wire=(iz b).wire/\d.fst=(iz b).n.n/\(iz b).b=[])/\(¬c.wire=0->I64 g/\0<=g/\g<=(↑b.length:Int)/\(List.drop g.toNat b).length*1<=140737488355328/\c.num=(iz b).num/\c.wire=(iz b).wire/\0=(iz b).n.n/\List.drop g.toNat b=(iz b).b))) ((↑c.k:Int)+(↑d.snd.fst:Int))) (aj (List.drop c.k b))) (aX b));(repeat' (first | with_reducible apply aV | intro))
 all_goals (first | (first | (refine aD ?_ ?_ <;> omega)) | exact (congrArg Field.num (HF ab)) | exact (congrArg Field.wire (HF ab)) | exact (congrArg (fun f=>f.n.n) (HF ab)) | exact (congrArg Field.b (HF ab)).symm | exact (congrArg Field.num (Hi ab)) | exact (congrArg Field.wire (Hi ab)) | exact (congrArg (fun f=>f.n.n) (Hi ab)) | exact (congrArg Field.b (Hi ab)) | (have h:=qU b; have j:=oH b (aX b).k; first | omega | (refine aD ?_ ?_ <;> omega) | (rw [List.length_drop]; omega)))
def Ex:Kn:=aO (ae (kC (cL (.nm .field))) ao) aw fun (l,_) _=>⟨[],[.c (.int ((cZ l)))],none,false⟩
theorem TN:CK 221 Ex:=ah fun (l,_) _ _=>by
 refine av kn (YW l) Tryz.func221 (?_:(fun (v:den (Sh.nm NT.field))=>(fun (d:Nat)=>(fun (g:Int)=>(fun (j:Int)=>l.length*48<=140737488355328->∃ (o:Nat),(l=l/\g=(↑(iD (List.take o l)):Int)/\l=l/\(↑l.length:Int)=(↑d:Int)/\g=(↑o:Int))/\(o<=d/\ej none l=ej (eZ l o) (List.drop o l)/\iD (List.take o l)<=o*16404)/\∀ (s:Nat),(fun (q:Int)=>(fun (c:Int)=>(fun (p:den (Sh.nm NT.field))=>s<=d/\ej none l=ej (eZ l s) (List.drop s l)/\iD (List.take s l)<=s*16404->(c<(↑d:Int)->g<=c/\c<(↑l.length:Int)/\∀ (x:Field),l[s]? = some x->I64 x.num->I64 x.wire->x.n.n<18446744073709551616->x.b.length*1<=140737488355328->(eB x=false->j=cZ l)/\(eB x=true->(g<c->I64 (c - j))/\(g<c->g<=c - j/\c - j<(↑l.length:Int))/\((g<c->I64 p.num/\I64 p.wire/\p.n.n<18446744073709551616/\p.b.length*1<=140737488355328)->(g<c/\fX p x=false->5=cZ l)/\(c<=g\/fX p x=true->(16384<(↑x.b.length:Int)->4=cZ l)/\((↑x.b.length:Int)<=16384->x.b.length<=16384/\I64 (q+(↑(cF x).length:Int))/\I64 (c+j)/\∃ (h:Nat),(l=l/\q+(↑(cF x).length:Int)=(↑(iD (List.take h l)):Int)/\l=l/\(↑d:Int)=(↑d:Int)/\c+j=(↑h:Int))/\(h <= d/\ej none l=ej (eZ l h) (List.drop h l)/\iD (List.take h l)<=h * 16404)/\d - h < d - s)))))/\((↑d:Int)<=c->(16384<q->4=cZ l)/\(q<=16384->g=cZ l))) (l.getD (c - j).toNat v)) (↑s:Int)) (↑(iD (List.take s l)):Int)) 1) 0) l.length) (au (Sh.nm NT.field)));(repeat' (intro))
 all_goals try (first | exact bY | exact rfl | exact (Nat.le_refl 0) | exact (Dp ab ab ab) | exact (Dz ab ab ab aE (TH aE ab) ab) | exact (Dm ab ab ab (vQ ap aE) ab) | exact (rD ab ab ab (vQ ap aE) aE) | exact (sZ ab aE ab) | exact (tf ab aE aE) | (have r:=ke (f:=‹Field›) aE ab; have u:=sF (show l[_]? = some ‹Field› by with_reducible assumption); first | (refine aD ?_ ?_ <;> omega)))
 all_goals try (refine ⟨0,?_⟩; (repeat' with_reducible first|apply aV|refine bl ?_|intro))
 all_goals try (first | (first | (refine aD ?_ ?_ <;> omega)) | exact rfl | exact (Nat.le_refl 0) | exact (Dp ab ab ab) | exact (Dz ab ab ab aE (TH aE ab) ab) | exact (Dm ab ab ab (vQ ap aE) ab) | exact (rD ab ab ab (vQ ap aE) aE) | exact (sZ ab aE ab) | exact (tf ab aE aE) | (have r:=ke (f:=‹Field›) aE ab; have u:=sF (show l[_]? = some ‹Field› by with_reducible assumption); first | (refine aD ?_ ?_ <;> omega)))
 all_goals try (refine ⟨‹Nat› + 1,?_⟩; (repeat' (with_reducible apply aV)))
 all_goals (first | exact bY | exact rfl | exact (Nat.le_refl 0) | exact (Dp ab ab ab) | exact (Dz ab ab ab aE (TH aE ab) ab) | exact (Dm ab ab ab (vQ ap aE) ab) | exact (rD ab ab ab (vQ ap aE) aE) | exact (sZ ab aE ab) | exact (tf ab aE aE) | (have r:=ke (f:=‹Field›) aE ab; have u:=sF (show l[_]? = some ‹Field› by with_reducible assumption); omega))
def Hv:Kn:=aO (ae (kC cI) (ae (kC cI) ao)) aw fun (q,v,_) _=>⟨[q=1],[.c (.fz (.nm .spec) ((aY v)))],none,false⟩
theorem UX:CK 220 Hv:=ah fun (q,v,_) _ r=>by
 have u:=cg r;refine av kn (abh q v) Tryz.func220 (?_:(fun (g:Int)=>(fun (h:Int)=>(fun (d:Nat)=>I64 q->I64 v->(v<h\/3<v->aY v=[])/\(h<=v/\v<=3->q=h/\(bQ.length*32<=140737488355328->∃ (p:Nat),(v=v/\bQ=bQ/\(↑bQ.length:Int)=g/\0=(↑p:Int)/\List.filter (fun (s:Spec)=>decide (s.since<=v)) (List.take p bQ)=[])/\p<=d/\∀ (s:Nat),(fun (j:Int)=>(fun (o:List (den (Sh.nm NT.spec)))=>s<=d->((↑s:Int)<g->0<=(↑s:Int)/\(↑s:Int)<(↑bQ.length:Int)/\∀ (x:Spec),bQ[s]? = some x->mS x ((x.since<=v->(o.length+[x].length)*32<=140737488355328/\I64 j/\∃ (c:Nat),(v=v/\bQ=bQ/\g=g/\j=(↑c:Int)/\o++[x]=List.filter (fun (s:Spec)=>decide (s.since<=v)) (List.take c bQ))/\c <= d/\d - c < d - s)/\(v<x.since->I64 j/\∃ (c:Nat),(v=v/\bQ=bQ/\g=g/\j=(↑c:Int)/\o=List.filter (fun (s:Spec)=>decide (s.since<=v)) (List.take c bQ))/\c <= d/\d - c < d - s)))/\(g<=(↑s:Int)->o=aY v)) (List.filter (fun (s:Spec)=>decide (s.since<=v)) (List.take s bQ))) ((↑s:Int)+h)))) 8) 1) 8);(repeat' (first | with_reducible apply aV | intro))
 all_goals try (exact (tY ab ab))
 all_goals try (refine ⟨0,?_⟩; (repeat' with_reducible first|apply aV|refine bl ?_|intro))
 all_goals try (exact (tY ab ab))
 all_goals try (refine ⟨‹Nat› + 1,?_⟩; (repeat' with_reducible first|apply aV|refine bl ?_|intro))
 all_goals (first | (first | (refine aD ?_ ?_ <;> omega)) | exact rfl | exact (Im ab).symm | exact (tY ab ab) | exact (Ts ab aE) | exact aeH | exact (ac8 aE aE aE) | (have w:bQ.length=8:=rfl; omega))
def AD:Kn:=aO (ae (kC (cL (.nm .field))) (ae (kC cI) ao)) aw fun (l,v,_) _=>⟨[],[.c (.fz (.nm .field) ((dW l v))),.c (.fz (.nm .field) ((eC l v)))],none,false⟩
theorem Mn:CK 288 AD:=ah fun (l,v,_) _ _=>by
 refine av kn (Ta l v) Tryz.func288 (?_:(fun (d:Nat)=>(fun (h:Int)=>l.length*48<=140737488355328->I64 v->∃ (j:Nat),(v=v/\l=l/\(↑l.length:Int)=h/\0=(↑j:Int)/\dW (List.take j l) v=[]/\eC (List.take j l) v=[])/\j<=d/\∀ (s:Nat),(fun (g:List Field)=>(fun (o:Int)=>s<=d->((↑s:Int)<h->0<=(↑s:Int)/\(↑s:Int)<(↑l.length:Int)/\∀ (x:Field),(fun (r:Prop)=>l[s]? = some x->I64 x.num->I64 x.wire->x.n.n<18446744073709551616->r->r->(x.num<=v->((dW g v).length+[x].length)*48<=140737488355328/\I64 o/\∃ (c:Nat),(v=v/\l=l/\h=h/\o=(↑c:Int)/\dW g v++[x]=dW (List.take c l) v/\eC g v=eC (List.take c l) v)/\c <= d/\d - c < d - s)/\(v<x.num->((eC g v).length+[x].length)*48<=140737488355328/\I64 o/\∃ (c:Nat),(v=v/\l=l/\h=h/\o=(↑c:Int)/\dW g v=dW (List.take c l) v/\eC g v++[x]=eC (List.take c l) v)/\c <= d/\d - c < d - s)) (x.b.length*1<=140737488355328))/\(h<=(↑s:Int)->dW g v=dW l v/\eC g v=eC l v)) ((↑s:Int)+1)) (List.take s l)) (↑d:Int)) l.length);(repeat' (intro))
 all_goals try (first | (first | (refine aD ?_ ?_ <;> omega)) | exact acJ | exact afJ | exact (aep ab ab) | exact (acE ab aE) | exact (acZ ab aE) | exact (aee ab ab) | exact (adt aE) | exact (ac5 aE) | (have p:=GN (l.take ‹Nat›) v; have q:=xI (l.take ‹Nat›) v; rw [List.length_take] at p q; simp only [List.length_cons,List.length_nil]; omega))
 all_goals try (refine ⟨0,?_⟩; (repeat' (first | with_reducible apply aV | intro)))
 all_goals try (exact acJ)
 all_goals try (refine ⟨‹Nat› + 1,?_⟩; (repeat' with_reducible first|apply aV|refine bl ?_|intro))
 all_goals (first | (first | with_reducible rfl | omega | (refine aD ?_ ?_ <;> omega)) | exact afJ | exact (aep ab ab) | exact (acE ab aE) | exact (acZ ab aE) | exact (aee ab ab) | exact (adt aE) | exact (ac5 aE) | (have p:=GN (l.take ‹Nat›) v; have q:=xI (l.take ‹Nat›) v; rw [List.length_take] at p q; simp only [List.length_cons,List.length_nil]; omega))
def GB:Kn:=aO (ae (kC (cL (.nm .field))) ao) aw fun (l,_) _=>⟨[∀ f ∈ l,f.b.length<=16384],[.agg (cellsOf (.nm .command) (c_ l))],none,false⟩
theorem We:CK 289 GB:=ah fun (l,_) _ G=>by
 have C:=cg G;refine av kn (aaC l) Tryz.func289 (?_:(fun (v:Prop)=>(fun (r:Int)=>(fun (D:Int)=>(fun (h:Nat)=>(fun (y:Prop)=>l.length*48<=140737488355328->∃ (F:Nat),(fun (B:Command)=>(v/\(↑l.length:Int)=(↑h:Int)/\r=(↑F:Int)/\r=cS.kind/\r=cS.client/\r=cS.seq/\r=cS.set/\r=cS.id/\r=cS.n/\cS.chunks=[]/\Str.mk []=cS.text/\r=B.kind/\r=B.client/\r=B.seq/\r=B.set/\r=B.id/\r=B.n/\B.chunks=[]/\Str.mk []=B.text)/\F<=h/\∀ (s:Nat),(fun (z:Nat)=>(fun (w:Int)=>(fun (A:Prop)=>(fun (g:Command)=>(fun (j:Str)=>(fun (o:Int)=>(fun (p:List Int)=>(fun (q:Int)=>s<=h->((↑s:Int)<(↑h:Int)->r<=(↑s:Int)/\(↑s:Int)<(↑l.length:Int)/\∀ (x:Field),(fun (u:Int)=>(fun (d:Int)=>l[s]? = some x->I64 d->I64 x.wire->x.n.n<18446744073709551616->x.b.length*1<=140737488355328->(d=D->A/\∃ (c:Nat),(v/\y/\w=(↑c:Int)/\bu cS cS (aS (Command.mk u q g.seq g.set g.id g.n p j) (c_ (List.take c l))))/\c <= h/\h - c < z)/\(¬d=D->(d=2->A/\∃ (c:Nat),(v/\y/\w=(↑c:Int)/\bu cS cS (aS (Command.mk o u g.seq g.set g.id g.n p j) (c_ (List.take c l))))/\c <= h/\h - c < z)/\(¬d=2->(d=3->A/\∃ (c:Nat),(v/\y/\w=(↑c:Int)/\bu cS cS (aS (Command.mk o q u g.set g.id g.n p j) (c_ (List.take c l))))/\c <= h/\h - c < z)/\(¬d=3->(d=4->A/\∃ (c:Nat),(v/\y/\w=(↑c:Int)/\bu cS cS (aS (Command.mk o q g.seq u g.id g.n p j) (c_ (List.take c l))))/\c <= h/\h - c < z)/\(¬d=4->(d=5->A/\∃ (c:Nat),(v/\y/\w=(↑c:Int)/\bu cS cS (aS (Command.mk o q g.seq g.set u g.n p j) (c_ (List.take c l))))/\c <= h/\h - c < z)/\(¬d=5->(d=6->A/\∃ (c:Nat),(v/\y/\w=(↑c:Int)/\bu cS cS (aS (Command.mk o q g.seq g.set g.id u p j) (c_ (List.take c l))))/\c <= h/\h - c < z)/\(¬d=6->(d=7->x.b.length<=100000/\((kQ x.b).length*8<=140737488355328->I64 (ql x.b)->A/\∃ (c:Nat),(v/\y/\w=(↑c:Int)/\bu cS cS (aS (Command.mk o q g.seq g.set g.id g.n (kQ x.b) j) (c_ (List.take c l))))/\c <= h/\h - c < z))/\(¬d=7->(d=8->A/\∃ (c:Nat),(v/\y/\w=(↑c:Int)/\bu cS cS (aS (Command.mk o q g.seq g.set g.id g.n p (Str.mk x.b)) (c_ (List.take c l))))/\c <= h/\h - c < z)/\(¬d=8->A/\∃ (c:Nat),(v/\y/\w=(↑c:Int)/\bu cS cS (aS g (c_ (List.take c l))))/\c <= h/\h - c < z))))))))) x.num) (eQ x.n.n))/\((↑h:Int)<=(↑s:Int)->aS g (c_ l))) g.client) g.chunks) g.kind) g.text) (c_ (List.take s l))) (I64 w)) ((↑s:Int)+D)) (h - s)) (c_ (List.take F l))) ((↑h:Int)=(↑h:Int))) l.length) 1) 0) (l=l));(repeat' (intro))
 all_goals try (first | exact bY | exact rfl | (have:=C _ (acA ab); omega) | (rw [aR ab,<- abX ab] <;> exact (bc ab).symm) | (rw [aR ab,<- ab6 ab] <;> first | rfl | exact (bc ab).symm) | (rw [aR ab,<- ZK ab] <;> exact (bc ab).symm) | (rw [aR ab,<- aaL ab] <;> first | rfl | exact (bc ab).symm) | (rw [aR ab,<- ZR ab] <;> exact (bc ab).symm) | (rw [aR ab,<- YY ab] <;> first | rfl | exact (bc ab).symm) | (rw [aR ab,<- aci ab] <;> exact (bc ab).symm) | (rw [aR ab,<- Yw ab] <;> first | rfl | exact (bc ab).symm) | (rw [aR ab,<- YL aE] <;> exact (bc ab).symm) | (rw [List.take_of_length_le aE]))
 all_goals try (refine ⟨0,?_⟩; (repeat' with_reducible first|apply aV|refine bl ?_|intro))
 all_goals try (first | (first | (refine aD ?_ ?_ <;> omega)) | exact rfl | (have:=C _ (acA ab); omega) | (rw [aR ab,<- abX ab] <;> exact (bc ab).symm) | (rw [aR ab,<- ab6 ab] <;> first | rfl | exact (bc ab).symm) | (rw [aR ab,<- ZK ab] <;> exact (bc ab).symm) | (rw [aR ab,<- aaL ab] <;> first | rfl | exact (bc ab).symm) | (rw [aR ab,<- ZR ab] <;> exact (bc ab).symm) | (rw [aR ab,<- YY ab] <;> first | rfl | exact (bc ab).symm) | (rw [aR ab,<- aci ab] <;> exact (bc ab).symm) | (rw [aR ab,<- Yw ab] <;> first | rfl | exact (bc ab).symm) | (rw [aR ab,<- YL aE] <;> first | rfl | exact (bc ab).symm) | (rw [List.take_of_length_le aE]))
 all_goals try (refine ⟨‹Nat› + 1,?_⟩; (repeat' with_reducible first|apply aV|refine bl ?_|intro))
 all_goals (first | exact bY | exact rfl | (have:=C _ (acA ab); omega) | (rw [aR ab,<- abX ab] <;> first | rfl | exact (bc ab).symm) | (rw [aR ab,<- ab6 ab] <;> first | rfl | exact (bc ab).symm) | (rw [aR ab,<- ZK ab] <;> first | rfl | exact (bc ab).symm) | (rw [aR ab,<- aaL ab] <;> first | rfl | exact (bc ab).symm) | (rw [aR ab,<- ZR ab] <;> first | rfl | exact (bc ab).symm) | (rw [aR ab,<- YY ab] <;> first | rfl | exact (bc ab).symm) | (rw [aR ab,<- aci ab] <;> first | rfl | exact (bc ab).symm) | (rw [aR ab,<- Yw ab] <;> first | rfl | exact (bc ab).symm) | (rw [aR ab,<- YL aE] <;> first | rfl | exact (bc ab).symm) | (rw [List.take_of_length_le aE]))
def adR:bP:=(aQ 289 GB (aQ 288 AD (aQ 220 Hv (aQ 221 Ex (aQ 330 BC (aQ 356 Hg adV))))))
def nB:aA Tryz.prog (ak tyT) adR:=(ag We (ag Mn (ag UX (ag TN (ag NV (ag Wa kn))))))
def Hq:Kn:=aO (ae (kC cI) (ae (kC cI) (ae (kC (ba 0 0)) ao))) (aC (dC 177 (ax (Zq true) dA)) aw) fun (k,n,_,_) ((_,_),_)=>⟨[0<=n],[],some ([.box 177 ([.own 1]),.row 219 (.nm .field) ((qo k n))]),false⟩
def TM:CK 223 Hq:=ah fun (k,n,_,_) ((_,_),_) c=>by
 have d:=cg c;refine bz nB [] Tryz.func223 (?_:I64 k->I64 n->(¬n=0->0<=n/\[Field.mk k 0 (U64.mk n.toNat) []].length*48<=140737488355328/\[Field.mk k 0 (U64.mk n.toNat) []]=qo k n)/\(n=0->qo k n=[]));(repeat' with_reducible first|apply aV|refine bl ?_|intro)
 all_goals (first | exact bY | exact (zT ab) | exact (BA ab) | exact (zI ab) | exact (Ai aE) | exact (zT (xs:=[]) ab) | exact (BA (xs:=[]) ab).symm | exact (zI (xs:=[]) ab) | exact (Ai (xs:=[]) aE).symm | (simp only [List.length_cons,List.length_nil]; omega) | decide)
def Gi:Kn:=aO (ae (kC cI) (ae (kC cI) (ae (kC (ba 0 0)) ao))) (aC (dC 177 (ax (eI 1) dA)) (aC (eG 219 (.nm .field)) aw)) fun (k,n,_,_) ((_,_),xs,_)=>⟨[0<=n,xs.length<=1000],[],some ([.box 177 ([.own 1]),.row 219 (.nm .field) ((xs++qo k n))]),false⟩
def SG:CK 223 Gi:=ah fun (k,n,_,_) ((_,_),xs,_) c=>by
 have d:=cg c;have g:=cg (eP c);refine bz nB [] Tryz.func223 (?_:I64 k->I64 n->(¬n=0->0<=n/\(xs.length+[Field.mk k 0 (U64.mk n.toNat) []].length)*48<=140737488355328/\xs++[Field.mk k 0 (U64.mk n.toNat) []]=xs++qo k n)/\(n=0->xs=xs++qo k n));(repeat' with_reducible first|apply aV|refine bl ?_|intro)
 all_goals (first | exact bY | exact (zT ab) | exact (BA ab) | exact (zI ab) | exact (Ai aE) | exact (zT (xs:=[]) ab) | exact (BA (xs:=[]) ab).symm | exact (zI (xs:=[]) ab) | exact (Ai (xs:=[]) aE).symm | (simp only [List.length_cons,List.length_nil]; omega) | decide)
def EM:Kn:=aO (ae (kC cI) (ae (kC (cL .u8)) (ae (kC (ba 0 0)) ao))) (aC (dC 177 (ax (Zq true) dA)) aw) fun (k,b,_,_) ((_,_),_)=>⟨[],[],some ([.box 177 ([.own 1]),.row 219 (.nm .field) ((CQ k b))]),false⟩
def VC:CK 224 EM:=ah fun (k,b,_,_) ((_,_),_) _=>by
 refine bz nB [] Tryz.func224 (?_:I64 k->b.length*1<=140737488355328->(0<(↑b.length:Int)->[Field.mk k 2 (U64.mk 0) b].length*48<=140737488355328/\[Field.mk k 2 (U64.mk 0) b]=CQ k b)/\((↑b.length:Int)<=0->CQ k b=[]));(repeat' with_reducible first|apply aV|refine bl ?_|intro)
 all_goals (first | exact bY | exact (zT ab) | exact (BA ab) | exact (zI ab) | exact (Ai aE) | exact (zT (xs:=[]) ab) | exact (BA (xs:=[]) ab).symm | exact (zI (xs:=[]) ab) | exact (Ai (xs:=[]) aE).symm | (simp only [List.length_cons,List.length_nil]; omega) | decide)
def Fp:Kn:=aO (ae (kC cI) (ae (kC (cL .u8)) (ae (kC (ba 0 0)) ao))) (aC (dC 177 (ax (eI 1) dA)) (aC (eG 219 (.nm .field)) aw)) fun (k,b,_,_) ((_,_),xs,_)=>⟨[xs.length<=1000],[],some ([.box 177 ([.own 1]),.row 219 (.nm .field) ((xs++CQ k b))]),false⟩
def TE:CK 224 Fp:=ah fun (k,b,_,_) ((_,_),xs,_) c=>by
 have d:=cg c;refine bz nB [] Tryz.func224 (?_:I64 k->b.length*1<=140737488355328->(0<(↑b.length:Int)->(xs.length+[Field.mk k 2 (U64.mk 0) b].length)*48<=140737488355328/\xs++[Field.mk k 2 (U64.mk 0) b]=xs++CQ k b)/\((↑b.length:Int)<=0->xs=xs++CQ k b));(repeat' with_reducible first|apply aV|refine bl ?_|intro)
 all_goals (first | exact bY | exact (zT ab) | exact (BA ab) | exact (zI ab) | exact (Ai aE) | exact (zT (xs:=[]) ab) | exact (BA (xs:=[]) ab).symm | exact (zI (xs:=[]) ab) | exact (Ai (xs:=[]) aE).symm | (simp only [List.length_cons,List.length_nil]; omega) | decide)
def XD:bP:=(aQ 224 Fp (aQ 224 EM (aQ 223 Gi (aQ 223 Hq adR))))
def Al:aA Tryz.prog (ak tyT) XD:=(ag TE (ag VC (ag SG (ag TM nB))))
def wB:Kn:=aO (ae (kT (.nm .command)) (ae (kC cI) ao)) aw fun (c,v,_) _=>⟨[0<=c.kind,0<=c.client,0<=c.seq,0<=c.set,0<=c.id,0<=c.n],[.c (.own 0)],some ([.row 219 (.nm .field) ((dI c v))]),true⟩
def Jo:CK 163 wB:=ah fun (c,v,_) _ g=>by
 have A:=cg g;have s:=cg (eP g);have u:=cg (eP (eP g));have w:=cg (eP (eP (eP g)));have y:=cg (eP (eP (eP (eP g))));have z:=cg (eP (eP (eP (eP (eP g)))));refine cT Al [] Tryz.func163 (?_:(fun h=>(fun r=>(fun d=>(fun o=>(fun p=>(fun q=>(fun j=>bF c (I64 v->h<=c.kind/\h<=c.client/\(qo 1 c.kind).length<=d/\h<=c.seq/\r.length<=d/\h<=c.set/\q.length<=d/\h<=c.id/\(q++qo 4 c.set).length<=d/\h<=c.n/\j.length<=d/\((eM c.chunks).length*1<=140737488355328->I64 (fI c.chunks)->(j++o).length<=d/\(3<=v->(j++o++p).length<=d/\j++o++p++CQ 8 c.text.b=dI c v)/\(v<3->j++o++p=dI c v)))) (q++qo 4 c.set++qo 5 c.id)) (r++qo 3 c.seq)) (CQ 7 (eM c.chunks))) (qo 6 c.n)) (1000:Nat)) (qo 1 c.kind++qo 2 c.client)) (0:Int));(repeat' with_reducible first|apply aV|refine bl ?_|intro)
 all_goals (first | exact bY | (rw [dI,if_pos aE]; rfl) | (rw [dI,if_neg aE]; rfl) | (have s:=gC 1 c.kind; have u:=gC 2 c.client; have w:=gC 3 c.seq; have y:=gC 4 c.set; have z:=gC 5 c.id; have B:=gC 6 c.n; have C:=Ef 7 (eM c.chunks); (try simp only [List.length_append]); omega))
def WD:bP:=(aQ 163 wB XD)
def nK:aA Tryz.prog (ak tyT) WD:=(ag Jo Al)
