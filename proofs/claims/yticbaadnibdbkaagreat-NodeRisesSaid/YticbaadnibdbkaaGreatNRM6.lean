/- What leads to the law, part 6. Conditions: each lemma's own. -/
import Derived.Shelf.Lay
import Derived.Shelf.SlSortCmp.Small
import Derived.Shelf.Small.Bits
import Derived.Sort.LotA
import Derived.Test.YticbaadnibdbkaaGreatNRM5
set_option linter.unusedVariables false
set_option linter.unusedSimpArgs false
set_option maxHeartbeats 2000000
set_option linter.defProp false
noncomputable section
namespace Go.Proofs.YticbaadnibdbkaaGreat
open Go.RowKit
def agD:=@Nat.le_of_eq
variable {b:List UInt8}
def afP (h:(aT b).e=0) (a:(takeF (b.drop (aT b).k)).2.2=0) (c:¬ (aT b).wire=0) (f:(takeF (b.drop (aT b).k)).1<=16384) (d:((b.length:Nat):Int) - (((aT b).k:Int)+((takeF (b.drop (aT b).k)).2.1:Nat))<dq (takeF (b.drop (aT b).k)).1):(0:Int)=((bk b).1:Nat)/\2=(bk b).2:=by
 rw [oU aK] at d;rw [akD h a c aK aK]; exact ⟨rfl,rfl⟩
def af3 (h:(aT b).e=0) (a:(takeF (b.drop (aT b).k)).2.2=0) (c:¬ (aT b).wire=0) (f:(takeF (b.drop (aT b).k)).1<=16384) (d:dq (takeF (b.drop (aT b).k)).1<=((b.length:Nat):Int) - (((aT b).k:Int)+((takeF (b.drop (aT b).k)).2.1:Nat))):((aT b).k:Int)+((takeF (b.drop (aT b).k)).2.1:Nat)+dq (takeF (b.drop (aT b).k)).1=((bk b).1:Nat)/\0=(bk b).2:=by
 rw [oU aK] at d ⊢;rw [ai8 h a c aK aK]; exact ⟨rfl,rfl⟩
def afQ (l:List Field):List (Nat × LI):=[(6,{ σ:=Nat,F:=fun k=>([(5,one (.own 0)),(13,one (.fz (.nm .field) (l))),(14,one (.int (l).length)),(15,one (.int k))],[.row 5 .u8 ((((l.take k).map cG).flatten))]),J:=fun k=>k<=l.length,μ:=fun k=>l.length - k })]
def afy (q:Int) (v:Int):List (Nat × LI):=[(3,{ σ:=Nat,F:=fun k=>([(5,one (.int (((aW v).take k).foldl (fun t s=>max t s.num) 0))),(10,one (.fz (.nm .spec) (aW v))),(11,one (.int (aW v).length)),(12,one (.int k))],[]),J:=fun k=>k<=(aW v).length,μ:=fun k=>(aW v).length - k })]
def GS:Kn:=aM (ae (kC (cL .u8)) ak) av fun (b,_) _=>⟨[],[.c (.int ((((bk b).1:Nat)))),.c (.int (((bk b).2)))],none,false⟩
def VB:CK 329 GS:=ag fun (b,_) _ _=>by
 refine aq oB [] Tryz.func329 (?_:(fun h=>(fun l=>(fun c=>(fun f=>(fun d=>(fun i=>(fun j=>(fun a=>(fun g=>l->I64 c.num->I64 c.wire->I64 j->I64 c.e->(¬c.e=d->i/\c.e=f)/\(c.e=d->d<=j/\j<=h/\l/\(a.fst<(18446744073709551616:Nat)->I64 a.snd.snd->(¬a.snd.snd=d->i/\a.snd.snd=f)/\(a.snd.snd=d->(c.wire=d->g=(↑(bk b).fst:Int)/\d=f)/\(¬c.wire=d->((↑(16384:Nat):Int)<(↑a.fst:Int)->i/\(4:Int)=f)/\((↑a.fst:Int)<=(↑(16384:Nat):Int)->I64 (h - g)/\(h - g<dq a.fst->i/\(2:Int)=f)/\(dq a.fst<=h - g->I64 (g+dq a.fst)/\g+dq a.fst=(↑(bk b).fst:Int)/\d=f))))))) (j+(↑a.snd.fst:Int))) (takeF (List.drop c.k b))) (↑c.k:Int)) (d=(↑(bk b).fst:Int))) (0:Int)) (bk b).snd) (aT b)) (b.length*(1:Nat)<=(140737488355328:Nat))) (↑b.length:Int));(repeat' with_reducible first|apply bc|refine ba ?_|intro)
 all_goals (first | exact bm | (rw [aj0 ab] <;> rfl) | (rw [aha ab ab] <;> rfl) | (rw [ajX ab ab ab] <;> rfl) | (rw [ag_ ab ab ab aK] <;> rfl) | exact (afP ab ab ab aK ab).1 | exact (afP ab ab ab aK ab).2 | exact (af3 ab ab ab aK ab).1 | exact (af3 ab ab ab aK ab).2 | (have n:=re b; have o:=oR b (aT b).k; first | omega | (refine bz ?_ ?_ <;> omega)) | (have n:=re b; have o:=oR b (aT b).k; have p:=oU (m:=(takeF (b.drop (aT b).k)).1) aK; first | omega | (refine bz ?_ ?_ <;> omega)))
def Mo:Kn:=aM (ae (kC (cL (.nm .field))) ak) av fun (l,_) _=>⟨[],[.c (.own 0),.c (.int ((cY l)))],some ([.row 5 .u8 ((mU l))]),true⟩
theorem acw:CK 162 Mo:=ag fun (l,_) _ _=>by
 refine dF oB (afQ l) Tryz.func162 (?_:(fun (a:Nat)=>l.length*48<=140737488355328->I64 (cY l)->(¬cY l=0->cY l=cY l/\mU l=[])/\(cY l=0->∃ (d:Nat),(l=l/\(↑l.length:Int)=(↑a:Int)/\0=(↑d:Int)/\(List.map cG (List.take d l)).flatten=[])/\d<=a/\∀ (s:Nat),(fun (e:List UInt8)=>s<=a->((↑s:Int)<(↑a:Int)->0<=(↑s:Int)/\(↑s:Int)<(↑l.length:Int)/\∀ (x:Field),l[s]? = some x->I64 x.num->I64 x.wire->x.n.n<18446744073709551616->x.b.length*1<=140737488355328->x.b.length<=16384/\(e.length+(cG x).length)*1<=140737488355328/\I64 ((↑s:Int)+1)/\∃ (c:Nat),(l=l/\(↑a:Int)=(↑a:Int)/\(↑s:Int)+1=(↑c:Int)/\e++cG x=(List.map cG (List.take c l)).flatten)/\c <= a/\a - c < a - s)/\((↑a:Int)<=(↑s:Int)->0=cY l/\e=mU l)) (List.map cG (List.take s l)).flatten)) l.length);iterate 3 ((all_goals (repeat' with_reducible first|apply bc|refine ba ?_|intro)); (all_goals try (first | exact bm | exact rfl | exact (Zf ab).symm | exact (Eq.symm ab) | exact (Ig ab) | exact (yz ab (ac7 ab)) | exact (WA ab aK) | (have g:=Ot (k:=‹Nat›) (show cY l=0 by with_reducible assumption); have h:=um (f:=‹Field›) (yz (show cY l=0 by with_reducible assumption) (ac7 ab)) ab; omega))); all_goals try first | refine ⟨‹Nat› + 1,?_⟩ | refine ⟨0,?_⟩)
def NH:Kn:=aM (ae (kC cI) (ae (kC cI) ak)) av fun (q,v,_) _=>⟨[q=1],[.c (.int ((db v)))],none,false⟩
theorem ZM:CK 161 NH:=ag fun (q,v,_) _ h=>by
 have i:=cg h;refine aq oB (afy q v) Tryz.func161 (?_:(fun (d:Int)=>(fun (a:List Spec)=>(fun (c:Nat)=>I64 q->I64 v->q=1/\(a.length*32<=140737488355328->∃ (f:Nat),(d=List.foldl (fun (t:Int) (s:Spec)=>max t s.num) d (List.take f a)/\a=a/\(↑a.length:Int)=(↑c:Int)/\d=(↑f:Int))/\f<=c/\∀ (s:Nat),(fun (g:Int)=>s<=c->((↑s:Int)<(↑c:Int)->d<=(↑s:Int)/\(↑s:Int)<(↑a.length:Int)/\∀ (x:Spec),a[s]? = some x->nn x (I64 ((↑s:Int)+1)/\∃ (e:Nat),(max g x.num=List.foldl (fun (t:Int) (s:Spec)=>max t s.num) d (List.take e a)/\a=a/\(↑c:Int)=(↑c:Int)/\(↑s:Int)+1=(↑e:Int))/\e <= c/\c - e < c - s))/\((↑c:Int)<=(↑s:Int)->g=db v)) (List.foldl (fun (t:Int) (s:Spec)=>max t s.num) d (List.take s a)))) a.length) (aW v)) 0);iterate 3 ((all_goals (repeat' with_reducible first|apply bc|refine ba ?_|intro)); (all_goals try (first | exact bm | exact rfl | exact (MW ab) | (rw [db,List.take_of_length_le aK]))); all_goals try first | refine ⟨‹Nat› + 1,?_⟩ | refine ⟨0,?_⟩)
def af5:bF:=(aP 161 NH (aP 162 Mo (aP 329 GS YJ)))
def rB:aw Tryz.prog (aj tyT) af5:=(ah ZM (ah acw (ah VB oB)))
structure Wq (p:Prop):Prop where
 h:p
def fF (l:List Field):Int->Option Int:=fun q=>if iL l q=0 then none else some ((iL l q:Nat):Int)
def As (a:List Field) (v:Int) (k:Nat):Prop:=∀ j y,j<k->a[j]? = some y->¬ y.num<=db v
variable {xs:List Field} {f:Field}
def ZQ (h:(xs.length:Int)=0):true=fY xs f:=by
 unfold fY; rw [List.getElem?_eq_none aK]
def aaS (h:¬ (xs.length:Int)=0):fX (xs.getD ((xs.length:Int) - 1).toNat (ao (.nm .field))) f=fY xs f:=by
 unfold fY;rw [show ((xs.length:Int) - 1).toNat=xs.length - 1 by omega,List.getD_eq_getElem?_getD,List.getElem?_eq_getElem aK]; rfl
theorem Kg (l:List Field) (q:Int):(fF l q).getD (ao .int)=((iL l q:Nat):Int):=by
 unfold fF;by_cases h:iL l q=0
 ·rw [if_pos h,h]; rfl
 grind
variable {l:List Field}
def aca:(fun _=>none)=fF (l.take 0):=rfl
variable {k:Nat}
def acJ (h:l.length<=k):fF (l.take k)=fF l:=by rw [List.take_of_length_le h]
variable {x:Field}
def Uy (c:l[k]? = some x):(fun j=>if j=x.num then some ((fF (l.take k) x.num).getD (ao .int)+1) else fF (l.take k) j)=fF (l.take (k+1)):=by
 funext j;have h:=QI c j;by_cases a:j=x.num
 ·rw [if_pos a] at h ⊢;rw [Kg]; unfold fF; rw [h,if_neg aK]; rfl
 rw [if_neg a] at h ⊢;unfold fF; rw [h]
def gdX (a:l[k]? = some x):x=l.getD k (ao (.nm .field)):=by rw [List.getD_eq_getElem?_getD,a]; rfl
def gdY (h:k<l.length):l[k]? = some (l.getD k (ao (.nm .field))):=by
 rw [List.getD_eq_getElem?_getD,List.getElem?_eq_getElem h]; rfl
variable {ss:List Spec} {m:Nat}
def ajF {y:Spec} (h:Wq (OB ss x ((iL l x.num:Nat):Int) m)) (c:ss[m]? = some y) (a:¬ y.num=x.num\/OV x y ((fF l x.num).getD (ao .int))=true):Wq (OB ss x ((iL l x.num:Nat):Int) (m+1)):=
 ⟨KS h.h c fun e=>by rw [Kg] at a; exact a.resolve_left (fun h=>h e)⟩
def ajg (h:Wq (uJ l ss k)) (a:k<l.length) (c:Wq (OB ss (l.getD k (ao (.nm .field))) ((iL (l.take (k+1)) (l.getD k (ao (.nm .field))).num:Nat):Int) m)) (d:(ss.length:Int)<=(m:Int)):Wq (uJ l ss (k+1)):=
 ⟨MX h.h (gdY a) c.h aK rfl⟩
def ajy (h:Wq (uJ l ss k)) (a:l.length<=k):Wq (uJ l ss l.length):=⟨fun j x c=>h.h j x aK⟩
def aiw {v:Int} {y:Spec} (c:(aW v)[m]? = some y) (d:y.need=true) (a:(fF l y.num).getD (ao .int)=0):¬ Bd l v:=Tt c ⟨d,by rw [Kg] at a; exact a⟩ rfl
theorem agZ {y:Spec} (h:Wq (KD l ss m)) (a:ss[m]? = some y) (hn:y.need=false\/¬ (fF l y.num).getD (ao .int)=0):Wq (KD l ss (m+1)):=
 ⟨NG h.h a fun c=>by
  rw [Kg] at hn;rcases hn with hn | hn
  ·grind
  omega⟩
def agU {v:Int} (a:Wq (uJ l (aW v) l.length)) (c:Wq (KD l (aW v) k)) (d:(aW v).length<=k):Bd l v:=TM a.h (Nat.le_refl _) c.h d
variable {rest:List Field}
def adW {v:Int}:As rest v 0:=fun j y h=>by omega
def ado {v:Int} (h:Wq (As rest v k)) (a:rest[k]? = some x) (c:¬ x.num<=db v):Wq (As rest v (k+1)):=⟨IB h.h a c⟩
def pb1 {c:Command} {v:Int} (h:cE v=false):dW c rest v=1:=ag8 (by show (!(cE v))=true; rw [h]; rfl)
def pb2 {c:Command} {v:Int} (h:cE v=true) (a:gD c v=false) (d:¬ bL c v=0):dW c rest v=bL c v:=ajv (by show (!(cE v))=false; rw [h]; rfl) a d
def pb3 {c:Command} {v:Int} (h:cE v=true) (a:gD c v=true\/bL c v=0) (d:rest[k]? = some x) (e:x.num<=db v):dW c rest v=6:=ahq (by show (!(cE v))=false; rw [h]; rfl) a d e
def pb0 {c:Command} {v:Int} (h:cE v=true) (a:gD c v=true\/bL c v=0) (d:Wq (As rest v k)) (e:rest.length<=k):dW c rest v=0:=agK (by show (!(cE v))=false; rw [h]; rfl) a d.h e
def Vo (q:Int) (v:Int) (l:List Field):List (Nat × LI):=[(9,{ σ:=Nat,F:=fun k=>([(7,one (.fz (.nm .spec) (aW v))),(9,one (.mq 0)),(28,one (.fz (.nm .field) (l))),(29,one (.int (l).length)),(30,one (.int k))],[.mapo .int (fF (l.take k))]),J:=fun k=>k<=l.length/\Wq (uJ l (aW v) k),μ:=fun k=>(l).length - k }),(13,{ σ:=Nat × Nat,F:=fun q=>([(7,one (.fz (.nm .spec) (aW v))),(9,one (.mq 0)),(11,one (.ptr 1 0)),(28,one (.fz (.nm .field) (l))),(29,one (.int (l).length)),(30,one (.int q.1)),(39,one (.fz (.nm .spec) (aW v))),(40,one (.int (aW v).length)),(41,one (.int q.2))],[.mapo .int (fF (l.take (q.1+1))),.box 219 (cellsOf (.nm .field) ((l.getD q.1 (ao (.nm .field)))))]),J:=fun q=>q.1<l.length/\q.2<=(aW v).length/\Wq (uJ l (aW v) q.1)/\Wq (OB (aW v) (l.getD q.1 (ao (.nm .field))) ((iL (l.take (q.1+1)) (l.getD q.1 (ao (.nm .field))).num:Nat):Int) q.2),μ:=fun q=>(aW v).length - q.2,R:=some fun a q=>q.1=a.1 }),(20,{ σ:=Nat,F:=fun k=>([(9,one (.mq 0)),(62,one (.fz (.nm .spec) (aW v))),(63,one (.int (aW v).length)),(64,one (.int k))],[.mapo .int (fF l)]),J:=fun k=>k<=(aW v).length/\Wq (uJ l (aW v) l.length)/\Wq (KD l (aW v) k),μ:=fun k=>(aW v).length - k })]
def afn (c:Command) (rest:List Field) (v:Int):List (Nat × LI):=[(9,{ σ:=Nat,F:=fun k=>([(1,one (.fz (.nm .field) (rest))),(2,one (.int (v))),(3,one (.ptr 0 0)),(9,one (.int (db v))),(27,one (.fz (.nm .field) (rest))),(28,one (.int (rest).length)),(29,one (.int k))],[.box 35 (cellsOf (.nm .command) (c))]),J:=fun k=>k<=rest.length/\Wq (As rest v k),μ:=fun k=>rest.length - k })]
def EG:Kn:=aM (ae (kT (.nm .field)) (ae (kC (aZ 0 0)) ak)) (aH (dQ 177 (ax (eV 1) dL)) (aH (e_ 219 (.nm .field)) av)) fun (f,_,_) ((_,_),xs,_)=>⟨[xs.length<=20000],[.c (.bool (.atom ((fY xs f))))],none,false⟩
def Wo:CK 328 EG:=ag fun (f,_,_) ((_,_),xs,_) e=>by
 have g:=cg e;refine aq rB [] Tryz.func328 (?_:(fun c=>(fun d=>(fun a=>I64 f.num->I64 f.wire->f.n.n<18446744073709551616->f.b.length*1<=140737488355328->(c=0->true=fY xs f)/\(¬c=0->I64 d/\(0<=d/\d<c)/\(I64 a.num->I64 a.wire->a.n.n<18446744073709551616->a.b.length*1<=140737488355328->fX a f=fY xs f))) (xs.getD d.toNat (ao (Sh.nm NT.field)))) (c - 1)) (↑xs.length:Int));(repeat' with_reducible first|apply bc|refine ba ?_|intro)
 all_goals (first | exact bm | exact (ZQ ab) | exact (aaS ab))
def Bh:Kn:=aM (ae (kC cI) (ae (kC cI) (ae (kC (cL (.nm .field))) ak))) av fun (q,v,l,_) _=>⟨[q=1],[.c (.int ((gG l v)))],none,false⟩
theorem MK:CK 287 Bh:=ag fun (q,v,l,_) _ J=>by
 have K:=cg J;refine aq rB (Vo q v l) Tryz.func287 (?_:(fun (C:Nat)=>(fun (y:Int)=>(fun (t:Int)=>(fun (u:Nat)=>(fun (z:Int)=>(fun (I:den (Sh.nm NT.field))=>(fun (c:List Spec)=>(fun (B:Prop)=>(fun (D:Int)=>(fun (w:Nat)=>(fun (e:Int)=>I64 q->I64 v->l.length*48<=140737488355328->q=y/\(c.length*32<=140737488355328->(D=t->y=gG l v)/\(¬D=t->I64 (cY l)->(¬cY l=t->cY l=gG l v)/\(cY l=t->∃ (i:Nat),(B/\l=l/\(↑l.length:Int)=z/\t=(↑i:Int)/\(fun (_:Int)=>none)=fF (List.take i l))/\(i<=u/\Wq (uJ l c i))/\∀ (s:Nat),s<=u/\Wq (uJ l c s)->((↑s:Int)<z->t<=(↑s:Int)/\(↑s:Int)<(↑l.length:Int)/\∀ (x:Field),(fun (F:Int)=>l[s]? = some x->I64 x.num->I64 x.wire->x.n.n<18446744073709551616->x.b.length*C<=140737488355328->I64 F/\∃ (i:Nat × Nat),(fun (g:Nat)=>(fun (o:Field)=>(B/\l=l/\z=z/\(↑s:Int)=(↑g:Int)/\B/\D=e/\t=(↑i.snd:Int)/\(fun (j:Int)=>if j=x.num then some F else fF (List.take s l) j)=fF (List.take (g+C) l)/\x.num=o.num/\x.wire=o.wire/\x.n.n=o.n.n/\x.b=o.b)/\(g<u/\i.snd<=w/\Wq (uJ l c g)/\Wq (OB c o (↑(iL (List.take (g+C) l) o.num):Int) i.snd))/\g=g/\∀ (a:Nat × Nat),(fun (p:Int)=>(fun (A:List Field)=>(fun (h:Field)=>a.fst<u/\a.snd<=w/\Wq (uJ l c a.fst)/\Wq (OB c h (↑(iL A h.num):Int) a.snd)->a.fst=g->(p<e->t<=p/\p<D/\∀ (x:Spec),(fun (G:Bool)=>c[a.snd]? = some x->nn x ((x.num=h.num/\G=false->6=gG l v)/\(¬x.num=h.num\/G=true->I64 (p+y)/\∃ (d:Nat × Nat),(fun (r:Field)=>(B/\l=l/\z=z/\(↑a.fst:Int)=(↑d.fst:Int)/\B/\e=e/\p+y=(↑d.snd:Int)/\fF A=fF (List.take (d.fst+C) l)/\h.num=r.num/\h.wire=r.wire/\h.n.n=r.n.n/\h.b=r.b)/\(d.fst<u/\d.snd<=w/\Wq (uJ l c d.fst)/\Wq (OB c r (↑(iL (List.take (d.fst+C) l) r.num):Int) d.snd))/\d.fst=g/\w - d.snd<w - a.snd) (l.getD d.fst I)))) (OV h x ((fF A h.num).getD (ao Sh.int))))/\(e<=p->I64 ((↑a.fst:Int)+y)/\∃ (d:Nat),(B/\l=l/\z=z/\(↑a.fst:Int)+y=(↑d:Int)/\fF A=fF (List.take d l))/\(d <= u/\Wq (uJ l c d))/\u - d < u - s)) (l.getD a.fst I)) (List.take (a.fst+C) l)) (↑a.snd:Int)) (l.getD g I)) i.fst) ((fF (List.take s l) x.num).getD (ao Sh.int)+y))/\(z<=(↑s:Int)->∃ (i:Nat),(B/\D=e/\t=(↑i:Int)/\fF (List.take s l)=fF l)/\(i<=w/\Wq (uJ l c u)/\Wq (KD l c i))/\∀ (s:Nat),s<=w/\Wq (uJ l c u)/\Wq (KD l c s)->((↑s:Int)<e->t<=(↑s:Int)/\(↑s:Int)<D/\∀ (x:Spec),(fun (H:Prop)=>c[s]? = some x->nn x ((x.need=true/\H->6=gG l v)/\(x.need=false\/¬H->I64 ((↑s:Int)+y)/\∃ (d:Nat),(B/\e=e/\(↑s:Int)+y=(↑d:Int)/\fF l=fF l)/\(d <= w/\Wq (uJ l c u)/\Wq (KD l c d))/\w - d < w - s))) ((fF l x.num).getD (ao Sh.int)=t))/\(e<=(↑s:Int)->t=gG l v)))))) (↑w:Int)) c.length) (↑c.length:Int)) (c=c)) (aW v)) (ao (Sh.nm NT.field))) (↑u:Int)) l.length) 0) 1) 1);(repeat' with_reducible first|apply bc|refine ba ?_|intro)
 all_goals try (refine ⟨0,?_⟩; (repeat' with_reducible first|apply bc|refine ba ?_|intro))
 all_goals try (refine ⟨(‹Nat›,0),?_⟩; (repeat' with_reducible first|apply bc|refine ba ?_|intro))
 all_goals try (refine ⟨(‹Nat × Nat›.1,‹Nat × Nat›.2+1),?_⟩; (repeat' with_reducible first|apply bc|refine ba ?_|intro))
 all_goals try (refine ⟨‹Nat × Nat›.1+1,?_⟩; (repeat' with_reducible first|apply bc|refine ba ?_|intro))
 all_goals try (refine ⟨0,?_⟩; (repeat' with_reducible first|apply bc|refine ba ?_|intro))
 all_goals try (refine ⟨‹Nat› + 1,?_⟩; (repeat' with_reducible first|apply bc|refine ba ?_|intro))
 all_goals (first | exact bm | exact rfl | exact (ahB aK) | exact (akm aK ab) | exact aca | exact ⟨aea⟩ | exact ⟨ae0⟩ | exact ⟨aeO⟩ | exact (Uy ab) | exact (congrArg Field.num (gdX ab)) | exact (congrArg Field.wire (gdX ab)) | exact (congrArg (fun f=>f.n.n) (gdX ab)) | exact (congrArg Field.b (gdX ab)) | exact (afw aK ab (SA (gdY ab) ab (And.intro ab ab) (Kg _ _))) | exact (ajF ab ab ap) | exact (ajg ab ab ab ab) | exact (ajy ab aK) | exact (acJ aK) | exact (afw aK ab (aiw ab ab ab)) | exact (agZ ab ab ap) | exact (aho aK ab (agU ab ab aK)) | (have L:=WD (l:=l) (k:=‹Nat›) ‹Field›.num; have N:=Kg (l.take ‹Nat›) ‹Field›.num; refine bz ?_ ?_ <;> omega))
def LO:Kn:=aM (ae (kT (.nm .command)) (ae (kC (cL (.nm .field))) (ae (kC cI) ak))) av fun (c,rest,v,_) _=>⟨[rest.length<=20000],[.c (.own 0),.c (.int ((fw c rest v)))],some ([.row 5 .u8 ((gE c rest v))]),true⟩
theorem abP:CK 93 LO:=ag fun (c,rest,v,_) _ p=>by
 have q:=cg p;refine dF rB (afn c rest v) Tryz.func93 (?_:(fun (e:Int)=>(fun (i:Prop)=>(fun (a:Int)=>(fun (d:Nat)=>(fun (o:Prop)=>bH c (rest.length*48<=140737488355328->I64 v->(cE v=false->1=e/\i)/\(cE v=true->(gD c v=false->I64 (bL c v)->(¬bL c v=a->bL c v=e/\i)/\(bL c v=a->o))/\(gD c v=true->o)))) ((1:Int)=1/\(I64 (db v)->∃ (j:Nat),(rest=rest/\v=v/\db v=db v/\rest=rest/\(↑rest.length:Int)=(↑d:Int)/\a=(↑j:Int)/\aR c c)/\(j<=d/\Wq (As rest v j))/\∀ (s:Nat),s<=d/\Wq (As rest v s)->((↑s:Int)<(↑d:Int)->a<=(↑s:Int)/\(↑s:Int)<(↑rest.length:Int)/\∀ (x:Field),rest[s]? = some x->I64 x.num->I64 x.wire->x.n.n<18446744073709551616->x.b.length*1<=140737488355328->(x.num<=db v->6=e/\i)/\(db v<x.num->I64 ((↑s:Int)+1)/\∃ (g:Nat),(rest=rest/\v=v/\db v=db v/\rest=rest/\(↑d:Int)=(↑d:Int)/\(↑s:Int)+1=(↑g:Int)/\aR c c)/\(g <= d/\Wq (As rest v g))/\d - g < d - s))/\((↑d:Int)<=(↑s:Int)->a<=c.kind/\a<=c.client/\a<=c.seq/\a<=c.set/\a<=c.id/\a<=c.n/\((dT c v).length+rest.length)*48<=140737488355328/\(I64 (cY (dT c v++rest))->cY (dT c v++rest)=e/\mU (dT c v++rest)=gE c rest v))))) rest.length) 0) (gE c rest v=[])) (fw c rest v));iterate 3 ((all_goals (repeat' with_reducible first|apply bc|refine ba ?_|intro)); (all_goals try (first | exact bm | exact rfl | exact ⟨adW⟩ | exact (ado ab ab aK) | exact (Ew (pb1 ab) am) | exact (Dt (pb1 ab) am).symm | exact (Ew (pb2 ab ab ab) ab) | exact (Dt (pb2 ab ab ab) ab).symm | exact (Ew (pb3 ab (by first | exact .inl ab | exact .inr ab) ab ab) am) | exact (Dt (pb3 ab (by first | exact .inl ab | exact .inr ab) ab ab) am).symm | exact (aeZ (pb0 ab (by first | exact .inl ab | exact .inr ab) ab aK)) | exact (aej (pb0 ab (by first | exact .inl ab | exact .inr ab) ab aK)) | (have h:0<=c.kind/\0<=c.client/\0<=c.seq/\0<=c.set/\0<=c.id/\0<=c.n:=(by first | exact aan ab | exact ZY ab); omega) | (have h:=DM c v; omega))); all_goals try first | refine ⟨‹Nat› + 1,?_⟩ | refine ⟨0,?_⟩)
def ad6:bF:=(aP 93 LO (aP 287 Bh (aP 328 EG af5)))
def GQ:aw Tryz.prog (aj tyT) ad6:=(ah abP (ah MK (ah Wo rB)))
def VF (b:List UInt8) (s:Nat × List Field):Nat × List Field:=(s.1+(bk (b.drop s.1)).1,s.2++[ic ((b.drop s.1).take (((s.1:Int)+((bk (b.drop s.1)).1:Nat)).toNat - s.1))])
def YK {s:Nat × List Field}:(VF b s).2=s.2++[ic ((b.drop s.1).take (bk (b.drop s.1)).1)]:=by
 unfold VF; rw [show ((s.1:Int)+((bk (b.drop s.1)).1:Nat)).toNat - s.1=(bk (b.drop s.1)).1 by omega]
def tlB (h:16384<(b.length:Int)):bP b=([],4):=abo aK
def tlS {s:Nat × List Field} (h:Wq (jg b s.1 s.2)) (c:(s.1:Int)<(b.length:Int)) (a:¬ (bk (b.drop s.1)).2=0):bP b=([],(bk (b.drop s.1)).2):=UQ h.h aK a
theorem tlL {s:Nat × List Field} (h:Wq (jg b s.1 s.2)) (a:(s.1:Int)<(b.length:Int)) (c:(bk (b.drop s.1)).2=0) (d:fY s.2 (ic ((b.drop s.1).take (((s.1:Int)+((bk (b.drop s.1)).1:Nat)).toNat - s.1)))=false):bP b=([],5):=by
 obtain ⟨f,_,e⟩:=MS h.h (show s.1<b.length by omega);grind
def tlN {s:Nat × List Field} (h:Wq (jg b s.1 s.2)) (d:(s.1:Int)<(b.length:Int)) (a:(bk (b.drop s.1)).2=0) (c:fY s.2 (ic ((b.drop s.1).take (((s.1:Int)+((bk (b.drop s.1)).1:Nat)).toNat - s.1)))=true):Wq (jg b (VF b s).1 (VF b s).2):=by
 rw [show ((s.1:Int)+((bk (b.drop s.1)).1:Nat)).toNat - s.1=(bk (b.drop s.1)).1 by omega] at c;obtain ⟨f,g,e⟩:=MS h.h (show s.1<b.length by omega);have i:=oC a;rw [YK];refine ⟨f,by show b.length - (s.1+(bk (b.drop s.1)).1)<=f; omega,?_⟩;rw [e,if_pos a,c,if_pos rfl,agz]; rfl
def tlE {s:Nat × List Field} (h:Wq (jg b s.1 s.2)) (a:(b.length:Int)<=(s.1:Int)):bP b=(s.2,0):=ZW h.h aK
def nx1 {s:Nat × List Field} (a:s.1<=b.length):(VF b s).1<=b.length:=by
 have:=AL (b.drop s.1); rw [List.length_drop] at this; show s.1+_<=_; omega
def nx2 {s:Nat × List Field} (c:s.2.length<=s.1) (a:(bk (b.drop s.1)).2=0):(VF b s).2.length<=(VF b s).1:=by
 have d:=oC a;rw [YK,List.length_append]; simp only [List.length_cons,List.length_nil]; show _<=s.1+_; omega
def nx3 {s:Nat × List Field} (c:(s.1:Int)<(b.length:Int)) (a:(bk (b.drop s.1)).2=0):b.length - (VF b s).1<b.length - s.1:=by
 have d:=oC a; show b.length - (s.1+_)<_; omega
def abe (b:List UInt8):List (Nat × LI):=[(6,{ σ:=Nat × List Field,F:=fun s=>([(0,one (.fz .u8 (b))),(4,one (.ptr 0 0)),(5,one (.fn 328 [] [(0,0)])),(6,one (.int s.1))],[.box 177 ([.own 1]),.row 219 (.nm .field) ((s.2))]),J:=fun s=>Wq (jg b s.1 s.2)/\s.1<=b.length/\s.2.length<=s.1,μ:=fun s=>b.length - s.1 })]
def FL:Kn:=aM (ae (kC (cL .u8)) ak) av fun (b,_) _=>⟨[],[.c (.fz (.nm .field) (((bP b).1))),.c (.int (((bP b).2)))],none,false⟩
theorem UD:CK 286 FL:=ag fun (b,_) _ _=>by
 refine aq GQ (abe b) Tryz.func286 (?_:(fun (p:Prop)=>(fun (g:Int)=>(fun (i:Int)=>b.length*1<=140737488355328->(16384<i->p/\4=(bP b).snd)/\(i<=16384->∃ (d:Nat × List Field),(b=b/\g=(↑d.fst:Int)/\d.snd=[])/\(Wq (jg b d.fst d.snd)/\d.fst<=b.length/\d.snd.length<=d.fst)/\∀ (s:Nat × List Field),(fun (e:Int)=>(fun (j:Nat × Int)=>(fun (o:Int)=>(fun (a:Field)=>Wq (jg b s.fst s.snd)/\s.fst<=b.length/\s.snd.length<=s.fst->(e<i->g<=e/\e<=i/\(I64 (↑j.fst:Int)->I64 j.snd->(¬j.snd=g->p/\j.snd=(bP b).snd)/\(j.snd=g->I64 o/\g<=e/\e<=o/\o<=i/\(I64 a.num->I64 a.wire->a.n.n<18446744073709551616->a.b.length*1<=140737488355328->s.snd.length<=20000/\(fY s.snd a=false->p/\5=(bP b).snd)/\(fY s.snd a=true->(s.snd.length+[a].length)*48<=140737488355328/\I64 o/\∃ (c:Nat × List Field),(b=b/\o=(↑c.fst:Int)/\s.snd++[a]=c.snd)/\(Wq (jg b c.fst c.snd)/\c.fst<=b.length/\c.snd.length<=c.fst)/\b.length - c.fst<b.length - s.fst)))))/\(i<=e->s.snd=(bP b).fst/\g=(bP b).snd)) (ic (List.take (o.toNat - s.fst) (List.drop s.fst b)))) (e+(↑j.fst:Int))) (bk (List.drop s.fst b))) (↑s.fst:Int))) (↑b.length:Int)) 0) ((bP b).fst=[]));iterate 3 ((all_goals (repeat' with_reducible first|apply bc|refine ba ?_|intro)); (all_goals try (first | exact bm | exact rfl | exact ⟨QF aK⟩ | (rw [tlB ab] <;> rfl) | (rw [tlS ab ab ab] <;> rfl) | (rw [tlL ab ab ab ab] <;> rfl) | (rw [tlE ab ab] <;> rfl) | exact (tlN ab ab ab ab) | exact (nx1 ab) | exact (nx2 ab ab) | exact (nx3 ab ab) | (have h:=AL (b.drop ‹Nat × List Field›.1); rw [List.length_drop] at h; first | omega | (refine bz ?_ ?_ <;> omega)) | (simp only [List.length_cons,List.length_nil]; omega))); all_goals try first | refine ⟨VF b ‹Nat × List Field›,?_⟩ | refine ⟨(0,[]),?_⟩)
def aeu:bF:=(aP 286 FL ad6)
def HC:aw Tryz.prog (aj tyT) aeu:=(ah UD GQ)
def tin {v:Int} (h:cE v=true):1<=v/\v<=3:=by
 unfold cE at h; simpa using h
def tqe {v:Int} (a:(bP b).2=0) (c:gG (bP b).1 v=0):nc b v=0:=by rw [nc,if_pos a,c]
def tq1 {v:Int} (h:cE v=false):cJ b v=⟨cT,[],1⟩:=aiO (fun a=>by unfold cE at h; simp only [a,decide_true,Bool.and_self] at h; cases h)
def tq2 {v:Int} (h:cE v=true) (a:(bP b).2=0) (c:¬ gG (bP b).1 v=0):cJ b v=⟨cT,[],gG (bP b).1 v⟩:=by
 have e:nc b v=gG (bP b).1 v:=by rw [nc,if_pos a]
 rw [aex (tin h) (by rw [e]; exact c),e]
def tq3 {v:Int} (h:cE v=true) (a:¬ (bP b).2=0):cJ b v=⟨cT,[],(bP b).2⟩:=by
 have e:nc b v=(bP b).2:=by rw [nc,if_neg a]
 rw [aex (tin h) (by rw [e]; exact a),e]
def tq4 {v:Int} (h:cE v=true) (a:(bP b).2=0) (c:gG (bP b).1 v=0) (d:¬ fw (c_ (d_ (bP b).1 (db v))) (eG (bP b).1 (db v)) v=0\/decide (gE (c_ (d_ (bP b).1 (db v))) (eG (bP b).1 (db v)) v=b)=false):cJ b v=⟨cT,[],6⟩:=
 ahT (tin h) (tqe a c) (d.imp_right fun h=>by simpa using h)
def tq5 {v:Int} (h:cE v=true) (a:(bP b).2=0) (c:gG (bP b).1 v=0) (d:fw (c_ (d_ (bP b).1 (db v))) (eG (bP b).1 (db v)) v=0) (e:decide (gE (c_ (d_ (bP b).1 (db v))) (eG (bP b).1 (db v)) v=b)=true):cJ b v=⟨c_ (d_ (bP b).1 (db v)),eG (bP b).1 (db v),0⟩:=
 aiJ (tin h) (tqe a c) ⟨d,acW e⟩
def Gb:Kn:=aM (ae (kC (cL .u8)) (ae (kC cI) ak)) av fun (b,v,_) _=>⟨[],[.agg (cellsOf (.nm .command) ((cJ b v).c)),.c (.fz (.nm .field) (((cJ b v).r))),.c (.int (((cJ b v).e)))],none,false⟩
def UY:CK 275 Gb:=ag fun (b,v,_) _ _=>by
 refine aq HC [] Tryz.func275 (?_:(fun u=>(fun w=>(fun g=>(fun h=>(fun s=>(fun t=>(fun a=>(fun d=>(fun i=>(fun j=>(fun o=>(fun p=>(fun q=>(fun y=>(fun z=>b.length*1<=140737488355328->I64 v->(cE v=false->o/\p/\j/\i/\a=d.id/\a=d.n/\q/\y/\g.r=[]/\1=g.e)/\(cE v=true->h.length*48<=140737488355328->I64 u->(u=a->(1:Int)=1/\(I64 (gG h v)->(¬gG h v=a->o/\p/\j/\i/\a=d.id/\a=d.n/\q/\y/\g.r=[]/\gG h v=g.e)/\(gG h v=a->z)))/\(¬u=a->(¬u=a->o/\p/\j/\i/\a=d.id/\a=d.n/\q/\y/\g.r=[]/\u=g.e)/\(u=a->z)))) ((1:Int)=1/\(I64 w->(d_ h w).length*48<=140737488355328->s.length*48<=140737488355328->(∀ (f:Field),List.Mem f (d_ h w)->f.b.length<=16384)/\bH t (s.length<=20000/\(I64 (fw t s v)->(¬fw t s v=a\/decide (gE t s v=b)=false->o/\p/\j/\i/\a=d.id/\a=d.n/\q/\y/\g.r=[]/\6=g.e)/\(fw t s v=a/\decide (gE t s v=b)=true->bt t d (s=g.r/\a=g.e))))))) (Str.mk []=d.text)) (d.chunks=[])) (a=d.client)) (a=d.kind)) (a=d.seq)) (a=d.set)) g.c) (0:Int)) (c_ (d_ h w))) (eG h w)) (bP b).fst) (cJ b v)) (db v)) (bP b).snd);(repeat' with_reducible first|apply bc|refine ba ?_|intro)
 all_goals (first | exact bm | (rw [tq1 ab] <;> rfl) | (rw [tq2 ab ab ab] <;> rfl) | (rw [tq3 ab ab] <;> rfl) | (rw [tq4 ab ab ab ap] <;> rfl) | (rw [tq5 ab ab ab ab ab] <;> rfl) | exact (aaF (tqe ab ab) _ ap) | (have A:=Ha (bP b).1 (db v); have B:=Ut b; omega))
def af9:bF:=(aP 275 Gb aeu)
def EF:aw Tryz.prog (aj tyT) af9:=(ah UY HC)
variable {n r:Nat}
def p1n {p:List UInt8} (h:p++bj r=bj n) (a:¬ r<128):(p++[UInt8.ofNat ((r % 128+128) % 18446744073709551616)])++bj (r / 128)=bj n:=by
 rw [Nat.mod_eq_of_lt (show r % 128+128<18446744073709551616 by omega)]; exact Jh h a
variable {x:UInt8}
def p1l {p:List UInt8} (h:p++bj r=bj n) (a:n<18446744073709551616):(p.length+[x].length)*1<=140737488355328:=by
 have:=LR h a; rw [aka]; omega
def aff (n:U64):List (Nat × LI):=[(2,{ σ:=List UInt8 × Nat,F:=fun s=>([(0,one (.u64 s.2)),(3,one (.own 0))],[.row 5 .u8 ((s.1))]),J:=fun s=>s.1++bj s.2=bj n.n/\s.2<18446744073709551616/\n.n<18446744073709551616,μ:=fun s=>s.2 })]
def Md:Kn:=aM (ae (kC cU) ak) av fun (n,_) _=>⟨[],[.c (.own 0)],some ([.row 5 .u8 ((bj n.n))]),true⟩
theorem Zl:CK 175 Md:=ag fun (n,_) _ _=>by
 refine dF EF (aff n) Tryz.func175 (?_:(fun (a:Nat)=>(fun (c:Nat)=>n.n<a->∃ (e:List UInt8 × Nat),(n.n=e.snd/\e.fst=[])/\(e.fst++bj e.snd=bj n.n/\e.snd<a/\n.n<a)/\∀ (s:List UInt8 × Nat),(fun (g:List (den Sh.u8))=>s.fst++bj s.snd=bj n.n/\s.snd<a/\n.n<a->((↑c:Int)<=(↑s.snd:Int)->0<c/\(s.fst.length+g.length)*1<=140737488355328/\0<c/\∃ (d:List UInt8 × Nat),(s.snd / c=d.snd/\s.fst++g=d.fst)/\(d.fst++bj d.snd=bj n.n/\d.snd<a/\n.n<a)/\d.snd<s.snd)/\((↑s.snd:Int)<(↑c:Int)->(s.fst.length+[UInt8.ofNat s.snd].length)*1<=140737488355328/\s.fst++[UInt8.ofNat s.snd]=bj n.n)) [UInt8.ofNat ((s.snd % c+c) % a)]) 128) 18446744073709551616);iterate 3 ((all_goals (repeat' with_reducible first|apply bc|refine ba ?_|intro)); (all_goals try (first | exact bm | exact (p1n ab aK) | exact (Ra ab aK) | exact rfl | exact (p1l ab ab))); all_goals try first | refine ⟨(‹List UInt8 × Nat›.1++[UInt8.ofNat ((‹List UInt8 × Nat›.2 % 128+128) % 18446744073709551616)],‹List UInt8 × Nat›.2 / 128),?_⟩ | refine ⟨([],n.n),?_⟩)
def adQ:bF:=(aP 175 Md af9)
def FH:aw Tryz.prog (aj tyT) adQ:=(ah Zl EF)
def pz (b:List UInt8):Nat->Nat
 | 0=>0
 | k+1=>(pz b k+(b.getD k 0).toNat % 128*2 ^ (7*k) % 18446744073709551616) % 18446744073709551616
def vN (b:List UInt8) (k:Nat) (x:UInt8):Nat:=(pz b k+(x % UInt8.ofNat 128).toNat*2 ^ (7*(k:Int)).toNat % 18446744073709551616) % 18446744073709551616
theorem canon:∀ {l:List UInt8} {k n v e:Nat},bK k n l=(v,e,0)->∃ u j,v=n+u*2 ^ (7*k)/\e=k+j/\bj u=l.take j/\(0<k->u≠0)
 | [],k,n,v,e,h=>by rw [bK] at h; split at h <;> cases h
 | x :: r,k,n,v,e,h=>by
  rw [bK] at h;split at h
  ·cases h
  split at h
  ·cases h
  rename_i p d;split at h
  ·rename_i a;cases h;refine ⟨x.toNat,1,by rw [wo a],rfl,?_,fun g e=>d (.inl ⟨g,e⟩)⟩;rw [mY a]; simp
  rename_i a;obtain ⟨u,j,rfl,rfl,i,c⟩:=canon h;refine ⟨x.toNat % 128+128*u,j+1,?_,aK,?_,fun _ e=>by have:=c aK; omega⟩
  ·rw [kL,show 7*(k+1)=7*k+7 by omega,Nat.pow_add,aik,Nat.add_assoc,show (2:Nat) ^ 7=128 from rfl,Nat.mul_comm (2 ^ (7*k)) 128,<- Nat.mul_assoc,Nat.mul_comm u 128]
  have o:=c aK;rw [ug aK,Hn,show (x.toNat % 128+128*u) / 128=u by omega,i,ag9];congr 1;apply UInt8.toNat_inj.1;have:=x.toNat_lt;rw [UInt8.toNat_ofNat'];omega
def Sj (b:List UInt8) (k:Nat):Prop:=(k<=9->takeF b=bK k (pz b k) (b.drop k)/\pz b k<2 ^ (7*k))/\(k=10->takeF b=(0,0,3))
def ah7 (b:List UInt8):Sj b 0:=⟨fun _=>⟨rfl,show (0:Nat)<2 ^ (7*0) by decide⟩,fun h=>by omega⟩
def aiL (h:Wq (Sj b k)) (a:(k:Int)<10) (c:(b.length:Int)<=(k:Int)):takeF b=(0,0,2):=(h.h.1 aK).1.trans (QQ aK aK)
def aiH (h:Wq (Sj b k)) (c:10<=(k:Int)) (a:k<=10):takeF b=(0,0,3):=h.h.2 aK
def XF (a:b[k]? = some x):vN b k x=pz b (k+1):=by
 unfold vN;rw [pz,List.getD_eq_getElem?_getD,a,show (7*(k:Int)).toNat=7*k by omega,UInt8.toNat_mod]; rfl
def KY (e:k<=9) (a:pz b k<2 ^ (7*k)) (g:k=9->x.toNat<=1):vN b k x=pz b k+(x &&& 127).toNat*2 ^ (7*k):=by
 have c:=Mg e g;have h:=OP (k:=k) (m:=(x &&& 127).toNat) a;have d:pz b k ||| (x &&& 127).toNat*2 ^ (7*k)<2 ^ 64:=aiF (acU a (Nat.pow_le_pow_right am aK)) c;rw [h] at d;unfold vN;rw [show (7*(k:Int)).toNat=7*k by omega,UInt8.toNat_mod,show (UInt8.ofNat 128).toNat=128 from rfl,<- kL,Nat.mod_eq_of_lt c,Nat.mod_eq_of_lt d]
def ajZ {y:UInt8} (h:Wq (Sj b k)) (o:(k:Int)<10) (a:b[k]? = some x) (c:b[k]? = some y) (i:((UInt8.ofNat 128).toNat:Int)<=(y.toNat:Int)):Wq (Sj b (k+1)):=by
 rw [a] at c; cases c;rw [show (UInt8.ofNat 128).toNat=128 from rfl] at i;obtain ⟨d,g⟩:=h.h.1 aK;refine ⟨fun j=>?_,fun j=>xj d aK a (.inr ⟨aK,aK⟩)⟩;have e:=KY (x:=x) aK g aK;rw [<- XF a,e];exact ⟨Fl d aK a aK aK aK,GK g⟩
def aaG (h:Str.mk (bj (vN b k x))=Str.mk (b.take ((k:Int)+1).toNat)) (a:b[k]? = some x):takeF b=(vN b k x,k+1,0):=by
 have c:bj (vN b k x)=b.take (k+1):=by have:=congrArg Str.b h; rw [show ((k:Int)+1).toNat=k+1 by omega] at this; exact this
 have d:vN b k x<18446744073709551616:=agR _ am;have e:=jh d (b.drop (k+1));rw [c,List.take_append_drop,List.length_take,agq (sM a)] at e;exact e
def ajG {y:UInt8} (p:¬ Str.mk (bj (vN b k x))=Str.mk (b.take ((k:Int)+1).toNat)) (h:Wq (Sj b k)) (z:(k:Int)<10) (a:b[k]? = some x) (d:b[k]? = some y) (q:(y.toNat:Int)<((UInt8.ofNat 128).toNat:Int)):takeF b=(0,0,3):=by
 rw [a] at d; cases d;rw [show (UInt8.ofNat 128).toNat=128 from rfl] at q;obtain ⟨g,s⟩:=h.h.1 aK;by_cases c:(0<k/\x.toNat=0)\/(k=9/\1<x.toNat)
 ·exact xj g aK a c
 exfalso;have i:=HW g aK a (fun h=>c (.inl h)) (fun h=>c (.inr h)) aK;have e:=KY (b:=b) (x:=x) (show k<=9 by omega) s aK;rw [<- e] at i;obtain ⟨u,j,t,A,o,_⟩:=canon (k:=0) (n:=0) i;have v:u=vN b k x:=by simpa using t.symm
 have w:j=k+1:=by omega
 rw [v,w] at o;exact p (by rw [show ((k:Int)+1).toNat=k+1 by omega,o])
def Vn (b:List UInt8):List (Nat × LI):=[(3,{ σ:=Nat,F:=fun k=>([(0,one (.fz .u8 (b))),(5,one (.u64 (pz b k))),(6,one (.int k))],[]),J:=fun k=>k<=10/\k<=b.length/\Wq (Sj b k),μ:=fun k=>10 - k })]
def A_:Kn:=aM (ae (kC (cL .u8)) ak) av fun (b,_) _=>⟨[],[.c (.u64 ((U64.mk (takeF b).1)).n),.c (.int ((((takeF b).2.1:Nat)))),.c (.int (((takeF b).2.2)))],none,false⟩
theorem Rx:CK 110 A_:=ag fun (b,_) _ _=>by
 refine aq FH (Vn b) Tryz.func110 (?_:(fun q=>(fun o=>(fun h=>(fun u=>(fun c=>(fun w=>(fun p=>(fun v=>b.length*1<=140737488355328->∃ i,(b=b/\0=pz b i/\c=(↑i:Int))/\(i<=10/\i<=b.length/\Wq (Sj b i))/\∀ (s:Nat),(fun a=>(fun y=>(fun d=>s<=10/\s<=b.length/\Wq (Sj b s)->(a<10->(h<=a->0=(takeF b).fst/\c=q/\2=(takeF b).snd.snd)/\(a<h->c<=a/\a<h/\∀ (x:UInt8),(fun e=>(fun j=>b[s]? = some x->0<p.toNat/\I64 (o*a)/\c<=o*a/\o*a<64/\c<=a/\a<h/\∀ (x:UInt8),b[s]? = some x->((↑x.toNat:Int)<(↑p.toNat:Int)->I64 d/\(c<=d/\d<=h)/\(¬j->v)/\(j->I64 d/\e=(takeF b).fst/\d=q/\c=(takeF b).snd.snd))/\((↑p.toNat:Int)<=(↑x.toNat:Int)->I64 d/\∃ g,(b=b/\e=pz b g /\ d=(↑g:Int))/\(g <= 10/\g <= b.length/\Wq (Sj b g))/\10 - g < 10 - s)) (Str.mk (bj e)=Str.mk (List.take d.toNat b))) ((pz b s+(x % p).toNat*y % u) % u)))/\(10<=a->v)) (a+w)) ((2:Nat) ^ (o*a).toNat)) (↑s:Int)) (0=(takeF b).fst/\c=q/\3=(takeF b).snd.snd)) (UInt8.ofNat 128)) (1:Int)) (0:Int)) (18446744073709551616:Nat)) (↑b.length:Int)) (7:Int)) (↑(takeF b).snd.fst:Int));iterate 3 ((all_goals (repeat' with_reducible first|apply bc|refine ba ?_|intro)); (all_goals try (first | exact bm | exact rfl | exact ⟨ah7 b⟩ | (rw [aiL ab ab ab] <;> rfl) | (rw [aiH ab ab ab] <;> rfl) | (rw [ajG ap ab ab ab ab ab] <;> rfl) | exact (congrArg Prod.fst (aaG ap ab)).symm | exact (congrArg (fun t=>((t.2.1:Nat):Int)) (aaG ap ab)).symm | exact (congrArg (fun t=>t.2.2) (aaG ap ab)).symm | exact (ajZ ab ab ab ab ab) | exact (XF ab) | decide)); all_goals try first | refine ⟨‹Nat› + 1,?_⟩ | refine ⟨0,?_⟩)
def afo:bF:=(aP 110 A_ adQ)
def Tn:aw Tryz.prog (aj tyT) afo:=(ah Rx FH)
attribute [local irreducible] d_ eG
def af_:bF:=afo
def UW:aw Tryz.prog (aj tyT) af_:=Tn
def adG:bF:=af_
def UF:aw Tryz.prog (aj tyT) adG:=UW
def aeM:bF:=adG
def UO:aw Tryz.prog (aj tyT) aeM:=UF
def ad0:bF:=aeM
def S_:aw Tryz.prog (aj tyT) ad0:=UO
def akE {v:Int} (h:cq v 1 3=false):cJ b v=⟨cT,[],1⟩:=tq1 h
def aef:bF:=ad0
def yc:aw Tryz.prog (aj tyT) aef:=S_
def ez (c:Command) (term v:Int):Entry × Int:=if bL c v=0 then (if fw c [] v=0 then (⟨term,gE c [] v⟩,0) else (⟨0,[]⟩,fw c [] v)) else (⟨0,[]⟩,bL c v)
structure RdM where
 c:Command
 some:Bool
 e:Int
def bf (x:Entry) (v:Int):RdM:=
 if x.b.length=0 then (if v<1\/3<v then ⟨cT,false,1⟩ else ⟨cT,false,0⟩)
 else if ¬ (cJ x.b v).e=0 then ⟨cT,false,(cJ x.b v).e⟩
 else if cD (cJ x.b v).c.kind=0\/v<cD (cJ x.b v).c.kind then ⟨cT,false,10⟩
 else ⟨(cJ x.b v).c,true,0⟩
variable {term:Int}
def en1 {c:Command} {v:Int} (h:¬ bL c v=0):ez c term v=(⟨0,[]⟩,bL c v):=by unfold ez; rw [if_neg h]
def en2 {c:Command} {v:Int} (h:bL c v=0) (a:¬ fw c [] v=0):ez c term v=(⟨0,[]⟩,fw c [] v):=by unfold ez; rw [if_pos h,if_neg a]
def en3 {c:Command} {v:Int} (h:bL c v=0) (a:fw c [] v=0):ez c term v=(⟨term,gE c [] v⟩,0):=by unfold ez; rw [if_pos h,if_pos a]
section
variable {x:Entry} {v:Int}
def rdA (h:((x.b.length:Nat):Int)=0) (a:v<1\/3<v):bf x v=⟨cT,false,1⟩:=by unfold bf; rw [if_pos aK,if_pos a]
def rdB (h:((x.b.length:Nat):Int)=0) (a:1<=v) (c:v<=3):bf x v=⟨cT,false,0⟩:=by unfold bf; rw [if_pos aK,if_neg aK]
def rdC (h:¬ ((x.b.length:Nat):Int)=0) (a:¬ (cJ x.b v).e=0):bf x v=⟨cT,false,(cJ x.b v).e⟩:=by unfold bf; rw [if_neg aK,if_pos a]
def rdD (h:¬ ((x.b.length:Nat):Int)=0) (a:(cJ x.b v).e=0) (d:cD (cJ x.b v).c.kind=0\/v<cD (cJ x.b v).c.kind):bf x v=⟨cT,false,10⟩:=by unfold bf; rw [if_neg aK,if_neg (by rw [a]; simp),if_pos d]
def rdE (h:¬ ((x.b.length:Nat):Int)=0) (a:(cJ x.b v).e=0) (d:¬ cD (cJ x.b v).c.kind=0) (g:cD (cJ x.b v).c.kind<=v):bf x v=⟨(cJ x.b v).c,true,0⟩:=by unfold bf; rw [if_neg aK,if_neg (by rw [a]; simp),if_neg aK]
def rdF (h2:v<1\/3<v):bf x v=⟨cT,false,1⟩:=by
 by_cases h:((x.b.length:Nat):Int)=0
 ·exact rdA h h2
 have e:cJ x.b v=⟨cT,[],1⟩:=akE (by unfold cq; rcases h2 with h2 | h2 <;> simp <;> omega);rw [rdC h (by rw [e]; decide),e]
end
def Rr:Kn:=aM (ae (kT (.nm .command)) (ae (kC cI) (ae (kC cI) ak))) av fun (c,term,v,_) _=>⟨[],[.agg (cellsOf (.nm .entry) ((ez c term v).1)),.c (.int (((ez c term v).2)))],none,false⟩
def abU:CK 54 Rr:=ag fun (c,term,v,_) _ _=>by
 refine aq yc [] Tryz.func54 (?_:(fun (e:Int)=>(fun (d:Int)=>(fun (a:Entry × Int)=>bH c (I64 term->I64 v->I64 (bL c v)->(¬bL c v=d->d=a.fst.term/\a.fst.b=[]/\bL c v=a.snd)/\(bL c v=d->(0:Nat)<=(20000:Nat)/\(I64 e->(¬e=d->d=a.fst.term/\a.fst.b=[]/\e=a.snd)/\(e=d->term=a.fst.term/\gE c [] v=a.fst.b/\d=a.snd))))) (ez c term v)) (0:Int)) (fw c [] v));(repeat' with_reducible first|apply bc|refine ba ?_|intro)
 all_goals (first | exact bm | (rw [en1 ab] <;> rfl) | (rw [en2 ab ab] <;> rfl) | (rw [en3 ab ab] <;> rfl))
def Bi:Kn:=aM (ae (kT (.nm .entry)) (ae (kC cI) ak)) av fun (x,v,_) _=>⟨[],[.agg (cellsOf (.nm .command) ((bf x v).c)),.c (.bool (.atom (((bf x v).some)))),.c (.int (((bf x v).e)))],none,false⟩
def QX:CK 259 Bi:=ag fun (x,v,_) _ _=>by
 refine aq yc [] Tryz.func259 (?_:(fun i=>(fun p=>(fun j=>(fun o=>(fun a=>(fun d=>(fun g=>(fun h=>(fun q=>(fun s=>(fun t=>(fun u=>I64 x.term->x.b.length*1<=140737488355328->I64 v->((↑x.b.length:Int)=a->(v<1\/3<v->q/\s/\h/\g/\a=d.id/\a=d.n/\t/\u/\p/\1=i.e)/\(1<=v/\v<=3->q/\s/\h/\g/\a=d.id/\a=d.n/\t/\u/\p/\a=i.e))/\(¬(↑x.b.length:Int)=a->bH j.c (j.r.length*48<=140737488355328->I64 j.e->(¬j.e=a->q/\s/\h/\g/\a=d.id/\a=d.n/\t/\u/\p/\j.e=i.e)/\(j.e=a->I64 o->(o=a\/v<o->q/\s/\h/\g/\a=d.id/\a=d.n/\t/\u/\p/\10=i.e)/\(¬o=a/\o<=v->bt j.c d (true=i.some/\a=i.e)))))) (Str.mk []=d.text)) (d.chunks=[])) (a=d.client)) (a=d.kind)) (a=d.seq)) (a=d.set)) i.c) (0:Int)) (cD j.c.kind)) (cJ x.b v)) (false=i.some)) (bf x v));(repeat' with_reducible first|apply bc|refine ba ?_|intro)
 all_goals (first | exact bm | (rw [rdF ap] <;> rfl) | (rw [rdB ab ab ab] <;> rfl) | (rw [rdC ab ab] <;> rfl) | (rw [rdD ab ab ap] <;> rfl) | (rw [rdE ab ab ab ab] <;> rfl))
def aeK:bF:=(aP 259 Bi (aP 54 Rr aef))
def HO:aw Tryz.prog (aj tyT) aeK:=(ah QX (ah abU yc))
def h_ (v:Int) (s:State) (x:Entry):State:=if (bf x v).some=true then (rC s (bf x v).c).1 else s
def nu (v:Int) (s:State) (x:Entry):Reply:=if (bf x v).some=true then (rC s (bf x v).c).2 else ⟨0,0⟩
def pS (v:Int) (s:State) (l:List Entry):State:=l.foldl (h_ v) s
def pR (v:Int):State->List Entry->List Reply
 | _,[]=>[]
 | s,x :: l=>nu v s x :: pR v (h_ v s x) l
def pN (v:Int):List Entry->Nat
 | []=>0
 | x :: l=>if (bf x v).e=0 then pN v l+1 else 0
def pE (v:Int):List Entry->Int
 | []=>0
 | x :: l=>if (bf x v).e=0 then pE v l else (bf x v).e
def plS (v:Int) (s:State) (l:List Entry):State:=pS v s (l.take (pN v l))
def plR (v:Int) (s:State) (l:List Entry):List Reply:=pR v s (l.take (pN v l))
section
variable {v:Int} {s:State} {l:List Entry} {x:Entry} {k:Nat}
def YB (a:l[k]? = some x):h_ v (pS v s (l.take k)) x=pS v s (l.take (k+1)):=by
 rw [ai a]; unfold pS; rw [List.foldl_append]; rfl
theorem Hj:∀ {l:List Entry} {s:State},pR v s (l++[x])=pR v s l++[nu v (pS v s l) x]
 | [],_=>rfl
 | y :: l,s=>by
  show nu v s y :: pR v (h_ v s y) (l++[x])=nu v s y :: (pR v (h_ v s y) l++[nu v (pS v (h_ v s y) l) x]);rw [Hj]
def Xo (a:l[k]? = some x):pR v s (l.take k)++[nu v (pS v s (l.take k)) x]=pR v s (l.take (k+1)):=by
 rw [ai a,Hj]
theorem Er:∀ {l:List Entry} {s:State},(pR v s l).length=l.length
 | [],_=>rfl
 | y :: l,s=>by
  show (pR v (h_ v s y) l).length+1=l.length+1;rw [Er]
def okPl (v:Int) (l:List Entry):Prop:=∀ x ∈ l,(bf x v).e=0
theorem HA (h:okPl v (l.take k)) (a:l[k]? = some x) (c:(bf x v).e=0):okPl v (l.take (k+1)):=by
 rw [ai a];intro y hy;rcases acf.1 hy with hy | hy
 ·exact h y hy
 grind
theorem Od:∀ {l:List Entry},okPl v l->pN v l=l.length/\pE v l=0
 | [],_=>⟨rfl,rfl⟩
 | y :: l,h=>by
  obtain ⟨c,d⟩:=Od (l:=l) fun z a=>h z (acT _ a);have e:=h y acX;unfold pN pE;grind
theorem FK:∀ {l:List Entry} {k:Nat},okPl v (l.take k)->l[k]? = some x->¬ (bf x v).e=0->pN v l=k/\pE v l=(bf x v).e
 | [],k,_,a,_=>by simp at a
 | y :: l,0,_,a,c=>by
  simp at a; subst a;unfold pN pE;grind
 | y :: l,k+1,h,a,c=>by
  have d:=h y aa;obtain ⟨g,i⟩:=FK (l:=l) (k:=k) (fun z j=>h z (by rw [ag9]; exact acT _ j)) (by simpa using a) c;unfold pN pE;rw [if_pos d,if_pos d,g,i]; exact ⟨rfl,rfl⟩
def SI (h:okPl v (l.take k)) (a:l[k]? = some x) (c:¬ (bf x v).e=0):pS v s (l.take k)=plS v s l/\pR v s (l.take k)=plR v s l/\(bf x v).e=pE v l:=by
 obtain ⟨d,g⟩:=FK h a c;unfold plS plR; rw [d,g]; exact ⟨rfl,rfl,rfl⟩
def Zu (h:okPl v (l.take k)) (a:l.length<=k):pS v s (l.take k)=plS v s l/\pR v s (l.take k)=plR v s l/\0=pE v l:=by
 rw [List.take_of_length_le a] at h ⊢;obtain ⟨c,d⟩:=Od h;unfold plS plR; rw [c,d,List.take_length]; exact ⟨rfl,rfl,rfl⟩
end
def pL:Code->Code
 | .seq x _=>x
 | c=>c
def gi:Code->Code
 | .seq _ y=>y
 | c=>c
def cdB:Code->Code
 | .block _ c=>c
 | .loop c=>c
 | c=>c
def ah9:Code->Code
 | .rangeFunc _ _ a _=>a
 | c=>c
def ahH:Code->Code
 | .rangeFunc _ _ _ b=>b
 | c=>c
def ko:Code->List Oper
 | .region _ a _=>a.toList
 | _=>[]
def WN (f:Func):Code:=f.body.getD .skip
def Ns:Kn:=aM (ae (kC (cL (.nm .entry))) (ae (kC cI) ak)) av fun (l,v,_) _=>⟨[],[.c (.fn 258 [] [(0,0),(1,0)])],some ([.box 38 ([.fz (.nm .entry) ((l))]),.box 3 ([.int ((v))])]),true⟩
theorem ZK:CK 226 Ns:=ag fun (l,v,_) _ _=>by
 refine dF HO [] Tryz.func226 (?_:l.length*32<=140737488355328->I64 v->l=l/\v=v);grind
def fG:bF:=(aP 226 Ns aeK)
def rb:aw Tryz.prog (aj tyT) fG:=(ah ZK HO)
end Go.Proofs.YticbaadnibdbkaaGreat
namespace Go.Proofs.YticbaadnibdbkaaGreat
open Go.RowKit
open Go.MapKept (IsKey run_checkKey run_findKey run_setObj_map heap_set heap_alloc)
def Vx (k:Int):List (Int × Value)->Bool
 | []=>false
 | p :: r=>decide (k=p.1) || Vx k r
def acE (w:World) (g:Nat) (L:List (Int × Value)):Prop:=
 ∃ a,w.heap[g]? = some (.map a L.length)/\a.toList.map (fun e=>(e.key,e.val))=L.map (fun p=>(Value.int .i64 p.1,p.2))
theorem wv {k:Int}:∀ {l:List MapEntry} {L:List (Int × Value)} {i:Nat},l.map (fun e=>(e.key,e.val))=L.map (fun p=>(Value.int .i64 p.1,p.2))->Vx k L=false->Instr.findNow (.int .i64) (.int .i64 k) l i=some none
 | [],[],i,_,_=>rfl
 | e :: l,p :: L,i,h,a=>by
  simp only [agB,List.cons.injEq,akX] at h;obtain ⟨⟨b,f⟩,c⟩:=h;simp only [Vx,Bool.or_eq_false_iff] at a;have d:(k == p.1)=false:=by simpa using a.1
  simp [Instr.findNow,b,Instr.sameNow,d,wv (i:=i+1) c a.2]
section
variable {P:Program} {Q:Exit->Act->World->Prop} {n:Nat} {l rest:List Oper} {fr:Fr} {w:World} {x y z':Operand} {t ty kt et:TypeId} {pos:String} {af:Array Edge} {g:Nat} {L:List (Int × Value)} {k:Int}
def WO.insert {v:Value} (p:ev fr x=some (.map (some g))) (q:ev fr y=some (.int .i64 k)) (r:ev fr z' = some v) (h:acE w g L) (b:Vx k L=false) (u:P.underlying t=some (.map kt et)) (j:P.underlying kt=some (.int .i64))
  (z:∀ w',acE w' g (L++[(k,v)])->Kp [g] w w' -> WO P Q n l rest fr w') :
  WO P Q n l (⟨none,.insert t x y z',ty,pos,af,none⟩ :: rest) fr w:=by
 obtain ⟨a,c,m⟩:=h;have A:=wv (k:=k) (i:=0) m b;have d:IsKey (.int .i64) (.int .i64 k):=rfl;have o:=heap_set (o':=.map (a.push { key:=.int .i64 k,val:=v,born:=L.length }) (L.length+1)) c;refine WO.s (w':={ w with heap:=w.heap.setIfInBounds g (.map (a.push { key:=.int .i64 k,val:=v,born:=L.length }) (L.length+1)) }) (fun B _ _ _ _ f=>?_) (z _ ⟨_,by simpa using o.1,by simp [m]⟩ ⟨rfl,rfl,rfl,aa,fun i C b=>o.2 i (by simpa using b)⟩);have e:(Instr.mapUpdate t (.map (some g)) (.int .i64 k) v).run P w = .ok () { w with heap:=w.heap.setIfInBounds g (.map (a.push { key:=.int .i64 k,val:=v,born:=L.length }) (L.length+1)) }:=by
  unfold Instr.mapUpdate;simp only [Sem.run_bind,run_underlying u];simp only [Sem.run_bind,MapKept.run_getObj_map c,Result.andThen,run_checkKey j d,run_findKey j A,run_setObj_map _ c]
 simp [execOp,f.ev p,f.ev q,f.ev r,e]
end
def bU:List (Int × List KC):=[(1,[.i 1,.i 3,.b false,.i 0,.i 0,.f 214]),(2,[.i 0,.i 1048576,.b true,.i 5,.i 0,.f 215]),(3,[.i 1,.i 64,.b true,.i 1048576,.i 200,.f 216]),(4,[.i 1,.i 64,.b false,.i 0,.i 0,.f 217])]
def abf:List (Int × Value):=bU.map fun p=>(p.1,.agg (p.2.map KC.val).toArray)
theorem sJ {k:Int}:∀ {a:List MapEntry} {l:List (Int × List KC)},a.map (fun e=>(e.key,e.val))=(l.map fun p=>(p.1,Value.agg (p.2.map KC.val).toArray)).map (fun p=>(Value.int .i64 p.1,p.2))->getM k a=(dX l k).map fun b=>.agg (b.map KC.val).toArray
 | [],[],_=>rfl
 | e :: l,p :: L,h=>by
  simp only [agB,List.cons.injEq,akX] at h;obtain ⟨⟨c,f⟩,d⟩:=h;simp only [getM,dX,c,pc];by_cases h:k=p.1
  ·grind
  rw [if_neg (by simpa using fun e=>h e.symm),if_neg h]; exact sJ d
set_option maxRecDepth 100000 in
def IM {w:World}:jI Tryz.prog 148 #[] w fun r e=>r = .map (some w.heap.size)/\Kp [] w e /\ acE e w.heap.size abf:=by
 refine jI.enter (args:=[]) Tryz.func148 rfl Tryz.ntmps148 rfl rfl ?_;refine WC.seq (WC.region (WO.v (R.assign rfl) rfl (WO.nil (WX.next ?_))));have c:=Tryz.underlying202;have d:=Tryz.underlying3;refine WC.seq (WC.region (WO.v R.uu rfl ?_));refine WO.v (R.pH (cells:=(((bU.getD 0 (0,[])).2).map KC.val).toArray) rfl bN) rfl (WO.insert (L:=[]) rfl rfl rfl ⟨#[],ahz w _,rfl⟩ rfl c d fun t j l=>?_);refine WO.v (R.pH (cells:=(((bU.getD 1 (0,[])).2).map KC.val).toArray) rfl bN) rfl (WO.insert rfl rfl rfl j rfl c d fun u m n=>?_);refine WO.v (R.pH (cells:=(((bU.getD 2 (0,[])).2).map KC.val).toArray) rfl bN) rfl (WO.insert rfl rfl rfl m rfl c d fun x o p=>?_);refine WO.v (R.pH (cells:=(((bU.getD 3 (0,[])).2).map KC.val).toArray) rfl bN) rfl (WO.insert rfl rfl rfl o rfl c d fun y q s=>?_);refine WO.v (R.move rfl) rfl (WO.v (R.assign rfl) rfl (WO.nil (WX.next ?_)));have a:∀ {f g:World},Kp [] w f->Kp [w.heap.size] f g->Kp [] w g:=fun h k=>⟨k.os.trans h.os,k.tape.trans h.tape,k.output.trans h.output,Nat.le_trans h.size k.size,fun b i _=>(k.block b (acU i h.size) (by simp; omega)).trans (h.block b i aa)⟩;exact WC.ret (WX.AI Tryz.results148 rfl ⟨rfl,a (a (a (a (Kp.alloc w _) l) n) p) s,q⟩)
theorem JN:Sat Tryz.prog (aj tyT) 148 [] [] ⟨[],[.c (.xx (.km bU) [])],none,false⟩:=by
 refine ⟨⟨_,Tryz.func148,am,by kernel_rfl⟩,fun G q w s t f b=>?_⟩;cases b;refine IM.mono fun r u ⟨h,j,a,g,l⟩=>⟨[r],rfl,j,.cons ?_ .nil⟩;subst h;have d:=(agF.1 g).1;refine ⟨[],.nil,rfl,w.heap.size,a,_,rfl,⟨d,fun ⟨i,r,m,n⟩=>by have:=(f.bnd i r _ m n).2.1; omega,fun o=>by have:=f.z _ o; omega⟩,g,fun e p=>?_,fun k=>sJ l⟩;have:(e.key,e.val) ∈ a.toList.map (fun e=>(e.key,e.val)):=akF.2 ⟨e,p,rfl⟩;grind
end Go.Proofs.YticbaadnibdbkaaGreat
namespace Go.Proofs.YticbaadnibdbkaaGreat
open Go.RowKit
def Pv (q:Nat × Nat) (x:UInt8):Nat × Nat:=((q.1+x.toNat) % 65521,(q.2+(q.1+x.toNat) % 65521) % 65521)
def fH (q:Nat × Nat) (l:List UInt8):Nat × Nat:=l.foldl Pv q
def cz (s:Nat) (l:List UInt8):Nat:=65536*(fH (s % 65536 % 65521,s / 65536 % 65521) l).2+(fH (s % 65536 % 65521,s / 65536 % 65521) l).1
def Tf {q:Nat × Nat} (a:q.1<65521) (b:q.2<65521):∀ l:List UInt8,(fH q l).1<65521/\(fH q l).2<65521:=fun l=>by
 induction l generalizing q with
 | nil=>exact ⟨a,b⟩
 | cons x l c=>exact c (q:=Pv q x) (agR _ am) (agR _ am)
def qZ {s:Nat} (l:List UInt8):(fH (s % 65536 % 65521,s / 65536 % 65521) l).1<65521/\(fH (s % 65536 % 65521,s / 65536 % 65521) l).2<65521:=Tf (agR _ am) (agR _ am) l
def CR {s:Nat} (l:List UInt8):cz s l<4294967296:=by
 have:=qZ (s:=s) l;unfold cz; omega
def yQ (l:List UInt8):Nat:=l.foldl (fun w x=>(w*256) % 4294967296 ||| x.toNat) 0
abbrev bD (b:List UInt8):Int:=TA (((b.getD 0 (ao .u8):UInt8).toNat:Int)*2 ^ 8) ((b.getD 1 (ao .u8):UInt8).toNat:Int)
def az (b:List UInt8):List UInt8 × Int × Int:=
 if b.length<2 then ([],0,2) else if bD b=0\/4096<bD b then ([],0,3) else if (b.length:Int)<2+bD b+4 then ([],0,2)
 else if cz 1 (b.take (2+bD b).toNat)=yQ ((b.drop (2+bD b).toNat).take 4) then ((b.drop 2).take ((2+bD b).toNat - 2),2+bD b+4,0) else ([],0,3)
def fJ (x:List UInt8):List UInt8:=[UInt8.ofNat (x.length / 256),UInt8.ofNat x.length]++x
def py (s:Nat):List UInt8:=[UInt8.ofNat (s / 2 ^ 24),UInt8.ofNat (s / 2 ^ 16),UInt8.ofNat (s / 2 ^ 8),UInt8.ofNat s]
def ek (x:List UInt8):List UInt8:=fJ x++py (cz 1 (fJ x))
def fS (x:List UInt8):List UInt8 × Int:=if x.length=0\/4096<x.length then ([],4) else (ek x,0)
theorem mz {a b:Nat} (c:b<256):a*256 ||| b=a*256+b:=by
 have:=Nat.two_pow_add_eq_or_of_lt (i:=8) (b:=b) c a;grind
theorem ofNat_toNat (n:Nat):(UInt8.ofNat n).toNat=n % 256:=UInt8.toNat_ofNat'
def FX {s:Nat} (h:s<4294967296):yQ (py s)=s:=by
 simp only [yQ,py,List.foldl_cons,List.foldl_nil,ofNat_toNat];rw [show (0*256) % 4294967296=0*256 from rfl,mz (a:=0) (agR _ am),akM,ac0];have b:s / 2 ^ 24 % 256=s / 16777216:=by omega
 rw [b,Nat.mod_eq_of_lt (a:=s / 16777216*256) aK,mz (agR _ am),Nat.mod_eq_of_lt (a:=(s / 16777216*256+s / 2 ^ 16 % 256)*256) aK,mz (agR _ am),Nat.mod_eq_of_lt (a:=((s / 16777216*256+s / 2 ^ 16 % 256)*256+s / 2 ^ 8 % 256)*256) aK,mz (agR _ am)];omega
variable {x r:List UInt8}
def Ba (h:x.length<=4096):bD (ek x++r)=x.length:=by
 have e:ek x++r=UInt8.ofNat (x.length / 256) :: UInt8.ofNat x.length :: (x++(py (cz 1 (fJ x))++r)):=by simp [ek,fJ]
 have a:((UInt8.ofNat (x.length / 256)).toNat:Int)*2 ^ 8=((x.length / 256*256:Nat):Int):=by rw [ofNat_toNat]; omega
 rw [e,bD,List.getD_cons_zero,List.getD_cons_succ,List.getD_cons_zero,a,TA,agl,agl,ofNat_toNat,mz (agR _ am)];omega
def nq:(ek x).length=x.length+6:=by simp [ek,fJ,py]
def Ki (a:x≠[]) (h:x.length<=4096):az (ek x++r)=(x,(x.length:Int)+6,0):=by
 have d:0<x.length:=List.length_pos_iff.2 a;have e:(ek x++r).length=x.length+6+r.length:=by rw [List.length_append,nq]
 have b:(2+(x.length:Int)).toNat=(fJ x).length:=by simp [fJ]; omega
 have c:ek x++r=fJ x++(py (cz 1 (fJ x))++r):=by simp [ek]
 unfold az;rw [Ba h,if_neg aK,if_neg aK,if_neg aK,b,c,List.take_left,List.drop_left,show List.take 4 (py (cz 1 (fJ x))++r)=py (cz 1 (fJ x)) from List.take_left' rfl,FX (CR _),if_pos rfl];refine Prod.ext ?_ (Prod.ext (by dsimp only; omega) rfl);simp [fJ]
variable {k:Nat}
theorem zn (h:x.length<=4096) (a:k<x.length+6):(az ((ek x).take k)).2.2≠0:=by
 by_cases b:k<2
 ·unfold az; rw [if_pos (by rw [List.length_take]; omega)]; decide
 have e:bD ((ek x).take k)=x.length:=by
  have:=Ba (r:=[]) h;grind
 unfold az;grind
def oy (b:List UInt8):0<=bD b:=Int.natCast_nonneg _
abbrev kz:List KC:=[.i 0,.i 0,.b false,.i 0,.i 0,.nf]
def XP (k:Int):List KC:=(dX bU k).getD kz
def recOk (r:Record):Bool:=(dX bU r.kind).isSome && decide (((XP r.kind).getD 0 .nf).int<=r.a) && decide (r.a<=((XP r.kind).getD 1 .nf).int) && decide (0<=r.b) && decide (r.b<=((XP r.kind).getD 3 .nf).int) && decide ((r.x.length:Int)<=((XP r.kind).getD 4 .nf).int)
def qU (k:Int):Bool:=((XP k).getD 2 .nf).bool
def recPut (r:Record):List UInt8:=([UInt8.ofNat r.kind.toNat]++bj r.a.toNat)++(if qU r.kind=true then bj r.b.toNat else [])++r.x
def ay (r:Record):List UInt8 × Int:=if recOk r=true then (recPut r,0) else ([],1)
abbrev kv:Record:=⟨0,0,0,[]⟩
def bG (b:List UInt8):Record × Bool:=
 if b.length=0 then (kv,false) else if (takeF (b.drop 1)).2.2≠0 then (kv,false)
 else if qU ((b.getD 0 (ao .u8):UInt8).toNat:Int)=true then
  if (takeF ((b.drop 1).drop (takeF (b.drop 1)).2.1)).2.2≠0 then (kv,false)
  else (⟨((b.getD 0 (ao .u8):UInt8).toNat:Int),dq (takeF (b.drop 1)).1,dq (takeF ((b.drop 1).drop (takeF (b.drop 1)).2.1)).1,((b.drop 1).drop (takeF (b.drop 1)).2.1).drop (takeF ((b.drop 1).drop (takeF (b.drop 1)).2.1)).2.1⟩,true)
 else (⟨((b.getD 0 (ao .u8):UInt8).toNat:Int),dq (takeF (b.drop 1)).1,0,(b.drop 1).drop (takeF (b.drop 1)).2.1⟩,true)
def aC (b:List UInt8):Record × Int:=if (bG b).2=false then (kv,3) else if (ay (bG b).1).2≠0\/(ay (bG b).1).1≠b then (kv,3) else ((bG b).1,0)
def dD (s:Stable) (r:Record):Option Stable:=if r.a<s.floor then none else some { s with floor:=r.a }
def eT (s:Stable) (r:Record):Option Stable:=if r.a<s.term\/(r.a=s.term/\¬ s.vote=0)/\¬ s.vote=r.b then none else some { s with term:=r.a,vote:=r.b }
def du (s:Stable) (r:Record):Option Stable:=if ¬ r.a=(s.log.length:Int)+1 then none else some { s with log:=s.log++[⟨r.b,r.x⟩] }
def fi (s:Stable) (r:Record):Option Stable:=if (s.log.length:Int)<r.a then none else some { s with log:=s.log.take (r.a - 1).toNat }
def di (s:Stable) (r:Record):Option Stable:=if r.kind=1 then dD s r else if r.kind=2 then eT s r else if r.kind=3 then du s r else fi s r
def aG (s:Stable) (r:Record):Stable × Int:=if recOk r=false then (s,1) else match di s r with
 | some t=>(t,0)
 | none=>(s,5)
def playB:Nat->Stable->List UInt8->Stable × Int
 | 0,s,_=>(s,0)
 | n+1,s,b=>if (az b).2.2≠0 then (s,0) else if (aC (az b).1).2≠0 then (s,0) else if (aG s (aC (az b).1).1).2≠0 then (s,0)
  else ((playB n (aG s (aC (az b).1).1).1 (b.drop (az b).2.1.toNat)).1,(az b).2.1+(playB n (aG s (aC (az b).1).1).1 (b.drop (az b).2.1.toNat)).2)
abbrev sta0:Stable:=⟨0,0,0,[]⟩
def replayF (b:List UInt8):Stable × Int:=playB (b.length+1) sta0 b
theorem abk {k:Int} (h:(dX bU k).isSome=true):k=1\/k=2\/k=3\/k=4:=by
 simp only [bU,dX] at h;grind
variable {r:Record}
theorem bM:recOk r=true↔(r.kind=1/\1<=r.a/\r.a<=3/\r.b=0/\r.x=[])\/(r.kind=2/\0<=r.a/\r.a<=1048576/\0<=r.b/\r.b<=5/\r.x=[])\/(r.kind=3/\1<=r.a/\r.a<=64/\0<=r.b/\r.b<=1048576/\r.x.length<=200)\/(r.kind=4/\1<=r.a/\r.a<=64/\r.b=0/\r.x=[]):=by
 have e:∀ l:List UInt8,((l.length:Int)<=0)↔l=[]:=fun l=>by
  simp_all
 constructor
 ·intro h;simp only [recOk,Bool.and_eq_true] at h;obtain ⟨⟨⟨⟨⟨i,c⟩,d⟩,j⟩,f⟩,g⟩:=h;rcases abk i with hk | hk | hk | hk <;> rw [hk] at c d f g <;> simp [XP,bU,dX,KC.int] at c d f g
  ·grind
  ·grind
  ·grind
  grind
 rintro (⟨hk,h⟩ | ⟨hk,h⟩ | ⟨hk,h⟩ | ⟨hk,h⟩) <;> simp only [recOk,XP,bU,dX,hk] <;> simp [KC.int] <;> simp_all <;> omega
theorem jw (h:recOk r=true):1<=(recPut r).length/\(recPut r).length<=221:=by
 have c:=cO (n:=r.a.toNat) (by rcases bM.1 h with h | h | h | h <;> omega);have d:=cO (n:=r.b.toNat) (by rcases bM.1 h with h | h | h | h <;> omega);have e:r.x.length<=200:=by rcases bM.1 h with h | h | h | h <;> first | omega | simp [h]
 simp only [recPut];grind
variable {n:Nat}
def ng (h:n<9223372036854775808):dq n=n:=by
 rw [dq,if_pos h]
theorem Ie (h:recOk r=true):bG (recPut r)=(r,true):=by
 have d:=bM.1 h;have m:0<=r.a/\r.a<=1048576:=by rcases d with h | h | h | h <;> omega
 have o:0<=r.b/\r.b<=1048576:=by rcases d with h | h | h | h <;> omega
 have e:1<=r.kind/\r.kind<=4:=by rcases d with h | h | h | h <;> omega
 have f:recPut r=UInt8.ofNat r.kind.toNat :: (bj r.a.toNat++((if qU r.kind=true then bj r.b.toNat else [])++r.x)):=by simp [recPut]
 have g:((UInt8.ofNat r.kind.toNat).toNat:Int)=r.kind:=by rw [ofNat_toNat]; omega
 have i:=jh (n:=r.a.toNat) aK ((if qU r.kind=true then bj r.b.toNat else [])++r.x);have j:dq r.a.toNat=r.a:=by rw [ng aK]; omega
 have l:dq r.b.toNat=r.b:=by rw [ng aK]; omega
 unfold bG;rw [f,if_neg aa,List.drop_one,List.tail_cons,i,List.getD_cons_zero,g];dsimp only;rw [if_neg am,j,List.drop_left];by_cases c:qU r.kind=true
 ·rw [if_pos c,if_pos c,jh aK];dsimp only;rw [if_neg am,l,List.drop_left]
 rw [if_neg c,if_neg c,akz];have:r.b=0:=by
  rcases d with h | h | h | h
  ·grind
  ·exact absurd (by rw [h.1]; rfl) c
  ·exact absurd (by rw [h.1]; rfl) c
  exact h.2.2.2.1
 cases r; simp_all
theorem BA (h:recOk r=true):aC (recPut r)=(r,0):=by
 unfold aC;rw [Ie h];simp [ay,h]
variable {b:List UInt8}
theorem yd (h:(aC b).2=0):recOk (aC b).1=true/\b=recPut (aC b).1:=by
 revert h;unfold aC;split
 ·grind
 split
 ·grind
 rename_i f a;intro _;have a:=not_or.1 a;have c:recOk (bG b).1=true:=by
  cases e:recOk (bG b).1
  ·exact absurd a.1 (by simp [ay,e])
  rfl
 refine ⟨c,?_⟩;have d:=acY.1 a.2;simp only [ay,c] at d;exact d.symm
def jJ (r:Record):List UInt8:=ek (recPut r)
def encL (l:List Record):List UInt8:=l.flatMap jJ
def stepsF:Stable->List Record->Stable × Int
 | s,[]=>(s,0)
 | s,r :: l=>if (aG s r).2=0 then stepsF (aG s r).1 l else (s,(aG s r).2)
theorem uE {s:Stable} (h:(aG s r).2=0):recOk r=true:=by
 unfold aG at h;grind
theorem de (h:(az b).2.2=0):7<=(az b).2.1/\(az b).2.1<=b.length:=by
 have a:0<=bD b:=Int.natCast_nonneg _;revert h;unfold az;grind
theorem na:∀ {n m:Nat} {s:Stable} {b:List UInt8},b.length<n->b.length<m->playB n s b=playB m s b
 | n+1,m+1,s,b,c,d=>by
  simp only [playB];by_cases a:(az b).2.2=0
  ·have e:=de a;have f:(b.drop (az b).2.1.toNat).length<b.length:=by rw [List.length_drop]; omega
   rw [na (n:=n) (m:=m) aK aK]
  grind
theorem lr (r:Record):(jJ r).length=(recPut r).length+6:=nq
theorem DF {s:Stable} {t:List UInt8} (h:(aG s r).2=0):playB (n+1) s (jJ r++t)=((playB n (aG s r).1 t).1,(jJ r).length+(playB n (aG s r).1 t).2):=by
 have a:=uE h;have c:=jw a;have d:az (jJ r++t)=(recPut r,((recPut r).length:Int)+6,0):=Ki (by intro e; rw [e] at c; simp at c) aK;have f:(jJ r++t).drop (((recPut r).length:Int)+6).toNat=t:=by
  rw [show (((recPut r).length:Int)+6).toNat=(jJ r).length by rw [lr]; omega];grind
 simp only [playB,d,BA a,h,f,lr];simp
def nh {s:Stable} (h:(az b).2.2≠0):playB n s b=(s,0):=by
 cases n
 ·rfl
 rw [playB,if_pos h]
def JR:(az []).2.2≠0:=by decide
theorem vV:∀ {l:List Record} {n k:Nat} {s:Stable},(stepsF s l).2=0->(encL l).length<n->∃ j,j<=l.length/\playB n s ((encL l).take k)=((stepsF s (l.take j)).1,((encL (l.take j)).length:Int))/\(stepsF s (l.take j)).2=0/\(encL (l.take j)).length<=k/\(∀ i,i<=l.length->(encL (l.take i)).length<=k->i<=j)
 | [],n,k,s,_,_=>⟨0,Nat.le_refl _,by simp only [encL,List.flatMap_nil,List.take_nil]; rw [nh JR]; rfl,rfl,by simp [encL],fun i d _=>d⟩
 | r :: l,0,_,_,_,e=>by omega
 | r :: l,n+1,k,s,h,e=>by
  have c:(aG s r).2=0:=by
   unfold stepsF at h;split at h
   ·assumption
   rename_i g; exact absurd h g
  have m:(stepsF (aG s r).1 l).2=0:=by
   unfold stepsF at h;rwa [if_pos c] at h
  have o:=uE c;have w:=jw o;have p:encL (r :: l)=jJ r++encL l:=by simp [encL]
  rw [p] at e ⊢;rw [List.length_append] at e;by_cases q:k<(jJ r).length
  ·refine ⟨0,ahc _,?_,rfl,by simp [encL],fun i d a=>?_⟩
   ·have f:(jJ r++encL l).take k=(jJ r).take k:=agr aK;rw [f,nh (b:=(jJ r).take k) (zn (x:=recPut r) aK (by rw [lr] at q; omega))];rfl
   cases i with
   | zero=>exact Nat.le_refl _
   | succ i=>
    rw [ag9] at a;simp only [encL,List.flatMap_cons,List.length_append] at a;omega
  obtain ⟨j,g,t,u,y,v⟩:=vV (l:=l) (n:=n) (k:=k - (jJ r).length) m (by have:=lr r; omega);have f:(jJ r++encL l).take k=jJ r++(encL l).take (k - (jJ r).length):=by
   rw [List.take_append,List.take_of_length_le aK]
  refine ⟨j+1,by simp; omega,?_,?_,?_,fun i d a=>?_⟩
  ·rw [f,DF c,t,ag9,stepsF,if_pos c];simp [encL]
  ·rw [ag9,stepsF,if_pos c]; exact u
  ·rw [ag9];simp only [encL,List.flatMap_cons,List.length_append];have:(encL (l.take j)).length=(List.flatMap jJ (l.take j)).length:=rfl;omega
  cases i with
  | zero=>omega
  | succ i=>
   rw [ag9] at a;simp only [encL,List.flatMap_cons,List.length_append] at a;have:=v i (by simpa using d) (by simp only [encL]; omega);omega
theorem dC:∀ {l m:List Record} {s:Stable},(stepsF s l).2=0->stepsF s (l++m)=stepsF (stepsF s l).1 m
 | [],_,_,_=>rfl
 | r :: l,m,s,h=>by
  rw [List.cons_append,stepsF];simp only [stepsF] at h ⊢;split
  ·rename_i a;rw [if_pos a] at h;rw [dC h]
  grind
def td (l m:List Record):encL (l++m)=encL l++encL m:=by simp [encL]
structure Dsk where
 b:List UInt8
 synced:Int
 down:Bool
 doomed:Bool
 keep:Int
deriving DecidableEq
def Dsk.OK (d:Dsk):Prop:=0<=d.synced/\d.synced<=d.b.length/\d.b.length<=65536
def Dsk.at_ (d:Dsk) (k:Int):Int:=d.synced+min (max k 0) (d.b.length - d.synced)
def Dsk.cM (d:Dsk) (k:Int):Dsk:=⟨d.b.take (d.at_ k).toNat,d.at_ k,true,false,0⟩
def Dsk.up (d:Dsk):Dsk:=⟨d.b,d.synced,false,false,0⟩
def Dsk.cut (d:Dsk) (n:Int):Dsk:=if d.down=true\/n<0\/(d.b.length:Int)<n then d else ⟨d.b.take n.toNat,n,d.down,d.doomed,d.keep⟩
def Dsk.kM (d:Dsk) (n:Int):Int:=if d.down=true then 30 else if n<0\/(d.b.length:Int)<n then 1 else 0
def Dsk.app (d:Dsk) (x:List UInt8):Dsk:=if d.down=true\/65536 - (d.b.length:Int)<x.length then d else ⟨d.b++x,d.synced,d.down,d.doomed,d.keep⟩
def Dsk.jM (d:Dsk) (x:List UInt8):Int:=if d.down=true then 30 else if 65536 - (d.b.length:Int)<x.length then 20 else 0
def Dsk.sync (d:Dsk):Dsk:=if d.down=true then d else if d.doomed=true then d.cM d.keep else ⟨d.b,d.b.length,d.down,d.doomed,d.keep⟩
def Dsk.fx (d:Dsk):Int:=if d.down=true\/d.doomed=true then 30 else 0
def saveF (d:Dsk) (s:Stable) (l:List Record):Dsk × Stable × Int:=
 if l.all recOk=false then (d,s,1) else if (stepsF s l).2≠0 then (d,s,(stepsF s l).2) else if l.length=0 then (d,s,0)
 else if d.jM (encL l)≠0 then (d,s,d.jM (encL l)) else if (d.app (encL l)).fx≠0 then ((d.app (encL l)).sync,s,(d.app (encL l)).fx)
 else ((d.app (encL l)).sync,(stepsF s l).1,0)
def iu (l:List Entry):Int:=(l.getD (l.length - 1) ⟨0,[]⟩).term
def cV (l:List Entry) (k:Int):Int:=if k=0 then 0 else if k<0\/(l.length:Int)<k then -1 else (l.getD (k - 1).toNat ⟨0,[]⟩).term
def jO (l:List Entry) (n t:Int):Bool:=decide (iu l<t) || decide (t=iu l) && decide ((l.length:Int)<=n)
def iC:List Entry->List Entry->Nat
 | x :: h,y :: a=>if x.term=y.term then iC h a+1 else 0
 | _,_=>0
def bh (l:List Entry) (k:Int) (m:List Entry):Int × List Entry:=
 if k<0\/(l.length:Int)<k then (0,[]) else if m.length<=iC (l.drop k.toNat) m then (0,[]) else if (l.drop k.toNat).length<=iC (l.drop k.toNat) m then (0,m.drop (iC (l.drop k.toNat) m)) else (k+iC (l.drop k.toNat) m+1,m.drop (iC (l.drop k.toNat) m))
def fM (l:List Entry) (k m:Int):List Entry:=if (k<0\/(l.length:Int)<k)\/m<1 then [] else (l.drop k.toNat).take (min m ((l.drop k.toNat).length:Int)).toNat
def gJ (l:List Int):Int:=if l.length=0 then 0 else (l.mergeSort (fun a b=>decide (b<=a))).getD (l.length / 2) 0
theorem nW:∀ {h a:List Entry},iC h a<=h.length/\iC h a<=a.length
 | [],_=>⟨Nat.le_refl _,ahc _⟩
 | _ :: _,[]=>⟨ahc _,Nat.le_refl _⟩
 | x :: h,y :: a=>by
  have:=nW (h:=h) (a:=a);simp only [iC];grind
theorem oY:∀ {h a:List Entry} {j:Nat} {x y:Entry},j<=iC h a->h[j]? = some x->a[j]? = some y->(x.term=y.term↔j+1<=iC h a)
 | u :: h,v :: a,0,x,y,_,c,d=>by
  simp at c d;simp only [iC];grind
 | u :: h,v :: a,j+1,x,y,f,c,d=>by
  simp only [aiG] at c d;simp only [iC] at f ⊢;split at f
  ·rename_i e;rw [if_pos e];rw [oY aK c d]; omega
  omega
def dZ (n m:Int) (b:Bool):Bool:=cq n 0 (if b=true then m else 0)
def oF (x:Letter):Bool:=(decide (x.kind=1) || decide (x.kind=2) || decide (x.kind=3) || decide (x.kind=4)) && cq x.frm 0 4 && cq x.to 0 4 && !decide (x.frm=x.to) && cq x.term 1 1048576 && cq x.bin 1 3 &&
 dZ x.a 64 (decide (x.kind=1) || decide (x.kind=3) || decide (x.kind=4)) && dZ x.b 1048576 (decide (x.kind=1) || decide (x.kind=3)) && dZ x.c 64 (decide (x.kind=3)) && (!x.ok || decide (x.kind=2) || decide (x.kind=4)) && dZ (x.l.length:Int) 4 (decide (x.kind=3))
def eP (y:Entry):Bool:=cq y.term 1 1048576 && decide ((y.b.length:Int)<=200)
def mayL (x:Letter):Int:=if oF x=true/\x.l.all eP=true then 0 else 1
def aB (s:Stable) (t:Int):List Record:=if t<=s.term then [] else [⟨2,t,0,[]⟩]
def aV (s:Stable) (me:Int):List Record × Int:=if me<0\/5<=me then ([],1) else if 1048576<=s.term then ([],4) else ([⟨2,s.term+1,me+1,[]⟩],0)
def EK (s:Stable) (x:Letter):Bool:=decide (s.term<x.term) || decide (s.vote=0) || decide (s.vote=x.frm+1)
def aO (s:Stable) (x:Letter):List Record × Bool × Int:=
 if ¬ mayL x=0\/¬ x.kind=1 then ([],false,1) else if (x.term<s.term\/EK s x=false)\/jO s.log x.a x.b=false then (aB s x.term,false,0)
 else if x.term=s.term/\s.vote=x.frm+1 then ([],true,0) else ([⟨2,x.term,x.frm+1,[]⟩],true,0)
def qp (l:List Bool):Bool:=decide ((l.length:Int).tdiv 2<(l.countP id:Nat))
abbrev cK:Letter:=⟨0,0,0,0,0,0,0,0,false,[]⟩
def qi (s:Stable) (r:Route):Letter:=⟨3,r.frm,r.to,s.term,r.next - 1,cV s.log (r.next - 1),r.commit,r.bin,false,fM s.log (r.next - 1) 4⟩
def gu (s:Stable) (r:Route):Letter × Int:=if r.next<1\/(s.log.length:Int)+1<r.next then (cK,1) else if ¬ mayL (qi s r)=0 then (cK,mayL (qi s r)) else (qi s r,0)
def fb:Int->List Entry->List Record
 | _,[]=>[]
 | n,y :: l=>⟨3,n,y.term,y.b⟩ :: fb (n+1) l
def jj (s:Stable) (x:Letter):List Record:=
 aB s x.term++(if (bh s.log x.a x.l).1=0 then [] else [⟨4,(bh s.log x.a x.l).1,0,[]⟩])++fb (x.a+x.l.length - (bh s.log x.a x.l).2.length+1) (bh s.log x.a x.l).2
def aE (s:Stable) (x:Letter):List Record × Bool × Int × Int:=
 if (¬ mayL x=0\/¬ x.kind=3)\/64<x.a+x.l.length then ([],false,0,1) else if x.term<s.term then ([],false,0,0)
 else if cV s.log x.a=x.b then (jj s x,true,x.a+x.l.length,0) else (aB s x.term,false,0,0)
def jz (n:Int) (x:Letter):Int:=if x.ok=true then x.a+1 else if 1<n then min (n - 1) (x.a+1) else 1
def mi (s:Stable) (l:List Int) (k:Int):Int:=if k<min (gJ l) s.log.length/\cV s.log (min (gJ l) s.log.length)=s.term then min (gJ l) s.log.length else k
variable {x:Letter}
theorem fP (h:mayL x=0):0<=x.frm/\x.frm<=4/\0<=x.to/\x.to<=4/\1<=x.term/\x.term<=1048576/\1<=x.bin/\x.bin<=3/\0<=x.a/\x.a<=64/\0<=x.c/\x.c<=64/\x.l.length<=4/\1<=x.kind/\x.kind<=4:=by
 unfold mayL at h;split at h
 ·rename_i d;simp only [oF,cq,dZ] at d;grind
 cases h
theorem si:∀ {l:List Record},l.all recOk=true->(encL l).length<=227*l.length
 | [],_=>Nat.le_refl _
 | r :: l,h=>by
  simp only [ahp,Bool.and_eq_true] at h;have a:=jw h.1;have c:=si h.2;have e:encL (r :: l)=jJ r++encL l:=by simp [encL]
  rw [e,List.length_append,lr,List.length_cons]; omega
structure NdC where
 me:Int
 many:Int
 bin:Int
 st:Stable
 role:Int
 commit:Int
 applied:Int
 s:State
def noF (k:Nat) (n:NdC):List AV:=[.int n.me,.int n.many,.ptr (k+1) 0,.int n.bin]++(cellsOf (.nm .stable) n.st++([.int n.role,.int n.commit,.int n.applied]++cellsOf (.nm .state) n.s))
def lNd {a:Type} (k:Nat) (R:PL a):PL (NdC × a):=PL.ZV (ax cI (ax cI (ax (aZ (k+1) 0) (ax cI (lSt (.nm .stable) (ax cI (ax cI (ax cI (lSt (.nm .state) R))))))))) (fun q=>(⟨q.1,q.2.1,q.2.2.2.1,q.2.2.2.2.1,q.2.2.2.2.2.1,q.2.2.2.2.2.2.1,q.2.2.2.2.2.2.2.1,q.2.2.2.2.2.2.2.2.1⟩,q.2.2.2.2.2.2.2.2.2)) (fun q=>(q.1.me,q.1.many,(),q.1.bin,q.1.st,q.1.role,q.1.commit,q.1.applied,q.1.s,q.2))
structure Nd where
 c:NdC
 d:Dsk
 rp:List Reply
 vs:List Bool
 bn:List Int
 nx:List Int
 mt:List Int
def ndO (k:Nat) (n:Nd):AH:=[.box 103 (noF k n.c++[.own (k+3),.own (k+4),.own (k+5),.own (k+6),.own (k+7)]),.box 147 [.own (k+2),.int n.d.synced,.bool (.atom n.d.down),.bool (.atom n.d.doomed),.int n.d.keep],.row 5 .u8 n.d.b,.row 78 (.nm .reply) n.rp,.row 4 .bool n.vs,.row 3 .int n.bn,.row 3 .int n.nx,.row 3 .int n.mt]
def aeQ {a:Type} (k:Nat) (R:PH a):PH (Nd × a):=PH.ZV (aH (dQ 103 (lNd k (ax (eV (k+3)) (ax (eV (k+4)) (ax (eV (k+5)) (ax (eV (k+6)) (ax (eV (k+7)) dL))))))) (aH (dQ 147 (ax (eV (k+2)) (ax cI (ax cB (ax cB (ax cI dL)))))) (aH (e_ 5 .u8) (aH (e_ 78 (.nm .reply)) (aH (e_ 4 .bool) (aH (e_ 3 .int) (aH (e_ 3 .int) (aH (e_ 3 .int) R))))))))
 (fun q=>(⟨q.1.1,⟨q.2.2.1,q.2.1.2.1,q.2.1.2.2.1,q.2.1.2.2.2.1,q.2.1.2.2.2.2.1⟩,q.2.2.2.1,q.2.2.2.2.1,q.2.2.2.2.2.1,q.2.2.2.2.2.2.1,q.2.2.2.2.2.2.2.1⟩,q.2.2.2.2.2.2.2.2))
 (fun q=>((q.1.c,(),(),(),(),(),()),((),q.1.d.synced,q.1.d.down,q.1.d.doomed,q.1.d.keep,()),q.1.d.b,q.1.rp,q.1.vs,q.1.bn,q.1.nx,q.1.mt,q.2))
def mh (n:Nd):AH:=ndO 0 n
def rM:PH Nd:=PH.ZV (aeQ 0 av) (·.1) (fun n=>(n,()))
structure NdR where
 n:Nd
 l:List Letter
 e:Int
abbrev Nd.save (n:Nd) (l:List Record):Nd:={ n with d:=(saveF n.d n.c.st l).1,c:={ n.c with st:=(saveF n.d n.c.st l).2.1 } }
abbrev Nd.aQ (n:Nd) (l:List Record):Int:=(saveF n.d n.c.st l).2.2
def jW (n:NdC) (k:Nat):List Int:=((List.range k).map fun i:Nat=>(i:Int)).filter (fun i=>decide (i≠n.me))
def cR (n:NdC):List Int:=jW n n.many.toNat
def rG (n:NdC) (kd a:Int):Letter:=⟨kd,n.me,a,n.st.term,0,0,0,n.bin,false,[]⟩
def jf (n:Nd) (a:Int):Letter × Int:=gu n.c.st ⟨n.c.me,a,n.nx.getD a.toNat 0,n.c.commit,n.c.bin⟩
def cu (n:Nd):List Int->List Letter × Int
 | []=>([],0)
 | to :: l=>if (jf n to).2=0 then (if (cu n l).2=0 then ((jf n to).1 :: (cu n l).1,0) else ([],(cu n l).2)) else ([],(jf n to).2)
def cc (n:Nd):List Letter × Int:=if n.d.down=true then ([],30) else if n.c.role=2 then cu n (cR n.c) else ([],33)
def Nd.dw:Nat->Nd->Nd
 | 0,n=>n
 | k+1,n=>if n.c.applied<n.c.commit then
   (if pE n.c.bin ((n.c.st.log.drop n.c.applied.toNat).take 1)=0 then Nd.dw k { n with c:={ n.c with s:=plS n.c.bin n.c.s ((n.c.st.log.drop n.c.applied.toNat).take 1),applied:=n.c.applied+1 },rp:=n.rp++plR n.c.bin n.c.s ((n.c.st.log.drop n.c.applied.toNat).take 1) } else n)
  else n
def Nd.apply (n:Nd):Nd:=n.dw (n.c.commit - n.c.applied).toNat
def Nd.eB (n:Nd):Nd:={ n with c:={ n.c with role:=1 },vs:=(List.replicate n.c.many.toNat false).set n.c.me.toNat true,bn:=(List.replicate n.c.many.toNat (0:Int)).set n.c.me.toNat n.c.bin,nx:=List.replicate n.c.many.toNat 0,mt:=List.replicate n.c.many.toNat 0 }
def gC (n:NdC):List Letter:=(cR n).map fun c=>{ rG n 1 c with a:=n.st.log.length,b:=iu n.st.log }
def bq (n:Nd):NdR:=if n.d.down=true then ⟨n,[],30⟩ else if n.c.role=2 then ⟨n,[],0⟩ else if ¬ (aV n.c.st n.c.me).2=0 then ⟨n,[],(aV n.c.st n.c.me).2⟩
 else if ¬ n.aQ (aV n.c.st n.c.me).1=0 then ⟨n.save (aV n.c.st n.c.me).1,[],n.aQ (aV n.c.st n.c.me).1⟩ else ⟨(n.save (aV n.c.st n.c.me).1).eB,gC (n.save (aV n.c.st n.c.me).1).eB.c,0⟩
def dr (n:NdC) (x:Letter):Bool:=if (¬ mayL x=0\/¬ x.to=n.me)\/n.many<=x.frm then false else if ¬ x.kind=3 then true else if ¬ (aE n.st x).2.2.2=0 then false
 else !(aE n.st x).1.any (fun r=>decide (r.kind=4) && decide (r.a<=n.commit))
def cS (n:Nd) (x:Letter):NdR:=if ¬ (aO n.c.st x).2.2=0 then ⟨n,[],(aO n.c.st x).2.2⟩ else if ¬ n.aQ (aO n.c.st x).1=0 then ⟨n.save (aO n.c.st x).1,[],n.aQ (aO n.c.st x).1⟩
 else ⟨n.save (aO n.c.st x).1,[{ rG (n.save (aO n.c.st x).1).c 2 x.frm with ok:=(aO n.c.st x).2.1 }],0⟩
def Nd.follow (n:Nd):Nd:={ n with c:={ n.c with role:=0 } }
def bZ (n:Nd) (x:Letter):NdR:=if ¬ (aE n.c.st x).2.2.2=0 then ⟨n,[],(aE n.c.st x).2.2.2⟩ else if ¬ n.aQ (aE n.c.st x).1=0 then ⟨n.save (aE n.c.st x).1,[],n.aQ (aE n.c.st x).1⟩
 else let m:=n.save (aE n.c.st x).1
  let f:=if x.term=m.c.st.term then m.follow else m
  if (aE n.c.st x).2.1=true then (let g:=({ f with c:={ f.c with commit:=max f.c.commit (min x.c (aE n.c.st x).2.2.1) } }:Nd).apply; ⟨g,[{ rG f.c 4 x.frm with ok:=true,a:=(aE n.c.st x).2.2.1 }],0⟩)
  else ⟨f,[{ rG f.c 4 x.frm with a:=if x.term=f.c.st.term then min 64 (f.c.st.log.length:Int) else 0 }],0⟩
def fT (n:Nd):NdR:=
 let m:Nd:={ n with c:={ n.c with role:=2 },nx:=List.replicate n.nx.length ((n.c.st.log.length:Int)+1),mt:=List.replicate n.mt.length 0 }
 if (n.c.st.log.length:Int)+1<=64 then (let l:=[⟨3,(n.c.st.log.length:Int)+1,n.c.st.term,[]⟩]; if m.aQ l=0 then ⟨m.save l,(cc (m.save l)).1,(cc (m.save l)).2⟩ else ⟨m.save l,[],m.aQ l⟩)
 else ⟨m,(cc m).1,(cc m).2⟩
def Nd.Sm (n:Nd) (x:Letter):Nd:=
 let e:Int:=n.c.st.log.length
 let nx:=n.nx.set x.frm.toNat (min (jz (n.nx.getD x.frm.toNat 0) x) (e+1))
 let mt:=if x.ok=true then n.mt.set x.frm.toNat (max (n.mt.getD x.frm.toNat 0) (min x.a e)) else n.mt
 { n with nx:=nx,mt:=mt,c:={ n.c with commit:=mi n.c.st (mt.set n.c.me.toNat e) n.c.commit } }
def gB (n:Nd) (x:Letter):NdR:=
 let m:=(n.Sm x).apply
 if (n.c.st.log.length:Int)<m.nx.getD x.frm.toNat 0 then ⟨m,[],0⟩ else if (jf m x.frm).2=0 then ⟨m,[(jf m x.frm).1],0⟩ else ⟨m,[],(jf m x.frm).2⟩
def bu (n:Nd) (x:Letter):NdR:=
 let l:=aB n.c.st x.term
 if ¬ n.aQ l=0 then ⟨n.save l,[],n.aQ l⟩ else
 let m:=n.save l
 if ¬ x.term=m.c.st.term\/m.c.role=0 then ⟨m,[],0⟩ else
 let a:Nd:={ m with bn:=m.bn.set x.frm.toNat x.bin }
 if (x.kind=2/\x.ok=true)/\m.c.role=1 then (let d:Nd:={ a with vs:=a.vs.set x.frm.toNat true }; if qp d.vs=true then fT d else ⟨d,[],0⟩)
 else if x.kind=4/\m.c.role=2 then gB a x else ⟨a,[],0⟩
def bl (n:Nd) (x:Letter):NdR:=if n.d.down=true then ⟨n,[],30⟩ else if dr n.c x=false then ⟨n,[],1⟩ else
 let m:=if n.c.st.term<x.term then n.follow else n
 if x.kind=1 then cS m x else if x.kind=3 then bZ m x else bu m x
def Nd.fresh (n:Nd) (b:Int):Nd:={ c:=⟨n.c.me,n.c.many,b,(replayF n.d.b).1,0,0,0,State.mk 1 1 0 0 [] [] []⟩,d:=n.d.up.cut (replayF n.d.b).2,rp:=[],vs:=[],bn:=[],nx:=[],mt:=[] }
def aY (n:Nd) (b:Int):NdR:=if n.d.down=false then ⟨n,[],31⟩ else if ¬ b_ b (max (replayF n.d.b).1.floor 1)=0 then ⟨n,[],b_ b (max (replayF n.d.b).1.floor 1)⟩
 else let m:=n.fresh b
  if m.c.st.floor<b then (let l:=[⟨1,b,0,[]⟩]; if m.aQ l=0 then ⟨m.save l,[],0⟩ else ⟨{ m.save l with d:=(m.save l).d.cM 0 },[],m.aQ l⟩) else ⟨m,[],0⟩
structure NdC3 where
 n:Nd
 a:Int
 b:Int
 e:Int
def dg (n:Nd) (c:Command):NdC3:=if n.d.down=true then ⟨n,0,0,30⟩ else if ¬ n.c.role=2 then ⟨n,0,0,33⟩ else if ¬ bL c n.c.s.version=0 then ⟨n,0,0,bL c n.c.s.version⟩
 else if c.kind=8/\¬ c.n=n.c.s.version+1 then ⟨n,0,0,1⟩ else if c.kind=8/\kY n.c.s.version n.bn=false then ⟨n,0,0,34⟩
 else if 64<(n.c.st.log.length:Int)+1 then ⟨n,0,0,20⟩ else if ¬ (ez c n.c.st.term n.c.s.version).2=0 then ⟨n,0,0,(ez c n.c.st.term n.c.s.version).2⟩
 else let l:=[⟨3,(n.c.st.log.length:Int)+1,(ez c n.c.st.term n.c.s.version).1.term,(ez c n.c.st.term n.c.s.version).1.b⟩]
  if n.aQ l=0 then ⟨n.save l,(n.c.st.log.length:Int)+1,n.c.st.term,0⟩ else ⟨n.save l,0,0,n.aQ l⟩
abbrev bV (a b:Nd):Prop:=a.c.me=b.c.me/\a.c.many=b.c.many/\a.c.bin=b.c.bin/\a.c.st.floor=b.c.st.floor/\a.c.st.term=b.c.st.term/\a.c.st.vote=b.c.st.vote/\a.c.st.log=b.c.st.log/\a.c.role=b.c.role/\a.c.commit=b.c.commit/\a.c.applied=b.c.applied/\a.c.s.version=b.c.s.version/\a.c.s.next=b.c.s.next/\a.c.s.keep=b.c.s.keep/\a.c.s.quota=b.c.s.quota/\a.c.s.sess=b.c.s.sess/\a.c.s.opens=b.c.s.opens/\a.c.s.snaps=b.c.s.snaps/\a.d.synced=b.d.synced/\a.d.down=b.d.down/\a.d.doomed=b.d.doomed/\a.d.keep=b.d.keep/\a.d.b=b.d.b/\a.rp=b.rp/\a.vs=b.vs/\a.bn=b.bn/\a.nx=b.nx/\a.mt=b.mt
abbrev Pz (a b:Nd) (p:Prop):Prop:=a.c.me=b.c.me/\a.c.many=b.c.many/\a.c.bin=b.c.bin/\a.c.st.floor=b.c.st.floor/\a.c.st.term=b.c.st.term/\a.c.st.vote=b.c.st.vote/\a.c.st.log=b.c.st.log/\a.c.role=b.c.role/\a.c.commit=b.c.commit/\a.c.applied=b.c.applied/\a.c.s.version=b.c.s.version/\a.c.s.next=b.c.s.next/\a.c.s.keep=b.c.s.keep/\a.c.s.quota=b.c.s.quota/\a.c.s.sess=b.c.s.sess/\a.c.s.opens=b.c.s.opens/\a.c.s.snaps=b.c.s.snaps/\a.d.synced=b.d.synced/\a.d.down=b.d.down/\a.d.doomed=b.d.doomed/\a.d.keep=b.d.keep/\a.d.b=b.d.b/\a.rp=b.rp/\a.vs=b.vs/\a.bn=b.bn/\a.nx=b.nx/\a.mt=b.mt/\p
structure DkI (d:Dsk) (L:List Record):Prop where
 st:(stepsF sta0 L).2=0
 rep:replayF d.b=((stepsF sta0 L).1,((encL L).length:Int))
 pre:∃ t,d.b=encL L++t
 syn:d.synced=d.b.length
 up:d.down=false->d.b=encL L
variable {L:List Record}
def qf (h:(stepsF sta0 L).2=0):∃ j,j<=L.length/\replayF ((encL L).take k)=((stepsF sta0 (L.take j)).1,((encL (L.take j)).length:Int))/\(stepsF sta0 (L.take j)).2=0/\(encL (L.take j)).length<=k/\∀ i,i<=L.length->(encL (L.take i)).length<=k->i<=j:=by
 obtain ⟨j,a,c,d⟩:=vV (n:=(encL L).length+1) (k:=k) h aK;refine ⟨j,a,?_,d⟩;rw [replayF,<- c];exact na aK (by rw [List.length_take]; omega)
theorem tu (h:(stepsF sta0 L).2=0):replayF (encL L)=((stepsF sta0 L).1,((encL L).length:Int)):=by
 obtain ⟨j,c,d,e,f,a⟩:=qf (k:=(encL L).length) h;have:=a L.length aK (by rw [List.take_length]; omega);grind
variable {l:List Record}
def DkI.ahy {a:Dsk} (m:(stepsF sta0 (L++l)).2=0) (o:(encL L).length<=k) (c:a.b=(encL (L++l)).take k) (p:a.synced=a.b.length) (q:a.down=true):∃ i,i<=l.length/\DkI a (L++l.take i):=by
 obtain ⟨j,s,d,f,g,t⟩:=qf (k:=k) m;have v:=t L.length aa (by rw [List.take_left]; exact o);have e:(L++l).take j=L++l.take (j - L.length):=by rw [List.take_append,List.take_of_length_le aK]
 rw [e] at d f g;rw [List.length_append] at s;refine ⟨j - L.length,aK,f,by rw [c]; exact d,?_,p,fun h=>by rw [q] at h; cases h⟩;refine ⟨(encL (l.drop (j - L.length))).take (k - (encL (L++l.take (j - L.length))).length),?_⟩;have u:encL (L++l)=encL (L++l.take (j - L.length))++encL (l.drop (j - L.length)):=by
  rw [<- td,List.append_assoc,List.take_append_drop]
 rw [c,u,List.take_append,List.take_of_length_le g]
def DkI.enc {e:Bool} {c f:Int} (d:(stepsF sta0 L).2=0) (a:b=encL L) (g:c=b.length) {h:Bool}:DkI ⟨b,c,h,e,f⟩ L:=
 ⟨d,by rw [a]; exact tu d,⟨[],by rw [ads]; exact a⟩,g,fun _=>a⟩
def Br {i:Nat}:L <+: L++l.take i:=⟨_,rfl⟩
structure SaveR (d:Dsk) (s:Stable) (l L:List Record):Prop where
 ok:(saveF d s l).2.2=0->(saveF d s l).1.down=false/\DkI (saveF d s l).1 (L++l)/\(saveF d s l).2.1=(stepsF s l).1/\(stepsF s l).2=0/\l.all recOk=true/\(saveF d s l).1.doomed=d.doomed/\(saveF d s l).1.keep=d.keep/\(l=[]->saveF d s l=(d,s,0))
 no:(saveF d s l).2.2≠0->(saveF d s l).2.1=s/\l≠[]/\(((saveF d s l).1=d/\(saveF d s l).2.2≠30)\/(d.doomed=true/\(saveF d s l).2.2=30/\(saveF d s l).1.down=true/\(saveF d s l).1.doomed=false/\∃ i,i<=l.length/\DkI (saveF d s l).1 (L++l.take i)))
 len:(saveF d s l).1.b.length<=d.b.length+(encL l).length
 le:d.b.length<=65536->(saveF d s l).1.b.length<=65536
theorem tN:∀ {l:List Record} {s:Stable},(stepsF s l).2=0\/(stepsF s l).2=1\/(stepsF s l).2=5
 | [],_=>.inl rfl
 | r :: l,s=>by
  rw [stepsF];split
  ·exact tN
  dsimp only;unfold aG;grind
variable {d:Dsk}
def Ey {s:Stable} (h:DkI d L) (m:d.down=false) (A:s=(stepsF sta0 L).1):SaveR d s l L:=by
 have w:=h.up m;have D:=h.syn;by_cases g:l.all recOk=false
 ·have a:l≠[]:=by rintro rfl; cases g
  constructor <;> rw [saveF,if_pos g]
  ·intro e; cases e
  ·exact fun _=>⟨rfl,a,.inl ⟨rfl,(by decide:(1:Int)≠30)⟩⟩
  ·dsimp only; omega
  exact id
 by_cases i:(stepsF s l).2≠0
 ·have a:l≠[]:=by rintro rfl; exact i rfl
  constructor <;> rw [saveF,if_neg g,if_pos i]
  ·intro e; exact absurd e i
  ·exact fun _=>⟨rfl,a,.inl ⟨rfl,by rcases tN (l:=l) (s:=s) with e | e | e <;> rw [e] <;> decide⟩⟩
  ·dsimp only; omega
  exact id
 have p:(stepsF s l).2=0:=acY.1 i;have v:l.all recOk=true:=by simpa using g
 by_cases o:l.length=0
 ·obtain rfl:=abL o;constructor <;> rw [saveF,if_neg g,if_neg i,if_pos o]
  ·exact fun _=>⟨m,by rw [ads]; exact h,rfl,rfl,rfl,rfl,rfl,fun _=>rfl⟩
  ·intro e; exact absurd rfl e
  ·dsimp only; omega
  exact id
 have a:l≠[]:=by rintro rfl; exact o rfl
 by_cases c:d.jM (encL l)≠0
 ·have B:d.jM (encL l)=20:=by
   unfold Dsk.jM at c ⊢;rw [m] at c ⊢;simp only [Bool.false_eq_true,if_false] at c ⊢;split at c
   ·rename_i q; rw [if_pos q]
   exact absurd rfl c
  constructor <;> rw [saveF,if_neg g,if_neg i,if_neg o,if_pos c]
  ·intro e; exact absurd e c
  ·exact fun _=>⟨rfl,a,.inl ⟨rfl,by dsimp only; rw [B]; decide⟩⟩
  ·dsimp only; omega
  exact id
 have C:¬ 65536 - (d.b.length:Int)<(encL l).length:=by
  intro q;unfold Dsk.jM at c;rw [m,if_neg am,if_pos q] at c;exact c am
 have j:d.app (encL l)=⟨d.b++encL l,d.synced,false,d.doomed,d.keep⟩:=by
  rw [Dsk.app,if_neg (by rw [m]; simpa using C),m]
 have y:d.b++encL l=encL (L++l):=by rw [w,td]
 have z:(stepsF sta0 (L++l)).2=0:=by rw [dC h.st,<- A]; exact p
 by_cases t:d.doomed=true
 ·have u:(d.app (encL l)).fx=30:=by rw [j,Dsk.fx,if_pos (.inr t)]
  have f:(d.app (encL l)).sync=(d.app (encL l)).cM d.keep:=by rw [j,Dsk.sync,if_neg Bool.false_ne_true,if_pos t]
  constructor <;> rw [saveF,if_neg g,if_neg i,if_neg o,if_neg c,if_pos (by rw [u]; decide)]
  ·intro e; rw [u] at e; cases e
  ·refine fun _=>⟨rfl,a,.inr ⟨t,u,by rw [f]; rfl,by rw [f]; rfl,?_⟩⟩;dsimp only;rw [f,j];refine DkI.ahy (k:=((⟨d.b++encL l,d.synced,false,d.doomed,d.keep⟩:Dsk).at_ d.keep).toNat) z ?_ (by show List.take _ (d.b++encL l)=_; rw [y]) ?_ rfl
   ·rw [<- w];simp only [Dsk.at_,List.length_append]; omega
   simp only [Dsk.cM,Dsk.at_,List.length_take,List.length_append]; omega
  ·rw [f,j];simp only [Dsk.cM,List.length_take,List.length_append]; omega
  intro _;rw [f,j];simp only [Dsk.cM,List.length_take,List.length_append]; omega
 have u:(d.app (encL l)).fx=0:=by rw [j,Dsk.fx,if_neg (by simpa using t)]
 have f:(d.app (encL l)).sync=⟨d.b++encL l,(d.b++encL l).length,false,d.doomed,d.keep⟩:=by rw [j,Dsk.sync,if_neg Bool.false_ne_true,if_neg t]
 constructor <;> rw [saveF,if_neg g,if_neg i,if_neg o,if_neg c,if_neg (by rw [u]; decide)]
 ·refine fun _=>⟨by rw [f],?_,rfl,p,v,by rw [f],by rw [f],fun e=>absurd e a⟩;dsimp only;rw [f];exact DkI.enc z y rfl
 ·intro e; exact absurd rfl e
 ·rw [f]; dsimp only; rw [List.length_append]; omega
 intro _; rw [f]; dsimp only; rw [List.length_append]; omega
def aix (h:r.kind=1/\1<=r.a/\r.a<=3/\r.b=0/\r.x=[]):recOk r=true:=bM.2 (.inl h)
def ac6 (h:r.kind=2/\0<=r.a/\r.a<=1048576/\0<=r.b/\r.b<=5/\r.x=[]):recOk r=true:=bM.2 (.inr (.inl h))
def agL (h:r.kind=3/\1<=r.a/\r.a<=64/\0<=r.b/\r.b<=1048576/\r.x.length<=200):recOk r=true:=bM.2 (.inr (.inr (.inl h)))
def ajl (h:r.kind=4/\1<=r.a/\r.a<=64/\r.b=0/\r.x=[]):recOk r=true:=bM.2 (.inr (.inr (.inr h)))
def ou {s t:Stable} (h:recOk r=true) (e:di s r=some t):aG s r=(t,0):=by
 rw [aG,if_neg (by rw [h]; decide),e]
def jX {s:Stable} (h:(aG s r).2=0):stepsF s [r]=((aG s r).1,0):=by
 rw [stepsF,if_pos h,stepsF]
variable {t:Int}
theorem xW {s:Stable} {v:Int} (a:0<=t) (c:t<=1048576) (f:0<=v) (g:v<=5) (h:s.term<t\/(s.term=t/\(s.vote=0\/s.vote=v))):stepsF s [⟨2,t,v,[]⟩]=({ s with term:=t,vote:=v },0):=by
 have e:aG s ⟨2,t,v,[]⟩=({ s with term:=t,vote:=v },0):=by
  refine ou (ac6 ⟨rfl,a,c,f,g,rfl⟩) ?_;rw [di,if_neg (show ¬ (2:Int)=1 by decide),if_pos rfl,eT,if_neg];grind
 rw [jX (by rw [e]),e]
def oq {s:Stable} (a:0<=t) (c:t<=1048576):stepsF s (aB s t)=({ s with term:=max s.term t,vote:=if s.term<t then 0 else s.vote },0)/\(aB s t).all recOk=true:=by
 unfold aB;split
 ·rename_i h;rw [show max s.term t=s.term by omega,if_neg aK];exact ⟨rfl,rfl⟩
 rename_i h;rw [xW a c aK aK (.inl aK),show max s.term t=t by omega,if_pos aK];refine ⟨rfl,?_⟩;rw [ahp,ac6 ⟨rfl,a,c,by dsimp only; omega,by dsimp only; omega,rfl⟩]; rfl
def wi {y:Entry}:eP y=true↔1<=y.term/\y.term<=1048576/\y.b.length<=200:=by
 simp only [eP,cq,Bool.and_eq_true,decide_eq_true_eq]; omega
theorem yx:∀ {m:List Entry} {s:Stable},m.all eP=true->s.log.length+m.length<=64->stepsF s (fb ((s.log.length:Int)+1) m)=({ s with log:=s.log++m },0)/\(fb ((s.log.length:Int)+1) m).all recOk=true
 | [],s,_,_=>⟨by rw [fb,stepsF,ads],rfl⟩
 | y :: m,s,h,g=>by
  rw [ahp,Bool.and_eq_true,wi] at h;rw [List.length_cons] at g;have a:recOk ⟨3,(s.log.length:Int)+1,y.term,y.b⟩=true:=agL ⟨rfl,by dsimp only; omega,by dsimp only; omega,by dsimp only; omega,by dsimp only; omega,by dsimp only; omega⟩;have e:aG s ⟨3,(s.log.length:Int)+1,y.term,y.b⟩=({ s with log:=s.log++[y] },0):=by
   refine ou a ?_;rw [di,if_neg (show ¬ (3:Int)=1 by decide),if_neg (show ¬ (3:Int)=2 by decide),if_pos rfl,du,if_neg (by dsimp only; omega)]
  obtain ⟨c,f⟩:=yx (m:=m) (s:={ s with log:=s.log++[y] }) h.2 (by dsimp only; rw [List.length_append,aka]; omega);have i:(((s.log++[y]).length:Nat):Int)+1=(s.log.length:Int)+1+1:=by rw [List.length_append,aka]; omega
  rw [i] at c f;refine ⟨?_,?_⟩
  ·rw [fb,stepsF,if_pos (by rw [e]),e,c]; simp
  rw [fb,ahp,a,f]; rfl
theorem Bc (h:mayL x=0):x.l.all eP=true:=by
 unfold mayL at h;grind
theorem Pe (h:mayL x=0):0<=x.b:=by
 unfold mayL at h;split at h
 ·rename_i a;simp only [oF,cq,dZ] at a;grind
 cases h
def fj (s:Stable) (x:Letter):Nat:=iC (s.log.drop x.a.toNat) x.l
def dR (s:Stable) (x:Letter):List Entry:=if x.l.length<=fj s x then s.log else s.log.take (x.a.toNat+fj s x)++x.l.drop (fj s x)
theorem zw {l:List Entry} {k:Int} (h:cV l k=t) (a:0<=t) (c:0<=k):k.toNat<=l.length:=by
 unfold cV at h;grind
theorem AW {s:Stable} (c:x.a.toNat<=s.log.length):x.a.toNat+x.l.length<=(dR s x).length/\(dR s x).length<=max s.log.length (x.a.toNat+x.l.length):=by
 have h:=nW (h:=s.log.drop x.a.toNat) (a:=x.l);unfold dR fj;grind
def qB {m:List Entry} (h:m.all eP=true):(m.drop k).all eP=true:=
 agV.2 fun y a=>agV.1 h y (akU a)
theorem TT {s:Stable} (h:mayL x=0) (I:s.log.length<=64) (z:x.a+x.l.length<=64) (J:s.term<=x.term) (A:cV s.log x.a=x.b) (B:0<=x.a) (C:1<=x.term) (o:x.term<=1048576) :
  stepsF s (jj s x)=({ s with term:=x.term,vote:=if s.term<x.term then 0 else s.vote,log:=dR s x },0)/\(jj s x).all recOk=true:=by
 have D:=Pe h;have F:=zw A D B;have q:=Bc h;obtain ⟨c,u⟩:=oq (s:=s) (t:=x.term) aK o;have c:stepsF s (aB s x.term)=({ s with term:=x.term,vote:=if s.term<x.term then 0 else s.vote },0):=by rw [c,show max s.term x.term=x.term by omega]
 have G:=nW (h:=s.log.drop x.a.toNat) (a:=x.l);rw [List.length_drop] at G;unfold jj;by_cases f:x.l.length<=fj s x
 ·have e:bh s.log x.a x.l=(0,[]):=by rw [bh,if_neg aK]; exact if_pos f
  rw [e,if_pos rfl,fb,ads,ads,dR,if_pos f];grind
 by_cases g:(s.log.drop x.a.toNat).length<=fj s x
 ·have H:fj s x=s.log.length - x.a.toNat:=by rw [List.length_drop] at g; unfold fj at g ⊢; omega
  have e:bh s.log x.a x.l=(0,x.l.drop (fj s x)):=by rw [bh,if_neg aK]; exact (if_neg f).trans (if_pos g)
  have p:x.a+(x.l.length:Int) - ((x.l.drop (fj s x)).length:Int)+1=(s.log.length:Int)+1:=by rw [List.length_drop]; omega
  rw [e,if_pos rfl,ads];dsimp only;rw [p];obtain ⟨i,j⟩:=yx (m:=x.l.drop (fj s x)) (s:={ s with term:=x.term,vote:=if s.term<x.term then 0 else s.vote }) (qB q) (by dsimp only; rw [List.length_drop]; omega);dsimp only at i j;refine ⟨?_,by rw [ahI,u,j]; rfl⟩;rw [dC (by rw [c]),c];dsimp only;rw [i,dR,if_neg f,List.take_of_length_le (l:=s.log) aK]
 have H:x.a.toNat+fj s x<s.log.length:=by rw [List.length_drop] at g; omega
 have e:bh s.log x.a x.l=(x.a+fj s x+1,x.l.drop (fj s x)):=by rw [bh,if_neg aK]; exact (if_neg f).trans (if_neg g)
 have v:recOk ⟨4,x.a+fj s x+1,0,[]⟩=true:=ajl ⟨rfl,by dsimp only; omega,by dsimp only; omega,rfl,rfl⟩;have w:aG { s with term:=x.term,vote:=if s.term<x.term then 0 else s.vote } ⟨4,x.a+fj s x+1,0,[]⟩=({ s with term:=x.term,vote:=if s.term<x.term then 0 else s.vote,log:=s.log.take (x.a.toNat+fj s x) },0):=by
  refine ou v ?_;rw [di,if_neg (show ¬ (4:Int)=1 by decide),if_neg (show ¬ (4:Int)=2 by decide),if_neg (show ¬ (4:Int)=3 by decide),fi,if_neg (by dsimp only; omega)];dsimp only;rw [show (x.a+(fj s x:Int)+1 - 1).toNat=x.a.toNat+fj s x by omega]
 have p:x.a+(x.l.length:Int) - ((x.l.drop (fj s x)).length:Int)+1=(((s.log.take (x.a.toNat+fj s x)).length:Nat):Int)+1:=by rw [List.length_drop,List.length_take]; omega
 rw [e];dsimp only;rw [if_neg aK,p];obtain ⟨i,j⟩:=yx (m:=x.l.drop (fj s x)) (s:={ s with term:=x.term,vote:=if s.term<x.term then 0 else s.vote,log:=s.log.take (x.a.toNat+fj s x) }) (qB q) (by dsimp only; rw [List.length_drop,List.length_take]; omega);dsimp only at i j;refine ⟨?_,by rw [ahI,ahI,u,j]; simp [v]⟩;have y:stepsF s (aB s x.term++[⟨4,x.a+fj s x+1,0,[]⟩])=({ s with term:=x.term,vote:=if s.term<x.term then 0 else s.vote,log:=s.log.take (x.a.toNat+fj s x) },0):=by
  rw [dC (by rw [c]),c,jX (by dsimp only; rw [w])];dsimp only;rw [w]
 rw [dC (by rw [y]),y];dsimp only;rw [i,dR,if_neg f]
structure NdOK (n:Nd):Prop where
 d:n.d.OK
 many:3<=n.c.many/\n.c.many<=5
 me:0<=n.c.me/\n.c.me<n.c.many
 log:n.c.st.log.length<=64
 term:0<=n.c.st.term/\n.c.st.term<=1048576
 com:0<=n.c.applied/\n.c.applied<=n.c.commit/\n.c.commit<=n.c.st.log.length
 len:n.c.role=0\/((n.vs.length:Int)=n.c.many/\(n.bn.length:Int)=n.c.many/\(n.nx.length:Int)=n.c.many/\(n.mt.length:Int)=n.c.many)
 rp:(n.rp.length:Int)=n.c.applied
abbrev fr0:State:=State.mk 1 1 0 0 [] [] []
structure UpI (n:Nd) (L:List Record):Prop where
 st:n.c.st=(stepsF sta0 L).1
 bin:1<=n.c.bin/\n.c.bin<=3/\n.c.st.floor=n.c.bin
 role:0<=n.c.role/\n.c.role<=2
 vote:n.c.role≠0->n.c.st.vote=n.c.me+1/\1<=n.c.st.term
 nx:n.c.role=2->∀ i:Nat,(i:Int)<n.c.many->1<=n.nx.getD i 0/\n.nx.getD i 0<=n.c.st.log.length+1
 pl:okPl n.c.bin (n.c.st.log.take n.c.applied.toNat)/\n.c.s=pS n.c.bin fr0 (n.c.st.log.take n.c.applied.toNat)/\n.rp=pR n.c.bin fr0 (n.c.st.log.take n.c.applied.toNat)
structure NInv (n:Nd) (L:List Record):Prop where
 ok:NdOK n
 d:DkI n.d L
 le:∀ r ∈ L,r.kind=3->1<=r.b
 up:n.d.down=false->UpI n L
structure LetI (n:Nd) (x:Letter):Prop where
 up:n.d.down=false
 frm:x.frm=n.c.me
 to:x.to≠n.c.me/\0<=x.to/\x.to<n.c.many
 term:x.term=n.c.st.term
 bin:x.bin=n.c.bin
 ask:x.kind=1->n.c.st.vote=n.c.me+1
 vote:x.kind=2->x.ok=true->n.c.st.vote=x.to+1
 copy:x.kind=3->n.c.role=2
structure StepR (n:Nd) (L:List Record) (n':Nd) (l:List Letter) (L':List Record):Prop where
 inv:NInv n' L'
 pre:L <+: L'
 me:n'.c.me=n.c.me/\n'.c.many=n.c.many
 len:n'.d.b.length<=n.d.b.length+1400
 lets:∀ x ∈ l,LetI n' x
 mono:n.d.down=false->n'.d.down=false->n.c.commit<=n'.c.commit/\n'.c.st.log.take n.c.commit.toNat=n.c.st.log.take n.c.commit.toNat/\n'.c.bin=n.c.bin
variable {n:Nd}
def StepR.refl (h:NInv n L):StepR n L n [] L:=
 ⟨h,List.prefix_refl _,⟨rfl,rfl⟩,aK,fun _ a=>(by cases a),fun _ _=>⟨afz _,rfl,rfl⟩⟩
theorem sm {s:Stable} (h:SaveR d s l L) (c:l.length<=6):(saveF d s l).1.b.length<=d.b.length+1400:=by
 cases a:l.all recOk
 ·have e:saveF d s l=(d,s,1):=by rw [saveF,if_pos a]
  grind
 have:=h.len;have:=si a;omega
def Nh (n:Nd) (l:List Record):(n.save l).c={ n.c with st:=(saveF n.d n.c.st l).2.1 }:=rfl
def Rf (n:Nd) (l:List Record):(n.save l).d=(saveF n.d n.c.st l).1:=rfl
theorem qD {s t:Stable} (a:recOk r=true) (h:di s r=some t) (c:s.log.length<=64) (e:0<=s.term/\s.term<=1048576):t.log.length<=64/\0<=t.term/\t.term<=1048576:=by
 have f:=bM.1 a;unfold di at h;split at h
 ·unfold dD at h;grind
 split at h
 ·unfold eT at h;grind
 split at h
 ·unfold du at h;grind
 unfold fi at h;grind
theorem lR {s:Stable} (h:(aG s r).2=0):recOk r=true/\di s r=some (aG s r).1:=by
 have a:=uE h;unfold aG at h ⊢;grind
theorem ot:∀ {l:List Record} {s:Stable},s.log.length<=64->0<=s.term/\s.term<=1048576->(stepsF s l).1.log.length<=64/\0<=(stepsF s l).1.term/\(stepsF s l).1.term<=1048576
 | [],_,a,c=>⟨a,c⟩
 | r :: l,s,a,c=>by
  rw [stepsF];split
  ·rename_i h;obtain ⟨e,f⟩:=lR h;obtain ⟨g,i⟩:=qD e f a c;exact ot g i
  grind
theorem zk {s:Stable} (h:SaveR d s l L) (c:d.OK):(saveF d s l).1.OK:=by
 by_cases e:(saveF d s l).2.2=0
 ·have a:=(h.ok e).2.1.syn;exact ⟨aK,aK,h.le c.2.2⟩
 rcases (h.no e).2.2 with ⟨a,_⟩ | ⟨_,_,_,_,i,_,a⟩
 ·grind
 have f:=a.syn;exact ⟨aK,aK,h.le c.2.2⟩
theorem lf (h:NInv n L) (q:n.d.down=false) (u:l.length<=6) (B:∀ r ∈ l,r.kind=3->1<=r.b) (v:n.aQ l≠0):∃ w,StepR n L (n.save l) [] w:=by
 have j:=h.up q;have m:=Ey (l:=l) h.d q j.st;have f:=sm m u;have g:=zk m h.ok.d;obtain ⟨s,C,o⟩:=m.no v;have a:(n.save l).c=n.c:=by rw [Nh,s]
 have p:NdOK (n.save l):=⟨g,by rw [a]; exact h.ok.many,by rw [a]; exact h.ok.me,by rw [a]; exact h.ok.log,by rw [a]; exact h.ok.term,by rw [a]; exact h.ok.com,by rw [a]; exact h.ok.len,by rw [a]; exact h.ok.rp⟩;rcases o with ⟨o,_⟩ | ⟨_,_,y,_,i,_,z⟩
 ·have e:n.save l=n:=by
   unfold Nd.save; rw [s,o]
  rw [e]; exact ⟨L,StepR.refl h⟩
 refine ⟨L++l.take i,⟨p,z,fun r hr=>?_,fun g=>?_⟩,Br,by rw [a]; exact ⟨rfl,rfl⟩,f,fun _ A=>(by cases A),fun _ g=>?_⟩
 ·rcases acf.1 hr with hr | hr
  ·exact h.le r hr
  grind
 ·grind
 rw [Rf,y] at g; cases g
structure SaveY (n:Nd) (L l:List Record):Prop where
 d:DkI (n.save l).d (L++l)
 dn:(n.save l).d.down=false
 st:(n.save l).c.st=(stepsF n.c.st l).1
 sts:(n.save l).c.st=(stepsF sta0 (L++l)).1
 le:∀ r ∈ L++l,r.kind=3->1<=r.b
 len:(n.save l).d.b.length<=n.d.b.length+1400
 ok:(n.save l).d.OK
 lt:(n.save l).c.st.log.length<=64/\0<=(n.save l).c.st.term/\(n.save l).c.st.term<=1048576
 no:l=[]->n.save l=n
theorem nZ (h:NInv n L) (i:n.d.down=false) (j:l.length<=6) (u:∀ r ∈ l,r.kind=3->1<=r.b) (m:n.aQ l=0):SaveY n L l:=by
 have a:=h.up i;have f:=Ey (l:=l) h.d i a.st;obtain ⟨o,p,q,v,w,y,z,s⟩:=f.ok m;have g:(n.save l).c.st=(stepsF n.c.st l).1:=q;refine ⟨p,o,g,?_,fun r hr=>?_,sm f j,zk f h.ok.d,?_,fun e=>?_⟩
 ·rw [g,dC h.d.st,a.st]
 ·rcases acf.1 hr with hr | hr
  ·exact h.le r hr
  grind
 ·rw [g]; exact ot h.ok.log h.ok.term
 unfold Nd.save; rw [s e]
theorem Ub {c:Type} {a b:List c} {j:Nat} (h:a.take k=b.take k) (e:j<=k):a.take j=b.take j:=by
 have f:a.take j=(a.take k).take j:=by rw [akT,agq e]
 grind
theorem lJ (h:NInv n L) (f:n.d.down=false) (y:SaveY n L l) (g:n.c.role≠0->(n.save l).c.st.vote=n.c.me+1/\1<=(n.save l).c.st.term) (j:(n.save l).c.st.floor=n.c.st.floor)
  (e:(n.save l).c.st.log.take n.c.commit.toNat=n.c.st.log.take n.c.commit.toNat) (m:n.c.commit<=((n.save l).c.st.log.length:Int)) (v:n.c.role=2->n.c.st.log.length<=(n.save l).c.st.log.length):StepR n L (n.save l) [] (L++l):=by
 have a:=h.up f;have o:(n.save l).c.st.log.take n.c.applied.toNat=n.c.st.log.take n.c.applied.toNat:=Ub e (by have:=h.ok.com; omega);refine ⟨⟨⟨y.ok,h.ok.many,h.ok.me,y.lt.1,y.lt.2,⟨h.ok.com.1,h.ok.com.2.1,m⟩,h.ok.len,h.ok.rp⟩,y.d,y.le,fun _=>⟨y.sts,⟨a.bin.1,a.bin.2.1,j.trans a.bin.2.2⟩,a.role,g,fun p i q=>?_,?_⟩⟩,List.prefix_append _ _,⟨rfl,rfl⟩,y.len,fun _ u=>(by cases u),fun _ _=>⟨afz _,e,rfl⟩⟩
 ·have w:=a.nx p i q;grind
 show okPl n.c.bin ((n.save l).c.st.log.take n.c.applied.toNat)/\n.c.s=pS n.c.bin fr0 ((n.save l).c.st.log.take n.c.applied.toNat)/\n.rp=pR n.c.bin fr0 ((n.save l).c.st.log.take n.c.applied.toNat);rw [o]; exact a.pl
def NInv.follow {n:Nd} {L:List Record} (h:NInv n L):NInv n.follow L:=
 ⟨⟨h.ok.d,h.ok.many,h.ok.me,h.ok.log,h.ok.term,h.ok.com,.inl rfl,h.ok.rp⟩,h.d,h.le,fun e=>by
  have a:=h.up e;exact ⟨a.st,a.bin,⟨afz 0,(by decide:(0:Int)<=2)⟩,fun c=>absurd rfl c,fun c=>absurd (show (0:Int)=2 from c) am,a.pl⟩⟩
variable {n':Nd} {L':List Record}
def StepR.lM {l:List Letter} (h:StepR n.follow L n' l L'):StepR n L n' l L':=⟨h.inv,h.pre,h.me,h.len,h.lets,h.mono⟩
theorem xB {n:NdC} {i:Int} (h:i ∈ cR n):i≠n.me/\0<=i/\i<n.many:=by
 unfold cR jW at h;grind
variable {to:Int}
theorem acQ (h:(jf n to).2=0):(jf n to).1=qi n.c.st ⟨n.c.me,to,n.nx.getD to.toNat 0,n.c.commit,n.c.bin⟩:=by
 unfold jf gu at h ⊢;grind
def Gc (a:n.d.down=false) (f:n.c.role=2) (h:(jf n to).2=0) (g:to≠n.c.me/\0<=to/\to<n.c.many):LetI n (jf n to).1:=by
 rw [acQ h];exact ⟨a,rfl,g,rfl,rfl,fun e=>absurd (show (3:Int)=1 from e) am,fun e=>absurd (show (3:Int)=2 from e) am,fun _=>f⟩
theorem zC {n:Nd}:∀ {l:List Int} {x:Letter},x ∈ (cu n l).1->∃ to ∈ l,(jf n to).2=0/\x=(jf n to).1
 | t :: l,x,h=>by
  unfold cu at h;split at h
  ·rename_i a;split at h
   ·rcases acV.1 h with rfl | h
    ·grind
    obtain ⟨u,c,k⟩:=zC h;grind
   cases h
  cases h
def pw (a:x ∈ (cc n).1):LetI n x:=by
 unfold cc at a;split at a
 ·cases a
 rename_i c;split at a
 ·rename_i e;obtain ⟨to,f,g,rfl⟩:=zC a;exact Gc (by simpa using c) e g (xB f)
 cases a
def StepR.tell {l:List Letter} (h:StepR n L n' [] L') (a:∀ x ∈ l,LetI n' x):StepR n L n' l L':=⟨h.inv,h.pre,h.me,h.len,a,h.mono⟩
def D_ (a:n.d.down=false) (f:n.c.st.vote=n.c.me+1) (g:x ∈ gC n.c):LetI n x:=by
 obtain ⟨to,h,rfl⟩:=akF.1 g;exact ⟨a,rfl,xB h,rfl,rfl,fun _=>f,fun e=>absurd (show (1:Int)=2 from e) am,fun e=>absurd (show (1:Int)=3 from e) am⟩
def Rl {s:Stable} {m:Int} (h:(aV s m).2=0) (e:0<=m) (f:0<=s.term):aV s m=([⟨2,s.term+1,m+1,[]⟩],0)/\stepsF s [⟨2,s.term+1,m+1,[]⟩]=({ s with term:=s.term+1,vote:=m+1 },0):=by
 unfold aV at h ⊢;split at h
 ·cases h
 rename_i a;split at h
 ·cases h
 rename_i c;rw [if_neg a,if_neg c];exact ⟨rfl,xW aK aK aK aK (.inl aK)⟩
variable {k:Int}
def acg {a b:Int} (c:k≠3):∀ r ∈ [Record.mk k a b []],r.kind=3->1<=r.b:=fun r f e=>by
 rw [acM.1 f] at e; exact absurd e c
def It (h:NInv n L):∃ L',StepR n L (bq n).n (bq n).l L':=by
 unfold bq;split
 ·exact ⟨L,.refl h⟩
 rename_i j;have f:n.d.down=false:=by simpa using j
 split
 ·exact ⟨L,.refl h⟩
 rename_i i;split
 ·exact ⟨L,.refl h⟩
 rename_i m;obtain ⟨o,p⟩:=Rl (acY.1 m) h.ok.me.1 h.ok.term.1;rw [o];dsimp only;split
 ·rename_i g;exact lf h f aa (acg am) g
 rename_i g;have y:=nZ h f aa (acg am) (acY.1 g);have e:=h.up f;have a:=y.st;rw [p] at a;generalize v:[Record.mk 2 (n.c.st.term+1) (n.c.me+1) []]=l at *;have w:=h.ok.me;have q:=h.ok.many;refine ⟨L++l,⟨⟨⟨y.ok,h.ok.many,h.ok.me,y.lt.1,y.lt.2,?_,?_,h.ok.rp⟩,y.d,y.le,fun _=>⟨y.sts,⟨e.bin.1,e.bin.2.1,?_⟩,⟨(by decide:(0:Int)<=1),(by decide:(1:Int)<=2)⟩,fun _=>?_,fun i=>absurd (show (1:Int)=2 from i) am,?_⟩⟩,List.prefix_append _ _,⟨rfl,rfl⟩,y.len,fun x u=>D_ y.dn ?_ u,fun _ _=>⟨afz _,?_,rfl⟩⟩⟩
 ·show 0<=n.c.applied/\n.c.applied<=n.c.commit/\n.c.commit<=((n.save l).c.st.log.length:Int);rw [a]; exact h.ok.com
 ·refine .inr ⟨?_,?_,?_,?_⟩
  ·show ((((List.replicate n.c.many.toNat false).set n.c.me.toNat true).length:Nat):Int)=n.c.many;rw [agi,agt]; omega
  ·show ((((List.replicate n.c.many.toNat (0:Int)).set n.c.me.toNat n.c.bin).length:Nat):Int)=n.c.many;rw [agi,agt]; omega
  ·show (((List.replicate n.c.many.toNat (0:Int)).length:Nat):Int)=n.c.many;rw [agt]; omega
  show (((List.replicate n.c.many.toNat (0:Int)).length:Nat):Int)=n.c.many;rw [agt]; omega
 ·show (n.save l).c.st.floor=n.c.bin;rw [a]; exact e.bin.2.2
 ·show (n.save l).c.st.vote=n.c.me+1/\1<=(n.save l).c.st.term;rw [a]; exact ⟨rfl,by have:=h.ok.term.1; dsimp only; omega⟩
 ·show okPl n.c.bin ((n.save l).c.st.log.take n.c.applied.toNat)/\n.c.s=pS n.c.bin fr0 ((n.save l).c.st.log.take n.c.applied.toNat)/\n.rp=pR n.c.bin fr0 ((n.save l).c.st.log.take n.c.applied.toNat);rw [a]; exact e.pl
 ·show (n.save l).c.st.vote=n.c.me+1;rw [a]
 show (n.save l).c.st.log.take n.c.commit.toNat=_;rw [a]
theorem zP:∀ {k:Nat} {n:Nd} {L:List Record},NInv n L->n.d.down=false->NInv (n.dw k) L/\(n.dw k).d=n.d/\(n.dw k).c={ n.c with s:=(n.dw k).c.s,applied:=(n.dw k).c.applied }/\(n.dw k).vs=n.vs/\(n.dw k).bn=n.bn/\(n.dw k).nx=n.nx/\(n.dw k).mt=n.mt
 | 0,n,L,h,_=>⟨h,rfl,rfl,rfl,rfl,rfl,rfl⟩
 | k+1,n,L,h,o=>by
  unfold Nd.dw;split
  ·rename_i J;split
   ·rename_i f;have a:=h.up o;have q:=h.ok.com;obtain ⟨x,g⟩:∃ x,n.c.st.log[n.c.applied.toNat]? = some x:=⟨_,List.getElem?_eq_getElem aK⟩;have e:(n.c.st.log.drop n.c.applied.toNat).take 1=[x]:=by
     obtain ⟨i,j⟩:=aar.1 g;rw [agp i,j]; rfl
    rw [e] at f ⊢;have m:(bf x n.c.bin).e=0:=by
     unfold pE at f;split at f
     ·assumption
     exact f
    have u:plS n.c.bin n.c.s [x]=h_ n.c.bin n.c.s x:=by
     unfold plS pN pN;rw [if_pos m]; rfl
    have v:plR n.c.bin n.c.s [x]=[nu n.c.bin n.c.s x]:=by
     unfold plR pN pN;rw [if_pos m]; rfl
    have w:(n.c.applied+1).toNat=n.c.applied.toNat+1:=by omega
    obtain ⟨y,p,z⟩:=a.pl;rw [u,v];have A:NInv { n with c:={ n.c with s:=h_ n.c.bin n.c.s x,applied:=n.c.applied+1 },rp:=n.rp++[nu n.c.bin n.c.s x] } L:=by
     refine ⟨⟨h.ok.d,h.ok.many,h.ok.me,h.ok.log,h.ok.term,⟨by dsimp only; omega,by dsimp only; omega,q.2.2⟩,h.ok.len,?_⟩,h.d,h.le,fun _=>⟨a.st,a.bin,a.role,a.vote,a.nx,?_⟩⟩
     ·dsimp only;rw [List.length_append,aka];have:=h.ok.rp; omega
     dsimp only;rw [w];refine ⟨HA y g m,?_,?_⟩
     ·rw [p]; exact YB g
     rw [z,p]; exact Xo g
    obtain ⟨B,C,D,F,G,H,I⟩:=zP (k:=k) A o;exact ⟨B,C,D,F,G,H,I⟩
   grind
  grind
theorem kB {s:Stable}:∀ r ∈ aB s t,r.kind=3->1<=r.b:=fun r a e=>by
 unfold aB at a;grind
def gk {s:Stable}:(aB s t).length<=1:=by
 unfold aB;split <;> simp
theorem qa (h:mayL x=0):x.frm≠x.to:=by
 unfold mayL at h;split at h
 ·rename_i a;simp only [oF] at a;grind
 cases h
structure ForMe (n:Nd) (x:Letter):Prop where
 may:mayL x=0
 to:x.to=n.c.me
 frm:x.frm<n.c.many
theorem xM (h:dr n.c x=true):ForMe n x/\(x.kind=3->(aE n.c.st x).2.2.2=0/\(aE n.c.st x).1.any (fun r=>decide (r.kind=4) && decide (r.a<=n.c.commit))=false):=by
 unfold dr at h;split at h
 ·cases h
 rename_i e;refine ⟨⟨aK,aK,aK⟩,fun f=>?_⟩;grind
theorem acx {s:Stable} (h:(aO s x).2.2=0) (i:mayL x=0):(aO s x).1.length<=1/\(∀ r ∈ (aO s x).1,r.kind=3->1<=r.b) /\
  (stepsF s (aO s x).1)=({ s with term:=max s.term x.term,vote:=if (aO s x).2.1=true then x.frm+1 else if s.term<x.term then 0 else s.vote },0) /\
  ((aO s x).2.1=true->s.term<=x.term/\(x.term=s.term->s.vote=0\/s.vote=x.frm+1))/\(x.term<=s.term->(aO s x).2.1=false->(aO s x).1=[])/\(x.term<=s.term->s.vote≠0->(aO s x).1=[]):=by
 have o:=fP i;unfold aO at h ⊢;split at h
 ·cases h
 rename_i j;rw [if_neg j];split at h
 ·rename_i a;rw [if_pos a];have:=(oq (s:=s) (t:=x.term) aK aK).1;refine ⟨gk,kB,?_,fun e=>(by cases e),fun e _=>(by unfold aB; rw [if_pos e]),fun e _=>(by unfold aB; rw [if_pos e])⟩;dsimp only;rw [this]; simp
 rename_i a;rw [if_neg a];have c:s.term<=x.term/\EK s x=true:=by
  rw [not_or,not_or] at a;exact ⟨aK,by simpa using a.1.2⟩
 have f:x.term=s.term->s.vote=0\/s.vote=x.frm+1:=fun e=>by
  have:=c.2;simp only [EK,Bool.or_eq_true,decide_eq_true_eq] at this;omega
 split
 ·rename_i g;refine ⟨aa,fun _ m=>(by cases m),?_,fun _=>⟨c.1,f⟩,fun _ _=>rfl,fun _ _=>rfl⟩;dsimp only;rw [stepsF,if_pos rfl,show max s.term x.term=s.term by omega,<- g.2]
 rename_i g;refine ⟨aa,acg am,?_,fun _=>⟨c.1,f⟩,fun _ e=>(by cases e),fun p q=>?_⟩
 ·dsimp only;rw [xW aK aK aK aK aK,if_pos rfl,show max s.term x.term=x.term by omega]
 grind
theorem GY (h:NInv n L) (i:n.d.down=false) (a:ForMe n x) (o:n.c.role≠0->x.term<=n.c.st.term):∃ L',StepR n L (cS n x).n (cS n x).l L':=by
 unfold cS;split
 ·exact ⟨L,.refl h⟩
 rename_i p;obtain ⟨B,m,q,C,D,s⟩:=acx (acY.1 p) a.may;split
 ·rename_i j;exact lf h i aK m j
 rename_i j;have y:=nZ h i aK m (acY.1 j);have f:=y.st;rw [q] at f;have u:=h.up i;refine ⟨_,(lJ h i y (fun g=>?_) (by rw [f]) (by rw [f]) (by rw [f]; exact h.ok.com.2.2) (fun _=>by rw [f]; exact Nat.le_refl _)).tell fun z v=>?_⟩
 ·have F:=u.vote g;have e:=y.no (s (o g) (by have:=h.ok.me; omega));grind
 rw [acM.1 v];have w:=fP a.may;have A:=qa a.may;refine ⟨y.dn,rfl,⟨by have:=a.to; show x.frm≠n.c.me; omega,w.1,a.frm⟩,rfl,rfl,fun e=>absurd (show (2:Int)=1 from e) am,fun _ e=>?_,fun e=>absurd (show (2:Int)=3 from e) am⟩;have e:(aO n.c.st x).2.1=true:=e;show (n.save (aO n.c.st x).1).c.st.vote=x.frm+1;grind
theorem Fv:∀ {m:List Entry} {k:Int},m.all eP=true->∀ r ∈ fb k m,r.kind=3->1<=r.b
 | y :: m,k,h,r,hr,e=>by
  rw [ahp,Bool.and_eq_true,wi] at h;rcases acV.1 hr with rfl | hr
  ·exact h.1.1
  exact Fv h.2 r hr e
theorem gg {s:Stable} (h:(aE s x).2.2.2=0):(mayL x=0/\x.kind=3/\x.a+x.l.length<=64)/\((x.term<s.term/\aE s x=([],false,0,0))\/(s.term<=x.term/\cV s.log x.a=x.b/\aE s x=(jj s x,true,x.a+x.l.length,0))\/(s.term<=x.term/\¬ cV s.log x.a=x.b/\aE s x=(aB s x.term,false,0,0))):=by
 unfold aE at h ⊢;split at h
 ·cases h
 grind
theorem wu {s:Stable} (h:mayL x=0):(jj s x).length<=6:=by
 have e:=fP h;have f:=gk (s:=s) (t:=x.term);have g:∀ (m:List Entry) (k:Int),(fb k m).length=m.length:=fun m=>by
  induction m with
  | nil=>intro _; rfl
  | cons y m c=>intro k; rw [fb,List.length_cons,List.length_cons,c]
 have i:(bh s.log x.a x.l).2.length<=x.l.length:=by
  unfold bh;grind
 unfold jj;grind
theorem UP {s:Stable} (h:mayL x=0):∀ r ∈ jj s x,r.kind=3->1<=r.b:=fun r hr e=>by
 rcases acf.1 hr with hr | hr
 ·rcases acf.1 hr with hr | hr
  ·exact kB r hr e
  grind
 refine Fv ?_ r hr e;have:=Bc h;unfold bh;grind
theorem yh {s:Stable} (c:mayL x=0) (q:x.a.toNat<=s.log.length) (f:(jj s x).any (fun r=>decide (r.kind=4) && decide (r.a<=k))=false) (u:0<=k) (v:k<=s.log.length):(dR s x).take k.toNat=s.log.take k.toNat/\k<=((dR s x).length:Int):=by
 have w:=fP c;have g:=nW (h:=s.log.drop x.a.toNat) (a:=x.l);rw [List.length_drop] at g;unfold dR;split
 ·grind
 rename_i i;have h2:k.toNat<=x.a.toNat+fj s x\/s.log.length<=x.a.toNat+fj s x:=by
  by_cases j:(s.log.drop x.a.toNat).length<=fj s x
  ·grind
  left;have e:bh s.log x.a x.l=(x.a+fj s x+1,x.l.drop (fj s x)):=by rw [bh,if_neg aK]; exact (if_neg i).trans (if_neg j)
  have m:Record.mk 4 (x.a+fj s x+1) 0 [] ∈ jj s x:=by
   unfold jj;rw [e];dsimp only;rw [if_neg aK];simp
  have o:=List.any_eq_false.1 f _ m;simp only [decide_true,Bool.true_and,decide_eq_true_eq] at o;omega
 have p:k.toNat<=(s.log.take (x.a.toNat+fj s x)).length:=by rw [List.length_take]; omega
 refine ⟨?_,by rw [List.length_append]; omega⟩;rw [agr p,akT];rcases h2 with h2 | h2
 ·grind
 grind
theorem xZ {s:Stable} (h:(saveF d s l).2.2=0):(saveF d s l).2.1=(stepsF s l).1/\(stepsF s l).2=0:=by
 unfold saveF at h ⊢;split at h
 ·cases h
 rename_i e;split at h
 ·grind
 rename_i a;have a:=acY.1 a;split at h
 ·rename_i c;obtain rfl:=abL c;exact ⟨rfl,rfl⟩
 grind
def sW (h:NdOK n) (q:dr n.c x=true) (s:x.kind=3) (g:(aE n.c.st x).2.1=true) :
  (aE n.c.st x)=(jj n.c.st x,true,x.a+x.l.length,0)/\n.c.st.term<=x.term/\(stepsF n.c.st (jj n.c.st x))=({ n.c.st with term:=x.term,vote:=if n.c.st.term<x.term then 0 else n.c.st.vote,log:=dR n.c.st x },0) /\
  (dR n.c.st x).take n.c.commit.toNat=n.c.st.log.take n.c.commit.toNat/\n.c.commit<=((dR n.c.st x).length:Int)/\x.a+x.l.length<=((dR n.c.st x).length:Int)/\mayL x=0/\cV n.c.st.log x.a=x.b:=by
 obtain ⟨f,u⟩:=xM q;obtain ⟨v,m⟩:=u s;have B:=fP f.may;obtain ⟨⟨_,_,i⟩,w⟩:=gg v;rcases w with ⟨_,e⟩ | ⟨o,j,e⟩ | ⟨_,_,e⟩
 ·rw [e] at g; cases g
 ·rw [e] at m;have y:=(TT f.may h.log i o j aK aK aK).1;have p:=zw j (Pe f.may) aK;obtain ⟨z,A⟩:=yh f.may p m (by have:=h.com; omega) h.com.2.2;have C:=AW (x:=x) p;exact ⟨e,o,y,z,A,aK,f.may,j⟩
 rw [e] at g; cases g
def Hq (f:NdOK n) (h:dr n.c x=true) (i:x.kind=3) (j:n.aQ (aE n.c.st x).1=0) (m:(aE n.c.st x).2.1=true) :
  (0<=(n.save (aE n.c.st x).1).c.applied/\max (n.save (aE n.c.st x).1).c.commit (min x.c (aE n.c.st x).2.2.1)<=((n.save (aE n.c.st x).1).c.st.log.length:Int))/\((n.save (aE n.c.st x).1).rp.length:Int)<=(n.save (aE n.c.st x).1).c.applied/\(n.save (aE n.c.st x).1).c.st.log.length<=10000:=by
 obtain ⟨e,v,o,w,y,z,_⟩:=sW f h i m;have g:(n.save (aE n.c.st x).1).c.st=(stepsF n.c.st (aE n.c.st x).1).1:=(xZ j).1;have p:=ot (l:=(aE n.c.st x).1) f.log f.term;rw [<- g] at p;have q:(n.save (aE n.c.st x).1).c.st.log=dR n.c.st x:=by
  rw [g,e];dsimp only;rw [o]
 have s:=f.com;have A:=f.rp;have u:(aE n.c.st x).2.2.1=x.a+x.l.length:=by rw [e]
 refine ⟨⟨s.1,?_⟩,?_,aK⟩
 ·show max n.c.commit (min x.c (aE n.c.st x).2.2.1)<=_;rw [q,u]; omega
 show ((n.rp.length:Nat):Int)<=n.c.applied;omega
theorem StepR.commit {n n':Nd} {L L':List Record} {c:Int} (h:StepR n L n' [] L') (g:n'.d.down=false) (i:n'.c.commit<=c) (s:c<=(n'.c.st.log.length:Int)):StepR n L ({ n' with c:={ n'.c with commit:=c } }:Nd).apply [] L' /\
  (({ n' with c:={ n'.c with commit:=c } }:Nd).apply.d=n'.d/\({ n' with c:={ n'.c with commit:=c } }:Nd).apply.c.me=n'.c.me/\({ n' with c:={ n'.c with commit:=c } }:Nd).apply.c.many=n'.c.many/\({ n' with c:={ n'.c with commit:=c } }:Nd).apply.c.st=n'.c.st/\({ n' with c:={ n'.c with commit:=c } }:Nd).apply.c.bin=n'.c.bin/\({ n' with c:={ n'.c with commit:=c } }:Nd).apply.c.role=n'.c.role):=by
 have e:=h.inv.up g;have a:=h.inv.ok;have u:NInv ({ n' with c:={ n'.c with commit:=c } }:Nd) L':=⟨⟨a.d,a.many,a.me,a.log,a.term,⟨a.com.1,ah6 a.com.2.1 i,s⟩,a.len,a.rp⟩,h.inv.d,h.inv.le,fun _=>⟨e.st,e.bin,e.role,e.vote,e.nx,e.pl⟩⟩;obtain ⟨v,j,w,H,I,J,K⟩:=zP (k:=(c - n'.c.applied).toNat) u g;have y:({ n' with c:={ n'.c with commit:=c } }:Nd).apply=({ n' with c:={ n'.c with commit:=c } }:Nd).dw (c - n'.c.applied).toNat:=rfl;rw [y];generalize ({ n' with c:={ n'.c with commit:=c } }:Nd).dw (c - n'.c.applied).toNat=q at *;have f:q.c.me=n'.c.me/\q.c.many=n'.c.many/\q.c.st=n'.c.st/\q.c.bin=n'.c.bin/\q.c.role=n'.c.role/\q.c.commit=c:=by rw [w]; exact ⟨rfl,rfl,rfl,rfl,rfl,rfl⟩
 obtain ⟨f,m,o,p,z,A⟩:=f;refine ⟨⟨v,h.pre,by rw [f,m]; exact h.me,by rw [j]; exact h.len,fun _ B=>(by cases B),fun C N=>?_⟩,j,f,m,o,p,z⟩;obtain ⟨D,F,G⟩:=h.mono C g;rw [o,p,A];exact ⟨ah6 D i,F,G⟩
def zY (h:NInv n L) (G:n.d.down=false) (N:dr n.c x=true) (O:x.kind=3):∃ L',StepR n L (bZ n x).n (bZ n x).l L':=by
 obtain ⟨o,T⟩:=xM N;obtain ⟨H,h4⟩:=T O;have hb:=fP o.may;have U:=qa o.may;have hi:=h.up G;have I:x.frm≠n.c.me/\0<=x.frm/\x.frm<n.c.many:=⟨by have:=o.to; omega,aK,o.frm⟩;have f:(aE n.c.st x).1.length<=6:=by
  rcases (gg H).2 with ⟨_,e⟩ | ⟨_,_,e⟩ | ⟨_,_,e⟩ <;> rw [e]
  ·simp
  ·exact wu o.may
  have:=gk (s:=n.c.st) (t:=x.term); dsimp only; omega
 have u:∀ r ∈ (aE n.c.st x).1,r.kind=3->1<=r.b:=by
  rcases (gg H).2 with ⟨_,e⟩ | ⟨_,_,e⟩ | ⟨_,_,e⟩ <;> rw [e]
  ·intro r V; cases V
  ·exact UP o.may
  exact kB
 unfold bZ;rw [if_neg aK];split
 ·rename_i v;exact lf h G f u v
 rename_i v;have v:=acY.1 v;have y:=nZ h G f u v;generalize P:(aE n.c.st x).1=l at *;have J:((n.save l).c.st.floor=n.c.st.floor)/\(n.save l).c.st.term=max n.c.st.term x.term/\(n.save l).c.st.vote=(if n.c.st.term<x.term then 0 else n.c.st.vote)/\(n.save l).c.st.log.take n.c.commit.toNat=n.c.st.log.take n.c.commit.toNat/\n.c.commit<=((n.save l).c.st.log.length:Int)/\((aE n.c.st x).2.1=true->n.c.st.term<=x.term/\(aE n.c.st x).2.2.1<=((n.save l).c.st.log.length:Int))/\((aE n.c.st x).2.1=false->(n.save l).c.st.log=n.c.st.log):=by
  have a:=y.st;rw [<- P] at a ⊢;rcases (gg H).2 with ⟨p,e⟩ | ⟨e0,_,e⟩ | ⟨_,_,e⟩
  ·rw [e] at a ⊢;rw [a];exact ⟨rfl,by show n.c.st.term=_; omega,by rw [if_neg aK]; rfl,rfl,h.ok.com.2.2,fun q=>(by cases q),fun _=>rfl⟩
  ·have w:(aE n.c.st x).2.1=true:=by rw [e]
   obtain ⟨_,p,g,A,B,C,_⟩:=sW h.ok N O w;rw [e] at a ⊢;dsimp only at a ⊢;rw [a,g];exact ⟨rfl,by dsimp only; omega,rfl,A,B,fun _=>⟨p,C⟩,fun q=>(by cases q)⟩
  have g:=(oq (s:=n.c.st) (t:=x.term) aK aK).1;rw [e] at a ⊢;dsimp only at a ⊢;rw [a,g];exact ⟨rfl,rfl,rfl,rfl,h.ok.com.2.2,fun q=>(by cases q),fun _=>rfl⟩
 obtain ⟨W,s2,s3,X,Y,Z,s7⟩:=J;dsimp only;have i:∀ {m:Nd} {z:Letter},m.d=(n.save l).d->m.c.me=n.c.me->m.c.many=n.c.many->m.c.st=(n.save l).c.st->m.c.bin=n.c.bin->z.kind=4->z.frm=n.c.me->z.to=x.frm->z.term=(n.save l).c.st.term->z.bin=n.c.bin->LetI m z:=fun {m z} p g A B C D K k k4 k5=>
  ⟨by rw [p]; exact y.dn,by rw [g,K],by rw [g,A,k]; exact I,by rw [B,k4],by rw [C,k5],fun e=>absurd (D.symm.trans e) am,fun e=>absurd (D.symm.trans e) am,fun e=>absurd (D.symm.trans e) am⟩
 by_cases Q:x.term=(n.save l).c.st.term
 ·rw [if_pos Q];have S:StepR n L (n.save l).follow [] (L++l):=(lJ h.follow G ⟨y.d,y.dn,y.st,y.sts,y.le,y.len,y.ok,y.lt,fun e=>congrArg Nd.follow (y.no e)⟩ (fun j=>absurd rfl j) W X Y (fun j=>absurd (show (0:Int)=2 from j) am)).lM;by_cases w:(aE n.c.st x).2.1=true
  ·rw [if_pos w];have h6:=(Z w).2;obtain ⟨D,K⟩:=S.commit y.dn (c:=max n.c.commit (min x.c (aE n.c.st x).2.2.1)) (by show n.c.commit<=_; omega) (by show _<=((n.save l).c.st.log.length:Int); omega);obtain ⟨p,g,A,B,C,e6⟩:=K;refine ⟨L++l,D.tell fun z F=>?_⟩;rw [acM.1 F];exact i p g A B C rfl rfl rfl rfl rfl
  rw [if_neg w];refine ⟨L++l,S.tell fun z F=>?_⟩;rw [acM.1 F];exact i rfl rfl rfl rfl rfl rfl rfl rfl rfl rfl
 rw [if_neg Q];have h0:x.term<n.c.st.term:=by omega
 have e:aE n.c.st x=([],false,0,0):=by
  rcases (gg H).2 with ⟨_,e⟩ | ⟨_,_,_⟩ | ⟨_,_,_⟩
  ·exact e
  ·omega
  omega
 have el:l=[]:=by rw [<- P,e]
 rw [e];dsimp only;rw [if_neg am];have r:StepR n L (n.save l) [] L:=by rw [y.no el]; exact StepR.refl h
 refine ⟨L,r.tell fun z F=>?_⟩;rw [acM.1 F];exact i rfl rfl rfl rfl rfl rfl rfl rfl rfl rfl
theorem CA:∀ {n:Nat} {s:Stable} {b:List UInt8},s.log.length<=64->0<=s.term/\s.term<=1048576->((playB n s b).1.log.length<=64/\0<=(playB n s b).1.term/\(playB n s b).1.term<=1048576)/\0<=(playB n s b).2/\(playB n s b).2<=(b.length:Int)
 | 0,_,_,h,k=>⟨⟨h,k⟩,afz _,Int.natCast_nonneg _⟩
 | n+1,s,b,h,k=>by
  unfold playB;split
  ·grind
  rename_i a;split
  ·grind
  split
  ·grind
  rename_i c;have j:=de (acY.1 a);obtain ⟨e,f⟩:=lR (acY.1 c);obtain ⟨g,i⟩:=qD e f h k;obtain ⟨m,o,p⟩:=CA (n:=n) (b:=b.drop (az b).2.1.toNat) g i;grind
def mZ (b:List UInt8):((replayF b).1.log.length<=64/\0<=(replayF b).1.term/\(replayF b).1.term<=1048576)/\0<=(replayF b).2/\(replayF b).2<=(b.length:Int):=
 CA aa ⟨am,am⟩
def YQ (h:d.OK):d.up.OK:=h
def abZ (h:d.OK) (a:d.down=false) (c:0<=k) (g:k<=(d.b.length:Int)):(d.cut k).OK/\d.kM k=0/\d.cut k=⟨d.b.take k.toNat,k,false,d.doomed,d.keep⟩:=by
 have f:¬ (d.down=true\/k<0\/(d.b.length:Int)<k):=by rw [a]; rintro (h | h | h) <;> first | cases h | omega
 have e:d.cut k=⟨d.b.take k.toNat,k,false,d.doomed,d.keep⟩:=by rw [Dsk.cut,if_neg f,a]
 refine ⟨?_,?_,e⟩
 ·rw [e];refine ⟨c,?_,?_⟩ <;> dsimp only <;> rw [List.length_take]
  ·omega
  have:=h.2.2; omega
 rw [Dsk.kM,if_neg (by rw [a]; decide),if_neg aK]
theorem uk (h:d.OK):(d.cM k).OK:=by
 obtain ⟨a,c,e⟩:=h;refine ⟨?_,?_,?_⟩ <;> simp only [Dsk.cM,Dsk.at_]
 ·omega
 ·grind
 rw [List.length_take]; omega
def TE (h:d.OK):d.sync.OK:=by
 unfold Dsk.sync;split
 ·exact h
 split
 ·exact uk h
 exact ⟨Int.natCast_nonneg _,afz _,h.2.2⟩
def afR {x:List UInt8} (h:d.OK):(d.app x).OK:=by
 obtain ⟨a,c,e⟩:=h;unfold Dsk.app;split
 ·exact ⟨a,c,e⟩
 refine ⟨a,?_,?_⟩ <;> dsimp only <;> rw [List.length_append] <;> omega
def rz {s:Stable} (h:d.OK):(saveF d s l).1.OK:=by
 unfold saveF;repeat' split
 all_goals first | exact h | exact TE (afR h)
abbrev Nd.fr (n:Nd) (b:Int):Nd:=⟨⟨n.c.me,n.c.many,b,(replayF n.d.b).1,0,0,0,State.mk 1 1 0 0 [] [] []⟩,(if n.d.down=true then n.d.up else n.d).cut (replayF n.d.b).2,[],[],[],[],[]⟩
section
variable {n:Nd} {b:Int}
def afU (h:n.d.down=false):aY n b=⟨n,[],31⟩:=if_pos h
variable (h:n.d.down=true)
include h
def Ri:n.fresh b=n.fr b:=by
 rw [Nd.fresh,Nd.fr,if_pos h]
def Zp (a:¬ b_ b (max (replayF n.d.b).1.floor 1)=0):aY n b=⟨n,[],b_ b (max (replayF n.d.b).1.floor 1)⟩:=by rw [aY,if_neg (by rw [h]; decide),if_pos a]
def xk (a:n.d.OK):((if n.d.down=true then n.d.up else n.d).cut (replayF n.d.b).2).OK/\(if n.d.down=true then n.d.up else n.d).kM (replayF n.d.b).2=0/\(if n.d.down=true then n.d.up else n.d).cut (replayF n.d.b).2=⟨n.d.b.take (replayF n.d.b).2.toNat,(replayF n.d.b).2,false,false,0⟩:=by
 rw [if_pos h];have:=mZ n.d.b;exact abZ (d:=n.d.up) (YQ a) rfl this.2.1 this.2.2
variable (h1:b_ b (max (replayF n.d.b).1.floor 1)=0)
include h1
theorem acn (a:(replayF n.d.b).1.floor<b) (c:(n.fr b).aQ [⟨1,b,0,[]⟩]=0):aY n b=⟨(n.fr b).save [⟨1,b,0,[]⟩],[],0⟩:=by
 rw [aY,if_neg (by rw [h]; decide),if_neg aK,Ri h];grind
theorem aaH (a:(replayF n.d.b).1.floor<b) (c:¬ (n.fr b).aQ [⟨1,b,0,[]⟩]=0):aY n b=⟨{ (n.fr b).save [⟨1,b,0,[]⟩] with d:=((n.fr b).save [⟨1,b,0,[]⟩]).d.cM 0 },[],(n.fr b).aQ [⟨1,b,0,[]⟩]⟩:=by
 rw [aY,if_neg (by rw [h]; decide),if_neg aK,Ri h];grind
theorem abQ (a:b<=(replayF n.d.b).1.floor):aY n b=⟨n.fr b,[],0⟩:=by
 rw [aY,if_neg (by rw [h]; decide),if_neg aK,Ri h];grind
def ajC:(aY n b).n.rp=[]/\(aY n b).n.vs=[]/\(aY n b).n.bn=[]/\(aY n b).n.nx=[]/\(aY n b).n.mt=[]:=by
 by_cases a:(replayF n.d.b).1.floor<b
 ·by_cases c:(n.fr b).aQ [⟨1,b,0,[]⟩]=0
  ·rw [acn h h1 a c]; exact ⟨rfl,rfl,rfl,rfl,rfl⟩
  rw [aaH h h1 a c]; exact ⟨rfl,rfl,rfl,rfl,rfl⟩
 rw [abQ h h1 aK]; exact ⟨rfl,rfl,rfl,rfl,rfl⟩
end
end Go.Proofs.YticbaadnibdbkaaGreat
namespace Go.Proofs.YticbaadnibdbkaaGreat
open Go.Shelf Go.Proofs
def uZ:Go.Shelf.Ren:=⟨fun | 125=>283 | 128=>326 | 129=>327 | n=>n,fun | 46=>192 | 3=>3 | 51=>193 | 53=>173 | 4=>4 | 5=>5 | 9=>9 | n=>n,fun | n=>n⟩
def JI:Lays.n125 Tryz.prog uZ:={
 mixed:=bN
 f125:=Tryz.func283.trans (congrArg some bN)
 f128:=Tryz.func326.trans (congrArg some bN)
 f129:=Tryz.func327.trans (congrArg some bN)
 t3:=Tryz.underlying3
 a3:=Tryz.isAgg3
 z3:=Tryz.sizeOf3
 v3:=Tryz.zeroValue3
 t4:=Tryz.underlying4
 a4:=Tryz.isAgg4
 z4:=Tryz.sizeOf4
 v4:=Tryz.zeroValue4
 t5:=Tryz.underlying5
 a5:=Tryz.isAgg5
 z5:=Tryz.sizeOf5
 v5:=Tryz.zeroValue5
 t9:=Tryz.underlying9
 a9:=Tryz.isAgg9
 z9:=Tryz.sizeOf9
 v9:=Tryz.zeroValue9
 t46:=Tryz.underlying192
 a46:=Tryz.isAgg192
 z46:=Tryz.sizeOf192
 v46:=Tryz.zeroValue192
 t51:=Tryz.underlying193
 a51:=Tryz.isAgg193
 z51:=Tryz.sizeOf193
 v51:=Tryz.zeroValue193
 t53:=Tryz.underlying173
 a53:=Tryz.isAgg173
 z53:=Tryz.sizeOf173
 v53:=Tryz.zeroValue173 }
def iw:Go.Shelf.Ren:=⟨fun | 6=>265 | 15=>283 | 14=>282 | 28=>326 | 29=>327 | 20=>318 | 21=>319 | 22=>320 | 23=>321 | 24=>322 | 25=>323 | 26=>324 | 27=>325 | 46=>350 | 47=>351 | 48=>352 | 49=>353 | 50=>354 | 57=>364 | n=>n,fun | 22=>33 | 24=>3 | 25=>217 | 3=>3 | 39=>192 | 0=>0 | 53=>193 | 55=>173 | 4=>4 | 46=>318 | 45=>317 | 50=>322 | 5=>5 | 9=>9 | 66=>340 | 70=>344 | 76=>353 | 77=>112 | n=>n,fun | n=>n⟩
def tz:Go.Proofs.SlLaysF.n6 Tryz.prog iw:={
 mixed:=bN
 f6:=⟨Tryz.f265.name,am,Tryz.func265.trans (congrArg some bN)⟩
 f14:=⟨Tryz.f282.name,am,Tryz.func282.trans (congrArg some bN)⟩
 f15:=Tryz.func283.trans (congrArg some bN)
 f20:=⟨Tryz.f318.name,am,Tryz.func318.trans (congrArg some bN)⟩
 f21:=⟨Tryz.f319.name,am,Tryz.func319.trans (congrArg some bN)⟩
 f22:=⟨Tryz.f320.name,am,Tryz.func320.trans (congrArg some bN)⟩
 f23:=⟨Tryz.f321.name,am,Tryz.func321.trans (congrArg some bN)⟩
 f24:=⟨Tryz.f322.name,am,Tryz.func322.trans (congrArg some bN)⟩
 f25:=⟨Tryz.f323.name,am,Tryz.func323.trans (congrArg some bN)⟩
 f26:=⟨Tryz.f324.name,am,Tryz.func324.trans (congrArg some bN)⟩
 f27:=⟨Tryz.f325.name,am,Tryz.func325.trans (congrArg some bN)⟩
 f28:=Tryz.func326.trans (congrArg some bN)
 f29:=Tryz.func327.trans (congrArg some bN)
 f46:=⟨Tryz.f350.name,am,Tryz.func350.trans (congrArg some bN)⟩
 f47:=Tryz.func351.trans (congrArg some bN)
 f48:=Tryz.func352.trans (congrArg some bN)
 f49:=⟨Tryz.f353.name,am,Tryz.func353.trans (congrArg some bN)⟩
 f50:=⟨Tryz.f354.name,am,Tryz.func354.trans (congrArg some bN)⟩
 f57:=⟨Tryz.f364.name,am,Tryz.func364.trans (congrArg some bN)⟩
 t0:=Tryz.underlying0
 a0:=Tryz.isAgg0
 z0:=Tryz.sizeOf0
 v0:=Tryz.zeroValue0
 t3:=Tryz.underlying3
 a3:=Tryz.isAgg3
 z3:=Tryz.sizeOf3
 v3:=Tryz.zeroValue3
 t4:=Tryz.underlying4
 a4:=Tryz.isAgg4
 z4:=Tryz.sizeOf4
 v4:=Tryz.zeroValue4
 t5:=Tryz.underlying5
 a5:=Tryz.isAgg5
 z5:=Tryz.sizeOf5
 v5:=Tryz.zeroValue5
 t9:=Tryz.underlying9
 a9:=Tryz.isAgg9
 z9:=Tryz.sizeOf9
 v9:=Tryz.zeroValue9
 t22:=Tryz.underlying33
 a22:=Tryz.isAgg33
 z22:=Tryz.sizeOf33
 v22:=Tryz.zeroValue33
 a24:=Tryz.isAgg3
 z24:=Tryz.sizeOf3
 t25:=Tryz.underlying217
 a25:=Tryz.isAgg217
 z25:=Tryz.sizeOf217
 v25:=Tryz.zeroValue217
 t39:=Tryz.underlying192
 a39:=Tryz.isAgg192
 z39:=Tryz.sizeOf192
 v39:=Tryz.zeroValue192
 t45:=Tryz.underlying317
 a45:=Tryz.isAgg317
 z45:=Tryz.sizeOf317
 v45:=Tryz.zeroValue317
 t46:=Tryz.underlying318
 a46:=Tryz.isAgg318
 z46:=Tryz.sizeOf318
 v46:=Tryz.zeroValue318
 t50:=Tryz.underlying322
 a50:=Tryz.isAgg322
 z50:=Tryz.sizeOf322
 v50:=Tryz.zeroValue322
 t53:=Tryz.underlying193
 a53:=Tryz.isAgg193
 z53:=Tryz.sizeOf193
 v53:=Tryz.zeroValue193
 t55:=Tryz.underlying173
 a55:=Tryz.isAgg173
 z55:=Tryz.sizeOf173
 v55:=Tryz.zeroValue173
 t66:=Tryz.underlying340
 a66:=Tryz.isAgg340
 z66:=Tryz.sizeOf340
 v66:=Tryz.zeroValue340
 t70:=Tryz.underlying344
 a70:=Tryz.isAgg344
 z70:=Tryz.sizeOf344
 v70:=Tryz.zeroValue344
 t76:=Tryz.underlying353
 a76:=Tryz.isAgg353
 z76:=Tryz.sizeOf353
 v76:=Tryz.zeroValue353
 t77:=Tryz.underlying112
 a77:=Tryz.isAgg112
 z77:=Tryz.sizeOf112
 v77:=Tryz.zeroValue112 }
end Go.Proofs.YticbaadnibdbkaaGreat
namespace Go.Proofs.YticbaadnibdbkaaGreat
open Go.RowKit Go.Proofs Go.Shelf Go.Sort
def ml (a b:Int):Int:=if b<a then -1 else if a<b then 1 else 0
theorem oL (a b:Int):ltOf ml a b=decide (b<a):=by
 unfold ltOf ml;grind
def CH:SWO (ltOf ml):=⟨fun x=>by rw [oL]; simp,fun x y z a b=>by rw [oL] at *; simp at *; omega,fun x y z a b=>by rw [oL] at *; simp at *; omega⟩
def nT (l:List Int):List Int:=l.mergeSort (fun a b=>decide (b<=a))
def qb (l:List Int):(nT l).length=l.length:=(List.mergeSort_perm l _).length_eq
theorem yT {d a:Array Int} (h:PermIn 0 d.size d a) (b:SortedIn (ltOf ml) 0 d.size a):a.toList=nT d.toList:=by
 rw [sorted_unique_holds CH (fun x y c b=>by rw [oL] at *; simp at *; omega) d a h b,nT];congr 1;funext x y;rw [oL];grind
def Me (x y:Int) (W:World):Calls Tryz.prog 266 #[.int .i64 x,.int .i64 y] W fun e c=>e = .returned (.int .i64 (ml x y))/\∃ q,c = W.drewN q:=by
 by_cases a:y<x
 ·have b:¬ x<y:=by omega
  go_wp2
  go_ret
  exact ⟨by simp [ml,a],0,rfl⟩
 by_cases b:x<y
 ·go_wp2
  go_ret
  exact ⟨by simp [ml,a,b],0,rfl⟩
 go_wp2
 go_ret
 refine ⟨?_,0,rfl⟩;rw [show ml x y=0 from by unfold ml; rw [if_neg aK,if_neg aK]]; rfl
theorem nb {c:Cx}:∀ {l:List Int} {a:List Value},Pds c (l.flatMap (cellsOf .int)) a->a=l.map (Value.int .i64)/\∀ n ∈ l,I64 n
 | [],_,h=>by cases h; exact ⟨rfl,aa⟩
 | x :: l,_,h=>by
  have b:Pds c (.int x :: l.flatMap (cellsOf .int)) _:=h;cases b with | cons d f=>?_
  cases d with | int g=>?_
  obtain ⟨e,k⟩:=nb f;grind
variable {sp:List Value}
theorem RY {l a:List Int} (h:a.length=l.length):putCells (Value.int .i64) 0 a.toArray (List.toArray (l.map (Value.int .i64)++sp))=List.toArray (a.map (Value.int .i64)++sp):=by
 apply Array.ext_getElem?;unfold putCells;grind
theorem NL {w:World} {a:List Int} {g c:Nat} (s:a.length<=12) (o:w.heap[g]? = some (.cells (List.toArray (a.map (Value.int .i64)++sp)) 3 (0,0))) :
  Calls Tryz.prog 265 #[.slice (some ⟨g,0,none⟩) a.length c,.func (.func 266) #[] #[]] w fun e d=>e = .returned (.tuple #[])/\Kp [g] w d /\ d.heap[g]? = some (.cells (List.toArray ((nT a).map (Value.int .i64)++sp)) 3 (0,0)):=by
 have t:∀ args w,(callFunc 266 args).run Tryz.prog w = .ok (.enter 266 args) w:=enters_of Tryz.func266 bN rfl;have h:∀ (n:Nat) (W:World),n<=12->Calls Tryz.prog (iw.f 15) #[.int .u64 n] W fun e d=>(∃ l:Int,e = .returned (.int .i64 l))/\d = W:=fun n W u=>
  (Any.bits_Len JI n W aK aK).mono fun _ _ ⟨p,m⟩=>⟨⟨_,p⟩,m⟩
 have q:Holds (Value.int .i64) w g 0 a.toArray:=fun j C=>by
  rw [ac0,Lib.frozen_of_heap o,Lib.cell_of_heap o];grind
 have v:=Any.slices_SortFunc_small_sorted tz (Value.int .i64) (fun _=>rfl) ml CH 266 #[] g 0 c a.toArray w t (fun _ _ _ _ x y=>Me x y _) q (by simpa using s) h;refine v.mono fun e d ⟨p,i,n,z,A,m⟩=>?_;have k:=yT z A;have r:i.toList.length=a.length:=by rw [k]; exact qb _
 refine ⟨p,?_,?_⟩
 ·rw [m];refine ⟨rfl,rfl,rfl,?_,fun b _ u=>?_⟩
  ·simp_all
  show (w.heap.modify g (onCells (putCells (Value.int .i64) 0 i)))[b]? = _;grind
 rw [m];show (w.heap.modify g (onCells (putCells (Value.int .i64) 0 i)))[g]? = _;rw [Array.getElem?_modify,if_pos rfl,o];simp only [Option.map_some,onCells];have B:i = i.toList.toArray:=rfl;rw [B,RY r,k]
end Go.Proofs.YticbaadnibdbkaaGreat
namespace Go.Proofs.YticbaadnibdbkaaGreat
open Go.RowKit
abbrev c16:Code:=WN Tryz.f171
abbrev c60:Code:=WN Tryz.f258
abbrev pR0:Code:=pL c16
abbrev pR1:Code:=pL (gi c16)
abbrev pR2:Code:=pL (gi (gi c16))
abbrev pR3:Code:=pL (pL (gi (gi (gi c16))))
abbrev pRf:Code:=cdB (gi (pL (gi (gi (gi c16)))))
abbrev Sv:Code:=gi (gi (gi (gi c16)))
abbrev NC:Code:=ah9 pRf
abbrev Mq:Code:=ahH pRf
abbrev iR0:Code:=pL c60
abbrev iB:Code:=cdB (cdB (gi c60))
abbrev iR1:Code:=pL iB
abbrev iCo:Code:=pL (gi iB)
abbrev iBl:Code:=cdB (pL (gi (gi iB)))
abbrev iR2:Code:=pL iBl
abbrev iR3:Code:=pL (gi iBl)
abbrev GD:Code:=pL (gi (gi iBl))
abbrev aba:Code:=gi (gi (gi iBl))
abbrev iR5:Code:=gi (gi (gi iB))
def hK (s:State) (r:List Reply) (l:List Entry) (v:Int):AH:=[.box 46 ([.int ((s.version)),.int ((s.next)),.int ((s.keep)),.int ((s.quota)),.own 7,.own 8,.own 9]),.box 46 ([.int ((0)),.int ((0)),.int ((0)),.int ((0)),.em true,.em true,.em true]),.box 72 ([.em true]),.box 26 ([.int ((0))]),.box 72 ([.own 10]),.box 38 ([.fz (.nm .entry) ((l))]),.box 3 ([.int ((v))]),.row 137 (.nm .sess) ((s.sess)),.row 139 (.nm .opn) ((s.opens)),.row 172 (.nm .snap) ((s.snaps)),.row 78 (.nm .reply) ((r))]
def hE (s:State) (r:List Reply):AH:=[.row 137 (.nm .sess) ((s.sess)),.row 139 (.nm .opn) ((s.opens)),.row 172 (.nm .snap) ((s.snaps)),.row 78 (.nm .reply) ((r))]
def rE (s:State) (e:Int):List TV1:=[.agg [.int s.version,.int s.next,.int s.keep,.int s.quota,.own 0,.own 1,.own 2],.c (.own 3),.c (.int e)]
def frP:AFr:=[(3,one (.ptr 0 0)),(6,one (.ptr 1 0)),(7,one (.ptr 2 0)),(8,one (.ptr 3 0)),(9,one (.ptr 4 0)),(16,one (.fn 258 [] [(5,0),(6,0)]))]
def JH (L:Nat):Option TV->Prop
 | some (.one (.c (.yl a)))=>a=L
 | _=>False
def Xu (l:List Entry) (k:Nat):AFr:=[(1,one (.ptr 5 0)),(2,one (.ptr 6 0)),(9,one (.fz (.nm .entry) l)),(10,one (.int l.length)),(11,one (.int k))]
def Lz (c:Command) (b:Bool) (e:Int):TV1:=.agg (cellsOf (.nm .command) ((c))++[.bool (.atom ((b))),.int ((e))])
def frY (l:List Entry) (k:Nat) (c:Command) (b:Bool) (e:Int):AFr:=(26,.one (Lz c b e)) :: Xu l k
def hT (c:Command) (b:Bool) (e:Int):AO:=.box 265 (cellsOf (.nm .command) ((c))++[.bool (.atom ((b))),.int ((e))])
def koN (a:Nat) (q:AFr × AH):Exit->AFr->AH->Prop
 | .normal,fr,K=>jy (DA tyT a fr K q)
 | _,_,_=>False
def koY (L:Nat) (q:AFr × AH):Exit->AFr->AH->Prop
 | .normal,fr,K=>JH L (lookA fr 0)/\jy (DA tyT 11 fr K q)
 | _,_,_=>False
def aih (L:Nat) (s:State) (r:List Reply) (l:List Entry) (v:Int) (k:Nat) (fr:AFr) (K:AH):Prop:=
 ∃ x,l[k]? = some x/\JH L (lookA fr 0)/\JH L (lookA fr 22)/\jy (DA tyT 11 fr K (frY l k (bf x v).c (bf x v).some (bf x v).e,hK s r l v))
def akd (L:Nat) (s:State) (r:List Reply) (l:List Entry) (v:Int) (k:Nat):Exit->AFr->AH->Prop
 | .normal,fr,K=>wpOps tyT fG (gT 0) (ko GD) (aih L s r l v k) 6 ((ko GD).take 5) fr K
 | _,_,_=>False
def ag6 (L:Nat) (s:State) (r:List Reply) (l:List Entry) (v:Int) (k:Nat):Exit->AFr->AH->Prop
 | .exit j,fr,K=>j=0/\l.length<=k/\JH L (lookA fr 0)/\jy (DA tyT 11 fr K (Xu l k,hK s r l v))
 | .normal,fr,K=>jb tyT fG (gT 0) 11 [] (.seq iR2 iR3) (akd L s r l v k) fr K
 | _,_,_=>False
def afF (L:Nat) (s:State) (r:List Reply) (l:List Entry) (v:Int) (k:Nat):Exit->AFr->AH->Prop
 | .normal,fr,K=>jb tyT fG (gT 0) 11 [] iCo (ag6 L s r l v k) fr K
 | _,_,_=>False
def koD (L:Nat) (s:State) (r:List Reply) (l:List Entry) (v:Int) (k:Nat) (fr:AFr) (K:AH):Prop:=jb tyT fG (gT 0) 11 [] (.seq aba iR5) (koY L (Xu l (k+1),hK s r l v)) fr K
def koH (s:State) (r:List Reply) (l:List Entry) (v:Int) (x:Entry):Exit->AFr->AH->Prop
 | .normal,_,K=>(bf x v).e=0/\jy (aeG tyT (hK s r l v) 11 (hK (h_ v s x) (r++[nu v s x]) l v) K)
 | .ret,_,K=>¬ (bf x v).e=0/\endE tyT [] 0 Tryz.f171 (rE s (bf x v).e) (hE s r) frP K
 | _,_,_=>False
def koI (s:State) (r:List Reply):Exit->AFr->AH->Prop
 | .ret,fr,K=>endE tyT [] 0 Tryz.f171 (rE s 0) (hE s r) fr K
 | _,_,_=>False
def ajo (s:State) (l:List Entry) (v:Int):ld (Kq [.agg (cellsOf (.nm .state) s),.c (.fz (.nm .entry) l),.c (.int v)]) (jb tyT fG (gT 0) 0 [] (.seq pR0 (.seq pR1 (.seq pR2 pR3))) (koN 0 (frP,hK s [] l v)) (tZ 0 [.agg (cellsOf (.nm .state) s),.c (.fz (.nm .entry) l),.c (.int v)]) [])=((fun a=>fL s (l.length*32<=140737488355328->I64 v->I64 s.version->I64 s.next->I64 s.keep->I64 s.quota->s.version=s.version/\s.next=s.next/\s.keep=s.keep/\s.quota=s.quota/\a/\a/\a/\a/\a/\l=l/\v=v/\s.sess=s.sess/\s.opens=s.opens/\s.snaps=s.snaps /\ @Eq (List (den (Sh.nm NT.reply))) [] [])) ((0:Int)=0)):=bN
def ahd (L:Nat) (s:State) (r:List Reply) (l:List Entry) (v:Int):jb tyT fG (gT 0) 11 [] iR0 (koY L (Xu l 0,hK s r l v)) [(0,one (.yl L)),(1,one (.ptr 5 0)),(2,one (.ptr 6 0))] (hK s r l v)=((fun a=>L=L/\l=l/\(↑l.length:Int)=(↑l.length:Int)/\(0:Int)=(↑(0:Nat):Int)/\s.version=s.version/\s.next=s.next/\s.keep=s.keep/\s.quota=s.quota/\a/\a/\a/\a/\a/\l=l/\v=v/\s.sess=s.sess/\s.opens=s.opens/\s.snaps=s.snaps/\r=r) ((0:Int)=(0:Int))):=bN
def akf (L:Nat) (s:State) (r:List Reply) (l:List Entry) (v:Int) (k:Nat):jb tyT fG (gT 0) 11 [] iR1 (afF L s r l v k) ((0,one (.yl L)) :: Xu l k) (hK s r l v)=((fun f=>(fun a=>(fun g=>((↑k:Int)<f->0<=(↑k:Int)/\(↑k:Int)<(↑l.length:Int)/\∀ (x:Entry),(fun d=>l[k]? = some x->I64 x.term->x.b.length*1<=140737488355328->bH d.c (I64 d.e->∃ x,l[k]? = some x/\L=L/\L=L/\bt d.c (bf x v).c (d.some=(bf x v).some/\d.e=(bf x v).e/\g))) (bf x v))/\(f<=(↑k:Int)->(0:Nat)=0/\l.length<=k/\L=L/\g)) (l=l/\f=f/\(↑k:Int)=(↑k:Int)/\s.version=s.version/\s.next=s.next/\s.keep=s.keep/\s.quota=s.quota/\a/\a/\a/\a/\a/\l=l/\v=v/\s.sess=s.sess/\s.opens=s.opens/\s.snaps=s.snaps/\r=r)) ((0:Int)=0)) (↑l.length:Int)):=bN
def agX (L:Nat) (s:State) (r:List Reply) (l:List Entry) (v:Int) (k:Nat) (c:Command) (b:Bool) (d:Int):wpOps tyT fG (gT 0) (ko GD) (koD L s r l v k) 2 ((ko GD).drop 6) ((27,one (.bool (.lit true))) :: (0,one (.yl L)) :: frY l k c b d) (hK s r l v)=((fun a=>I64 ((↑k:Int)+1)/\L=L/\l=l/\(↑l.length:Int)=(↑l.length:Int)/\(↑k:Int)+1=(↑(k+1):Int)/\s.version=s.version/\s.next=s.next/\s.keep=s.keep/\s.quota=s.quota/\a/\a/\a/\a/\a/\l=l/\v=v/\s.sess=s.sess/\s.opens=s.opens/\s.snaps=s.snaps/\r=r) ((0:Int)=0)):=bN
def ahu (s:State) (r:List Reply) (l:List Entry) (v:Int) (c:Command) (b:Bool) (d:Int):jb tyT fG (gT 0) 11 [] NC (koN 11 ((10,one (.ptr 11 0)) :: frP,hK s r l v++[hT c b d])) ((17,.one (Lz c b d)) :: frP) (hK s r l v)=((fun a=>s.version=s.version/\s.next=s.next/\s.keep=s.keep/\s.quota=s.quota/\a/\a/\a/\a/\a/\l=l/\v=v/\s.sess=s.sess/\s.opens=s.opens/\s.snaps=s.snaps/\r=r/\bt c c (b=b/\d=d)) ((0:Int)=0)):=bN
def aiq (s:State) (r:List Reply) (l:List Entry) (v:Int) (x:Entry):jb tyT fG (gT 0) 12 [] Mq (koH s r l v x) ((10,one (.ptr 11 0)) :: frP) (hK s r l v++[hT (bf x v).c (bf x v).some (bf x v).e])=((fun g=>(fun a=>(fun f=>(fun h=>(fun d=>(fun i=>(fun b=>(¬h->¬h/\s.version=s.version/\s.next=s.next/\s.keep=s.keep/\s.quota=s.quota/\g.e=g.e/\s.sess=s.sess/\s.opens=s.opens/\s.snaps=s.snaps/\r=r)/\(h->(g.some=true->I64 b.version->I64 b.next->I64 b.keep->I64 b.quota->I64 i.snd.code->I64 i.snd.n->(r.length+[i.snd].length)*16<=140737488355328/\h/\b.version=a.version/\b.next=a.next/\b.keep=a.keep/\b.quota=a.quota/\d/\d/\d/\d/\d/\l=l/\v=v/\b.sess=a.sess/\b.opens=a.opens/\b.snaps=a.snaps/\r++[i.snd]=r++[nu v s x])/\(g.some=false->(r.length+[Reply.mk f f].length)*16<=140737488355328/\h/\s.version=a.version/\s.next=a.next/\s.keep=a.keep/\s.quota=a.quota/\d/\d/\d/\d/\d/\l=l/\v=v/\s.sess=a.sess/\s.opens=a.opens/\s.snaps=a.snaps/\r++[Reply.mk f f]=r++[nu v s x]))) i.fst) (rC s g.c)) (f=f)) (g.e=f)) (0:Int)) (h_ v s x)) (bf x v)):=bN
def ahX (s:State) (r:List Reply) (l:List Entry) (v:Int):jb tyT fG (gT 0) 11 [] Sv (koI s r) frP (hK s r l v)=(s.version=s.version/\s.next=s.next/\s.keep=s.keep/\s.quota=s.quota/\(0:Int)=0/\s.sess=s.sess/\s.opens=s.opens/\s.snaps=s.snaps/\r=r):=bN
def afE:bF:=fG
def Sn:aw Tryz.prog (aj tyT) afE:=rb
variable {H:AH} {w w0:World} {ρ0:List RE} {n k0:Nat} {G:Gl} {F:Fr} {Q:Exit->Act->World->Prop} {K:Exit->AFr->AH->Prop}
def FR {c:Code} {fr:AFr} (a:G.shp=aj tyT) (b:ρ0.length<=k0) (d:eD n c=true) (h:jb tyT fG (gT 0) k0 [] c K fr H)
  (f:St G (gT 0) ρ0 w0 fr H F w) (hK:∀ e fr H F w,K e fr H->St G (gT 0) ρ0 w0 fr H F w->WX Q n e F w):WC Tryz.prog Q n c F w:=
 xv (by rw [a]; exact dK) (by rw [a]; exact rb) (nH dK rb jS G n (gT 0) ρ0 w0 a (fun i h=>by simp [gT,Nat.ble] at h)) b c Q K fr H F w d h f hK
def af6 {m:Nat} {l a:List Oper} {K:AFr->AH->Prop} {fr:AFr} (b:G.shp=aj tyT) (c:ky n a=true) (h:wpOps tyT fG (gT 0) l K m a fr H)
  (d:St G (gT 0) ρ0 w0 fr H F w) (hK:∀ fr H F w,K fr H->St G (gT 0) ρ0 w0 fr H F w->WX Q n .normal F w):WO Tryz.prog Q n l a F w:=
 lS (by rw [b]; exact dK) (by rw [b]; exact rb) hK m a fr H F w c h d
abbrev yV (L:Nat):Value:=.func (.yield L) #[] #[]
variable {t:Nat} {ρ:List RE}
theorem lK {c:Cx} {fr:AFr} {L:Nat} (b:FrR c ρ fr F) (h:JH L (lookA fr t)):look F t=some (yV L):=by
 unfold JH at h;split at h
 ·rename_i a d;subst h;obtain ⟨v,e,f⟩:=eO b d;rw [e,f]
 grind
theorem yw {a:Fr} {v:Value} (h:look F t=some v) (k:∀ i u,look a i=some u->look F i=some u):∀ i u,look ((t,v) :: a) i=some u->look F i=some u:=fun i u b=>by
 rw [aU] at b;grind
def FrR.zh {c:Cx} {fr:AFr} {a:TV1} {v:Value} (h:dk c ρ a v) (k:FrR c ρ fr F):FrR c ρ ((t,.one a) :: fr) ((t,v) :: F):=.cons ⟨rfl,h⟩ k
variable {b:Nat}
def Rep.jR (h:Rep G ρ H w) (a:G.Z b):¬ live ρ b:=fun ⟨i,r,c,d⟩=>(h.bnd i r b c d).2.2 a
def fa {o:Obj} (h:w.heap[b]? = some o):b<w.heap.size:=(agF.1 h).1
structure PX where
 G:Gl
 D:Nat
 L:Nat
 fn:Nat
 tm:Array Value
 FP:Fr
 s:State
 l:List Entry
 v:Int
 hD:G.B0<=D
 hL:G.B0<=L
def PX.g (X:PX):Gl:=GZ X.G X.D X.L
def PX.rc (X:PX) (st:LoopState) (a:Option Code):Loop:={ state:=st,pending:=a,fn:=X.fn,tmps:=X.tm,params:=#[17],assign:=NC,body:=Mq,defers:=X.D }
def PX.hk (X:PX) (k:Nat):AH:=hK (pS X.v X.s (X.l.take k)) (pR X.v X.s (X.l.take k)) X.l X.v
abbrev PX.Z (X:PX):Nat->Prop:=fun b=>b=X.D\/b=X.L
def PX.hB (X:PX):∀ b,X.Z b->X.g.B0<=b:=fun b a=>by
 rcases a with rfl | rfl
 ·exact X.hD
 exact X.hL
structure Mid (X:PX) (k:Nat) (ρ:List RE) (W:World):Prop where
 rep:Rep X.g ρ (X.hk k) W
 fr:FrR (cx X.g ρ W) ρ frP X.FP
 ok:okPl X.v (X.l.take k)
 loop:W.heap[X.L]? = some (.loop (X.rc .ready none))
 dfr:W.heap[X.D]? = some (.deferred (some []))
structure Stopd (X:PX) (ρ:List RE) (W:World):Prop where
 rep:∃ H,Rep X.g ρ H W/\endE tyT [] 0 Tryz.f171 (rE (plS X.v X.s X.l) (pE X.v X.l)) (hE (plS X.v X.s X.l) (plR X.v X.s X.l)) frP H
 fr:FrR (cx X.g ρ W) ρ frP X.FP
 loop:W.heap[X.L]? = some (.loop (X.rc .done (some .ret)))
 dfr:W.heap[X.D]? = some (.deferred (some []))
def DG:He frP=true:=by decide
section
variable {X:PX} {k:Nat} {ρ ρ':List RE} {W W':World}
def Mid.step {e:Lv} (h:Mid X k ρ W) (a:Stp e ρ W ρ' W') (f:Rep X.g ρ' (X.hk k) W'):Mid X k ρ' W' /\ Adv X.Z ρ W ρ' W':=by
 have d:Adv X.Z ρ W ρ' W':=.yO a.ext a.bx;have c:=d.le (G:=X.g) (fun b i=>.inr i) h.rep.lo X.hB;exact ⟨⟨f,h.fr.eX DG c a.bx,h.ok,(a.ext.old _ (fa h.loop) (h.rep.jR (.inr (.inr rfl)))).2.trans h.loop,(a.ext.old _ (fa h.dfr) (h.rep.jR (.inr (.inl rfl)))).2.trans h.dfr⟩,d⟩
section
variable {s:State} {r:List Reply} {l:List Entry} {v:Int} {x:Entry}
def aio (h:(bf x v).some=true):h_ v s x=(rC s (bf x v).c).1:=by unfold h_; rw [if_pos h]
def ajk (h:(bf x v).some=false):h_ v s x=s:=by unfold h_; rw [if_neg (by rw [h]; decide)]
def ajm (h:(bf x v).some=true):nu v s x=(rC s (bf x v).c).2:=by unfold nu; rw [if_pos h]
def ai9 (h:(bf x v).some=false):nu v s x=⟨0,0⟩:=by unfold nu; rw [if_neg (by rw [h]; decide)]
theorem aax (a:(r.length+1)*16<=140737488355328):jb tyT fG (gT 0) 12 [] Mq (koH s r l v x) ((10,one (.ptr 11 0)) :: frP) (hK s r l v++[hT (bf x v).c (bf x v).some (bf x v).e]):=by
 rw [aiq];repeat' (first | with_reducible apply bc | with_reducible refine ba ?_ | intro)
 all_goals first | with_reducible rfl | with_reducible assumption | contradiction | (simp only [List.length_cons]; omega) | (rw [aio ab]; done) | (rw [ajk ab]; done) | (rw [ajm ab]; done) | (rw [ai9 ab]; done)
theorem aaV {c:Command} {b:Bool} {er:Int}:jb tyT fG (gT 0) 11 [] NC (koN 11 ((10,one (.ptr 11 0)) :: frP,hK s r l v++[hT c b er])) ((17,.one (Lz c b er)) :: frP) (hK s r l v):=by
 rw [ahu];grind
end
variable {u:Value}
def Il (hG:X.G.shp=aj tyT) (hsz:X.l.length*32<=140737488355328) (hM:M 40 X.FP { tmps:=X.tm,defers:=[] }) (S:X.D≠X.L) (h:Mid X k ρ W) {x:Entry} (Y:X.l[k]? = some x) 
  (hu:dk (cx X.g ρ W) ρ (Lz (bf x X.v).c (bf x X.v).some (bf x X.v).e) u) (ro:Option Nat) (m:Nat) :
  RoundIn (gR ro) m Tryz.prog X.L X.fn (X.tm.setIfInBounds 17 u) NC Mq W fun e w'=>∃ b,e = .returned b/\((b = .bool true/\∃ ρ',Mid X (k+1) ρ' w' /\ Adv X.Z ρ W ρ' w')\/(b = .bool false/\∃ ρ',Stopd X ρ' w' /\ Adv X.Z ρ W ρ' w')):=by
 refine Px ?_;have A:X.g.shp=aj tyT:=hG;have hM1:M 40 ((17,u) :: X.FP) { tmps:=X.tm.setIfInBounds 17 u,defers:=[] }:=hM.put (d:=17) (v:=u) am;have q:ρ.length=11:=h.rep.obj.length.symm;have hkl:k<X.l.length:=(aar.1 Y).1;refine FR A (agD q) (c:=NC) (n:=40) bN (aaV (s:=pS X.v X.s (X.l.take k)) (r:=pR X.v X.s (X.l.take k)) (l:=X.l) (v:=X.v) (c:=(bf x X.v).c) (b:=(bf x X.v).some) (er:=(bf x X.v).e)) (⟨ρ,Stp.refl _ _ _,h.rep,FrR.zh hu h.fr⟩) (fun e fr H F N hK hs=>?_) _ hM1;cases e with
 | normal=>
  obtain ⟨F1,⟨f,B,t,hf1⟩,hlk⟩:=gA (P:=Tryz.prog) (by rw [A]; exact dK) (agD q) hs hK;intro a ha;have w:N.heap[X.L]? = some (.loop (X.rc .ready none)):=(B.ext.old _ (fa h.loop) (h.rep.jR (.inr (.inr rfl)))).2.trans h.loop;have hd1:N.heap[X.D]? = some (.deferred (some [])):=(B.ext.old _ (fa h.dfr) (h.rep.jR (.inr (.inl rfl)))).2.trans h.dfr;refine ⟨_,run_beginRound (P:=Tryz.prog) w rfl,?_,ha.1⟩;have z:Adv X.Z ρ W f (N.putObj X.L (.loop { X.rc .ready none with state:=.busy })):=(Adv.yO B.ext B.bx).trans (.put _ (.inr rfl));have j:Rep X.g f (X.hk k++[hT (bf x X.v).c (bf x X.v).some (bf x X.v).e]) (N.putObj X.L (.loop { X.rc .ready none with state:=.busy })):=t.Js _ (.inr (.inr rfl)) X.hL;have C:(N.putObj X.L (.loop { X.rc .ready none with state:=.busy })).heap[X.L]? = some (.loop { X.rc .ready none with state:=.busy }):=World.putObj_heap_same (fa w);have I:(N.putObj X.L (.loop { X.rc .ready none with state:=.busy })).heap[X.D]? = some (.deferred (some [])):=(agA S).trans hd1;have T:FrR (cx X.g f (N.putObj X.L (.loop { X.rc .ready none with state:=.busy }))) f ((10,one (.ptr 11 0)) :: frP) F1:=hf1.carry ((Adv.put (Z:=X.Z) _ (.inr rfl)).le (fun b O=>.inr O) t.lo X.hB) (ku.refl _);revert z j C I T;generalize N.putObj X.L (.loop { X.rc .ready none with state:=.busy })=w2;intro z j C I T;have U:f.length=12:=j.obj.length.symm;refine FR A (agD U) (c:=Mq) (n:=40) bN (aax (s:=pS X.v X.s (X.l.take k)) (r:=pR X.v X.s (X.l.take k)) (l:=X.l) (v:=X.v) (x:=x) (by rw [Er,List.length_take]; omega)) (⟨f,Stp.refl _ _ _,j,T⟩) (fun e fr H F K hK hs=>?_) _ (ha.sub hlk);obtain ⟨Q,p,hr3,_⟩:=hs;have J:K.heap[X.L]? = _:=(p.ext.old _ (fa C) (j.jR (.inr (.inr rfl)))).2.trans C;have hd3:K.heap[X.D]? = _:=(p.ext.old _ (fa I) (j.jR (.inr (.inl rfl)))).2.trans I;cases e with
  | normal=>
   obtain ⟨he,o⟩:=hK;obtain ⟨ρ',hr',y,hb'⟩:=LC (P:=Tryz.prog) (ρ0:=f) (w0:=w2) (by rw [A]; exact dK) hr3 p.ext p.bx (fun i g hi hg=>by
    have hn:=Xz (b:=false) j hg;have:i=0\/i=1\/i=2\/i=3\/i=4\/i=5\/i=6\/i=7\/i=8\/i=9\/i=10:=by omega
    rcases this with rfl | rfl | rfl | rfl | rfl | rfl | rfl | rfl | rfl | rfl | rfl <;> exact hn) o
   refine fun _ _=>⟨_,_,run_endRound (P:=Tryz.prog) none J,_,rfl,.inl ⟨rfl,ρ',?_⟩⟩;have V:Adv X.Z ρ W ρ' (K.putObj X.L (.loop (X.rc .ready none))):=by
    have A2:Adv X.Z ρ W ρ' K:=⟨y.os.trans z.os,y.tape.trans z.tape,y.output.trans z.output,Nat.le_trans z.size y.size,fun b O hl=>by
     obtain ⟨h1,h2⟩:=z.old b O hl;obtain ⟨h3,h4⟩:=y.old b (acU O z.size) h1;exact ⟨h3,fun hz=>h4.trans (h2 hz)⟩,fun i g hg=>hb' i g (by rw [<- q]; exact (aar.1 hg).1) (z.bx i g hg)⟩
    exact A2.trans (.put _ (.inr rfl))
   refine ⟨⟨?_,h.fr.eX DG (V.le (fun b O=>.inr O) h.rep.lo X.hB) V.bx,HA h.ok Y he,World.putObj_heap_same (fa J),(agA S).trans hd3⟩,V⟩;have:=hr'.Js (l:=X.L) (.loop (X.rc .ready none)) (.inr (.inr rfl)) X.hL;rw [YB Y,Xo Y] at this;exact this
  | ret=>
   obtain ⟨he,o⟩:=hK;refine fun _ _=>⟨_,_,run_endRound (P:=Tryz.prog) (some .ret) J,_,rfl,.inr ⟨rfl,Q,?_⟩⟩;have V:Adv X.Z ρ W Q (K.putObj X.L (.loop (X.rc .done (some .ret)))):=(z.trans (.yO p.ext p.bx)).trans (.put _ (.inr rfl));obtain ⟨p1,p2,p3⟩:=SI (s:=X.s) h.ok Y he;rw [p1,p2,p3] at o;exact ⟨⟨⟨_,hr3.Js _ (.inr (.inr rfl)) X.hL,o⟩,h.fr.eX DG (V.le (fun b O=>.inr O) h.rep.lo X.hB) V.bx,World.putObj_heap_same (fa J),(agA S).trans hd3⟩,V⟩
  | _=>exact hK.elim
 | _=>exact hK.elim
def aau:Tryz.f258.body=some (.seq iR0 (.block 0 (.loop (.seq iR1 (.seq iCo (.seq (.block 1 (.seq iR2 (.seq iR3 (.seq GD aba)))) iR5)))))):=bN
def aa_:GD = .region 4 (ko GD).toArray false:=bN
def Te:aba = .cond (.tmp 28) .ret .skip:=bN
def XW (k:Nat):Oper:=(ko GD).getD k ⟨none,.move (.tmp 0),0,"",#[],none⟩
def aiX:Array TypeId:=match (XW 5).op with
 | .call c=>c.argTypes
 | _=>#[]
def ty6:TypeId:=match (XW 6).op with
 | .unOp _ t _=>t
 | _=>0
def akh:ko GD=(ko GD).take 5++(⟨some 27,.call ⟨.value (.tmp 22),#[.tmp 26],aiX⟩,(XW 5).type,(XW 5).pos,(XW 5).after,none⟩ :: (ko GD).drop 6):=bN
def akC:(ko GD).drop 6=[⟨some 28,.unOp .not ty6 (.tmp 27),(XW 6).type,(XW 6).pos,(XW 6).after,none⟩]:=bN
variable {P:Program}
def DT {L:Nat} {c:Loop} {e:Array TypeId} {m:TypeId} (f:look F 22=some (yV L)) (h:look F 26=some u) (o:w.heap[L]? = some (.loop c)) (j:c.params = #[17]) (a:Act) (d:Option Tmp) (i:String) (p:Array Edge) (g:Option (Nat × Bool)) (l:M n F a) :
  (execOp a.eval ⟨d,.call ⟨.value (.tmp 22),#[.tmp 26],e⟩,m,i,p,g⟩).run P w = .ok (.round L c.fn (c.tmps.setIfInBounds 17 u) c.assign c.body) w:=by
 have q:a.eval (.tmp 22)=yV L:=l.ev (x:=.tmp 22) f;have r:a.eval (.tmp 26)=u:=l.ev (x:=.tmp 26) h;have s:=run_yield (P:=P) (args:=#[u]) o (by rw [j]; rfl);simp [execOp,resolve,q,r,Deferred.ofValue,invoke,s,j]
theorem Sz {a:Fr} {v:Value} (k:∀ i u,look a i=some u->look F i=some u):∀ i u,look ((t,v) :: a) i=some u->look ((t,v) :: F) i=some u:=fun i u c=>by
 rw [aU] at c ⊢;grind
section
variable {s:State} {r:List Reply} {l:List Entry} {v:Int} {L:Nat}
theorem acr:jb tyT fG (gT 0) 11 [] iR0 (koY L (Xu l 0,hK s r l v)) [(0,one (.yl L)),(1,one (.ptr 5 0)),(2,one (.ptr 6 0))] (hK s r l v):=by
 rw [ahd];grind
theorem ZX:jb tyT fG (gT 0) 11 [] iR1 (afF L s r l v k) ((0,one (.yl L)) :: Xu l k) (hK s r l v):=by
 rw [akf];grind
def abv {c:Command} {b:Bool} {a:Int} (d:k<4611686018427387904):wpOps tyT fG (gT 0) (ko GD) (koD L s r l v k) 2 ((ko GD).drop 6) ((27,one (.bool (.lit true))) :: (0,one (.yl L)) :: frY l k c b a) (hK s r l v):=by
 rw [agX];repeat' (first | with_reducible apply bc | with_reducible refine ba ?_ | intro)
 all_goals first | with_reducible rfl | omega | (refine bz ?_ ?_ <;> omega) | rfl
end
def aaR (y:Code) (k0:Nat) (K:Exit->AFr->AH->Prop):Exit->AFr->AH->Prop
 | .normal,fr,H=>jb tyT fG (gT 0) k0 [] y K fr H
 | e,fr,H=>K e fr H
def nI {x y:Code} {fr:AFr} (h:jb tyT fG (gT 0) k0 [] (.seq x y) K fr H):jb tyT fG (gT 0) k0 [] x (aaR y k0 K) fr H:=by
 have e:aaR y k0 K=fun e fr H=>(match e with | .normal=>jb tyT fG (gT 0) k0 [] y K fr H | e=>K e fr H):=by funext e fr H; cases e <;> rfl
 rw [e]; exact h
def PX.Out (X:PX) (ρ:List RE) (W:World) (_:Value) (a:World):Prop:=∃ ρ',Adv X.Z ρ W ρ' a /\ ((∃ k,X.l.length<=k/\Mid X k ρ' a)\/Stopd X ρ' a)
def WO.of_eq {l r a:List Oper} (e:r=a) (h:WO P Q n l a F w):WO P Q n l r F w:=e ▸ h
def P_ (hG:X.G.shp=aj tyT) (hsz:X.l.length*32<=140737488355328) (hM:M 40 X.FP { tmps:=X.tm,defers:=[] }) (hDL:X.D≠X.L) (h:Mid X 0 ρ W) {p8 p9:Value} (h8:ei ρ (5,0) p8) (h9:ei ρ (6,0) p9) :
  jI Tryz.prog 258 #[yV X.L,p8,p9] W (X.Out ρ W):=by
 have o:X.g.shp=aj tyT:=hG;have S:ρ.length=11:=h.rep.obj.length.symm;refine jI.enter (args:=[yV X.L,p8,p9]) (n:=30) Tryz.func258 aau rfl rfl rfl ?_;refine WC.seq (FR o (agD S) bN acr (⟨ρ,Stp.refl _ _ _,h.rep,FrR.zh (a:=.c (.yl X.L)) rfl (FrR.zh (a:=.c (.ptr 5 0)) h8 (FrR.zh (a:=.c (.ptr 6 0)) h9 .nil))⟩) fun e fr H F w hK q=>?_);cases e with
 | normal=>
  obtain ⟨hy,T⟩:=hK;have y:look F 0=some (yV X.L):=by obtain ⟨_,_,_,U⟩:=q; exact lK U hy
  obtain ⟨F1,⟨ρ1,hs1,hr1,hf1⟩,hlk⟩:=gA (P:=Tryz.prog) (by rw [o]; exact dK) (agD S) q T;refine WX.next (WC.block fun a z=>?_)
  refine sC (fun a w k=>∃ ρ' F',M 30 F' a/\Mid X k ρ' w/\FrR (cx X.g ρ' w) ρ' ((0,one (.yl X.L)) :: Xu X.l k) F' /\ k<=X.l.length/\Adv X.Z ρ W ρ' w) (fun k=>X.l.length - k) 0 ⟨ρ1,(0,yV X.L) :: F1,z.sub (yw y hlk),(h.step hs1 hr1).1,FrR.zh (a:=.c (.yl X.L)) rfl hf1,ahc _,(h.step hs1 hr1).2⟩ fun k a w hD=>?_;obtain ⟨ρ',F',hM',s,hfr,hk,A⟩:=hD;have p:ρ'.length=11:=s.rep.obj.length.symm;refine (WC.seq (FR o (agD p) bN (ZX (L:=X.L) (k:=k)) (⟨ρ',Stp.refl _ _ _,s.rep,hfr⟩) fun e fr H F w2 hK q=>?_)) a hM';cases e with
  | normal=>
   refine WX.next (WC.seq (FR o (agD p) bN hK q fun e fr H F w2 hK q=>?_))
   cases e with
   | exit j=>
    obtain ⟨rfl,hle,hy,T⟩:=hK;obtain ⟨F2,⟨ρ2,V,I,Y⟩,B⟩:=gA (P:=Tryz.prog) (by rw [o]; exact dK) (agD p) q T;obtain ⟨J,N⟩:=s.step V I;have K:X.Out ρ W (.tuple #[]) w2:=⟨ρ2,A.trans N,.inl ⟨k,hle,J⟩⟩;have hh:=WX.abc (id:=0) (WX.aci (WX.aeL (n:=30) (fr:=F) (P:=Tryz.prog) (fn:=Tryz.f258) (φ:=X.Out ρ W) rfl K));exact fun a z=>hh a z
   | normal=>
    refine WX.next (WC.seq (WC.block (WC.seq (FR o (agD p) bN (nI hK) q fun e fr H F w2 hK q=>?_))))
    cases e with
    | normal=>
     refine WX.next (WC.seq (FR o (agD p) bN hK q fun e fr H F w2 hK q=>?_))
     cases e with
     | normal=>
      refine WX.next (WC.seq ?_)
      rw [aa_];refine WC.region ?_;refine WO.of_eq akh (WO.app (af6 o bN hK q fun fr H F w3 hK q=>?_));intro a z;obtain ⟨x,hx,hy,hy22,T⟩:=hK;have y:look F 0=some (yV X.L):=by obtain ⟨_,_,_,U⟩:=q; exact lK U hy
      have h22:look F 22=some (yV X.L):=by obtain ⟨_,_,_,U⟩:=q; exact lK U hy22
      obtain ⟨F2,⟨ρ2,V,I,Y⟩,B⟩:=gA (P:=Tryz.prog) (by rw [o]; exact dK) (agD p) q T;obtain ⟨J,N⟩:=s.step V I;obtain ⟨u,hu26,hu⟩:=eO (i:=26) (tv:=.one (Lz (bf x X.v).c (bf x X.v).some (bf x X.v).e)) Y rfl;have hkl:k<X.l.length:=(aar.1 hx).1;refine WO.yield (L:=X.L) (f:=X.fn) (tmps:=X.tm.setIfInBounds 17 u) (assign:=NC) (body:=Mq) (fun a d pos af g z=>DT h22 (B _ _ hu26) J.loop rfl a d pos af g z) rfl (fun ro m=>Il hG hsz hM hDL J hx hu ro m) (fun b w4 hb=>?_) a z;rcases hb with ⟨rfl,O,Q,C⟩ | ⟨rfl,O,hst4,C⟩
      ·intro a z;have hf4:=FrR.zh (t:=0) (a:=.c (.yl X.L)) (v:=yV X.L) rfl (Y.eX rfl (C.le (fun b hb=>.inr hb) I.lo X.hB) C.bx);have r:O.length=11:=Q.rep.obj.length.symm;refine (af6 o bN (abv (L:=X.L) (k:=k) aK) (⟨O,Stp.refl _ _ _,Q.rep,FrR.zh (t:=27) (a:=.c (.bool (.lit true))) (Pd.bool (e:=.lit true)) hf4⟩) fun fr H F w5 hK q=>?_) a (z.sub (Sz (yw y B)));refine WX.next (FR o (agD r) bN (nI hK) q fun e fr H F w6 hK q=>?_)
       cases e with
       | normal=>
        refine WX.Jy (WX.next (FR o (agD r) bN hK q fun e fr H F w7 hK q=>?_));cases e with
        | normal=>
         obtain ⟨hy,T⟩:=hK;have y:look F 0=some (yV X.L):=by obtain ⟨_,_,_,U⟩:=q; exact lK U hy
         obtain ⟨F7,⟨ρ7,hs7,hr7,hf7⟩,hlk7⟩:=gA (P:=Tryz.prog) (by rw [o]; exact dK) (agD r) q T;obtain ⟨hm7,ha7⟩:=Q.step hs7 hr7;exact fun a z=>⟨k+1,⟨ρ7,(0,yV X.L) :: F7,z.sub (yw y hlk7),hm7,FrR.zh (a:=.c (.yl X.L)) rfl hf7,hkl,((A.trans N).trans C).trans ha7⟩,aK⟩
        | _=>exact hK.elim
       | _=>exact hK.elim
      have K:X.Out ρ W (.tuple #[]) w4:=⟨O,(A.trans N).trans C,.inr hst4⟩;refine WO.of_eq akC (WO.v (R.not (b:=false) rfl) rfl (WO.nil (WX.next ?_)));rw [Te];exact WC.EW rfl (WC.ret (WX.aeL (P:=Tryz.prog) (fn:=Tryz.f258) (φ:=X.Out ρ W) rfl K))
     | _=>exact hK.elim
    | _=>exact hK.elim
   | _=>exact hK.elim
  | _=>exact hK.elim
 | _=>exact hK.elim
end
def aaw:Tryz.f171.body=some (.seq pR0 (.seq pR1 (.seq pR2 (.seq (.seq pR3 (.block 0 (.rangeFunc (.tmp 16) #[17] NC Mq))) Sv)))):=bN
def abr {args:List Value} (e:args.length<=n):M n (wO 0 args) { tmps:=args.toArray++Array.replicate (n - args.toArray.size) undef,defers:=[] }:=by
 refine ⟨rfl,?_,fun i v c=>?_⟩
 ·simp; omega
 rw [ux] at c;obtain ⟨_,a⟩:=sf args 0 i v c;rw [akW] at a;have d:i<args.length:=(aar.1 a).1;have f:args[i]=v:=by rw [List.getElem?_eq_getElem d] at a; exact ac9 a
 simp [Array.getD,d,f];omega
def EC (G:Gl) (w0:World) (s:State) (l:List Entry) (v:Int) (u:Value) (c:World):Prop:=
 ∃ d,u=yU d/\∃ a,Rep G a (hE (plS v s l) (plR v s l)) c /\ Ext [] w0 a c /\ All2 (dk (cx G a c) a) (rE (plS v s l) (pE v l)) d/\Kp [] w0 c
section
variable {X:PX} {ρ1 ρ':List RE} {w0 W1 w4:World} {H:AH} {a:Act}
def Qc {fr:AFr} (O:X.G.shp=aj tyT) (hz:∀ x,X.G.Z x->x<w0.heap.size) (Q:w0.heap.size<=X.D) (T:X.D<X.L) (S:Rep X.g ρ' H w4) (U:FrR (cx X.g ρ' w4) ρ' fr F) (V:M 40 F a)
  (c:endE tyT [] 0 Tryz.f171 (rE (plS X.v X.s X.l) (pE X.v X.l)) (hE (plS X.v X.s X.l) (plR X.v X.s X.l)) fr H) (W:w4.heap[X.D]? = some (.deferred (some []))) (hE:Ext [] w0 ρ1 W1) (j:Adv X.Z ρ1 W1 ρ' w4) :
  ∃ y,(Instr.takeDeferred X.D).run Tryz.prog w4 = .ok [] y /\ ∃ u,(results Tryz.f171 a.tmps).run Tryz.prog y = .ok u y /\ EC X.G w0 X.s X.l X.v u y:=by
 refine ⟨_,run_takeDeferred (P:=Tryz.prog) W,?_⟩;have z:=S.Js (l:=X.D) (.deferred none) (.inr (.inl rfl)) X.hD;have k:(w4.putObj X.D (.deferred none)).heap.size=w4.heap.size:=by simp
 have m:w0.heap.size<=w4.heap.size:=Nat.le_trans hE.size j.size;obtain ⟨e,A⟩:=z.leave (fun x Y=>acU (hz x Y) (by rw [k]; exact m));have o:(cx X.g ρ' w4).le (cx X.G ρ' (w4.putObj X.D (.deferred none))):=((Adv.put (Z:=X.Z) (ρ:=ρ') (w:=w4) (.deferred none) (.inl rfl)).le (G:=X.g) (fun b f=>.inr f) S.lo X.hB).trans A;have B:=U.carry o (ku.refl _);have d:Ext [] w0 ρ' (w4.putObj X.D (.deferred none)):=⟨j.os.trans hE.os,j.tape.trans hE.tape,j.output.trans hE.output,by rw [k]; exact m,fun b f C=>by
  obtain ⟨I,J⟩:=hE.old b f C;obtain ⟨n,t⟩:=j.old b (acU f hE.size) I;have N:b≠X.D:=by omega
  exact ⟨n,(agA N).trans ((t (fun hz=>by rcases hz with hz | hz <;> omega)).trans J)⟩⟩
 unfold endE aab at c;split at c
 ·rename_i l C;obtain ⟨K,I,J⟩:=ln (by rw [O]; exact dK) e B V C;replace c:=eC.1 c;refine ⟨_,J,K,rfl,_,oG (P:=Tryz.prog) (by rw [O]; exact dK) e rfl (bJ.1 fun p q=>c p (acZ _ (acZ _ q))) fun p q=>c p (ac1 _ q),oK d,oE e rfl I fun p q=>c p (acZ _ (ac1 _ q)),?_⟩;exact ⟨d.os,d.tape,d.output,d.size,fun b f _=>(d.old b f (fun ⟨i,r,h,_⟩=>by simp at h)).2⟩
 exact (show False from c).elim
end
variable {l:List Entry}
theorem aa8 {s:State} {r:List Reply} {v:Int}:jb tyT fG (gT 0) 11 [] Sv (koI s r) frP (hK s r l v):=by
 rw [ahX];grind
def Wq.go {l:List Prop} {R:Prop} (k:∀ p ∈ l,p) (h:Wq (ld l R)):Wq R:=⟨eI.1 h.h k⟩
def Wq.seq {x y:Code} {k0:Nat} {K:Exit->AFr->AH->Prop} {fr:AFr} {H:AH} (h:Wq (jb tyT fG (gT 0) k0 [] (.seq x y) K fr H)):Wq (jb tyT fG (gT 0) k0 [] x (aaR y k0 K) fr H):=⟨nI h.h⟩
def aju {c:Code} {fr:AFr} (a:G.shp=aj tyT) (d:ρ0.length<=k0) (f:eD n c=true) (h:Wq (jb tyT fG (gT 0) k0 [] c K fr H))
  (g:St G (gT 0) ρ0 w0 fr H F w) (hK:∀ e fr H F w,K e fr H->St G (gT 0) ρ0 w0 fr H F w->WX Q n e F w):WC Tryz.prog Q n c F w:=FR a d f h.h g hK
theorem ab1 {s:State} {l:List Entry} {v:Int}:Wq (ld (Kq [.agg (cellsOf (.nm .state) s),.c (.fz (.nm .entry) l),.c (.int v)]) (jb tyT fG (gT 0) 0 [] (.seq pR0 (.seq pR1 (.seq pR2 pR3))) (koN 0 (frP,hK s [] l v)) (tZ 0 [.agg (cellsOf (.nm .state) s),.c (.fz (.nm .entry) l),.c (.int v)]) [])):=by
 refine ⟨?_⟩;rw [ajo];grind
def aaI {s:State} {v:Int} (h:∀ p ∈ Kq [.agg (cellsOf (.nm .state) s),.c (.fz (.nm .entry) l),.c (.int v)],p):Wq (jb tyT fG (gT 0) 0 [] (.seq pR0 (.seq pR1 (.seq pR2 pR3))) (koN 0 (frP,hK s [] l v)) (tZ 0 [.agg (cellsOf (.nm .state) s),.c (.fz (.nm .entry) l),.c (.int v)]) []):=by
 have a:=@ab1 s l v;revert a h;intro h a;exact Wq.go h a
def Qx {vs:List Value} {s:State} {v:Int} (hG:G.shp=aj tyT) (hR:Rep G ρ [] w) (V:All2 (dk (cx G ρ w) ρ) [.agg (cellsOf (.nm .state) s),.c (.fz (.nm .entry) l),.c (.int v)] vs) :
  jI Tryz.prog 171 vs.toArray w (EC G w s l v):=by
 have hok:=Sx.pq V;have hsz:l.length*32<=140737488355328:=by
  have:l.length*Sh.bytes (.nm .entry)<=140737488355328:=hok _ (by simp [Kq,TV1.ok,AV.ok]);exact this
 have hρ:ρ=[]:=abL hR.obj.length.symm;subst hρ;have hl3:vs.length=3:=V.length.symm;refine (callsIn_wide (n:=0)).1 (callsIn_of_wp_marks (F:=gR none) (n:=0) Tryz.func171 aaw trivial ?_);have hM0:=abr (n:=40) (args:=vs) aK;have h0:([]:List RE).length<=0:=Nat.le_refl 0;refine wpIn_seq (kx.in0 rfl ((aju (n:=40) hG h0 bN (Wq.seq (aaI hok)) (⟨[],Stp.refl _ _ _,hR,oI V⟩) fun e fr H F d hK J=>?_) _ hM0));cases e with
 | normal=>
  intro a q;refine wpIn_seq (kx.in0 q.1 ((FR (n:=40) hG h0 bN (nI hK) J fun e fr H F d hK J=>?_) _ q));cases e with
  | normal=>
   intro a q;refine wpIn_seq (kx.in0 q.1 ((FR (n:=40) hG h0 bN (nI hK) J fun e fr H F d hK J=>?_) _ q));cases e with
   | normal=>
    intro a q;refine wpIn_seq (wpIn_seq (kx.in0 q.1 ((FR (n:=40) hG h0 bN hK J fun e fr H F d hK J=>?_) _ q)));cases e with
    | normal=>
     obtain ⟨F1,⟨o,hs1,W,hf1⟩,hlk⟩:=gA (P:=Tryz.prog) (by rw [hG]; exact dK) h0 J hK;intro a ha0;have q:=ha0.sub hlk;refine wpIn_block (wpIn_rangeFunc fun fn hfn=>?_);have hae:a={ tmps:=a.tmps,defers:=[] }:=by rw [<- q.1]
     obtain ⟨vg,hg1,hg2⟩:=eO (i:=16) (tv:=one (.fn 258 [] [(5,0),(6,0)])) hf1 rfl;obtain ⟨bs,us,Y,t,rfl⟩:=hg2;cases Y;cases t with | cons h8 t=>
     cases t with | cons h9 t=>
     cases t;rename_i p8 p9;have hg:a.eval (.tmp 16) = .func (.func 258) #[] #[p8,p9]:=q.ev (x:=.tmp 16) hg1;obtain ⟨X,B⟩:∃ X:PX,X=⟨G,d.heap.size,d.heap.size+1,fn,a.tmps,F1,s,l,v,W.b0,Nat.le_succ_of_le W.b0⟩:=⟨_,rfl⟩;have p:X.D=d.heap.size:=by rw [B]
     have y:X.L=d.heap.size+1:=by rw [B]
     obtain ⟨hre,hle,hk⟩:=W.enter (.deferred (some [])) (.loop (X.rc .ready none));have hsz2:((d.alloc (.deferred (some []))).alloc (.loop (X.rc .ready none))).heap.size=d.heap.size+1+1:=by simp
     have hmid:Mid X 0 o ((d.alloc (.deferred (some []))).alloc (.loop (X.rc .ready none))):=by
      refine ⟨?_,?_,fun x hx=>by simp at hx,?_,?_⟩
      ·have:Rep (GZ G d.heap.size (d.heap.size+1)) o (Go.Proofs.YticbaadnibdbkaaGreat.hK s [] l v) ((d.alloc (.deferred (some []))).alloc (.loop (X.rc .ready none))):=hre;rw [B] at this ⊢; exact this
      ·have:=hf1.carry hle (ku.refl _);rw [B] at this ⊢; exact this
      ·rw [y];have:=World.alloc_heap_new (d.alloc (.deferred (some []))) (.loop (X.rc .ready none));rwa [World.size_alloc] at this
      rw [p];exact (Below.heap_alloc _ _ _ aa).trans (World.alloc_heap_new d _)
     have K:X.G.shp=aj tyT:=by rw [B]; exact hG
     have hGgX:X.g.shp=aj tyT:=K;have hlX:X.l=l:=by rw [B]
     have hMX:M 40 X.FP { tmps:=X.tm,defers:=[] }:=by rw [B]; rw [hae] at q; exact q
     have hMa:M 40 X.FP a:=by rw [B]; exact q
     have h8':ei o (5,0) p8:=h8;have h9':ei o (6,0) p9:=h9;have hit:=P_ K (by rw [hlX]; exact hsz) hMX (by rw [p,y]; omega) hmid h8' h9';have hE1:Ext [] w o ((d.alloc (.deferred (some []))).alloc (.loop (X.rc .ready none))):=hs1.ext.trans (Ext.kp hk);have T:∀ {N:List RE} {U:World} {H:AH} {b:Act} {fr:AFr} {F:Fr},Rep X.g N H U->FrR (cx X.g N U) N fr F->M 40 F b->endE tyT [] 0 Tryz.f171 (rE (plS X.v X.s X.l) (pE X.v X.l)) (hE (plS X.v X.s X.l) (plR X.v X.s X.l)) fr H->U.heap[X.D]? = some (.deferred (some [])) ->
       Adv X.Z o ((d.alloc (.deferred (some []))).alloc (.loop (X.rc .ready none))) N U->bodyPostM (gR none) 0 Tryz.prog Tryz.f171 (fun e w'=>∃ u,e = .returned u/\EC G w s l v u w') .ret (iZ b [{ target:=.collected X.D,args:=#[] }]) U:=fun hR4 hf4 hMb j hd4 hA4=>by
      obtain ⟨w',ht,u,t,ho⟩:=Qc (w0:=w) K (by rw [B]; exact hR.z) (by rw [p]; exact hs1.ext.size) (by rw [p,y]; omega) hR4 hf4 hMb j hd4 hE1 hA4;rw [B] at ho;exact ⟨aa,.inl ⟨_,w',rfl,ht,u,t,u,rfl,ho⟩⟩
     refine ⟨d.heap.size+1,[{ target:=.collected d.heap.size,args:=#[] }],(d.alloc (.deferred (some []))).alloc (.loop { state:=.ready,pending:=none,fn:=fn,tmps:=a.tmps,params:=#[17],assign:=NC,body:=Mq,defers:=d.heap.size }),{ target:=.fn (.func 258) #[p8,p9],args:=#[yV (d.heap.size+1)] },(d.alloc (.deferred (some []))).alloc (.loop { state:=.ready,pending:=none,fn:=fn,tmps:=a.tmps,params:=#[17],assign:=NC,body:=Mq,defers:=d.heap.size }),258,#[yV (d.heap.size+1)] ++ #[p8,p9],(d.alloc (.deferred (some []))).alloc (.loop { state:=.ready,pending:=none,fn:=fn,tmps:=a.tmps,params:=#[17],assign:=NC,body:=Mq,defers:=d.heap.size }),run_enterLoop_outer _ _ _ _ _,?_,fun _ _=>trivial,?_,fun h=>(by cases h),?_⟩
     ·simp only [resolve,hg];simp [go_sem]
     ·simp [invoke,go_sem]
     have hrc:({ state:=.ready,pending:=none,fn:=fn,tmps:=a.tmps,params:=#[17],assign:=NC,body:=Mq,defers:=d.heap.size }:Loop)=X.rc .ready none:=by rw [B]; rfl
     rw [hrc,<- y];refine OD (ak0 hit fun e O ⟨v0,he,f,hA2,hc⟩=>?_);subst he;rcases hc with ⟨k,hk,Q⟩ | hst
     ·refine ⟨none,_,run_endLoop (P:=Tryz.prog) Q.loop (by simp [PX.rc]),?_⟩;obtain ⟨p1,p2,p3⟩:=Zu (s:=X.s) Q.ok hk;have S:=Q.rep.Js (l:=X.L) (.loop { X.rc .ready none with state:=.exhausted }) (.inr (.inr rfl)) X.hL;have A2:Adv X.Z o _ f (O.putObj X.L (.loop { X.rc .ready none with state:=.exhausted })):=hA2.trans (.put _ (.inr rfl));have C:FrR (cx X.g f (O.putObj X.L (.loop { X.rc .ready none with state:=.exhausted }))) f frP X.FP:=Q.fr.carry ((Adv.put (Z:=X.Z) (ρ:=f) (w:=O) _ (.inr rfl)).le (G:=X.g) (fun b Y=>.inr Y) Q.rep.lo X.hB) (ku.refl _);have A:(O.putObj X.L (.loop { X.rc .ready none with state:=.exhausted })).heap[X.D]? = some (.deferred (some [])):=(agA (by rw [p,y]; omega)).trans Q.dfr;have hlen2:f.length=11:=Q.rep.obj.length.symm;revert S A2 C A;generalize O.putObj X.L (.loop { X.rc .ready none with state:=.exhausted })=U;intro S A2 C A;have hwc:WC Tryz.prog (fun e b w5=>e = .ret/\bodyPostM (gR none) 0 Tryz.prog Tryz.f171 (fun e w'=>∃ u,e = .returned u/\EC G w s l v u w') .ret (iZ b [{ target:=.collected X.D,args:=#[] }]) w5) 40 Sv X.FP U:=by
       refine FR hGgX (agD hlen2) bN (aa8 (s:=pS X.v X.s (X.l.take k)) (r:=pR X.v X.s (X.l.take k)) (l:=X.l) (v:=X.v)) (⟨f,Stp.refl _ _ _,S,C⟩) fun e fr H F w5 hK J=>?_;cases e with
       | ret=>
        obtain ⟨ρ5,hs5,hr5,hf5⟩:=J;have hd5:w5.heap[X.D]? = some (.deferred (some [])):=(hs5.ext.old _ (fa A) (S.jR (.inr (.inl rfl)))).2.trans A;have j:endE tyT [] 0 Tryz.f171 (rE (pS X.v X.s (X.l.take k)) 0) (hE (pS X.v X.s (X.l.take k)) (pR X.v X.s (X.l.take k))) fr H:=hK;rw [p1,p2,p3] at j;exact fun b Y=>⟨rfl,T hr5 hf5 Y j hd5 (A2.trans (.yO hs5.ext hs5.bx))⟩
       | _=>exact hK.elim
      have hwi:=PM (m:=0) (hwc a hMa none [{ target:=.collected X.D,args:=#[] }]);rw [p] at hwi;have I:({ a with defers:=[{ target:=.collected d.heap.size,args:=#[] }]++a.defers }:Act)=iZ a [{ target:=.collected d.heap.size,args:=#[] }]:=by rw [q.1]; rfl
      show Exit.inBlock 0 _ .normal _ U;rw [I];refine wpIn_mono hwi fun e b w5 ⟨b0,hb0,hbe,hbr,hpost⟩=>?_;subst hbr; subst hbe;exact hpost
     refine ⟨some .ret,_,run_endLoop (P:=Tryz.prog) hst.loop (by simp [PX.rc]),?_⟩;obtain ⟨H,hR,j⟩:=hst.rep;have A2:Adv X.Z o _ f (O.putObj X.L (.loop { X.rc .done (some .ret) with state:=.exhausted })):=hA2.trans (.put _ (.inr rfl));have C:FrR (cx X.g f (O.putObj X.L (.loop { X.rc .done (some .ret) with state:=.exhausted }))) f frP X.FP:=hst.fr.carry ((Adv.put (Z:=X.Z) (ρ:=f) (w:=O) _ (.inr rfl)).le (G:=X.g) (fun b Y=>.inr Y) hR.lo X.hB) (ku.refl _);have A:(O.putObj X.L (.loop { X.rc .done (some .ret) with state:=.exhausted })).heap[X.D]? = some (.deferred (some [])):=(agA (by rw [p,y]; omega)).trans hst.dfr;have hp:=T (hR.Js _ (.inr (.inr rfl)) X.hL) C hMa j A A2;have I:({ a with defers:=[{ target:=.collected d.heap.size,args:=#[] }]++a.defers }:Act)=iZ a [{ target:=.collected d.heap.size,args:=#[] }]:=by rw [q.1]; rfl
     rw [p] at hp;show Code.ret.wpIn _ _ _ _ _ _;rw [I];exact wpIn_ret hp
    | _=>exact hK.elim
   | _=>exact hK.elim
  | _=>exact hK.elim
 | _=>exact hK.elim
def ML (s:State) (l:List Entry) (v:Int):Sat Tryz.prog (aj tyT) 171 [.agg (cellsOf (.nm .state) s),.c (.fz (.nm .entry) l),.c (.int v)] [] ⟨[],rE (plS v s l) (pE v l),some (hE (plS v s l) (plR v s l)),true⟩:=by
 refine ⟨⟨_,Tryz.func171,am,by kernel_rfl⟩,fun G ρ w y k j a=>?_⟩;have d:ρ=[]:=abL j.obj.length.symm;subst d;refine (Qx k j a).mono fun u z ⟨m,e,f,o,p,q,x⟩=>⟨m,e,f,o,p,fun i g h=>by simp at h,q,fun _=>⟨x,fun i r h=>by simp at h⟩⟩
section
variable {v:Int} {s:State} {l:List Entry} {k:Nat} {x:Entry}
end
def Vg (st:State) (l:List Entry) (v:Int):Sat Tryz.prog (aj tyT) 171 [.agg (cellsOf (.nm .state) st),.c (.fz (.nm .entry) (l)),.c (.int (v))] [] ⟨[],[.agg ([.int (((plS v st l).version)),.int (((plS v st l).next)),.int (((plS v st l).keep)),.int (((plS v st l).quota)),.own 0,.own 1,.own 2]),.c (.own 3),.c (.int ((pE v l)))],some ([.row 137 (.nm .sess) (((plS v st l).sess)),.row 139 (.nm .opn) (((plS v st l).opens)),.row 172 (.nm .snap) (((plS v st l).snaps)),.row 78 (.nm .reply) ((plR v st l))]),true⟩:=ML st l v
def Fm:Kn:=aM (ae (kT (.nm .state)) (ae (kC (cL (.nm .entry))) (ae (kC cI) ak))) av fun (st,l,v,_) _=>⟨[],[.agg ([.int (((plS v st l).version)),.int (((plS v st l).next)),.int (((plS v st l).keep)),.int (((plS v st l).quota)),.own 0,.own 1,.own 2]),.c (.own 3),.c (.int ((pE v l)))],some ([.row 137 (.nm .sess) (((plS v st l).sess)),.row 139 (.nm .opn) (((plS v st l).opens)),.row 172 (.nm .snap) (((plS v st l).snaps)),.row 78 (.nm .reply) ((plR v st l))]),true⟩
def TQ:CK 171 Fm:=ag fun (st,l,v,_) _ _=>Vg st l v
def adj:bF:=(aP 171 Fm afE)
def gN:aw Tryz.prog (aj tyT) adj:=(ah TQ Sn)
def af0 (O:bF):bF:=fun g a H=>bif Nat.beq g 1000000003 then some ⟨[False],[],none,false⟩ else O g a H
variable {P:Program} {shp:TypeId->Option Sh}
def yj {O:bF} (c:aw P shp O):aw P shp (af0 O):=fun g args H r h a=>by
 unfold af0 at h;cases d:Nat.beq g 1000000003 <;> rw [d] at h
 ·exact c g args H r h a
 cases h; exact (a False aa).elim
def cWp:AV->Option Nat
 | .xx (.w n) []=>some n
 | _=>none
def cW:PC Nat:=⟨cWp,fun n=>.xx (.w n) [],fun a y h c ρ v d=>by
 unfold cWp at h
 split at h
 ·cases h; exact d
 ·cases h⟩
theorem Sat.Ps {f:Nat} {args O:List TV1} {p:AH} {pre:List Prop} {d b:Bool} (i k:Nat) (e:TypeId) (s:Sh) {t:TypeId} {x:List AV} {S:AH} (W:shp e=some s) (q:p[i]? = some (.box t x)) (B:x[k]? = some (.em b)) (h:Sat P shp f args H ⟨pre,O,some p,d⟩) (X:S=p.set i (.box t (x.set k (.own p.length)))++[.row e s []]):Sat P shp f args H ⟨pre,O,some S,d⟩:=by
 subst X;refine ⟨h.1,fun G ρ w Y j Z l=>(h.2 G ρ w Y j Z l).mono ?_⟩;rintro v C ⟨n,F,c,D,K,Q,k4,T⟩;have I:=(Ext.app (ρ:=c) (r:=.emp) (Kp.refl C) fun g j=>by cases j).le D.lo;have y:=D.obj.length;have m:=D.app (r:=.emp) (o:=.row e s []) (Kp.refl C) (fun g j=>by cases j) ⟨by show G.shp e=some s; rw [j]; exact W,aa,.inl ⟨rfl,rfl⟩⟩;have A:=(aar.1 q).1;refine ⟨n,F,c ++ [.emp],⟨?_,m.inj,m.bnd,m.z,m.b0,m.tb⟩,K.trans (Ext.app (Kp.refl C) fun g j=>by cases j),fun i g q=>by
  rw [List.getElem?_append_left]
  ·grind
  ·exact (aar.1 (Q i g q)).1,k4.imp fun _ _ h=>h.carry I (gp _ _),fun B=>⟨(T B).1,fun i rr q=>by
  rw [List.getElem?_append_left]
  ·grind
  exact (aar.1 ((T B).2 i rr q)).1⟩⟩
 obtain ⟨r,hr,g,J,rfl,h1,U⟩:=m.at_ (i:=i) (o:=.box t x) (by rw [List.getElem?_append_left A]; exact q);have V:=m.obj.set i (a:=.box t (x.set k (.own p.length))) (b:=.blk g) ⟨g,J,rfl,h1,?_⟩
 ·rw [List.set_append_left _ _ A] at V;have:(c ++ [RE.emp]).set i (.blk g)=c ++ [RE.emp]:=by
   obtain ⟨hj,L⟩:=aar.1 hr;rw [<- L,List.set_getElem_self]
  rwa [this] at V
 obtain ⟨u,hu,N⟩:=dU U k _ B;have k8:=U.set k (a:=.own p.length) (b:=u) (.inr ⟨by rw [y]; simp,?_⟩)
 ·have:J.set k u=J:=by
   obtain ⟨hj,L⟩:=aar.1 hu;rw [<- L,List.set_getElem_self]
  rwa [this] at k8
 have N:Pd _ _ _:=N;cases N with | em _=>exact ⟨_,rfl⟩
def Cd:Kn:=aM (ae (kC (aZ 0 0)) ak) (aH (dQ 147 (ax (eV 1) (ax cI (ax cB (ax cB (ax cI dL)))))) (aH (e_ 5 .u8) av)) fun _ ((_,d,a,e,f,_),g,_)=>⟨[],[.c (.bool (.atom ((a))))],none,false⟩
def Nx:CK 40 Cd:=ag fun _ ((_,c,a,d,e,_),f,_) _=>by
 refine aq gN [] Tryz.func40 (?_:a=a);try rfl
def CG:Kn:=aM (ae (kC (aZ 0 0)) (ae (kC cI) ak)) (aH (dQ 147 (ax (eV 1) (ax cI (ax cB (ax cB (ax cI dL)))))) (aH (e_ 5 .u8) av)) fun (_,k,_) ((_,a,c,e,f,_),d,_)=>⟨[],[],some ([.box 147 ([.own 1,.int (((Dsk.mk d a c true k).synced)),.bool (.atom (((Dsk.mk d a c true k).down))),.bool (.atom (((Dsk.mk d a c true k).doomed))),.int (((Dsk.mk d a c true k).keep))]),.row 5 .u8 (((Dsk.mk d a c true k).b))]),false⟩
theorem Pp:CK 108 CG:=ag fun (_,k,_) ((_,a,c,e,f,_),d,_) _=>by
 refine bw gN [] Tryz.func108 (?_:I64 k->a=a/\c=c/\true=true/\k=k/\d=d);(repeat' with_reducible first|apply bc|refine ba ?_|intro) <;> (first | with_reducible rfl | with_reducible assumption | omega | (refine bz ?_ ?_ <;> omega))
def PD:Kn:=aM (ae (kC (aZ 0 0)) ak) (aH (dQ 147 (ax (eV 1) (ax cI (ax cB (ax cB (ax cI dL)))))) (aH (e_ 5 .u8) av)) fun _ ((_,d,a,e,f,_),g,_)=>⟨[],[.c (.int ((if a=true then 0 else 31)))],some ([.box 147 ([.own 1,.int (((if a=true then (Dsk.mk g d a e f).up else (Dsk.mk g d a e f)).synced)),.bool (.atom (((if a=true then (Dsk.mk g d a e f).up else (Dsk.mk g d a e f)).down))),.bool (.atom (((if a=true then (Dsk.mk g d a e f).up else (Dsk.mk g d a e f)).doomed))),.int (((if a=true then (Dsk.mk g d a e f).up else (Dsk.mk g d a e f)).keep))]),.row 5 .u8 (((if a=true then (Dsk.mk g d a e f).up else (Dsk.mk g d a e f)).b))]),false⟩
theorem ZG:CK 44 PD:=ag fun _ ((_,d,c,f,g,_),e,_) _=>by
 refine bw gN [] Tryz.func44 (?_:(fun h=>(fun a=>(c=false->31=h/\d=a.synced/\c=a.down/\f=a.doomed/\g=a.keep/\e=a.b)/\(c=true->0=h/\d=a.synced/\false=a.down/\false=a.doomed/\0=a.keep/\e=a.b)) (if c=true then (Dsk.mk e d c f g).up else Dsk.mk e d c f g)) (if c=true then (0:Int) else (31:Int)));(repeat' with_reducible first|apply bc|refine ba ?_|intro) <;> grind [Dsk.up]
def vX:Kn:=aM (ae (kC (aZ 0 0)) (ae (kC cI) ak)) (aH (dQ 147 (ax (eV 1) (ax cI (ax cB (ax cB (ax cI dL)))))) (aH (e_ 5 .u8) av)) fun (_,k,_) ((_,a,c,d,e,_),f,_)=>⟨[(Dsk.mk f a c d e).OK],[],some ([.box 147 ([.own 1,.int ((((Dsk.mk f a c d e).cM k).synced)),.bool (.atom ((((Dsk.mk f a c d e).cM k).down))),.bool (.atom ((((Dsk.mk f a c d e).cM k).doomed))),.int ((((Dsk.mk f a c d e).cM k).keep))]),.row 5 .u8 ((((Dsk.mk f a c d e).cM k).b))]),false⟩
theorem Jp:CK 39 vX:=ag fun (_,k,_) ((_,e,f,g,h,_),a,_) i=>by
 have j:=cg i;refine bw (yj gN) [] Tryz.func39 (?_:(fun c=>(fun d=>I64 k->I64 ((↑a.length:Int) - e)/\I64 d/\(0<=d/\d<=(↑a.length:Int))/\(↑(List.take d.toNat a).length:Int)=c.synced/\true=c.down/\false=c.doomed/\0=c.keep/\List.take d.toNat a=c.b) (e+min (max k 0) ((↑a.length:Int) - e))) ((Dsk.mk a e f g h).cM k));obtain ⟨m,o,p⟩:=j;dsimp only at m o p;(repeat' with_reducible first|apply bc|refine ba ?_|intro) <;> first | (first | with_reducible rfl | with_reducible assumption | omega | (refine bz ?_ ?_ <;> omega)) | (simp only [Dsk.cM,Dsk.at_]; first | done | (first | with_reducible rfl | with_reducible assumption | omega | (refine bz ?_ ?_ <;> omega)) | (rw [List.length_take]; omega))
def Gy:Kn:=aM (ae (kC (aZ 0 0)) (ae (kC cI) ak)) (aH (dQ 147 (ax (eV 1) (ax cI (ax cB (ax cB (ax cI dL)))))) (aH (e_ 5 .u8) av)) fun (_,k,_) ((_,a,d,e,f,_),g,_)=>⟨[(Dsk.mk g a d e f).OK],[.c (.int (((Dsk.mk g a d e f).kM k)))],some ([.box 147 ([.own 1,.int ((((Dsk.mk g a d e f).cut k).synced)),.bool (.atom ((((Dsk.mk g a d e f).cut k).down))),.bool (.atom ((((Dsk.mk g a d e f).cut k).doomed))),.int ((((Dsk.mk g a d e f).cut k).keep))]),.row 5 .u8 ((((Dsk.mk g a d e f).cut k).b))]),false⟩
theorem Wx:CK 45 Gy:=ag fun (_,k,_) ((_,h,d,f,g,_),c,_) j=>by
 have m:=cg j;refine bw (yj gN) [] Tryz.func45 (?_:(fun e=>(fun a=>(fun i=>I64 k->(d=true->30=e.kM k/\i)/\(d=false->(k<0\/(↑c.length:Int)<k->1=e.kM k/\i)/\(0<=k/\k<=(↑c.length:Int)->0<=k/\k<=(↑c.length:Int)/\0=e.kM k/\k=a.synced/\d=a.down/\f=a.doomed/\g=a.keep/\List.take k.toNat c=a.b))) (h=a.synced/\d=a.down/\f=a.doomed/\g=a.keep/\c=a.b)) (e.cut k)) (Dsk.mk c h d f g));obtain ⟨o,p,q⟩:=m;dsimp only at o p q;(repeat' with_reducible first|apply bc|refine ba ?_|intro) <;> first | (first | with_reducible rfl | with_reducible assumption | omega | (refine bz ?_ ?_ <;> omega)) | grind [Dsk.cut,Dsk.kM]
def Fq:Kn:=aM (ae (kC (aZ 0 0)) (ae (kC (cL .u8)) ak)) (aH (dQ 147 (ax (eV 1) (ax cI (ax cB (ax cB (ax cI dL)))))) (aH (e_ 5 .u8) av)) fun (_,x,_) ((_,a,d,e,f,_),g,_)=>⟨[(Dsk.mk g a d e f).OK],[.c (.int (((Dsk.mk g a d e f).jM x)))],some ([.box 147 ([.own 1,.int ((((Dsk.mk g a d e f).app x).synced)),.bool (.atom ((((Dsk.mk g a d e f).app x).down))),.bool (.atom ((((Dsk.mk g a d e f).app x).doomed))),.int ((((Dsk.mk g a d e f).app x).keep))]),.row 5 .u8 ((((Dsk.mk g a d e f).app x).b))]),false⟩
theorem Tb:CK 150 Fq:=ag fun (_,x,_) ((_,f,c,g,h,_),d,_) k=>by
 have m:=cg k;refine bw gN [] Tryz.func150 (?_:(fun e=>(fun i=>(fun a=>(fun j=>x.length*1<=140737488355328->(c=true->30=e.jM x/\j)/\(c=false->I64 i/\(i<(↑x.length:Int)->20=e.jM x/\j)/\((↑x.length:Int)<=i->(d.length+x.length)*1<=140737488355328/\0=e.jM x/\f=a.synced/\c=a.down/\g=a.doomed/\h=a.keep/\d++x=a.b))) (f=a.synced/\c=a.down/\g=a.doomed/\h=a.keep/\d=a.b)) (e.app x)) (65536 - (↑d.length:Int))) (Dsk.mk d f c g h));obtain ⟨o,p,q⟩:=m;dsimp only at o p q;(repeat' with_reducible first|apply bc|refine ba ?_|intro) <;> first | (first | with_reducible rfl | with_reducible assumption | omega | (refine bz ?_ ?_ <;> omega)) | grind [Dsk.app,Dsk.jM]
def vI:Kn:=aM (ae (kC (aZ 0 0)) ak) (aH (dQ 147 (ax (eV 1) (ax cI (ax cB (ax cB (ax cI dL)))))) (aH (e_ 5 .u8) av)) fun _ ((_,d,e,f,g,_),a,_)=>⟨[(Dsk.mk a d e f g).OK],[.c (.own 2)],some ([.box 147 ([.own 1,.int ((d)),.bool (.atom ((e))),.bool (.atom ((f))),.int ((g))]),.row 5 .u8 ((a)),.row 5 .u8 ((a))]),true⟩
theorem JG:CK 42 vI:=ag fun _ ((_,d,e,f,g,_),c,_) h=>by
 have i:=cg h;refine dF gN [] Tryz.func42 (?_:(fun (a:Nat)=>(0:Int)<=(↑a:Int)/\(↑a:Int)*(↑(1:Nat):Int)<=(140737488355328:Int)/\(↑a:Int)=(↑a:Int)/\d=d/\e=e/\f=f/\g=g/\c=c/\List.take (List.replicate a (ao Sh.u8)).length c++List.drop a (List.replicate a (ao Sh.u8))=c) c.length);obtain ⟨j,k,m⟩:=i;dsimp only at j k m;(repeat' with_reducible first|apply bc|refine ba ?_|intro) <;> first | (first | with_reducible rfl | with_reducible assumption | omega | (refine bz ?_ ?_ <;> omega)) | simp
def GP:Kn:=aM ak av fun _ _=>⟨[],[.c (.ptr 0 0)],some ([.box 147 ([.em true,.int ((0)),.bool (.atom ((false))),.bool (.atom ((false))),.int ((0))])]),true⟩
theorem Fh:CK 38 GP:=ag fun _ _ _=>by
 refine dF gN [] Tryz.func38 (?_:(0:Int)=0/\false=false/\false=false/\(0:Int)=0);(repeat' with_reducible first|apply bc|refine ba ?_|intro) <;> (first | with_reducible rfl | with_reducible assumption | omega | (refine bz ?_ ?_ <;> omega))
def Vp :Sat Tryz.prog (aj tyT) 38 [] [] ⟨[],[.c (.ptr 0 0)],some ([.box 147 ([.em true,.int ((0)),.bool (.atom ((false))),.bool (.atom ((false))),.int ((0))])]),true⟩:=Fh _ _ _ rfl aa
def afi:bF:=(aP 38 GP (aP 42 vI (aP 150 Fq (aP 45 Gy (aP 39 vX (aP 44 PD (aP 108 CG (aP 40 Cd adj))))))))
def gr:aw Tryz.prog (aj tyT) afi:=(ah Fh (ah JG (ah Tb (ah Wx (ah Jp (ah ZG (ah Pp (ah Nx gN))))))))
variable {x:UInt8} {k:Nat}
def wD {q:Nat × Nat} {l:List UInt8} (h:l[k]? = some x):fH q (l.take (k+1))=Pv (fH q (l.take k)) x:=by
 rw [ai h,fH,List.foldl_append]; rfl
variable {b:List UInt8}
def Lg {s:Nat} (h:b[k]? = some x):((fH (s % 65536 % 65521,s / 65536 % 65521) (b.take k)).1+x.toNat) % 4294967296 % 65521=(fH (s % 65536 % 65521,s / 65536 % 65521) (b.take (k+1))).1:=by
 have:=(qZ (s:=s) (b.take k)).1;have:=x.toNat_lt;rw [wD h,Pv];omega
def OX {s:Nat} (h:b[k]? = some x):((fH (s % 65536 % 65521,s / 65536 % 65521) (b.take k)).2+((fH (s % 65536 % 65521,s / 65536 % 65521) (b.take k)).1+x.toNat) % 4294967296 % 65521) % 4294967296 % 65521=(fH (s % 65536 % 65521,s / 65536 % 65521) (b.take (k+1))).2:=by
 have:=(qZ (s:=s) (b.take k));have:=x.toNat_lt;rw [wD h,Pv];omega
def Nc {s:Nat} (h:(b.length:Int)<=k):(65536*(fH (s % 65536 % 65521,s / 65536 % 65521) (b.take k)).2 % 4294967296+(fH (s % 65536 % 65521,s / 65536 % 65521) (b.take k)).1) % 4294967296=cz s b:=by
 have:=(qZ (s:=s) b);rw [List.take_of_length_le aK,cz];omega
variable {x:Bool} {l:List Bool}
def aky (h:l[k]? = some x) (a:x=true):(((l.take k).countP id:Nat):Int)+1=((l.take (k+1)).countP id:Nat):=by
 rw [ai h,List.countP_append,a]; simp
def ahv (h:l[k]? = some x) (a:x=false):(((l.take k).countP id:Nat):Int)=((l.take (k+1)).countP id:Nat):=by
 rw [ai h,List.countP_append,a]; simp
def ajc (h:(l.length:Int)<=k):decide ((l.length:Int).tdiv 2<((l.take k).countP id:Nat))=decide ((l.length:Int).tdiv 2<(l.countP id:Nat)):=by
 rw [List.take_of_length_le aK]
def ahb (h:l.length*1<=140737488355328):I64 (((l.take k).countP id:Nat)+1):=by
 have a:(l.take k).countP id<=(l.take k).length:=List.countP_le_length;rw [List.length_take] at a;exact bz aK aK
variable {l:List Entry}
def Uf (h:(l.length:Int)=0):(0:Int)=iu l:=by
 rw [abL (l:=l) aK]; rfl
def WB (h:¬ (l.length:Int)=0):(l.getD ((l.length:Int) - 1).toNat (ao (Sh.nm NT.entry))).term=iu l:=by
 rw [show ((l.length:Int) - 1).toNat=l.length - 1 by omega]; rfl
def TC {k:Int} {x:Entry} (a:¬ k=0) (c:0<=k) (d:k<=(l.length:Int)) (h:l[(k - 1).toNat]? = some x):x.term=cV l k:=by
 rw [cV,if_neg a,if_neg aK,List.getD_eq_getElem?_getD,h]; rfl
def abG (s:Nat) (b:List UInt8):List (Nat × LI):=[(3,{ σ:=Nat,F:=fun k=>([(5,one (.ptr 0 0)),(15,one (.fz .u8 (b))),(16,one (.int (b).length)),(17,one (.int k))],[.box 286 ([.xx (.w (((fH (s % 65536 % 65521,s / 65536 % 65521) (b.take k)).1))) [],.xx (.w (((fH (s % 65536 % 65521,s / 65536 % 65521) (b.take k)).2))) []])]),J:=fun k=>k<=b.length,μ:=fun k=>(b).length - k })]
def aa6 (l:List Bool):List (Nat × LI):=[(3,{ σ:=Nat,F:=fun k=>([(0,one (.fz .bool (l))),(3,one (.int ((l.take k).countP id))),(6,one (.fz .bool (l))),(7,one (.int (l).length)),(8,one (.int k))],[]),J:=fun k=>k<=l.length,μ:=fun k=>(l).length - k })]
def Aj:Kn:=aM (ae (kC (aZ 0 0)) ak) (aH (dQ 147 (ax (eV 1) (ax cI (ax cB (ax cB (ax cI dL)))))) (aH (e_ 5 .u8) av)) fun _ ((_,a,d,e,f,_),g,_)=>⟨[(Dsk.mk g a d e f).OK],[.c (.int (((Dsk.mk g a d e f).fx)))],some ([.box 147 ([.own 1,.int ((((Dsk.mk g a d e f).sync).synced)),.bool (.atom ((((Dsk.mk g a d e f).sync).down))),.bool (.atom ((((Dsk.mk g a d e f).sync).doomed))),.int ((((Dsk.mk g a d e f).sync).keep))]),.row 5 .u8 ((((Dsk.mk g a d e f).sync).b))]),false⟩
theorem KJ:CK 151 Aj:=ag fun _ ((_,f,g,h,i,_),c,_) m=>by
 have o:=cg m;refine bw gr [] Tryz.func151 (?_:(fun d=>(fun e=>(fun a=>(fun j=>(g=true->30=d.fx/\f=a.synced/\j)/\(g=false->(h=true->(0<=f/\f<=(↑c.length:Int)/\c.length<=65536)/\30=d.fx/\e.synced=a.synced/\e.down=a.down/\e.doomed=a.doomed/\e.keep=a.keep/\e.b=a.b)/\(h=false->0=d.fx/\(↑c.length:Int)=a.synced/\j))) (g=a.down/\h=a.doomed/\i=a.keep/\c=a.b)) d.sync) (d.cM i)) (Dsk.mk c f g h i));obtain ⟨p,q,r⟩:=o;dsimp only at p q r;(repeat' with_reducible first|apply bc|refine ba ?_|intro) <;> first | (first | with_reducible rfl | with_reducible assumption | omega | (refine bz ?_ ?_ <;> omega)) | grind [Dsk.sync,Dsk.fx]
def Lu :Sat Tryz.prog (aj tyT) 38 [] [] ⟨[],[.c (.ptr 0 0)],some ([.box 147 ([.own 1,.int ((0)),.bool (.atom ((false))),.bool (.atom ((false))),.int ((0))]),.row 5 .u8 (([]))]),true⟩:=Sat.Ps 0 0 5 .u8 bN rfl rfl Vp rfl
def AQ:Kn:=aM ak av fun _ _=>⟨[],[.c (.ptr 0 0)],some ([.box 147 ([.own 1,.int ((0)),.bool (.atom ((false))),.bool (.atom ((false))),.int ((0))]),.row 5 .u8 (([]))]),true⟩
def N_:CK 38 AQ:=ag fun _ _ _=>Lu
def HX:Kn:=aM (ae (kC cW) (ae (kC (cL .u8)) ak)) av fun (s,b,_) _=>⟨[],[.c (.xx (.w ((cz s b))) [])],none,false⟩
theorem Uk:CK 252 HX:=ag fun (s,b,_) _ _=>by
 refine aq gr (abG s b) Tryz.func252 (?_:(fun (i:Nat)=>(fun (g:Nat)=>(fun (f:Int)=>(fun (d:Nat)=>(fun (e:Nat)=>(fun (h:Int)=>(fun (c:Int)=>(fun (j:Nat × Nat)=>b.length*(1:Nat)<=(140737488355328:Nat)->i<g/\i<e/\i<g/\i<e/\∃ (o:Nat),(b=b/\(↑b.length:Int)=(↑d:Int)/\c=(↑o:Int)/\s % g % e=(fH j (List.take o b)).fst/\s / g % e=(fH j (List.take o b)).snd)/\o<=d/\∀ (a:Nat),(fun (p:Nat × Nat)=>a<=d->((↑a:Int)<(↑d:Int)->c<=(↑a:Int)/\(↑a:Int)<(↑b.length:Int)/\∀ (x:UInt8),(fun (q:Nat)=>b[a]? = some x->c<=c/\c<h/\i<e/\c<=c/\c<h/\c<=f/\f<h/\c<=c/\c<h/\i<e/\c<=f/\f<h/\I64 ((↑a:Int)+f)/\∃ (m:Nat),(b=b/\(↑d:Int)=(↑d:Int)/\(↑a:Int)+f=(↑m:Int)/\q=(fH j (List.take m b)).fst/\(p.snd+q) % (4294967296:Nat) % e=(fH j (List.take m b)).snd)/\m <= d/\d - m < d - a) ((p.fst+x.toNat) % (4294967296:Nat) % e))/\((↑d:Int)<=(↑a:Int)->c<=f/\f<h/\c<=c/\c<h/\(g*p.snd % (4294967296:Nat)+p.fst) % (4294967296:Nat)=cz s b)) (fH j (List.take a b))) (s % g % e,s / g % e)) (0:Int)) (↑(2:Nat):Int)) (65521:Nat)) b.length) (1:Int)) (65536:Nat)) (0:Nat));(repeat' with_reducible first|apply bc|refine ba ?_|intro)
 all_goals try ( refine ⟨0,?_⟩; (repeat' with_reducible first|apply bc|refine ba ?_|intro))
 all_goals try ( refine ⟨‹Nat› + 1,?_⟩; (repeat' with_reducible first|apply bc|refine ba ?_|intro))
 all_goals (first | exact bm | exact rfl | exact (Lg ab) | exact (OX ab) | exact (Nc ab))
def qq:Kn:=aM (ae (kC (cL .u8)) ak) av fun (l,_) _=>⟨[],[.c (.fz .u8 ((l)))],none,false⟩
theorem zR:CK 104 qq:=ag fun (l,_) _ _=>by
 refine aq gr [] Tryz.func104 (?_:(fun a=>a->∀ (b:Bool),(b=true->l=[])->(b=true->l=[])/\(b=false->a/\l=l)) (l.length*1<=140737488355328));grind
def Gd:Kn:=aM (ae (kC (cL (.nm .entry))) ak) av fun (l,_) _=>⟨[],[.c (.int (((l.length:Int)))),.c (.int ((iu l)))],none,false⟩
def Tk:CK 49 Gd:=ag fun (l,_) _ _=>by
 refine aq gr [] Tryz.func49 (?_:(fun a=>(fun c=>(fun d=>l.length*32<=140737488355328->(a=0->0=(↑l.length:Int)/\0=iu l)/\(¬a=0->I64 c/\(0<=c/\c<a)/\(I64 d.term->d.b.length*1<=140737488355328->a=(↑l.length:Int)/\d.term=iu l))) (l.getD c.toNat (ao (Sh.nm NT.entry)))) (a - 1)) (↑l.length:Int));(repeat' with_reducible first|apply bc|refine ba ?_|intro)
 all_goals (first | exact bm | exact (Uf ab) | exact (WB ab))
def Fk:Kn:=aM (ae (kC (cL (.nm .entry))) (ae (kC cI) ak)) av fun (l,k,_) _=>⟨[],[.c (.int ((cV l k)))],none,false⟩
def TH:CK 193 Fk:=ag fun (l,k,_) _ _=>by
 refine aq gr [] Tryz.func193 (?_:(fun a=>(fun c=>l.length*32<=140737488355328->I64 k->(k=a->a=cV l k)/\(¬k=a->(k<a\/(↑l.length:Int)<k -> -1=cV l k)/\(a<=k/\k<=(↑l.length:Int)->I64 c/\a<=c/\c<(↑l.length:Int)/\∀ (x:Entry),l[c.toNat]? = some x->I64 x.term->x.b.length*1<=140737488355328->x.term=cV l k))) (k - 1)) (0:Int));(repeat' with_reducible first|apply bc|refine ba ?_|intro)
 all_goals (first | exact bm | exact (TC ab ab ab ab) | (rw [cV,if_pos ab]) | (rw [cV,if_neg ab,if_pos ab]))
def HD:Kn:=aM (ae (kC cI) (ae (kT (.nm .letter)) ak)) av fun (n,x,_) _=>⟨[0<=x.a/\x.a<=64],[.c (.int ((jz n x)))],none,false⟩
theorem Wh:CK 172 HD:=ag fun (n,x,_) _ e=>by
 have f:=cg e;refine aq gr [] Tryz.func172 (?_:(fun c=>(fun d=>I64 n->aS x ((x.ok=true->I64 d/\d=jz n x)/\(x.ok=false->(c<n->I64 (n - c)/\I64 d/\min (n - c) d=jz n x)/\(n<=c->c=jz n x)))) (x.a+c)) (1:Int));(repeat' with_reducible first|apply bc|refine ba ?_|intro)
 all_goals first | exact bm | (simp only [jz]; grind) | (have q:=(by with_reducible assumption:I64 n); exact bz (by have:=q.1; omega) (by have:=q.2; omega))
def GU:Kn:=aM (ae (kC cI) (ae (kC cI) ak)) av fun (t,v,_) _=>⟨[],[.c (.own 0)],some ([.row 108 (.nm .record) (([⟨2,t,v,[]⟩]))]),true⟩
def TN:CK 88 GU:=ag fun (t,v,_) _ _=>by
 refine dF gr [] Tryz.func88 (?_:I64 t->I64 v->[Record.mk 2 t v []]=[Record.mk 2 t v []]);intros; rfl
def HP:Kn:=aM (ae (kC (cL .bool)) ak) av fun (l,_) _=>⟨[],[.c (.bool (.atom ((qp l))))],none,false⟩
theorem UR:CK 101 HP:=ag fun (l,_) _ _=>by
 refine aq gr (aa6 l) Tryz.func101 (?_:(fun e=>(fun h=>(fun a=>(fun d=>l.length*(1:Nat)<=(140737488355328:Nat)->∃ i,(l=l/\(0:Int)=(↑(List.countP id (List.take i l)):Int)/\l=l/\e=d/\(0:Int)=(↑i:Int))/\i<=a/\∀ (s:Nat),(fun f=>(fun g=>s<=a->((↑s:Int)<d->(0:Int)<=(↑s:Int)/\(↑s:Int)<e/\∀ (x:Bool),l[s]? = some x->(x=true->I64 (g+h)/\I64 f/\∃ c,(l=l/\g+h=(↑(List.countP id (List.take c l)):Int)/\l=l/\d=d/\f=(↑c:Int))/\c <= a/\a - c < a - s)/\(x=false->I64 f/\∃ c,(l=l/\g=(↑(List.countP id (List.take c l)):Int)/\l=l/\d=d/\f=(↑c:Int))/\c <= a/\a - c < a - s))/\(d<=(↑s:Int)->(0:Int)<=e/\(0:Int)<(2:Int)/\decide (e.tdiv (2:Int)<g)=qp l)) (↑(List.countP id (List.take s l)):Int)) ((↑s:Int)+h)) (↑a:Int)) l.length) (1:Int)) (↑l.length:Int));iterate 3 ((all_goals (repeat' with_reducible first|apply bc|refine ba ?_|intro)); (all_goals try (first | exact bm | exact rfl | exact (aky ab ab) | exact (ahv ab ab) | exact (ahb ab) | exact (ajc ab))); all_goals try first | refine ⟨‹Nat› + 1,?_⟩ | refine ⟨0,?_⟩)
def QV:Kn:=aM (ae (kC cI) (ae (kC cI) (ae (kC cI) ak))) av fun (n,a,b,_) _=>⟨[],[.c (.bool (.atom ((cq n a b))))],none,false⟩
theorem acp:CK 165 QV:=ag fun (n,a,b,_) _ _=>by
 refine aq gr [] Tryz.func165 (?_:I64 n->I64 a->I64 b->(decide (a<=n) && decide (n<=b))=cq n a b);grind [cq]
def afk:bF:=(aP 165 QV (aP 101 HP (aP 88 GU (aP 172 HD (aP 193 Fk (aP 49 Gd (aP 104 qq (aP 252 HX (aP 38 AQ (aP 151 Aj afi))))))))))
def jL:aw Tryz.prog (aj tyT) afk:=(ah acp (ah UR (ah TN (ah Wh (ah TH (ah Tk (ah zR (ah Uk (ah N_ (ah KJ gr))))))))))
def Bg:Kn:=aM (ae (kC (cL .u8)) ak) av fun (b,_) _=>⟨[],[.c (.xx (.w ((cz 1 b))) [])],none,false⟩
def LS:CK 209 Bg:=ag fun (b,_) _ _=>by
 refine aq jL [] Tryz.func209 (?_:b.length*1<=140737488355328->cz 1 b=cz 1 b);intros; rfl
def QO:Kn:=aM (ae (kC (cL .u8)) ak) av fun (b,_) _=>⟨[],[.c (.fz .u8 ((b)))],none,false⟩
def ach:CK 211 QO:=ag fun (b,_) _ _=>by
 refine aq jL [] Tryz.func211 (?_:(fun a=>a->((↑b.length:Int)=0->b=[])/\(¬(↑b.length:Int)=0->a->b=b)) (b.length*1<=140737488355328));(repeat' with_reducible first|apply bc|refine ba ?_|intro)
 all_goals (first | exact bm | exact (abL aK).symm | exact (abL aK))
def mL:Kn:=aM (ae (kC (cL (.nm .entry))) ak) av fun (l,_) _=>⟨[],[.c (.own 0)],some ([.row 52 (.nm .entry) ((l))]),true⟩
def uW:CK 213 mL:=ag fun (l,_) _ _=>by
 refine dF jL [] Tryz.func213 (?_:(fun a=>a->∀ (b:Bool),(b=true->l=[])->(b=true->l=[])/\(b=false->a/\l=l)) (l.length*32<=140737488355328));exact fun h b c=>⟨c,fun _=>⟨h,rfl⟩⟩
def CF:Kn:=aM (ae (kC (cL (.nm .entry))) (ae (kC cI) (ae (kC cI) ak))) av fun (l,k,m,_) _=>⟨[],[.c (.bool (.atom ((decide (cV l k=m)))))],none,false⟩
def RP:CK 166 CF:=ag fun (l,k,m,_) _ _=>by
 refine aq jL [] Tryz.func166 (?_:l.length*32<=140737488355328->I64 k->I64 m->I64 (cV l k)->decide (cV l k=m)=decide (cV l k=m));intros; rfl
def CP:Kn:=aM (ae (kC (cL (.nm .entry))) (ae (kC cI) (ae (kC cI) ak))) av fun (l,k,m,_) _=>⟨[],[.c (.bool (.atom ((jO l k m))))],none,false⟩
def MM:CK 170 CP:=ag fun (l,k,m,_) _ _=>by
 refine aq jL [] Tryz.func170 (?_:l.length*32<=140737488355328->I64 k->I64 m->I64 (↑l.length:Int)->I64 (iu l)->(decide (iu l<m) || decide (m=iu l) && decide ((↑l.length:Int)<=k))=jO l k m);intros; rfl
def BJ:Kn:=aM (ae (kC cI) (ae (kC cI) (ae (kC cB) ak))) av fun (n,m,a,_) _=>⟨[],[.c (.bool (.atom ((dZ n m a))))],none,false⟩
theorem Nv:CK 164 BJ:=ag fun (n,m,a,_) _ _=>by
 refine aq jL [] Tryz.func164 (?_:I64 n->I64 m->(a=false->cq n 0 0=dZ n m a)/\(a=true->cq n 0 m=dZ n m a));(repeat' with_reducible first|apply bc|refine ba ?_|intro)
 all_goals first | exact bm | (simp only [dZ]; grind)
def aeW:bF:=(aP 164 BJ (aP 170 CP (aP 166 CF (aP 213 mL (aP 211 QO (aP 209 Bg afk))))))
def iR:aw Tryz.prog (aj tyT) aeW:=(ah Nv (ah MM (ah RP (ah uW (ah ach (ah LS jL))))))
