/- What leads to the law, part 6. Conditions: each lemma's own. -/
import Derived.Shelf.Lay
import Derived.Shelf.SlSortCmp.Small
import Derived.Shelf.Small.Bits
import Derived.Sort.LotA
import Derived.Test.YticbaadnibdbkaaGreatNOM5
set_option linter.unusedVariables false
set_option linter.unusedSimpArgs false
set_option maxHeartbeats 2000000
set_option linter.defProp false
noncomputable section
namespace Go.Proofs.YticbaadnibdbkaaGreat
open Go.RowKit
def af0:=@Nat.le_of_eq
variable {b:List UInt8}
def adx (h:(aX b).e=0) (a:(aj (b.drop (aX b).k)).2.2=0) (c:¬ (aX b).wire=0) (f:(aj (b.drop (aX b).k)).1<=16384) (d:((b.length:Nat):Int) - (((aX b).k:Int)+((aj (b.drop (aX b).k)).2.1:Nat))<eQ (aj (b.drop (aX b).k)).1):(0:Int)=((bq b).1:Nat)/\2=(bq b).2:=by
 rw [nN aE] at d;rw [ah9 h a c aE aE]; exact ⟨rfl,rfl⟩
def acW (h:(aX b).e=0) (a:(aj (b.drop (aX b).k)).2.2=0) (c:¬ (aX b).wire=0) (f:(aj (b.drop (aX b).k)).1<=16384) (d:eQ (aj (b.drop (aX b).k)).1<=((b.length:Nat):Int) - (((aX b).k:Int)+((aj (b.drop (aX b).k)).2.1:Nat))):((aX b).k:Int)+((aj (b.drop (aX b).k)).2.1:Nat)+eQ (aj (b.drop (aX b).k)).1=((bq b).1:Nat)/\0=(bq b).2:=by
 rw [nN aE] at d ⊢;rw [ai8 h a c aE aE]; exact ⟨rfl,rfl⟩
def adk (l:List Field):List (Nat × LI):=[(6,{ σ:=Nat,F:=fun k=>([(5,one (.own 0)),(13,one (.fz (.nm .field) (l))),(14,one (.int (l).length)),(15,one (.int k))],[.row 5 .u8 ((((l.take k).map cF).flatten))]),J:=fun k=>k<=l.length,μ:=fun k=>l.length - k })]
def aey (q:Int) (v:Int):List (Nat × LI):=[(3,{ σ:=Nat,F:=fun k=>([(5,one (.int (((aY v).take k).foldl (fun t s=>max t s.num) 0))),(10,one (.fz (.nm .spec) (aY v))),(11,one (.int (aY v).length)),(12,one (.int k))],[]),J:=fun k=>k<=(aY v).length,μ:=fun k=>(aY v).length - k })]
def Et:Kn:=aO (ae (kC (cL .u8)) ao) aw fun (b,_) _=>⟨[],[.c (.int ((((bq b).1:Nat)))),.c (.int (((bq b).2)))],none,false⟩
def Vb:CK 329 Et:=ah fun (b,_) _ _=>by
 refine av nK [] Tryz.func329 (?_:(fun h=>(fun l=>(fun c=>(fun f=>(fun d=>(fun i=>(fun j=>(fun a=>(fun g=>l->I64 c.num->I64 c.wire->I64 j->I64 c.e->(¬c.e=d->i/\c.e=f)/\(c.e=d->d<=j/\j<=h/\l/\(a.fst<(18446744073709551616:Nat)->I64 a.snd.snd->(¬a.snd.snd=d->i/\a.snd.snd=f)/\(a.snd.snd=d->(c.wire=d->g=(↑(bq b).fst:Int)/\d=f)/\(¬c.wire=d->((↑(16384:Nat):Int)<(↑a.fst:Int)->i/\(4:Int)=f)/\((↑a.fst:Int)<=(↑(16384:Nat):Int)->I64 (h - g)/\(h - g<eQ a.fst->i/\(2:Int)=f)/\(eQ a.fst<=h - g->I64 (g+eQ a.fst)/\g+eQ a.fst=(↑(bq b).fst:Int)/\d=f))))))) (j+(↑a.snd.fst:Int))) (aj (List.drop c.k b))) (↑c.k:Int)) (d=(↑(bq b).fst:Int))) (0:Int)) (bq b).snd) (aX b)) (b.length*(1:Nat)<=(140737488355328:Nat))) (↑b.length:Int));(repeat' with_reducible first|apply aV|refine bl ?_|intro)
 all_goals (first | exact bY | (rw [aif ab] <;> rfl) | (rw [agY ab ab] <;> rfl) | (rw [aiO ab ab ab] <;> rfl) | (rw [aic ab ab ab aE] <;> rfl) | exact (adx ab ab ab aE ab).1 | exact (adx ab ab ab aE ab).2 | exact (acW ab ab ab aE ab).1 | exact (acW ab ab ab aE ab).2 | (have n:=qU b; have o:=oH b (aX b).k; first | omega | (refine aD ?_ ?_ <;> omega)) | (have n:=qU b; have o:=oH b (aX b).k; have p:=nN (m:=(aj (b.drop (aX b).k)).1) aE; first | omega | (refine aD ?_ ?_ <;> omega)))
def Nb:Kn:=aO (ae (kC (cL (.nm .field))) ao) aw fun (l,_) _=>⟨[],[.c (.own 0),.c (.int ((cZ l)))],some ([.row 5 .u8 ((mC l))]),true⟩
theorem YZ:CK 162 Nb:=ah fun (l,_) _ _=>by
 refine cT nK (adk l) Tryz.func162 (?_:(fun (a:Nat)=>l.length*48<=140737488355328->I64 (cZ l)->(¬cZ l=0->cZ l=cZ l/\mC l=[])/\(cZ l=0->∃ (d:Nat),(l=l/\(↑l.length:Int)=(↑a:Int)/\0=(↑d:Int)/\(List.map cF (List.take d l)).flatten=[])/\d<=a/\∀ (s:Nat),(fun (e:List UInt8)=>s<=a->((↑s:Int)<(↑a:Int)->0<=(↑s:Int)/\(↑s:Int)<(↑l.length:Int)/\∀ (x:Field),l[s]? = some x->I64 x.num->I64 x.wire->x.n.n<18446744073709551616->x.b.length*1<=140737488355328->x.b.length<=16384/\(e.length+(cF x).length)*1<=140737488355328/\I64 ((↑s:Int)+1)/\∃ (c:Nat),(l=l/\(↑a:Int)=(↑a:Int)/\(↑s:Int)+1=(↑c:Int)/\e++cF x=(List.map cF (List.take c l)).flatten)/\c <= a/\a - c < a - s)/\((↑a:Int)<=(↑s:Int)->0=cZ l/\e=mC l)) (List.map cF (List.take s l)).flatten)) l.length);iterate 3 ((all_goals (repeat' with_reducible first|apply aV|refine bl ?_|intro)); (all_goals try (first | exact bY | exact rfl | exact (YT ab).symm | exact (Eq.symm ab) | exact (Kb ab) | exact (xa ab (acA ab)) | exact (RW ab aE) | (have g:=NM (k:=‹Nat›) (show cZ l=0 by with_reducible assumption); have h:=ke (f:=‹Field›) (xa (show cZ l=0 by with_reducible assumption) (acA ab)) ab; omega))); all_goals try first | refine ⟨‹Nat› + 1,?_⟩ | refine ⟨0,?_⟩)
def Lz:Kn:=aO (ae (kC cI) (ae (kC cI) ao)) aw fun (q,v,_) _=>⟨[q=1],[.c (.int ((dg v)))],none,false⟩
theorem acg:CK 161 Lz:=ah fun (q,v,_) _ h=>by
 have i:=cg h;refine av nK (aey q v) Tryz.func161 (?_:(fun (d:Int)=>(fun (a:List Spec)=>(fun (c:Nat)=>I64 q->I64 v->q=1/\(a.length*32<=140737488355328->∃ (f:Nat),(d=List.foldl (fun (t:Int) (s:Spec)=>max t s.num) d (List.take f a)/\a=a/\(↑a.length:Int)=(↑c:Int)/\d=(↑f:Int))/\f<=c/\∀ (s:Nat),(fun (g:Int)=>s<=c->((↑s:Int)<(↑c:Int)->d<=(↑s:Int)/\(↑s:Int)<(↑a.length:Int)/\∀ (x:Spec),a[s]? = some x->mS x (I64 ((↑s:Int)+1)/\∃ (e:Nat),(max g x.num=List.foldl (fun (t:Int) (s:Spec)=>max t s.num) d (List.take e a)/\a=a/\(↑c:Int)=(↑c:Int)/\(↑s:Int)+1=(↑e:Int))/\e <= c/\c - e < c - s))/\((↑c:Int)<=(↑s:Int)->g=dg v)) (List.foldl (fun (t:Int) (s:Spec)=>max t s.num) d (List.take s a)))) a.length) (aY v)) 0);iterate 3 ((all_goals (repeat' with_reducible first|apply aV|refine bl ?_|intro)); (all_goals try (first | exact bY | exact rfl | exact (Pk ab) | (rw [dg,List.take_of_length_le aE]))); all_goals try first | refine ⟨‹Nat› + 1,?_⟩ | refine ⟨0,?_⟩)
def aeg:bP:=(aQ 161 Lz (aQ 162 Nb (aQ 329 Et WD)))
def rk:aA Tryz.prog (ak tyT) aeg:=(ag acg (ag YZ (ag Vb nK)))
structure Wq (p:Prop):Prop where
 h:p
def fE (l:List Field):Int->Option Int:=fun q=>if iH l q=0 then none else some ((iH l q:Nat):Int)
def BM (a:List Field) (v:Int) (k:Nat):Prop:=∀ j y,j<k->a[j]? = some y->¬ y.num<=dg v
variable {f:Field} {xs:List Field}
def YK (h:(xs.length:Int)=0):true=fY xs f:=by
 unfold fY; rw [List.getElem?_eq_none aE]
def Zo (h:¬ (xs.length:Int)=0):fX (xs.getD ((xs.length:Int) - 1).toNat (au (.nm .field))) f=fY xs f:=by
 unfold fY;rw [show ((xs.length:Int) - 1).toNat=xs.length - 1 by omega,List.getD_eq_getElem?_getD,List.getElem?_eq_getElem aE]; rfl
theorem qB (l:List Field) (q:Int):(fE l q).getD (au .int)=((iH l q:Nat):Int):=by
 unfold fE;by_cases h:iH l q=0
 ·rw [if_pos h,h]; rfl
 grind
variable {l:List Field}
def yC:(fun _=>none)=fE (l.take 0):=rfl
variable {k:Nat}
def yk (h:l.length<=k):fE (l.take k)=fE l:=by rw [List.take_of_length_le h]
variable {x:Field}
def qJ (c:l[k]? = some x):(fun j=>if j=x.num then some ((fE (l.take k) x.num).getD (au .int)+1) else fE (l.take k) j)=fE (l.take (k+1)):=by
 funext j;have h:=QC c j;by_cases a:j=x.num
 ·rw [if_pos a] at h ⊢;rw [qB]; unfold fE; rw [h,if_neg aE]; rfl
 rw [if_neg a] at h ⊢;unfold fE; rw [h]
def CP (a:l[k]? = some x):x=l.getD k (au (.nm .field)):=by rw [List.getD_eq_getElem?_getD,a]; rfl
def gdY (h:k<l.length):l[k]? = some (l.getD k (au (.nm .field))):=by
 rw [List.getD_eq_getElem?_getD,List.getElem?_eq_getElem h]; rfl
variable {ss:List Spec} {m:Nat}
def TJ {y:Spec} (h:Wq (Ra ss x ((iH l x.num:Nat):Int) m)) (c:ss[m]? = some y) (a:¬ y.num=x.num\/MA x y ((fE l x.num).getD (au .int))=true):Wq (Ra ss x ((iH l x.num:Nat):Int) (m+1)):=
 ⟨OG h.h c fun e=>by rw [qB] at a; exact a.resolve_left (fun h=>h e)⟩
def VJ (h:Wq (uv l ss k)) (a:k<l.length) (c:Wq (Ra ss (l.getD k (au (.nm .field))) ((iH (l.take (k+1)) (l.getD k (au (.nm .field))).num:Nat):Int) m)) (d:(ss.length:Int)<=(m:Int)):Wq (uv l ss (k+1)):=
 ⟨PB h.h (gdY a) c.h aE rfl⟩
def UC (h:Wq (uv l ss k)) (a:l.length<=k):Wq (uv l ss l.length):=⟨fun j x c=>h.h j x aE⟩
def SK {v:Int} {y:Spec} (c:(aY v)[m]? = some y) (d:y.need=true) (a:(fE l y.num).getD (au .int)=0):¬ zM l v:=Rw c ⟨d,by rw [qB] at a; exact a⟩ rfl
theorem TB {y:Spec} (h:Wq (Kf l ss m)) (a:ss[m]? = some y) (hn:y.need=false\/¬ (fE l y.num).getD (au .int)=0):Wq (Kf l ss (m+1)):=
 ⟨Pp h.h a fun c=>by
  rw [qB] at hn;rcases hn with hn | hn
  ·grind
  omega⟩
def Up {v:Int} (a:Wq (uv l (aY v) l.length)) (c:Wq (Kf l (aY v) k)) (d:(aY v).length<=k):zM l v:=Vk a.h (Nat.le_refl _) c.h d
variable {rest:List Field}
def KM {v:Int}:BM rest v 0:=fun j y h=>by omega
def LB {v:Int} (h:Wq (BM rest v k)) (a:rest[k]? = some x) (c:¬ x.num<=dg v):Wq (BM rest v (k+1)):=⟨HU h.h a c⟩
def pb1 {c:Command} {v:Int} (h:cG v=false):dJ c rest v=1:=ajr (by show (!(cG v))=true; rw [h]; rfl)
def pb2 {c:Command} {v:Int} (h:cG v=true) (a:gw c v=false) (d:¬ bK c v=0):dJ c rest v=bK c v:=ah1 (by show (!(cG v))=false; rw [h]; rfl) a d
def pb3 {c:Command} {v:Int} (h:cG v=true) (a:gw c v=true\/bK c v=0) (d:rest[k]? = some x) (e:x.num<=dg v):dJ c rest v=6:=agX (by show (!(cG v))=false; rw [h]; rfl) a d e
def pb0 {c:Command} {v:Int} (h:cG v=true) (a:gw c v=true\/bK c v=0) (d:Wq (BM rest v k)) (e:rest.length<=k):dJ c rest v=0:=ag6 (by show (!(cG v))=false; rw [h]; rfl) a d.h e
def Tq (q:Int) (v:Int) (l:List Field):List (Nat × LI):=[(9,{ σ:=Nat,F:=fun k=>([(7,one (.fz (.nm .spec) (aY v))),(9,one (.mq 0)),(28,one (.fz (.nm .field) (l))),(29,one (.int (l).length)),(30,one (.int k))],[.mapo .int (fE (l.take k))]),J:=fun k=>k<=l.length/\Wq (uv l (aY v) k),μ:=fun k=>(l).length - k }),(13,{ σ:=Nat × Nat,F:=fun q=>([(7,one (.fz (.nm .spec) (aY v))),(9,one (.mq 0)),(11,one (.ptr 1 0)),(28,one (.fz (.nm .field) (l))),(29,one (.int (l).length)),(30,one (.int q.1)),(39,one (.fz (.nm .spec) (aY v))),(40,one (.int (aY v).length)),(41,one (.int q.2))],[.mapo .int (fE (l.take (q.1+1))),.box 219 (cellsOf (.nm .field) ((l.getD q.1 (au (.nm .field)))))]),J:=fun q=>q.1<l.length/\q.2<=(aY v).length/\Wq (uv l (aY v) q.1)/\Wq (Ra (aY v) (l.getD q.1 (au (.nm .field))) ((iH (l.take (q.1+1)) (l.getD q.1 (au (.nm .field))).num:Nat):Int) q.2),μ:=fun q=>(aY v).length - q.2,R:=some fun a q=>q.1=a.1 }),(20,{ σ:=Nat,F:=fun k=>([(9,one (.mq 0)),(62,one (.fz (.nm .spec) (aY v))),(63,one (.int (aY v).length)),(64,one (.int k))],[.mapo .int (fE l)]),J:=fun k=>k<=(aY v).length/\Wq (uv l (aY v) l.length)/\Wq (Kf l (aY v) k),μ:=fun k=>(aY v).length - k })]
def aeF (c:Command) (rest:List Field) (v:Int):List (Nat × LI):=[(9,{ σ:=Nat,F:=fun k=>([(1,one (.fz (.nm .field) (rest))),(2,one (.int (v))),(3,one (.ptr 0 0)),(9,one (.int (dg v))),(27,one (.fz (.nm .field) (rest))),(28,one (.int (rest).length)),(29,one (.int k))],[.box 35 (cellsOf (.nm .command) (c))]),J:=fun k=>k<=rest.length/\Wq (BM rest v k),μ:=fun k=>rest.length - k })]
def Gb:Kn:=aO (ae (kT (.nm .field)) (ae (kC (ba 0 0)) ao)) (aC (dC 177 (ax (eI 1) dA)) (aC (eG 219 (.nm .field)) aw)) fun (f,_,_) ((_,_),xs,_)=>⟨[xs.length<=20000],[.c (.bool (.atom ((fY xs f))))],none,false⟩
def VV:CK 328 Gb:=ah fun (f,_,_) ((_,_),xs,_) e=>by
 have g:=cg e;refine av rk [] Tryz.func328 (?_:(fun c=>(fun d=>(fun a=>I64 f.num->I64 f.wire->f.n.n<18446744073709551616->f.b.length*1<=140737488355328->(c=0->true=fY xs f)/\(¬c=0->I64 d/\(0<=d/\d<c)/\(I64 a.num->I64 a.wire->a.n.n<18446744073709551616->a.b.length*1<=140737488355328->fX a f=fY xs f))) (xs.getD d.toNat (au (Sh.nm NT.field)))) (c - 1)) (↑xs.length:Int));(repeat' (first | with_reducible apply aV | intro))
 all_goals (first | (first | omega | (refine aD ?_ ?_ <;> omega)) | exact (YK ab) | exact (Zo ab))
def As:Kn:=aO (ae (kC cI) (ae (kC cI) (ae (kC (cL (.nm .field))) ao))) aw fun (q,v,l,_) _=>⟨[q=1],[.c (.int ((gu l v)))],none,false⟩
theorem Lw:CK 287 As:=ah fun (q,v,l,_) _ L=>by
 have N:=cg L;refine av rk (Tq q v l) Tryz.func287 (?_:(fun (C:Nat)=>(fun (y:Int)=>(fun (t:Int)=>(fun (u:Nat)=>(fun (z:Int)=>(fun (I:den (Sh.nm NT.field))=>(fun (c:List Spec)=>(fun (B:Prop)=>(fun (D:Int)=>(fun (w:Nat)=>(fun (e:Int)=>I64 q->I64 v->l.length*48<=140737488355328->q=y/\(c.length*32<=140737488355328->(D=t->y=gu l v)/\(¬D=t->I64 (cZ l)->(¬cZ l=t->cZ l=gu l v)/\(cZ l=t->∃ (i:Nat),(B/\l=l/\(↑l.length:Int)=z/\t=(↑i:Int)/\(fun (_:Int)=>none)=fE (List.take i l))/\(i<=u/\Wq (uv l c i))/\∀ (s:Nat),s<=u/\Wq (uv l c s)->((↑s:Int)<z->t<=(↑s:Int)/\(↑s:Int)<(↑l.length:Int)/\∀ (x:Field),(fun (F:Int)=>l[s]? = some x->I64 x.num->I64 x.wire->x.n.n<18446744073709551616->x.b.length*C<=140737488355328->I64 F/\∃ (i:Nat × Nat),(fun (g:Nat)=>(fun (o:Field)=>(B/\l=l/\z=z/\(↑s:Int)=(↑g:Int)/\B/\D=e/\t=(↑i.snd:Int)/\(fun (j:Int)=>if j=x.num then some F else fE (List.take s l) j)=fE (List.take (g+C) l)/\x.num=o.num/\x.wire=o.wire/\x.n.n=o.n.n/\x.b=o.b)/\(g<u/\i.snd<=w/\Wq (uv l c g)/\Wq (Ra c o (↑(iH (List.take (g+C) l) o.num):Int) i.snd))/\g=g/\∀ (a:Nat × Nat),(fun (p:Int)=>(fun (A:List Field)=>(fun (h:Field)=>a.fst<u/\a.snd<=w/\Wq (uv l c a.fst)/\Wq (Ra c h (↑(iH A h.num):Int) a.snd)->a.fst=g->(p<e->t<=p/\p<D/\∀ (x:Spec),(fun (G:Bool)=>c[a.snd]? = some x->mS x ((x.num=h.num/\G=false->6=gu l v)/\(¬x.num=h.num\/G=true->I64 (p+y)/\∃ (d:Nat × Nat),(fun (r:Field)=>(B/\l=l/\z=z/\(↑a.fst:Int)=(↑d.fst:Int)/\B/\e=e/\p+y=(↑d.snd:Int)/\fE A=fE (List.take (d.fst+C) l)/\h.num=r.num/\h.wire=r.wire/\h.n.n=r.n.n/\h.b=r.b)/\(d.fst<u/\d.snd<=w/\Wq (uv l c d.fst)/\Wq (Ra c r (↑(iH (List.take (d.fst+C) l) r.num):Int) d.snd))/\d.fst=g/\w - d.snd<w - a.snd) (l.getD d.fst I)))) (MA h x ((fE A h.num).getD (au Sh.int))))/\(e<=p->I64 ((↑a.fst:Int)+y)/\∃ (d:Nat),(B/\l=l/\z=z/\(↑a.fst:Int)+y=(↑d:Int)/\fE A=fE (List.take d l))/\(d <= u/\Wq (uv l c d))/\u - d < u - s)) (l.getD a.fst I)) (List.take (a.fst+C) l)) (↑a.snd:Int)) (l.getD g I)) i.fst) ((fE (List.take s l) x.num).getD (au Sh.int)+y))/\(z<=(↑s:Int)->∃ (i:Nat),(B/\D=e/\t=(↑i:Int)/\fE (List.take s l)=fE l)/\(i<=w/\Wq (uv l c u)/\Wq (Kf l c i))/\∀ (s:Nat),s<=w/\Wq (uv l c u)/\Wq (Kf l c s)->((↑s:Int)<e->t<=(↑s:Int)/\(↑s:Int)<D/\∀ (x:Spec),(fun (H:Prop)=>c[s]? = some x->mS x ((x.need=true/\H->6=gu l v)/\(x.need=false\/¬H->I64 ((↑s:Int)+y)/\∃ (d:Nat),(B/\e=e/\(↑s:Int)+y=(↑d:Int)/\fE l=fE l)/\(d <= w/\Wq (uv l c u)/\Wq (Kf l c d))/\w - d < w - s))) ((fE l x.num).getD (au Sh.int)=t))/\(e<=(↑s:Int)->t=gu l v)))))) (↑w:Int)) c.length) (↑c.length:Int)) (c=c)) (aY v)) (au (Sh.nm NT.field))) (↑u:Int)) l.length) 0) 1) 1);(repeat' (first | with_reducible apply aV | intro))
 all_goals try (exact rfl)
 all_goals try (refine ⟨0,?_⟩; (repeat' with_reducible first|apply aV|refine bl ?_|intro))
 all_goals try (exact rfl)
 all_goals try (refine ⟨(‹Nat›,0),?_⟩; (repeat' with_reducible first|apply aV|refine bl ?_|intro))
 all_goals try (exact rfl)
 all_goals try (refine ⟨(‹Nat × Nat›.1,‹Nat × Nat›.2+1),?_⟩; (repeat' with_reducible first|apply aV|refine bl ?_|intro))
 all_goals try (exact rfl)
 all_goals try (refine ⟨‹Nat × Nat›.1+1,?_⟩; (repeat' with_reducible first|apply aV|refine bl ?_|intro))
 all_goals try (first | exact bY | exact rfl | exact (Sd aE) | exact (Tp aE ab) | exact yC | exact ⟨FL⟩ | exact ⟨Hf⟩ | exact ⟨GD⟩ | exact (qJ ab) | exact (congrArg Field.num (CP ab)) | exact (congrArg Field.wire (CP ab)) | exact (congrArg (fun f=>f.n.n) (CP ab)) | exact (congrArg Field.b (CP ab)) | exact (yL aE ab (qX (gdY ab) ab (And.intro ab ab) (qB _ _))) | exact (TJ ab ab ap) | exact (VJ ab ab ab ab) | exact (UC ab aE) | exact (yk aE) | exact (yL aE ab (SK ab ab ab)) | exact (TB ab ab ap) | exact (UF aE ab (Up ab ab aE)) | (have J:=rq (l:=l) (k:=‹Nat›) ‹Field›.num; have K:=qB (l.take ‹Nat›) ‹Field›.num; refine aD ?_ ?_ <;> omega))
 all_goals try (refine ⟨0,?_⟩; (repeat' with_reducible first|apply aV|refine bl ?_|intro))
 all_goals try (first | exact bY | exact rfl | exact (Sd aE) | exact (Tp aE ab) | exact yC | exact ⟨FL⟩ | exact ⟨Hf⟩ | exact ⟨GD⟩ | exact (qJ ab) | exact (congrArg Field.num (CP ab)) | exact (congrArg Field.wire (CP ab)) | exact (congrArg (fun f=>f.n.n) (CP ab)) | exact (congrArg Field.b (CP ab)) | exact (yL aE ab (qX (gdY ab) ab (And.intro ab ab) (qB _ _))) | exact (TJ ab ab ap) | exact (VJ ab ab ab ab) | exact (UC ab aE) | exact (yk aE) | exact (yL aE ab (SK ab ab ab)) | exact (TB ab ab ap) | exact (UF aE ab (Up ab ab aE)) | (have J:=rq (l:=l) (k:=‹Nat›) ‹Field›.num; have K:=qB (l.take ‹Nat›) ‹Field›.num; refine aD ?_ ?_ <;> omega))
 all_goals try (refine ⟨‹Nat› + 1,?_⟩; (repeat' with_reducible first|apply aV|refine bl ?_|intro))
 all_goals try (first | exact bY | exact rfl | exact (Sd aE) | exact (Tp aE ab) | exact yC | exact ⟨FL⟩ | exact ⟨Hf⟩ | exact ⟨GD⟩ | exact (qJ ab) | exact (congrArg Field.num (CP ab)) | exact (congrArg Field.wire (CP ab)) | exact (congrArg (fun f=>f.n.n) (CP ab)) | exact (congrArg Field.b (CP ab)) | exact (yL aE ab (qX (gdY ab) ab (And.intro ab ab) (qB _ _))) | exact (TJ ab ab ap) | exact (VJ ab ab ab ab) | exact (UC ab aE) | exact (yk aE) | exact (yL aE ab (SK ab ab ab)) | exact (TB ab ab ap) | exact (UF aE ab (Up ab ab aE)) | (have J:=rq (l:=l) (k:=‹Nat›) ‹Field›.num; have K:=qB (l.take ‹Nat›) ‹Field›.num; refine aD ?_ ?_ <;> omega))
 all_goals (first | exact bY | exact rfl | exact (Sd aE) | exact (Tp aE ab) | exact yC | exact ⟨FL⟩ | exact ⟨Hf⟩ | exact ⟨GD⟩ | exact (qJ ab) | exact (congrArg Field.num (CP ab)) | exact (congrArg Field.wire (CP ab)) | exact (congrArg (fun f=>f.n.n) (CP ab)) | exact (congrArg Field.b (CP ab)) | exact (yL aE ab (qX (gdY ab) ab (And.intro ab ab) (qB _ _))) | exact (TJ ab ab ap) | exact (VJ ab ab ab ab) | exact (UC ab aE) | exact (yk aE) | exact (yL aE ab (SK ab ab ab)) | exact (TB ab ab ap) | exact (UF aE ab (Up ab ab aE)) | (have J:=rq (l:=l) (k:=‹Nat›) ‹Field›.num; have K:=qB (l.take ‹Nat›) ‹Field›.num; refine aD ?_ ?_ <;> omega))
def Kz:Kn:=aO (ae (kT (.nm .command)) (ae (kC (cL (.nm .field))) (ae (kC cI) ao))) aw fun (c,rest,v,_) _=>⟨[rest.length<=20000],[.c (.own 0),.c (.int ((fu c rest v)))],some ([.row 5 .u8 ((gm c rest v))]),true⟩
theorem abm:CK 93 Kz:=ah fun (c,rest,v,_) _ p=>by
 have q:=cg p;refine cT rk (aeF c rest v) Tryz.func93 (?_:(fun (e:Int)=>(fun (i:Prop)=>(fun (a:Int)=>(fun (d:Nat)=>(fun (o:Prop)=>bF c (rest.length*48<=140737488355328->I64 v->(cG v=false->1=e/\i)/\(cG v=true->(gw c v=false->I64 (bK c v)->(¬bK c v=a->bK c v=e/\i)/\(bK c v=a->o))/\(gw c v=true->o)))) ((1:Int)=1/\(I64 (dg v)->∃ (j:Nat),(rest=rest/\v=v/\dg v=dg v/\rest=rest/\(↑rest.length:Int)=(↑d:Int)/\a=(↑j:Int)/\aS c c)/\(j<=d/\Wq (BM rest v j))/\∀ (s:Nat),s<=d/\Wq (BM rest v s)->((↑s:Int)<(↑d:Int)->a<=(↑s:Int)/\(↑s:Int)<(↑rest.length:Int)/\∀ (x:Field),rest[s]? = some x->I64 x.num->I64 x.wire->x.n.n<18446744073709551616->x.b.length*1<=140737488355328->(x.num<=dg v->6=e/\i)/\(dg v<x.num->I64 ((↑s:Int)+1)/\∃ (g:Nat),(rest=rest/\v=v/\dg v=dg v/\rest=rest/\(↑d:Int)=(↑d:Int)/\(↑s:Int)+1=(↑g:Int)/\aS c c)/\(g <= d/\Wq (BM rest v g))/\d - g < d - s))/\((↑d:Int)<=(↑s:Int)->a<=c.kind/\a<=c.client/\a<=c.seq/\a<=c.set/\a<=c.id/\a<=c.n/\((dI c v).length+rest.length)*48<=140737488355328/\(I64 (cZ (dI c v++rest))->cZ (dI c v++rest)=e/\mC (dI c v++rest)=gm c rest v))))) rest.length) 0) (gm c rest v=[])) (fu c rest v));(repeat' (first | with_reducible apply aV | intro))
 all_goals try (first | (first | (refine aD ?_ ?_ <;> omega)) | exact rfl | exact ⟨KM⟩ | exact (LB ab ab aE) | exact (jG (pb1 ab) am) | exact (jV (pb1 ab) am).symm | exact (jG (pb2 ab ab ab) ab) | exact (jV (pb2 ab ab ab) ab).symm | exact (jG (pb3 ab (by exact .inr ab) ab ab) am) | exact (jV (pb3 ab (by first | exact .inl ab | exact .inr ab) ab ab) am).symm | exact (LG (pb0 ab (by exact .inr ab) ab aE)) | exact (NK (pb0 ab (by first | exact .inl ab | exact .inr ab) ab aE)) | (have h:0<=c.kind/\0<=c.client/\0<=c.seq/\0<=c.set/\0<=c.id/\0<=c.n:=(by exact CZ ab); omega) | (have h:=mF c v; omega))
 all_goals try (refine ⟨0,?_⟩; (repeat' with_reducible first|apply aV|refine bl ?_|intro))
 all_goals try (first | (first | (refine aD ?_ ?_ <;> omega)) | exact rfl | exact ⟨KM⟩ | exact (LB ab ab aE) | exact (jG (pb1 ab) am) | exact (jV (pb1 ab) am).symm | exact (jG (pb2 ab ab ab) ab) | exact (jV (pb2 ab ab ab) ab).symm | exact (jG (pb3 ab (by exact .inr ab) ab ab) am) | exact (jV (pb3 ab (by first | exact .inl ab | exact .inr ab) ab ab) am).symm | exact (LG (pb0 ab (by exact .inr ab) ab aE)) | exact (NK (pb0 ab (by first | exact .inl ab | exact .inr ab) ab aE)) | (have h:0<=c.kind/\0<=c.client/\0<=c.seq/\0<=c.set/\0<=c.id/\0<=c.n:=(by exact CZ ab); omega) | (have h:=mF c v; omega))
 all_goals try (refine ⟨‹Nat› + 1,?_⟩; (repeat' with_reducible first|apply aV|refine bl ?_|intro))
 all_goals (first | exact bY | exact rfl | exact ⟨KM⟩ | exact (LB ab ab aE) | exact (jG (pb1 ab) am) | exact (jV (pb1 ab) am).symm | exact (jG (pb2 ab ab ab) ab) | exact (jV (pb2 ab ab ab) ab).symm | exact (jG (pb3 ab (by first | exact .inl ab | exact .inr ab) ab ab) am) | exact (jV (pb3 ab (by first | exact .inl ab | exact .inr ab) ab ab) am).symm | exact (LG (pb0 ab (by first | exact .inl ab | exact .inr ab) ab aE)) | exact (NK (pb0 ab (by first | exact .inl ab | exact .inr ab) ab aE)) | (have h:0<=c.kind/\0<=c.client/\0<=c.seq/\0<=c.set/\0<=c.id/\0<=c.n:=(by first | exact abi ab | exact CZ ab); omega) | (have h:=mF c v; omega))
def ad1:bP:=(aQ 93 Kz (aQ 287 As (aQ 328 Gb aeg)))
def HA:aA Tryz.prog (ak tyT) ad1:=(ag abm (ag Lw (ag VV rk)))
def UR (b:List UInt8) (s:Nat × List Field):Nat × List Field:=(s.1+(bq (b.drop s.1)).1,s.2++[iz ((b.drop s.1).take (((s.1:Int)+((bq (b.drop s.1)).1:Nat)).toNat - s.1))])
def Ye {s:Nat × List Field}:(UR b s).2=s.2++[iz ((b.drop s.1).take (bq (b.drop s.1)).1)]:=by
 unfold UR; rw [show ((s.1:Int)+((bq (b.drop s.1)).1:Nat)).toNat - s.1=(bq (b.drop s.1)).1 by omega]
def tlB (h:16384<(b.length:Int)):bI b=([],4):=ZV aE
def tlS {s:Nat × List Field} (h:Wq (jh b s.1 s.2)) (c:(s.1:Int)<(b.length:Int)) (a:¬ (bq (b.drop s.1)).2=0):bI b=([],(bq (b.drop s.1)).2):=Sk h.h aE a
theorem tlL {s:Nat × List Field} (h:Wq (jh b s.1 s.2)) (a:(s.1:Int)<(b.length:Int)) (c:(bq (b.drop s.1)).2=0) (d:fY s.2 (iz ((b.drop s.1).take (((s.1:Int)+((bq (b.drop s.1)).1:Nat)).toNat - s.1)))=false):bI b=([],5):=by
 obtain ⟨f,_,e⟩:=No h.h (show s.1<b.length by omega);grind
def tlN {s:Nat × List Field} (h:Wq (jh b s.1 s.2)) (d:(s.1:Int)<(b.length:Int)) (a:(bq (b.drop s.1)).2=0) (c:fY s.2 (iz ((b.drop s.1).take (((s.1:Int)+((bq (b.drop s.1)).1:Nat)).toNat - s.1)))=true):Wq (jh b (UR b s).1 (UR b s).2):=by
 rw [show ((s.1:Int)+((bq (b.drop s.1)).1:Nat)).toNat - s.1=(bq (b.drop s.1)).1 by omega] at c;obtain ⟨f,g,e⟩:=No h.h (show s.1<b.length by omega);have i:=nj a;rw [Ye];refine ⟨f,by show b.length - (s.1+(bq (b.drop s.1)).1)<=f; omega,?_⟩;rw [e,if_pos a,c,if_pos rfl,af5]; rfl
def tlE {s:Nat × List Field} (h:Wq (jh b s.1 s.2)) (a:(b.length:Int)<=(s.1:Int)):bI b=(s.2,0):=ZI h.h aE
def nx1 {s:Nat × List Field} (a:s.1<=b.length):(UR b s).1<=b.length:=by
 have:=AP (b.drop s.1); rw [List.length_drop] at this; show s.1+_<=_; omega
def nx2 {s:Nat × List Field} (c:s.2.length<=s.1) (a:(bq (b.drop s.1)).2=0):(UR b s).2.length<=(UR b s).1:=by
 have d:=nj a;rw [Ye,List.length_append]; simp only [List.length_cons,List.length_nil]; show _<=s.1+_; omega
def nx3 {s:Nat × List Field} (c:(s.1:Int)<(b.length:Int)) (a:(bq (b.drop s.1)).2=0):b.length - (UR b s).1<b.length - s.1:=by
 have d:=nj a; show b.length - (s.1+_)<_; omega
def Y_ (b:List UInt8):List (Nat × LI):=[(6,{ σ:=Nat × List Field,F:=fun s=>([(0,one (.fz .u8 (b))),(4,one (.ptr 0 0)),(5,one (.fn 328 [] [(0,0)])),(6,one (.int s.1))],[.box 177 ([.own 1]),.row 219 (.nm .field) ((s.2))]),J:=fun s=>Wq (jh b s.1 s.2)/\s.1<=b.length/\s.2.length<=s.1,μ:=fun s=>b.length - s.1 })]
def Hx:Kn:=aO (ae (kC (cL .u8)) ao) aw fun (b,_) _=>⟨[],[.c (.fz (.nm .field) (((bI b).1))),.c (.int (((bI b).2)))],none,false⟩
theorem Uz:CK 286 Hx:=ah fun (b,_) _ _=>by
 refine av HA (Y_ b) Tryz.func286 (?_:(fun (p:Prop)=>(fun (g:Int)=>(fun (i:Int)=>b.length*1<=140737488355328->(16384<i->p/\4=(bI b).snd)/\(i<=16384->∃ (d:Nat × List Field),(b=b/\g=(↑d.fst:Int)/\d.snd=[])/\(Wq (jh b d.fst d.snd)/\d.fst<=b.length/\d.snd.length<=d.fst)/\∀ (s:Nat × List Field),(fun (e:Int)=>(fun (j:Nat × Int)=>(fun (o:Int)=>(fun (a:Field)=>Wq (jh b s.fst s.snd)/\s.fst<=b.length/\s.snd.length<=s.fst->(e<i->g<=e/\e<=i/\(I64 (↑j.fst:Int)->I64 j.snd->(¬j.snd=g->p/\j.snd=(bI b).snd)/\(j.snd=g->I64 o/\g<=e/\e<=o/\o<=i/\(I64 a.num->I64 a.wire->a.n.n<18446744073709551616->a.b.length*1<=140737488355328->s.snd.length<=20000/\(fY s.snd a=false->p/\5=(bI b).snd)/\(fY s.snd a=true->(s.snd.length+[a].length)*48<=140737488355328/\I64 o/\∃ (c:Nat × List Field),(b=b/\o=(↑c.fst:Int)/\s.snd++[a]=c.snd)/\(Wq (jh b c.fst c.snd)/\c.fst<=b.length/\c.snd.length<=c.fst)/\b.length - c.fst<b.length - s.fst)))))/\(i<=e->s.snd=(bI b).fst/\g=(bI b).snd)) (iz (List.take (o.toNat - s.fst) (List.drop s.fst b)))) (e+(↑j.fst:Int))) (bq (List.drop s.fst b))) (↑s.fst:Int))) (↑b.length:Int)) 0) ((bI b).fst=[]));iterate 3 ((all_goals (repeat' with_reducible first|apply aV|refine bl ?_|intro)); (all_goals try (first | exact bY | exact rfl | exact ⟨Mm aE⟩ | (rw [tlB ab] <;> rfl) | (rw [tlS ab ab ab] <;> rfl) | (rw [tlL ab ab ab ab] <;> rfl) | (rw [tlE ab ab] <;> rfl) | exact (tlN ab ab ab ab) | exact (nx1 ab) | exact (nx2 ab ab) | exact (nx3 ab ab) | (have h:=AP (b.drop ‹Nat × List Field›.1); rw [List.length_drop] at h; first | omega | (refine aD ?_ ?_ <;> omega)) | (simp only [List.length_cons,List.length_nil]; omega))); all_goals try first | refine ⟨UR b ‹Nat × List Field›,?_⟩ | refine ⟨(0,[]),?_⟩)
def aeT:bP:=(aQ 286 Hx ad1)
def EE:aA Tryz.prog (ak tyT) aeT:=(ag Uz HA)
def tin {v:Int} (h:cG v=true):1<=v/\v<=3:=by
 unfold cG at h; simpa using h
def tqe {v:Int} (a:(bI b).2=0) (c:gu (bI b).1 v=0):mR b v=0:=by rw [mR,if_pos a,c]
def tq1 {v:Int} (h:cG v=false):cK b v=⟨cS,[],1⟩:=ag7 (fun a=>by unfold cG at h; simp only [a,decide_true,Bool.and_self] at h; cases h)
def tq2 {v:Int} (h:cG v=true) (a:(bI b).2=0) (c:¬ gu (bI b).1 v=0):cK b v=⟨cS,[],gu (bI b).1 v⟩:=by
 have e:mR b v=gu (bI b).1 v:=by rw [mR,if_pos a]
 rw [afB (tin h) (by rw [e]; exact c),e]
def tq3 {v:Int} (h:cG v=true) (a:¬ (bI b).2=0):cK b v=⟨cS,[],(bI b).2⟩:=by
 have e:mR b v=(bI b).2:=by rw [mR,if_neg a]
 rw [afB (tin h) (by rw [e]; exact a),e]
def tq4 {v:Int} (h:cG v=true) (a:(bI b).2=0) (c:gu (bI b).1 v=0) (d:¬ fu (c_ (dW (bI b).1 (dg v))) (eC (bI b).1 (dg v)) v=0\/decide (gm (c_ (dW (bI b).1 (dg v))) (eC (bI b).1 (dg v)) v=b)=false):cK b v=⟨cS,[],6⟩:=
 agG (tin h) (tqe a c) (d.imp_right fun h=>by simpa using h)
def tq5 {v:Int} (h:cG v=true) (a:(bI b).2=0) (c:gu (bI b).1 v=0) (d:fu (c_ (dW (bI b).1 (dg v))) (eC (bI b).1 (dg v)) v=0) (e:decide (gm (c_ (dW (bI b).1 (dg v))) (eC (bI b).1 (dg v)) v=b)=true):cK b v=⟨c_ (dW (bI b).1 (dg v)),eC (bI b).1 (dg v),0⟩:=
 aja (tin h) (tqe a c) ⟨d,acx e⟩
def FG:Kn:=aO (ae (kC (cL .u8)) (ae (kC cI) ao)) aw fun (b,v,_) _=>⟨[],[.agg (cellsOf (.nm .command) ((cK b v).c)),.c (.fz (.nm .field) (((cK b v).r))),.c (.int (((cK b v).e)))],none,false⟩
def Tv:CK 275 FG:=ah fun (b,v,_) _ _=>by
 refine av EE [] Tryz.func275 (?_:(fun u=>(fun w=>(fun g=>(fun h=>(fun s=>(fun t=>(fun a=>(fun d=>(fun i=>(fun j=>(fun o=>(fun p=>(fun q=>(fun y=>(fun z=>b.length*1<=140737488355328->I64 v->(cG v=false->o/\p/\j/\i/\a=d.id/\a=d.n/\q/\y/\g.r=[]/\1=g.e)/\(cG v=true->h.length*48<=140737488355328->I64 u->(u=a->(1:Int)=1/\(I64 (gu h v)->(¬gu h v=a->o/\p/\j/\i/\a=d.id/\a=d.n/\q/\y/\g.r=[]/\gu h v=g.e)/\(gu h v=a->z)))/\(¬u=a->(¬u=a->o/\p/\j/\i/\a=d.id/\a=d.n/\q/\y/\g.r=[]/\u=g.e)/\(u=a->z)))) ((1:Int)=1/\(I64 w->(dW h w).length*48<=140737488355328->s.length*48<=140737488355328->(∀ (f:Field),List.Mem f (dW h w)->f.b.length<=16384)/\bF t (s.length<=20000/\(I64 (fu t s v)->(¬fu t s v=a\/decide (gm t s v=b)=false->o/\p/\j/\i/\a=d.id/\a=d.n/\q/\y/\g.r=[]/\6=g.e)/\(fu t s v=a/\decide (gm t s v=b)=true->bu t d (s=g.r/\a=g.e))))))) (Str.mk []=d.text)) (d.chunks=[])) (a=d.client)) (a=d.kind)) (a=d.seq)) (a=d.set)) g.c) (0:Int)) (c_ (dW h w))) (eC h w)) (bI b).fst) (cK b v)) (dg v)) (bI b).snd);(repeat' with_reducible first|apply aV|refine bl ?_|intro)
 all_goals (first | exact bY | (rw [tq1 ab] <;> rfl) | (rw [tq2 ab ab ab] <;> rfl) | (rw [tq3 ab ab] <;> rfl) | (rw [tq4 ab ab ab ap] <;> rfl) | (rw [tq5 ab ab ab ab ab] <;> rfl) | exact (aaW (tqe ab ab) _ ap) | (have A:=xI (bI b).1 (dg v); have B:=Uh b; omega))
def aet:bP:=(aQ 275 FG aeT)
def US:aA Tryz.prog (ak tyT) aet:=(ag Tv EE)
def aeY:bP:=aet
def Tx:aA Tryz.prog (ak tyT) aeY:=US
def adh:bP:=aeY
def Tz:aA Tryz.prog (ak tyT) adh:=Tx
attribute [local irreducible] dW eC
def adw:bP:=adh
def Um:aA Tryz.prog (ak tyT) adw:=Tz
def aeS:bP:=adw
def Vv:aA Tryz.prog (ak tyT) aeS:=Um
def aek:bP:=aeS
def Rs:aA Tryz.prog (ak tyT) aek:=Vv
def afh:bP:=aek
def Tk:aA Tryz.prog (ak tyT) afh:=Rs
def aje {v:Int} (h:cq v 1 3=false):cK b v=⟨cS,[],1⟩:=tq1 h
def afs:bP:=afh
def yc:aA Tryz.prog (ak tyT) afs:=Tk
def dS (c:Command) (term v:Int):Entry × Int:=if bK c v=0 then (if fu c [] v=0 then (⟨term,gm c [] v⟩,0) else (⟨0,[]⟩,fu c [] v)) else (⟨0,[]⟩,bK c v)
structure RdM where
 c:Command
 some:Bool
 e:Int
def bg (x:Entry) (v:Int):RdM:=
 if x.b.length=0 then (if v<1\/3<v then ⟨cS,false,1⟩ else ⟨cS,false,0⟩)
 else if ¬ (cK x.b v).e=0 then ⟨cS,false,(cK x.b v).e⟩
 else if cE (cK x.b v).c.kind=0\/v<cE (cK x.b v).c.kind then ⟨cS,false,10⟩
 else ⟨(cK x.b v).c,true,0⟩
variable {term:Int}
def en1 {c:Command} {v:Int} (h:¬ bK c v=0):dS c term v=(⟨0,[]⟩,bK c v):=by unfold dS; rw [if_neg h]
def en2 {c:Command} {v:Int} (h:bK c v=0) (a:¬ fu c [] v=0):dS c term v=(⟨0,[]⟩,fu c [] v):=by unfold dS; rw [if_pos h,if_neg a]
def en3 {c:Command} {v:Int} (h:bK c v=0) (a:fu c [] v=0):dS c term v=(⟨term,gm c [] v⟩,0):=by unfold dS; rw [if_pos h,if_pos a]
section
variable {x:Entry} {v:Int}
def rdA (h:((x.b.length:Nat):Int)=0) (a:v<1\/3<v):bg x v=⟨cS,false,1⟩:=by unfold bg; rw [if_pos aE,if_pos a]
def rdB (h:((x.b.length:Nat):Int)=0) (a:1<=v) (c:v<=3):bg x v=⟨cS,false,0⟩:=by unfold bg; rw [if_pos aE,if_neg aE]
def rdC (h:¬ ((x.b.length:Nat):Int)=0) (a:¬ (cK x.b v).e=0):bg x v=⟨cS,false,(cK x.b v).e⟩:=by unfold bg; rw [if_neg aE,if_pos a]
def rdD (h:¬ ((x.b.length:Nat):Int)=0) (a:(cK x.b v).e=0) (d:cE (cK x.b v).c.kind=0\/v<cE (cK x.b v).c.kind):bg x v=⟨cS,false,10⟩:=by unfold bg; rw [if_neg aE,if_neg (by rw [a]; simp),if_pos d]
def rdE (h:¬ ((x.b.length:Nat):Int)=0) (a:(cK x.b v).e=0) (d:¬ cE (cK x.b v).c.kind=0) (g:cE (cK x.b v).c.kind<=v):bg x v=⟨(cK x.b v).c,true,0⟩:=by unfold bg; rw [if_neg aE,if_neg (by rw [a]; simp),if_neg aE]
def rdF (h2:v<1\/3<v):bg x v=⟨cS,false,1⟩:=by
 by_cases h:((x.b.length:Nat):Int)=0
 ·exact rdA h h2
 have e:cK x.b v=⟨cS,[],1⟩:=aje (by unfold cq; rcases h2 with h2 | h2 <;> simp <;> omega);rw [rdC h (by rw [e]; decide),e]
end
def KD:Kn:=aO (ae (kT (.nm .command)) (ae (kC cI) (ae (kC cI) ao))) aw fun (c,term,v,_) _=>⟨[],[.agg (cellsOf (.nm .entry) ((dS c term v).1)),.c (.int (((dS c term v).2)))],none,false⟩
def abz:CK 54 KD:=ah fun (c,term,v,_) _ _=>by
 refine av yc [] Tryz.func54 (?_:(fun (e:Int)=>(fun (d:Int)=>(fun (a:Entry × Int)=>bF c (I64 term->I64 v->I64 (bK c v)->(¬bK c v=d->d=a.fst.term/\a.fst.b=[]/\bK c v=a.snd)/\(bK c v=d->(0:Nat)<=(20000:Nat)/\(I64 e->(¬e=d->d=a.fst.term/\a.fst.b=[]/\e=a.snd)/\(e=d->term=a.fst.term/\gm c [] v=a.fst.b/\d=a.snd))))) (dS c term v)) (0:Int)) (fu c [] v));(repeat' with_reducible first|apply aV|refine bl ?_|intro)
 all_goals (first | exact bY | (rw [en1 ab] <;> rfl) | (rw [en2 ab ab] <;> rfl) | (rw [en3 ab ab] <;> rfl))
def yY:Kn:=aO (ae (kT (.nm .entry)) (ae (kC cI) ao)) aw fun (x,v,_) _=>⟨[],[.agg (cellsOf (.nm .command) ((bg x v).c)),.c (.bool (.atom (((bg x v).some)))),.c (.int (((bg x v).e)))],none,false⟩
def PY:CK 259 yY:=ah fun (x,v,_) _ _=>by
 refine av yc [] Tryz.func259 (?_:(fun i=>(fun p=>(fun j=>(fun o=>(fun a=>(fun d=>(fun g=>(fun h=>(fun q=>(fun s=>(fun t=>(fun u=>I64 x.term->x.b.length*1<=140737488355328->I64 v->((↑x.b.length:Int)=a->(v<1\/3<v->q/\s/\h/\g/\a=d.id/\a=d.n/\t/\u/\p/\1=i.e)/\(1<=v/\v<=3->q/\s/\h/\g/\a=d.id/\a=d.n/\t/\u/\p/\a=i.e))/\(¬(↑x.b.length:Int)=a->bF j.c (j.r.length*48<=140737488355328->I64 j.e->(¬j.e=a->q/\s/\h/\g/\a=d.id/\a=d.n/\t/\u/\p/\j.e=i.e)/\(j.e=a->I64 o->(o=a\/v<o->q/\s/\h/\g/\a=d.id/\a=d.n/\t/\u/\p/\10=i.e)/\(¬o=a/\o<=v->bu j.c d (true=i.some/\a=i.e)))))) (Str.mk []=d.text)) (d.chunks=[])) (a=d.client)) (a=d.kind)) (a=d.seq)) (a=d.set)) i.c) (0:Int)) (cE j.c.kind)) (cK x.b v)) (false=i.some)) (bg x v));(repeat' with_reducible first|apply aV|refine bl ?_|intro)
 all_goals (first | exact bY | (rw [rdF ap] <;> rfl) | (rw [rdB ab ab ab] <;> rfl) | (rw [rdC ab ab] <;> rfl) | (rw [rdD ab ab ap] <;> rfl) | (rw [rdE ab ab ab ab] <;> rfl))
def ac7:bP:=(aQ 259 yY (aQ 54 KD afs))
def FC:aA Tryz.prog (ak tyT) ac7:=(ag PY (ag abz yc))
def gR (v:Int) (s:State) (x:Entry):State:=if (bg x v).some=true then (rf s (bg x v).c).1 else s
def nb (v:Int) (s:State) (x:Entry):Reply:=if (bg x v).some=true then (rf s (bg x v).c).2 else ⟨0,0⟩
def pS (v:Int) (s:State) (l:List Entry):State:=l.foldl (gR v) s
def pR (v:Int):State->List Entry->List Reply
 | _,[]=>[]
 | s,x :: l=>nb v s x :: pR v (gR v s x) l
def pN (v:Int):List Entry->Nat
 | []=>0
 | x :: l=>if (bg x v).e=0 then pN v l+1 else 0
def pE (v:Int):List Entry->Int
 | []=>0
 | x :: l=>if (bg x v).e=0 then pE v l else (bg x v).e
def plS (v:Int) (s:State) (l:List Entry):State:=pS v s (l.take (pN v l))
def plR (v:Int) (s:State) (l:List Entry):List Reply:=pR v s (l.take (pN v l))
section
variable {v:Int} {s:State} {l:List Entry} {x:Entry} {k:Nat}
def XC (a:l[k]? = some x):gR v (pS v s (l.take k)) x=pS v s (l.take (k+1)):=by
 rw [ai a]; unfold pS; rw [List.foldl_append]; rfl
theorem HG:∀ {l:List Entry} {s:State},pR v s (l++[x])=pR v s l++[nb v (pS v s l) x]
 | [],_=>rfl
 | y :: l,s=>by
  show nb v s y :: pR v (gR v s y) (l++[x])=nb v s y :: (pR v (gR v s y) l++[nb v (pS v (gR v s y) l) x]);rw [HG]
def XO (a:l[k]? = some x):pR v s (l.take k)++[nb v (pS v s (l.take k)) x]=pR v s (l.take (k+1)):=by
 rw [ai a,HG]
theorem DE:∀ {l:List Entry} {s:State},(pR v s l).length=l.length
 | [],_=>rfl
 | y :: l,s=>by
  show (pR v (gR v s y) l).length+1=l.length+1;rw [DE]
def okPl (v:Int) (l:List Entry):Prop:=∀ x ∈ l,(bg x v).e=0
theorem FQ (h:okPl v (l.take k)) (a:l[k]? = some x) (c:(bg x v).e=0):okPl v (l.take (k+1)):=by
 rw [ai a];intro y hy;rcases acq.1 hy with hy | hy
 ·exact h y hy
 grind
theorem Rf:∀ {l:List Entry},okPl v l->pN v l=l.length/\pE v l=0
 | [],_=>⟨rfl,rfl⟩
 | y :: l,h=>by
  obtain ⟨c,d⟩:=Rf (l:=l) fun z a=>h z (acs _ a);have e:=h y acy;unfold pN pE;grind
theorem ER:∀ {l:List Entry} {k:Nat},okPl v (l.take k)->l[k]? = some x->¬ (bg x v).e=0->pN v l=k/\pE v l=(bg x v).e
 | [],k,_,a,_=>by simp at a
 | y :: l,0,_,a,c=>by
  simp at a; subst a;unfold pN pE;grind
 | y :: l,k+1,h,a,c=>by
  have d:=h y aa;obtain ⟨g,i⟩:=ER (l:=l) (k:=k) (fun z j=>h z (by rw [af7]; exact acs _ j)) (by simpa using a) c;unfold pN pE;rw [if_pos d,if_pos d,g,i]; exact ⟨rfl,rfl⟩
def RY (h:okPl v (l.take k)) (a:l[k]? = some x) (c:¬ (bg x v).e=0):pS v s (l.take k)=plS v s l/\pR v s (l.take k)=plR v s l/\(bg x v).e=pE v l:=by
 obtain ⟨d,g⟩:=ER h a c;unfold plS plR; rw [d,g]; exact ⟨rfl,rfl,rfl⟩
def aaM (h:okPl v (l.take k)) (a:l.length<=k):pS v s (l.take k)=plS v s l/\pR v s (l.take k)=plR v s l/\0=pE v l:=by
 rw [List.take_of_length_le a] at h ⊢;obtain ⟨c,d⟩:=Rf h;unfold plS plR; rw [c,d,List.take_length]; exact ⟨rfl,rfl,rfl⟩
end
def pc:Code->Code
 | .seq x _=>x
 | c=>c
def f_:Code->Code
 | .seq _ y=>y
 | c=>c
def cdB:Code->Code
 | .block _ c=>c
 | .loop c=>c
 | c=>c
def ajj:Code->Code
 | .rangeFunc _ _ a _=>a
 | c=>c
def ahu:Code->Code
 | .rangeFunc _ _ _ b=>b
 | c=>c
def kr:Code->List Oper
 | .region _ a _=>a.toList
 | _=>[]
def Xy (f:Func):Code:=f.body.getD .skip
def Ot:Kn:=aO (ae (kC (cL (.nm .entry))) (ae (kC cI) ao)) aw fun (l,v,_) _=>⟨[],[.c (.fn 258 [] [(0,0),(1,0)])],some ([.box 38 ([.fz (.nm .entry) ((l))]),.box 3 ([.int ((v))])]),true⟩
theorem abt:CK 226 Ot:=ah fun (l,v,_) _ _=>by
 refine cT FC [] Tryz.func226 (?_:l.length*32<=140737488355328->I64 v->l=l/\v=v);grind
def fF:bP:=(aQ 226 Ot ac7)
def qT:aA Tryz.prog (ak tyT) fF:=(ag abt FC)
end Go.Proofs.YticbaadnibdbkaaGreat
namespace Go.Proofs.YticbaadnibdbkaaGreat
open Go.RowKit
open Go.MapKept (IsKey run_checkKey run_findKey run_setObj_map heap_set heap_alloc)
def Uc (k:Int):List (Int × Value)->Bool
 | []=>false
 | p :: r=>decide (k=p.1) || Uc k r
def abE (w:World) (g:Nat) (L:List (Int × Value)):Prop:=
 ∃ a,w.heap[g]? = some (.map a L.length)/\a.toList.map (fun e=>(e.key,e.val))=L.map (fun p=>(Value.int .i64 p.1,p.2))
theorem uP {k:Int}:∀ {l:List MapEntry} {L:List (Int × Value)} {i:Nat},l.map (fun e=>(e.key,e.val))=L.map (fun p=>(Value.int .i64 p.1,p.2))->Uc k L=false->Instr.findNow (.int .i64) (.int .i64 k) l i=some none
 | [],[],i,_,_=>rfl
 | e :: l,p :: L,i,h,a=>by
  simp only [afV,List.cons.injEq,Prod.mk.injEq] at h;obtain ⟨⟨b,f⟩,c⟩:=h;simp only [Uc,Bool.or_eq_false_iff] at a;have d:(k == p.1)=false:=by simpa using a.1
  simp [Instr.findNow,b,Instr.sameNow,d,uP (i:=i+1) c a.2]
section
variable {P:Program} {Q:Exit->Act->World->Prop} {n:Nat} {l rest:List Oper} {fr:Fr} {w:World} {x y z':Operand} {t ty kt et:TypeId} {pos:String} {af:Array Edge} {g:Nat} {L:List (Int × Value)} {k:Int}
def WO.insert {v:Value} (p:ev fr x=some (.map (some g))) (q:ev fr y=some (.int .i64 k)) (r:ev fr z' = some v) (h:abE w g L) (b:Uc k L=false) (u:P.underlying t=some (.map kt et)) (j:P.underlying kt=some (.int .i64))
  (z:∀ w',abE w' g (L++[(k,v)])->Kp [g] w w' -> WO P Q n l rest fr w') :
  WO P Q n l (⟨none,.insert t x y z',ty,pos,af,none⟩ :: rest) fr w:=by
 obtain ⟨a,c,m⟩:=h;have A:=uP (k:=k) (i:=0) m b;have d:IsKey (.int .i64) (.int .i64 k):=rfl;have o:=heap_set (o':=.map (a.push { key:=.int .i64 k,val:=v,born:=L.length }) (L.length+1)) c;refine WO.s (w':={ w with heap:=w.heap.setIfInBounds g (.map (a.push { key:=.int .i64 k,val:=v,born:=L.length }) (L.length+1)) }) (fun B _ _ _ _ f=>?_) (z _ ⟨_,by simpa using o.1,by simp [m]⟩ ⟨rfl,rfl,rfl,aa,fun i C b=>o.2 i (by simpa using b)⟩);have e:(Instr.mapUpdate t (.map (some g)) (.int .i64 k) v).run P w = .ok () { w with heap:=w.heap.setIfInBounds g (.map (a.push { key:=.int .i64 k,val:=v,born:=L.length }) (L.length+1)) }:=by
  unfold Instr.mapUpdate;simp only [Sem.run_bind,run_underlying u];simp only [Sem.run_bind,MapKept.run_getObj_map c,Result.andThen,run_checkKey j d,run_findKey j A,run_setObj_map _ c]
 simp [execOp,f.ev p,f.ev q,f.ev r,e]
end
def bS:List (Int × List KC):=[(1,[.i 1,.i 3,.b false,.i 0,.i 0,.f 214]),(2,[.i 0,.i 1048576,.b true,.i 5,.i 0,.f 215]),(3,[.i 1,.i 64,.b true,.i 1048576,.i 200,.f 216]),(4,[.i 1,.i 64,.b false,.i 0,.i 0,.f 217])]
def abK:List (Int × Value):=bS.map fun p=>(p.1,.agg (p.2.map KC.val).toArray)
theorem sg {k:Int}:∀ {a:List MapEntry} {l:List (Int × List KC)},a.map (fun e=>(e.key,e.val))=(l.map fun p=>(p.1,Value.agg (p.2.map KC.val).toArray)).map (fun p=>(Value.int .i64 p.1,p.2))->getM k a=(dO l k).map fun b=>.agg (b.map KC.val).toArray
 | [],[],_=>rfl
 | e :: l,p :: L,h=>by
  simp only [afV,List.cons.injEq,Prod.mk.injEq] at h;obtain ⟨⟨c,f⟩,d⟩:=h;simp only [getM,dO,c,oV];by_cases h:k=p.1
  ·grind
  rw [if_neg (by simpa using fun e=>h e.symm),if_neg h]; exact sg d
set_option maxRecDepth 100000 in
def JE {w:World}:jT Tryz.prog 148 #[] w fun r e=>r = .map (some w.heap.size)/\Kp [] w e /\ abE e w.heap.size abK:=by
 refine jT.enter (args:=[]) Tryz.func148 rfl Tryz.ntmps148 rfl rfl ?_;refine WC.seq (WC.region (WO.v (R.assign rfl) rfl (WO.nil (WX.next ?_))));have c:=Tryz.underlying202;have d:=Tryz.underlying3;refine WC.seq (WC.region (WO.v R.rV rfl ?_));refine WO.v (R.oT (cells:=(((bS.getD 0 (0,[])).2).map KC.val).toArray) rfl bN) rfl (WO.insert (L:=[]) rfl rfl rfl ⟨#[],af6 w _,rfl⟩ rfl c d fun t j l=>?_);refine WO.v (R.oT (cells:=(((bS.getD 1 (0,[])).2).map KC.val).toArray) rfl bN) rfl (WO.insert rfl rfl rfl j rfl c d fun u m n=>?_);refine WO.v (R.oT (cells:=(((bS.getD 2 (0,[])).2).map KC.val).toArray) rfl bN) rfl (WO.insert rfl rfl rfl m rfl c d fun x o p=>?_);refine WO.v (R.oT (cells:=(((bS.getD 3 (0,[])).2).map KC.val).toArray) rfl bN) rfl (WO.insert rfl rfl rfl o rfl c d fun y q s=>?_);refine WO.v (R.move rfl) rfl (WO.v (R.assign rfl) rfl (WO.nil (WX.next ?_)));have a:∀ {f g:World},Kp [] w f->Kp [w.heap.size] f g->Kp [] w g:=fun h k=>⟨k.os.trans h.os,k.tape.trans h.tape,k.output.trans h.output,Nat.le_trans h.size k.size,fun b i _=>(k.block b (acv i h.size) (by simp; omega)).trans (h.block b i aa)⟩;exact WC.ret (WX.Bp Tryz.results148 rfl ⟨rfl,a (a (a (a (Kp.alloc w _) l) n) p) s,q⟩)
theorem Jg:Sat Tryz.prog (ak tyT) 148 [] [] ⟨[],[.c (.xx (.km bS) [])],none,false⟩:=by
 refine ⟨⟨_,Tryz.func148,am,by kernel_rfl⟩,fun G q w s t f b=>?_⟩;cases b;refine JE.mono fun r u ⟨h,j,a,g,l⟩=>⟨[r],rfl,j,.cons ?_ .nil⟩;subst h;have d:=(af1.1 g).1;refine ⟨[],.nil,rfl,w.heap.size,a,_,rfl,⟨d,fun ⟨i,r,m,n⟩=>by have:=(f.bnd i r _ m n).2.1; omega,fun o=>by have:=f.z _ o; omega⟩,g,fun e p=>?_,fun k=>sg l⟩;have:(e.key,e.val) ∈ a.toList.map (fun e=>(e.key,e.val)):=ahE.2 ⟨e,p,rfl⟩;grind
end Go.Proofs.YticbaadnibdbkaaGreat
namespace Go.Proofs.YticbaadnibdbkaaGreat
open Go.RowKit
def Oc (q:Nat × Nat) (x:UInt8):Nat × Nat:=((q.1+x.toNat) % 65521,(q.2+(q.1+x.toNat) % 65521) % 65521)
def iA (q:Nat × Nat) (l:List UInt8):Nat × Nat:=l.foldl Oc q
def dV (s:Nat) (l:List UInt8):Nat:=65536*(iA (s % 65536 % 65521,s / 65536 % 65521) l).2+(iA (s % 65536 % 65521,s / 65536 % 65521) l).1
def Vc {q:Nat × Nat} (a:q.1<65521) (b:q.2<65521):∀ l:List UInt8,(iA q l).1<65521/\(iA q l).2<65521:=fun l=>by
 induction l generalizing q with
 | nil=>exact ⟨a,b⟩
 | cons x l c=>exact c (q:=Oc q x) (af4 _ am) (af4 _ am)
def qW {s:Nat} (l:List UInt8):(iA (s % 65536 % 65521,s / 65536 % 65521) l).1<65521/\(iA (s % 65536 % 65521,s / 65536 % 65521) l).2<65521:=Vc (af4 _ am) (af4 _ am) l
def Qp {s:Nat} (l:List UInt8):dV s l<4294967296:=by
 have:=qW (s:=s) l;unfold dV; omega
def Gh (l:List UInt8):Nat:=l.foldl (fun w x=>(w*256) % 4294967296 ||| x.toNat) 0
abbrev ei (b:List UInt8):Int:=Wv (((b.getD 0 (au .u8):UInt8).toNat:Int)*2 ^ 8) ((b.getD 1 (au .u8):UInt8).toNat:Int)
def bm (b:List UInt8):List UInt8 × Int × Int:=
 if b.length<2 then ([],0,2) else if ei b=0\/4096<ei b then ([],0,3) else if (b.length:Int)<2+ei b+4 then ([],0,2)
 else if dV 1 (b.take (2+ei b).toNat)=Gh ((b.drop (2+ei b).toNat).take 4) then ((b.drop 2).take ((2+ei b).toNat - 2),2+ei b+4,0) else ([],0,3)
def jf (x:List UInt8):List UInt8:=[UInt8.ofNat (x.length / 256),UInt8.ofNat x.length]++x
def yB (s:Nat):List UInt8:=[UInt8.ofNat (s / 2 ^ 24),UInt8.ofNat (s / 2 ^ 16),UInt8.ofNat (s / 2 ^ 8),UInt8.ofNat s]
def eW (x:List UInt8):List UInt8:=jf x++yB (dV 1 (jf x))
def pD (x:List UInt8):List UInt8 × Int:=if x.length=0\/4096<x.length then ([],4) else (eW x,0)
theorem Be {a b:Nat} (c:b<256):a*256 ||| b=a*256+b:=by
 have:=Nat.two_pow_add_eq_or_of_lt (i:=8) (b:=b) c a;grind
theorem ofNat_toNat (n:Nat):(UInt8.ofNat n).toNat=n % 256:=UInt8.toNat_ofNat'
def VH {s:Nat} (h:s<4294967296):Gh (yB s)=s:=by
 simp only [Gh,yB,List.foldl_cons,List.foldl_nil,ofNat_toNat];rw [show (0*256) % 4294967296=0*256 from rfl,Be (a:=0) (af4 _ am),ajp,acC];have b:s / 2 ^ 24 % 256=s / 16777216:=by omega
 rw [b,Nat.mod_eq_of_lt (a:=s / 16777216*256) aE,Be (af4 _ am),Nat.mod_eq_of_lt (a:=(s / 16777216*256+s / 2 ^ 16 % 256)*256) aE,Be (af4 _ am),Nat.mod_eq_of_lt (a:=((s / 16777216*256+s / 2 ^ 16 % 256)*256+s / 2 ^ 8 % 256)*256) aE,Be (af4 _ am)];omega
variable {r x:List UInt8}
def Bz (h:x.length<=4096):ei (eW x++r)=x.length:=by
 have e:eW x++r=UInt8.ofNat (x.length / 256) :: UInt8.ofNat x.length :: (x++(yB (dV 1 (jf x))++r)):=by simp [eW,jf]
 have a:((UInt8.ofNat (x.length / 256)).toNat:Int)*2 ^ 8=((x.length / 256*256:Nat):Int):=by rw [ofNat_toNat]; omega
 rw [e,ei,List.getD_cons_zero,List.getD_cons_succ,List.getD_cons_zero,a,Wv,afM,afM,ofNat_toNat,Be (af4 _ am)];omega
def mN:(eW x).length=x.length+6:=by simp [eW,jf,yB]
def HW (a:x≠[]) (h:x.length<=4096):bm (eW x++r)=(x,(x.length:Int)+6,0):=by
 have d:0<x.length:=List.length_pos_iff.2 a;have e:(eW x++r).length=x.length+6+r.length:=by rw [List.length_append,mN]
 have b:(2+(x.length:Int)).toNat=(jf x).length:=by simp [jf]; omega
 have c:eW x++r=jf x++(yB (dV 1 (jf x))++r):=by simp [eW]
 unfold bm;rw [Bz h,if_neg aE,if_neg aE,if_neg aE,b,c,List.take_left,List.drop_left,show List.take 4 (yB (dV 1 (jf x))++r)=yB (dV 1 (jf x)) from List.take_left' rfl,VH (Qp _),if_pos rfl];refine Prod.ext ?_ (Prod.ext (by dsimp only; omega) rfl);simp [jf]
variable {k:Nat}
theorem Bi (h:x.length<=4096) (a:k<x.length+6):(bm ((eW x).take k)).2.2≠0:=by
 by_cases b:k<2
 ·unfold bm; rw [if_pos (by rw [List.length_take]; omega)]; decide
 have e:ei ((eW x).take k)=x.length:=by
  have:=Bz (r:=[]) h;grind
 unfold bm;grind
def Tu (b:List UInt8):0<=ei b:=Int.natCast_nonneg _
abbrev kz:List KC:=[.i 0,.i 0,.b false,.i 0,.i 0,.nf]
def XB (k:Int):List KC:=(dO bS k).getD kz
def recOk (r:Record):Bool:=(dO bS r.kind).isSome && decide (((XB r.kind).getD 0 .nf).int<=r.a) && decide (r.a<=((XB r.kind).getD 1 .nf).int) && decide (0<=r.b) && decide (r.b<=((XB r.kind).getD 3 .nf).int) && decide ((r.x.length:Int)<=((XB r.kind).getD 4 .nf).int)
def uz (k:Int):Bool:=((XB k).getD 2 .nf).bool
def dB (r:Record):List UInt8:=([UInt8.ofNat r.kind.toNat]++de r.a.toNat)++(if uz r.kind=true then de r.b.toNat else [])++r.x
def aM (r:Record):List UInt8 × Int:=if recOk r=true then (dB r,0) else ([],1)
abbrev uC:Record:=⟨0,0,0,[]⟩
def bJ (b:List UInt8):Record × Bool:=
 if b.length=0 then (uC,false) else if (aj (b.drop 1)).2.2≠0 then (uC,false)
 else if uz ((b.getD 0 (au .u8):UInt8).toNat:Int)=true then
  if (aj ((b.drop 1).drop (aj (b.drop 1)).2.1)).2.2≠0 then (uC,false)
  else (⟨((b.getD 0 (au .u8):UInt8).toNat:Int),eQ (aj (b.drop 1)).1,eQ (aj ((b.drop 1).drop (aj (b.drop 1)).2.1)).1,((b.drop 1).drop (aj (b.drop 1)).2.1).drop (aj ((b.drop 1).drop (aj (b.drop 1)).2.1)).2.1⟩,true)
 else (⟨((b.getD 0 (au .u8):UInt8).toNat:Int),eQ (aj (b.drop 1)).1,0,(b.drop 1).drop (aj (b.drop 1)).2.1⟩,true)
def bZ (b:List UInt8):Record × Int:=if (bJ b).2=false then (uC,3) else if (aM (bJ b).1).2≠0\/(aM (bJ b).1).1≠b then (uC,3) else ((bJ b).1,0)
def dP (s:Stable) (r:Record):Option Stable:=if r.a<s.floor then none else some { s with floor:=r.a }
def fD (s:Stable) (r:Record):Option Stable:=if r.a<s.term\/(r.a=s.term/\¬ s.vote=0)/\¬ s.vote=r.b then none else some { s with term:=r.a,vote:=r.b }
def dx (s:Stable) (r:Record):Option Stable:=if ¬ r.a=(s.log.length:Int)+1 then none else some { s with log:=s.log++[⟨r.b,r.x⟩] }
def fM (s:Stable) (r:Record):Option Stable:=if (s.log.length:Int)<r.a then none else some { s with log:=s.log.take (r.a - 1).toNat }
def fh (s:Stable) (r:Record):Option Stable:=if r.kind=1 then dP s r else if r.kind=2 then fD s r else if r.kind=3 then dx s r else fM s r
def aN (s:Stable) (r:Record):Stable × Int:=if recOk r=false then (s,1) else match fh s r with
 | some t=>(t,0)
 | none=>(s,5)
def playB:Nat->Stable->List UInt8->Stable × Int
 | 0,s,_=>(s,0)
 | n+1,s,b=>if (bm b).2.2≠0 then (s,0) else if (bZ (bm b).1).2≠0 then (s,0) else if (aN s (bZ (bm b).1).1).2≠0 then (s,0)
  else ((playB n (aN s (bZ (bm b).1).1).1 (b.drop (bm b).2.1.toNat)).1,(bm b).2.1+(playB n (aN s (bZ (bm b).1).1).1 (b.drop (bm b).2.1.toNat)).2)
abbrev sta0:Stable:=⟨0,0,0,[]⟩
def replayF (b:List UInt8):Stable × Int:=playB (b.length+1) sta0 b
theorem ZX {k:Int} (h:(dO bS k).isSome=true):k=1\/k=2\/k=3\/k=4:=by
 simp only [bS,dO] at h;grind
variable {r:Record}
theorem bT:recOk r=true↔(r.kind=1/\1<=r.a/\r.a<=3/\r.b=0/\r.x=[])\/(r.kind=2/\0<=r.a/\r.a<=1048576/\0<=r.b/\r.b<=5/\r.x=[])\/(r.kind=3/\1<=r.a/\r.a<=64/\0<=r.b/\r.b<=1048576/\r.x.length<=200)\/(r.kind=4/\1<=r.a/\r.a<=64/\r.b=0/\r.x=[]):=by
 have e:∀ l:List UInt8,((l.length:Int)<=0)↔l=[]:=fun l=>by
  simp_all
 constructor
 ·intro h;simp only [recOk,Bool.and_eq_true] at h;obtain ⟨⟨⟨⟨⟨i,c⟩,d⟩,j⟩,f⟩,g⟩:=h;rcases ZX i with hk | hk | hk | hk <;> rw [hk] at c d f g <;> simp [XB,bS,dO,KC.int] at c d f g
  ·grind
  ·grind
  ·grind
  grind
 rintro (⟨hk,h⟩ | ⟨hk,h⟩ | ⟨hk,h⟩ | ⟨hk,h⟩) <;> simp only [recOk,XB,bS,dO,hk] <;> simp [KC.int] <;> simp_all <;> omega
theorem jz (h:recOk r=true):1<=(dB r).length/\(dB r).length<=221:=by
 have c:=db (n:=r.a.toNat) (by rcases bT.1 h with h | h | h | h <;> omega);have d:=db (n:=r.b.toNat) (by rcases bT.1 h with h | h | h | h <;> omega);have e:r.x.length<=200:=by rcases bT.1 h with h | h | h | h <;> first | omega | simp [h]
 simp only [dB];grind
variable {n:Nat}
def tr (h:n<9223372036854775808):eQ n=n:=by
 rw [eQ,if_pos h]
theorem HS (h:recOk r=true):bJ (dB r)=(r,true):=by
 have d:=bT.1 h;have m:0<=r.a/\r.a<=1048576:=by rcases d with h | h | h | h <;> omega
 have o:0<=r.b/\r.b<=1048576:=by rcases d with h | h | h | h <;> omega
 have e:1<=r.kind/\r.kind<=4:=by rcases d with h | h | h | h <;> omega
 have f:dB r=UInt8.ofNat r.kind.toNat :: (de r.a.toNat++((if uz r.kind=true then de r.b.toNat else [])++r.x)):=by simp [dB]
 have g:((UInt8.ofNat r.kind.toNat).toNat:Int)=r.kind:=by rw [ofNat_toNat]; omega
 have i:=wC (n:=r.a.toNat) aE ((if uz r.kind=true then de r.b.toNat else [])++r.x);have j:eQ r.a.toNat=r.a:=by rw [tr aE]; omega
 have l:eQ r.b.toNat=r.b:=by rw [tr aE]; omega
 unfold bJ;rw [f,if_neg aa,List.drop_one,List.tail_cons,i,List.getD_cons_zero,g];dsimp only;rw [if_neg am,j,List.drop_left];by_cases c:uz r.kind=true
 ·rw [if_pos c,if_pos c,wC aE];dsimp only;rw [if_neg am,l,List.drop_left]
 rw [if_neg c,if_neg c,ail];have:r.b=0:=by
  rcases d with h | h | h | h
  ·grind
  ·exact absurd (by rw [h.1]; rfl) c
  ·exact absurd (by rw [h.1]; rfl) c
  exact h.2.2.2.1
 cases r; simp_all
theorem Lt (h:recOk r=true):bZ (dB r)=(r,0):=by
 unfold bZ;rw [HS h];simp [aM,h]
def ko (r:Record):List UInt8:=eW (dB r)
def encL (l:List Record):List UInt8:=l.flatMap ko
def stepsF:Stable->List Record->Stable × Int
 | s,[]=>(s,0)
 | s,r :: l=>if (aN s r).2=0 then stepsF (aN s r).1 l else (s,(aN s r).2)
theorem s_ {s:Stable} (h:(aN s r).2=0):recOk r=true:=by
 unfold aN at h;grind
variable {b:List UInt8}
theorem il (h:(bm b).2.2=0):7<=(bm b).2.1/\(bm b).2.1<=b.length:=by
 have a:0<=ei b:=Int.natCast_nonneg _;revert h;unfold bm;grind
theorem mK:∀ {n m:Nat} {s:Stable} {b:List UInt8},b.length<n->b.length<m->playB n s b=playB m s b
 | n+1,m+1,s,b,c,d=>by
  simp only [playB];by_cases a:(bm b).2.2=0
  ·have e:=il a;have f:(b.drop (bm b).2.1.toNat).length<b.length:=by rw [List.length_drop]; omega
   rw [mK (n:=n) (m:=m) aE aE]
  grind
theorem lG (r:Record):(ko r).length=(dB r).length+6:=mN
theorem Eb {s:Stable} {t:List UInt8} (h:(aN s r).2=0):playB (n+1) s (ko r++t)=((playB n (aN s r).1 t).1,(ko r).length+(playB n (aN s r).1 t).2):=by
 have a:=s_ h;have c:=jz a;have d:bm (ko r++t)=(dB r,((dB r).length:Int)+6,0):=HW (by intro e; rw [e] at c; simp at c) aE;have f:(ko r++t).drop (((dB r).length:Int)+6).toNat=t:=by
  rw [show (((dB r).length:Int)+6).toNat=(ko r).length by rw [lG]; omega];grind
 simp only [playB,d,Lt a,h,f,lG];simp
def mI {s:Stable} (h:(bm b).2.2≠0):playB n s b=(s,0):=by
 cases n
 ·rfl
 rw [playB,if_pos h]
def Io:(bm []).2.2≠0:=by decide
theorem wQ:∀ {l:List Record} {n k:Nat} {s:Stable},(stepsF s l).2=0->(encL l).length<n->∃ j,j<=l.length/\playB n s ((encL l).take k)=((stepsF s (l.take j)).1,((encL (l.take j)).length:Int))/\(stepsF s (l.take j)).2=0/\(encL (l.take j)).length<=k/\(∀ i,i<=l.length->(encL (l.take i)).length<=k->i<=j)
 | [],n,k,s,_,_=>⟨0,Nat.le_refl _,by simp only [encL,List.flatMap_nil,List.take_nil]; rw [mI Io]; rfl,rfl,by simp [encL],fun i d _=>d⟩
 | r :: l,0,_,_,_,e=>by omega
 | r :: l,n+1,k,s,h,e=>by
  have c:(aN s r).2=0:=by
   unfold stepsF at h;split at h
   ·assumption
   rename_i g; exact absurd h g
  have m:(stepsF (aN s r).1 l).2=0:=by
   unfold stepsF at h;rwa [if_pos c] at h
  have o:=s_ c;have w:=jz o;have p:encL (r :: l)=ko r++encL l:=by simp [encL]
  rw [p] at e ⊢;rw [List.length_append] at e;by_cases q:k<(ko r).length
  ·refine ⟨0,af3 _,?_,rfl,by simp [encL],fun i d a=>?_⟩
   ·have f:(ko r++encL l).take k=(ko r).take k:=afQ aE;rw [f,mI (b:=(ko r).take k) (Bi (x:=dB r) aE (by rw [lG] at q; omega))];rfl
   cases i with
   | zero=>exact Nat.le_refl _
   | succ i=>
    rw [af7] at a;simp only [encL,List.flatMap_cons,List.length_append] at a;omega
  obtain ⟨j,g,t,u,y,v⟩:=wQ (l:=l) (n:=n) (k:=k - (ko r).length) m (by have:=lG r; omega);have f:(ko r++encL l).take k=ko r++(encL l).take (k - (ko r).length):=by
   rw [List.take_append,List.take_of_length_le aE]
  refine ⟨j+1,by simp; omega,?_,?_,?_,fun i d a=>?_⟩
  ·rw [f,Eb c,t,af7,stepsF,if_pos c];simp [encL]
  ·rw [af7,stepsF,if_pos c]; exact u
  ·rw [af7];simp only [encL,List.flatMap_cons,List.length_append];have:(encL (l.take j)).length=(List.flatMap ko (l.take j)).length:=rfl;omega
  cases i with
  | zero=>omega
  | succ i=>
   rw [af7] at a;simp only [encL,List.flatMap_cons,List.length_append] at a;have:=v i (by simpa using d) (by simp only [encL]; omega);omega
theorem dN:∀ {l m:List Record} {s:Stable},(stepsF s l).2=0->stepsF s (l++m)=stepsF (stepsF s l).1 m
 | [],_,_,_=>rfl
 | r :: l,m,s,h=>by
  rw [List.cons_append,stepsF];simp only [stepsF] at h ⊢;split
  ·rename_i a;rw [if_pos a] at h;rw [dN h]
  grind
def tP (l m:List Record):encL (l++m)=encL l++encL m:=by simp [encL]
structure Dsk where
 b:List UInt8
 synced:Int
 down:Bool
 doomed:Bool
 keep:Int
deriving DecidableEq
def Dsk.OK (d:Dsk):Prop:=0<=d.synced/\d.synced<=d.b.length/\d.b.length<=65536
def Dsk.at_ (d:Dsk) (k:Int):Int:=d.synced+min (max k 0) (d.b.length - d.synced)
def Dsk.cH (d:Dsk) (k:Int):Dsk:=⟨d.b.take (d.at_ k).toNat,d.at_ k,true,false,0⟩
def Dsk.up (d:Dsk):Dsk:=⟨d.b,d.synced,false,false,0⟩
def Dsk.cut (d:Dsk) (n:Int):Dsk:=if d.down=true\/n<0\/(d.b.length:Int)<n then d else ⟨d.b.take n.toNat,n,d.down,d.doomed,d.keep⟩
def Dsk.kH (d:Dsk) (n:Int):Int:=if d.down=true then 30 else if n<0\/(d.b.length:Int)<n then 1 else 0
def Dsk.app (d:Dsk) (x:List UInt8):Dsk:=if d.down=true\/65536 - (d.b.length:Int)<x.length then d else ⟨d.b++x,d.synced,d.down,d.doomed,d.keep⟩
def Dsk.iX (d:Dsk) (x:List UInt8):Int:=if d.down=true then 30 else if 65536 - (d.b.length:Int)<x.length then 20 else 0
def Dsk.sync (d:Dsk):Dsk:=if d.down=true then d else if d.doomed=true then d.cH d.keep else ⟨d.b,d.b.length,d.down,d.doomed,d.keep⟩
def Dsk.e_ (d:Dsk):Int:=if d.down=true\/d.doomed=true then 30 else 0
def saveF (d:Dsk) (s:Stable) (l:List Record):Dsk × Stable × Int:=
 if l.all recOk=false then (d,s,1) else if (stepsF s l).2≠0 then (d,s,(stepsF s l).2) else if l.length=0 then (d,s,0)
 else if d.iX (encL l)≠0 then (d,s,d.iX (encL l)) else if (d.app (encL l)).e_≠0 then ((d.app (encL l)).sync,s,(d.app (encL l)).e_)
 else ((d.app (encL l)).sync,(stepsF s l).1,0)
def fT (l:List Entry):Int:=(l.getD (l.length - 1) ⟨0,[]⟩).term
def cD (l:List Entry) (k:Int):Int:=if k=0 then 0 else if k<0\/(l.length:Int)<k then -1 else (l.getD (k - 1).toNat ⟨0,[]⟩).term
def ki (l:List Entry) (n t:Int):Bool:=decide (fT l<t) || decide (t=fT l) && decide ((l.length:Int)<=n)
def ij:List Entry->List Entry->Nat
 | x :: h,y :: a=>if x.term=y.term then ij h a+1 else 0
 | _,_=>0
def bj (l:List Entry) (k:Int) (m:List Entry):Int × List Entry:=
 if k<0\/(l.length:Int)<k then (0,[]) else if m.length<=ij (l.drop k.toNat) m then (0,[]) else if (l.drop k.toNat).length<=ij (l.drop k.toNat) m then (0,m.drop (ij (l.drop k.toNat) m)) else (k+ij (l.drop k.toNat) m+1,m.drop (ij (l.drop k.toNat) m))
def ef (l:List Entry) (k m:Int):List Entry:=if (k<0\/(l.length:Int)<k)\/m<1 then [] else (l.drop k.toNat).take (min m ((l.drop k.toNat).length:Int)).toNat
def gB (l:List Int):Int:=if l.length=0 then 0 else (l.mergeSort (fun a b=>decide (b<=a))).getD (l.length / 2) 0
theorem nW:∀ {h a:List Entry},ij h a<=h.length/\ij h a<=a.length
 | [],_=>⟨Nat.le_refl _,af3 _⟩
 | _ :: _,[]=>⟨af3 _,Nat.le_refl _⟩
 | x :: h,y :: a=>by
  have:=nW (h:=h) (a:=a);simp only [ij];grind
theorem pb:∀ {h a:List Entry} {j:Nat} {x y:Entry},j<=ij h a->h[j]? = some x->a[j]? = some y->(x.term=y.term↔j+1<=ij h a)
 | u :: h,v :: a,0,x,y,_,c,d=>by
  simp at c d;simp only [ij];grind
 | u :: h,v :: a,j+1,x,y,f,c,d=>by
  simp only [agW] at c d;simp only [ij] at f ⊢;split at f
  ·rename_i e;rw [if_pos e];rw [pb aE c d]; omega
  omega
def dH (n m:Int) (b:Bool):Bool:=cq n 0 (if b=true then m else 0)
def mW (x:Letter):Bool:=(decide (x.kind=1) || decide (x.kind=2) || decide (x.kind=3) || decide (x.kind=4)) && cq x.frm 0 4 && cq x.to 0 4 && !decide (x.frm=x.to) && cq x.term 1 1048576 && cq x.bin 1 3 &&
 dH x.a 64 (decide (x.kind=1) || decide (x.kind=3) || decide (x.kind=4)) && dH x.b 1048576 (decide (x.kind=1) || decide (x.kind=3)) && dH x.c 64 (decide (x.kind=3)) && (!x.ok || decide (x.kind=2) || decide (x.kind=4)) && dH (x.l.length:Int) 4 (decide (x.kind=3))
def dr (y:Entry):Bool:=cq y.term 1 1048576 && decide ((y.b.length:Int)<=200)
def mayL (x:Letter):Int:=if mW x=true/\x.l.all dr=true then 0 else 1
def ay (s:Stable) (t:Int):List Record:=if t<=s.term then [] else [⟨2,t,0,[]⟩]
def aP (s:Stable) (me:Int):List Record × Int:=if me<0\/5<=me then ([],1) else if 1048576<=s.term then ([],4) else ([⟨2,s.term+1,me+1,[]⟩],0)
def uX (s:Stable) (x:Letter):Bool:=decide (s.term<x.term) || decide (s.vote=0) || decide (s.vote=x.frm+1)
def aL (s:Stable) (x:Letter):List Record × Bool × Int:=
 if ¬ mayL x=0\/¬ x.kind=1 then ([],false,1) else if (x.term<s.term\/uX s x=false)\/ki s.log x.a x.b=false then (ay s x.term,false,0)
 else if x.term=s.term/\s.vote=x.frm+1 then ([],true,0) else ([⟨2,x.term,x.frm+1,[]⟩],true,0)
def nX (l:List Bool):Bool:=decide ((l.length:Int).tdiv 2<(l.countP id:Nat))
abbrev cM:Letter:=⟨0,0,0,0,0,0,0,0,false,[]⟩
def ku (s:Stable) (r:Route):Letter:=⟨3,r.frm,r.to,s.term,r.next - 1,cD s.log (r.next - 1),r.commit,r.bin,false,ef s.log (r.next - 1) 4⟩
def fR (s:Stable) (r:Route):Letter × Int:=if r.next<1\/(s.log.length:Int)+1<r.next then (cM,1) else if ¬ mayL (ku s r)=0 then (cM,mayL (ku s r)) else (ku s r,0)
def eX:Int->List Entry->List Record
 | _,[]=>[]
 | n,y :: l=>⟨3,n,y.term,y.b⟩ :: eX (n+1) l
def iI (s:Stable) (x:Letter):List Record:=
 ay s x.term++(if (bj s.log x.a x.l).1=0 then [] else [⟨4,(bj s.log x.a x.l).1,0,[]⟩])++eX (x.a+x.l.length - (bj s.log x.a x.l).2.length+1) (bj s.log x.a x.l).2
def az (s:Stable) (x:Letter):List Record × Bool × Int × Int:=
 if (¬ mayL x=0\/¬ x.kind=3)\/64<x.a+x.l.length then ([],false,0,1) else if x.term<s.term then ([],false,0,0)
 else if cD s.log x.a=x.b then (iI s x,true,x.a+x.l.length,0) else (ay s x.term,false,0,0)
def jn (n:Int) (x:Letter):Int:=if x.ok=true then x.a+1 else if 1<n then min (n - 1) (x.a+1) else 1
def mj (s:Stable) (l:List Int) (k:Int):Int:=if k<min (gB l) s.log.length/\cD s.log (min (gB l) s.log.length)=s.term then min (gB l) s.log.length else k
variable {x:Letter}
theorem eL (h:mayL x=0):0<=x.frm/\x.frm<=4/\0<=x.to/\x.to<=4/\1<=x.term/\x.term<=1048576/\1<=x.bin/\x.bin<=3/\0<=x.a/\x.a<=64/\0<=x.c/\x.c<=64/\x.l.length<=4/\1<=x.kind/\x.kind<=4:=by
 unfold mayL at h;split at h
 ·rename_i d;simp only [mW,cq,dH] at d;grind
 cases h
theorem oa:∀ {l:List Record},l.all recOk=true->(encL l).length<=227*l.length
 | [],_=>Nat.le_refl _
 | r :: l,h=>by
  simp only [List.all_cons,Bool.and_eq_true] at h;have a:=jz h.1;have c:=oa h.2;have e:encL (r :: l)=ko r++encL l:=by simp [encL]
  rw [e,List.length_append,lG,List.length_cons]; omega
structure NdC where
 me:Int
 many:Int
 bin:Int
 st:Stable
 role:Int
 commit:Int
 applied:Int
 s:State
def noF (k:Nat) (n:NdC):List AV:=[.int n.me,.int n.many,.ptr (k+1) 0,.int n.bin]++(cellsOf (.nm .stable) n.st++([.int n.role,.int n.commit,.int n.applied]++cellsOf (.nm .state) n.s))
def lNd {a:Type} (k:Nat) (R:PL a):PL (NdC × a):=PL.Ys (ax cI (ax cI (ax (ba (k+1) 0) (ax cI (lSt (.nm .stable) (ax cI (ax cI (ax cI (lSt (.nm .state) R))))))))) (fun q=>(⟨q.1,q.2.1,q.2.2.2.1,q.2.2.2.2.1,q.2.2.2.2.2.1,q.2.2.2.2.2.2.1,q.2.2.2.2.2.2.2.1,q.2.2.2.2.2.2.2.2.1⟩,q.2.2.2.2.2.2.2.2.2)) (fun q=>(q.1.me,q.1.many,(),q.1.bin,q.1.st,q.1.role,q.1.commit,q.1.applied,q.1.s,q.2))
structure Nd where
 c:NdC
 d:Dsk
 rp:List Reply
 vs:List Bool
 bn:List Int
 nx:List Int
 mt:List Int
def ndO (k:Nat) (n:Nd):AH:=[.box 103 (noF k n.c++[.own (k+3),.own (k+4),.own (k+5),.own (k+6),.own (k+7)]),.box 147 [.own (k+2),.int n.d.synced,.bool (.atom n.d.down),.bool (.atom n.d.doomed),.int n.d.keep],.row 5 .u8 n.d.b,.row 78 (.nm .reply) n.rp,.row 4 .bool n.vs,.row 3 .int n.bn,.row 3 .int n.nx,.row 3 .int n.mt]
def ae1 {a:Type} (k:Nat) (R:PH a):PH (Nd × a):=PH.Ys (aC (dC 103 (lNd k (ax (eI (k+3)) (ax (eI (k+4)) (ax (eI (k+5)) (ax (eI (k+6)) (ax (eI (k+7)) dA))))))) (aC (dC 147 (ax (eI (k+2)) (ax cI (ax cB (ax cB (ax cI dA)))))) (aC (eG 5 .u8) (aC (eG 78 (.nm .reply)) (aC (eG 4 .bool) (aC (eG 3 .int) (aC (eG 3 .int) (aC (eG 3 .int) R))))))))
 (fun q=>(⟨q.1.1,⟨q.2.2.1,q.2.1.2.1,q.2.1.2.2.1,q.2.1.2.2.2.1,q.2.1.2.2.2.2.1⟩,q.2.2.2.1,q.2.2.2.2.1,q.2.2.2.2.2.1,q.2.2.2.2.2.2.1,q.2.2.2.2.2.2.2.1⟩,q.2.2.2.2.2.2.2.2))
 (fun q=>((q.1.c,(),(),(),(),(),()),((),q.1.d.synced,q.1.d.down,q.1.d.doomed,q.1.d.keep,()),q.1.d.b,q.1.rp,q.1.vs,q.1.bn,q.1.nx,q.1.mt,q.2))
def kI (n:Nd):AH:=ndO 0 n
def uo:PH Nd:=PH.Ys (ae1 0 aw) (·.1) (fun n=>(n,()))
structure NdR where
 n:Nd
 l:List Letter
 e:Int
abbrev Nd.save (n:Nd) (l:List Record):Nd:={ n with d:=(saveF n.d n.c.st l).1,c:={ n.c with st:=(saveF n.d n.c.st l).2.1 } }
abbrev Nd.aJ (n:Nd) (l:List Record):Int:=(saveF n.d n.c.st l).2.2
def iW (n:NdC) (k:Nat):List Int:=((List.range k).map fun i:Nat=>(i:Int)).filter (fun i=>decide (i≠n.me))
def cu (n:NdC):List Int:=iW n n.many.toNat
def qj (n:NdC) (kd a:Int):Letter:=⟨kd,n.me,a,n.st.term,0,0,0,n.bin,false,[]⟩
def iG (n:Nd) (a:Int):Letter × Int:=fR n.c.st ⟨n.c.me,a,n.nx.getD a.toNat 0,n.c.commit,n.c.bin⟩
def cm (n:Nd):List Int->List Letter × Int
 | []=>([],0)
 | to :: l=>if (iG n to).2=0 then (if (cm n l).2=0 then ((iG n to).1 :: (cm n l).1,0) else ([],(cm n l).2)) else ([],(iG n to).2)
def aU (n:Nd):List Letter × Int:=if n.d.down=true then ([],30) else if n.c.role=2 then cm n (cu n.c) else ([],33)
def Nd.cf:Nat->Nd->Nd
 | 0,n=>n
 | k+1,n=>if n.c.applied<n.c.commit then
   (if pE n.c.bin ((n.c.st.log.drop n.c.applied.toNat).take 1)=0 then Nd.cf k { n with c:={ n.c with s:=plS n.c.bin n.c.s ((n.c.st.log.drop n.c.applied.toNat).take 1),applied:=n.c.applied+1 },rp:=n.rp++plR n.c.bin n.c.s ((n.c.st.log.drop n.c.applied.toNat).take 1) } else n)
  else n
def Nd.apply (n:Nd):Nd:=n.cf (n.c.commit - n.c.applied).toNat
def Nd.dj (n:Nd):Nd:={ n with c:={ n.c with role:=1 },vs:=(List.replicate n.c.many.toNat false).set n.c.me.toNat true,bn:=(List.replicate n.c.many.toNat (0:Int)).set n.c.me.toNat n.c.bin,nx:=List.replicate n.c.many.toNat 0,mt:=List.replicate n.c.many.toNat 0 }
def fP (n:NdC):List Letter:=(cu n).map fun c=>{ qj n 1 c with a:=n.st.log.length,b:=fT n.st.log }
def aH (n:Nd):NdR:=if n.d.down=true then ⟨n,[],30⟩ else if n.c.role=2 then ⟨n,[],0⟩ else if ¬ (aP n.c.st n.c.me).2=0 then ⟨n,[],(aP n.c.st n.c.me).2⟩
 else if ¬ n.aJ (aP n.c.st n.c.me).1=0 then ⟨n.save (aP n.c.st n.c.me).1,[],n.aJ (aP n.c.st n.c.me).1⟩ else ⟨(n.save (aP n.c.st n.c.me).1).dj,fP (n.save (aP n.c.st n.c.me).1).dj.c,0⟩
def cX (n:NdC) (x:Letter):Bool:=if (¬ mayL x=0\/¬ x.to=n.me)\/n.many<=x.frm then false else if ¬ x.kind=3 then true else if ¬ (az n.st x).2.2.2=0 then false
 else !(az n.st x).1.any (fun r=>decide (r.kind=4) && decide (r.a<=n.commit))
def ct (n:Nd) (x:Letter):NdR:=if ¬ (aL n.c.st x).2.2=0 then ⟨n,[],(aL n.c.st x).2.2⟩ else if ¬ n.aJ (aL n.c.st x).1=0 then ⟨n.save (aL n.c.st x).1,[],n.aJ (aL n.c.st x).1⟩
 else ⟨n.save (aL n.c.st x).1,[{ qj (n.save (aL n.c.st x).1).c 2 x.frm with ok:=(aL n.c.st x).2.1 }],0⟩
def Nd.follow (n:Nd):Nd:={ n with c:={ n.c with role:=0 } }
def bB (n:Nd) (x:Letter):NdR:=if ¬ (az n.c.st x).2.2.2=0 then ⟨n,[],(az n.c.st x).2.2.2⟩ else if ¬ n.aJ (az n.c.st x).1=0 then ⟨n.save (az n.c.st x).1,[],n.aJ (az n.c.st x).1⟩
 else let m:=n.save (az n.c.st x).1
  let f:=if x.term=m.c.st.term then m.follow else m
  if (az n.c.st x).2.1=true then (let g:=({ f with c:={ f.c with commit:=max f.c.commit (min x.c (az n.c.st x).2.2.1) } }:Nd).apply; ⟨g,[{ qj f.c 4 x.frm with ok:=true,a:=(az n.c.st x).2.2.1 }],0⟩)
  else ⟨f,[{ qj f.c 4 x.frm with a:=if x.term=f.c.st.term then min 64 (f.c.st.log.length:Int) else 0 }],0⟩
def fj (n:Nd):NdR:=
 let m:Nd:={ n with c:={ n.c with role:=2 },nx:=List.replicate n.nx.length ((n.c.st.log.length:Int)+1),mt:=List.replicate n.mt.length 0 }
 if (n.c.st.log.length:Int)+1<=64 then (let l:=[⟨3,(n.c.st.log.length:Int)+1,n.c.st.term,[]⟩]; if m.aJ l=0 then ⟨m.save l,(aU (m.save l)).1,(aU (m.save l)).2⟩ else ⟨m.save l,[],m.aJ l⟩)
 else ⟨m,(aU m).1,(aU m).2⟩
def Nd.Kk (n:Nd) (x:Letter):Nd:=
 let e:Int:=n.c.st.log.length
 let nx:=n.nx.set x.frm.toNat (min (jn (n.nx.getD x.frm.toNat 0) x) (e+1))
 let mt:=if x.ok=true then n.mt.set x.frm.toNat (max (n.mt.getD x.frm.toNat 0) (min x.a e)) else n.mt
 { n with nx:=nx,mt:=mt,c:={ n.c with commit:=mj n.c.st (mt.set n.c.me.toNat e) n.c.commit } }
def fa (n:Nd) (x:Letter):NdR:=
 let m:=(n.Kk x).apply
 if (n.c.st.log.length:Int)<m.nx.getD x.frm.toNat 0 then ⟨m,[],0⟩ else if (iG m x.frm).2=0 then ⟨m,[(iG m x.frm).1],0⟩ else ⟨m,[],(iG m x.frm).2⟩
def bk (n:Nd) (x:Letter):NdR:=
 let l:=ay n.c.st x.term
 if ¬ n.aJ l=0 then ⟨n.save l,[],n.aJ l⟩ else
 let m:=n.save l
 if ¬ x.term=m.c.st.term\/m.c.role=0 then ⟨m,[],0⟩ else
 let a:Nd:={ m with bn:=m.bn.set x.frm.toNat x.bin }
 if (x.kind=2/\x.ok=true)/\m.c.role=1 then (let d:Nd:={ a with vs:=a.vs.set x.frm.toNat true }; if nX d.vs=true then fj d else ⟨d,[],0⟩)
 else if x.kind=4/\m.c.role=2 then fa a x else ⟨a,[],0⟩
def br (n:Nd) (x:Letter):NdR:=if n.d.down=true then ⟨n,[],30⟩ else if cX n.c x=false then ⟨n,[],1⟩ else
 let m:=if n.c.st.term<x.term then n.follow else n
 if x.kind=1 then ct m x else if x.kind=3 then bB m x else bk m x
def Nd.fresh (n:Nd) (b:Int):Nd:={ c:=⟨n.c.me,n.c.many,b,(replayF n.d.b).1,0,0,0,State.mk 1 1 0 0 [] [] []⟩,d:=n.d.up.cut (replayF n.d.b).2,rp:=[],vs:=[],bn:=[],nx:=[],mt:=[] }
def aZ (n:Nd) (b:Int):NdR:=if n.d.down=false then ⟨n,[],31⟩ else if ¬ b_ b (max (replayF n.d.b).1.floor 1)=0 then ⟨n,[],b_ b (max (replayF n.d.b).1.floor 1)⟩
 else let m:=n.fresh b
  if m.c.st.floor<b then (let l:=[⟨1,b,0,[]⟩]; if m.aJ l=0 then ⟨m.save l,[],0⟩ else ⟨{ m.save l with d:=(m.save l).d.cH 0 },[],m.aJ l⟩) else ⟨m,[],0⟩
structure NdC3 where
 n:Nd
 a:Int
 b:Int
 e:Int
def cR (n:Nd) (c:Command):NdC3:=if n.d.down=true then ⟨n,0,0,30⟩ else if ¬ n.c.role=2 then ⟨n,0,0,33⟩ else if ¬ bK c n.c.s.version=0 then ⟨n,0,0,bK c n.c.s.version⟩
 else if c.kind=8/\¬ c.n=n.c.s.version+1 then ⟨n,0,0,1⟩ else if c.kind=8/\kF n.c.s.version n.bn=false then ⟨n,0,0,34⟩
 else if 64<(n.c.st.log.length:Int)+1 then ⟨n,0,0,20⟩ else if ¬ (dS c n.c.st.term n.c.s.version).2=0 then ⟨n,0,0,(dS c n.c.st.term n.c.s.version).2⟩
 else let l:=[⟨3,(n.c.st.log.length:Int)+1,(dS c n.c.st.term n.c.s.version).1.term,(dS c n.c.st.term n.c.s.version).1.b⟩]
  if n.aJ l=0 then ⟨n.save l,(n.c.st.log.length:Int)+1,n.c.st.term,0⟩ else ⟨n.save l,0,0,n.aJ l⟩
abbrev bL (a b:Nd):Prop:=a.c.me=b.c.me/\a.c.many=b.c.many/\a.c.bin=b.c.bin/\a.c.st.floor=b.c.st.floor/\a.c.st.term=b.c.st.term/\a.c.st.vote=b.c.st.vote/\a.c.st.log=b.c.st.log/\a.c.role=b.c.role/\a.c.commit=b.c.commit/\a.c.applied=b.c.applied/\a.c.s.version=b.c.s.version/\a.c.s.next=b.c.s.next/\a.c.s.keep=b.c.s.keep/\a.c.s.quota=b.c.s.quota/\a.c.s.sess=b.c.s.sess/\a.c.s.opens=b.c.s.opens/\a.c.s.snaps=b.c.s.snaps/\a.d.synced=b.d.synced/\a.d.down=b.d.down/\a.d.doomed=b.d.doomed/\a.d.keep=b.d.keep/\a.d.b=b.d.b/\a.rp=b.rp/\a.vs=b.vs/\a.bn=b.bn/\a.nx=b.nx/\a.mt=b.mt
abbrev Bc (a b:Nd) (p:Prop):Prop:=a.c.me=b.c.me/\a.c.many=b.c.many/\a.c.bin=b.c.bin/\a.c.st.floor=b.c.st.floor/\a.c.st.term=b.c.st.term/\a.c.st.vote=b.c.st.vote/\a.c.st.log=b.c.st.log/\a.c.role=b.c.role/\a.c.commit=b.c.commit/\a.c.applied=b.c.applied/\a.c.s.version=b.c.s.version/\a.c.s.next=b.c.s.next/\a.c.s.keep=b.c.s.keep/\a.c.s.quota=b.c.s.quota/\a.c.s.sess=b.c.s.sess/\a.c.s.opens=b.c.s.opens/\a.c.s.snaps=b.c.s.snaps/\a.d.synced=b.d.synced/\a.d.down=b.d.down/\a.d.doomed=b.d.doomed/\a.d.keep=b.d.keep/\a.d.b=b.d.b/\a.rp=b.rp/\a.vs=b.vs/\a.bn=b.bn/\a.nx=b.nx/\a.mt=b.mt/\p
structure DkI (d:Dsk) (L:List Record):Prop where
 st:(stepsF sta0 L).2=0
 rep:replayF d.b=((stepsF sta0 L).1,((encL L).length:Int))
 pre:∃ t,d.b=encL L++t
 syn:d.synced=d.b.length
 up:d.down=false->d.b=encL L
variable {L:List Record}
def qb (h:(stepsF sta0 L).2=0):∃ j,j<=L.length/\replayF ((encL L).take k)=((stepsF sta0 (L.take j)).1,((encL (L.take j)).length:Int))/\(stepsF sta0 (L.take j)).2=0/\(encL (L.take j)).length<=k/\∀ i,i<=L.length->(encL (L.take i)).length<=k->i<=j:=by
 obtain ⟨j,a,c,d⟩:=wQ (n:=(encL L).length+1) (k:=k) h aE;refine ⟨j,a,?_,d⟩;rw [replayF,<- c];exact mK aE (by rw [List.length_take]; omega)
theorem tD (h:(stepsF sta0 L).2=0):replayF (encL L)=((stepsF sta0 L).1,((encL L).length:Int)):=by
 obtain ⟨j,c,d,e,f,a⟩:=qb (k:=(encL L).length) h;have:=a L.length aE (by rw [List.take_length]; omega);grind
variable {l:List Record}
def DkI.aiq {a:Dsk} (m:(stepsF sta0 (L++l)).2=0) (o:(encL L).length<=k) (c:a.b=(encL (L++l)).take k) (p:a.synced=a.b.length) (q:a.down=true):∃ i,i<=l.length/\DkI a (L++l.take i):=by
 obtain ⟨j,s,d,f,g,t⟩:=qb (k:=k) m;have v:=t L.length aa (by rw [List.take_left]; exact o);have e:(L++l).take j=L++l.take (j - L.length):=by rw [List.take_append,List.take_of_length_le aE]
 rw [e] at d f g;rw [List.length_append] at s;refine ⟨j - L.length,aE,f,by rw [c]; exact d,?_,p,fun h=>by rw [q] at h; cases h⟩;refine ⟨(encL (l.drop (j - L.length))).take (k - (encL (L++l.take (j - L.length))).length),?_⟩;have u:encL (L++l)=encL (L++l.take (j - L.length))++encL (l.drop (j - L.length)):=by
  rw [<- tP,List.append_assoc,List.take_append_drop]
 rw [c,u,List.take_append,List.take_of_length_le g]
def DkI.enc {e:Bool} {c f:Int} (d:(stepsF sta0 L).2=0) (a:b=encL L) (g:c=b.length) {h:Bool}:DkI ⟨b,c,h,e,f⟩ L:=
 ⟨d,by rw [a]; exact tD d,⟨[],by rw [ad8]; exact a⟩,g,fun _=>a⟩
def Bf {i:Nat}:L <+: L++l.take i:=⟨_,rfl⟩
structure SaveR (d:Dsk) (s:Stable) (l L:List Record):Prop where
 ok:(saveF d s l).2.2=0->(saveF d s l).1.down=false/\DkI (saveF d s l).1 (L++l)/\(saveF d s l).2.1=(stepsF s l).1/\(stepsF s l).2=0/\l.all recOk=true/\(saveF d s l).1.doomed=d.doomed/\(saveF d s l).1.keep=d.keep/\(l=[]->saveF d s l=(d,s,0))
 no:(saveF d s l).2.2≠0->(saveF d s l).2.1=s/\l≠[]/\(((saveF d s l).1=d/\(saveF d s l).2.2≠30)\/(d.doomed=true/\(saveF d s l).2.2=30/\(saveF d s l).1.down=true/\(saveF d s l).1.doomed=false/\∃ i,i<=l.length/\DkI (saveF d s l).1 (L++l.take i)))
 len:(saveF d s l).1.b.length<=d.b.length+(encL l).length
 le:d.b.length<=65536->(saveF d s l).1.b.length<=65536
theorem rK:∀ {l:List Record} {s:Stable},(stepsF s l).2=0\/(stepsF s l).2=1\/(stepsF s l).2=5
 | [],_=>.inl rfl
 | r :: l,s=>by
  rw [stepsF];split
  ·exact rK
  dsimp only;unfold aN;grind
variable {d:Dsk}
def yb {s:Stable} (h:DkI d L) (m:d.down=false) (A:s=(stepsF sta0 L).1):SaveR d s l L:=by
 have w:=h.up m;have D:=h.syn;by_cases g:l.all recOk=false
 ·have a:l≠[]:=by rintro rfl; cases g
  constructor <;> rw [saveF,if_pos g]
  ·intro e; cases e
  ·exact fun _=>⟨rfl,a,.inl ⟨rfl,(by decide:(1:Int)≠30)⟩⟩
  ·dsimp only; omega
  exact id
 by_cases i:(stepsF s l).2≠0
 ·have a:l≠[]:=by rintro rfl; exact i rfl
  constructor <;> rw [saveF,if_neg g,if_pos i]
  ·intro e; exact absurd e i
  ·exact fun _=>⟨rfl,a,.inl ⟨rfl,by rcases rK (l:=l) (s:=s) with e | e | e <;> rw [e] <;> decide⟩⟩
  ·dsimp only; omega
  exact id
 have p:(stepsF s l).2=0:=Classical.not_not.1 i;have v:l.all recOk=true:=by simpa using g
 by_cases o:l.length=0
 ·obtain rfl:=acu o;constructor <;> rw [saveF,if_neg g,if_neg i,if_pos o]
  ·exact fun _=>⟨m,by rw [ad8]; exact h,rfl,rfl,rfl,rfl,rfl,fun _=>rfl⟩
  ·intro e; exact absurd rfl e
  ·dsimp only; omega
  exact id
 have a:l≠[]:=by rintro rfl; exact o rfl
 by_cases c:d.iX (encL l)≠0
 ·have B:d.iX (encL l)=20:=by
   unfold Dsk.iX at c ⊢;rw [m] at c ⊢;simp only [Bool.false_eq_true,if_false] at c ⊢;split at c
   ·rename_i q; rw [if_pos q]
   exact absurd rfl c
  constructor <;> rw [saveF,if_neg g,if_neg i,if_neg o,if_pos c]
  ·intro e; exact absurd e c
  ·exact fun _=>⟨rfl,a,.inl ⟨rfl,by dsimp only; rw [B]; decide⟩⟩
  ·dsimp only; omega
  exact id
 have C:¬ 65536 - (d.b.length:Int)<(encL l).length:=by
  intro q;unfold Dsk.iX at c;rw [m,if_neg am,if_pos q] at c;exact c am
 have j:d.app (encL l)=⟨d.b++encL l,d.synced,false,d.doomed,d.keep⟩:=by
  rw [Dsk.app,if_neg (by rw [m]; simpa using C),m]
 have y:d.b++encL l=encL (L++l):=by rw [w,tP]
 have z:(stepsF sta0 (L++l)).2=0:=by rw [dN h.st,<- A]; exact p
 by_cases t:d.doomed=true
 ·have u:(d.app (encL l)).e_=30:=by rw [j,Dsk.e_,if_pos (.inr t)]
  have f:(d.app (encL l)).sync=(d.app (encL l)).cH d.keep:=by rw [j,Dsk.sync,if_neg Bool.false_ne_true,if_pos t]
  constructor <;> rw [saveF,if_neg g,if_neg i,if_neg o,if_neg c,if_pos (by rw [u]; decide)]
  ·intro e; rw [u] at e; cases e
  ·refine fun _=>⟨rfl,a,.inr ⟨t,u,by rw [f]; rfl,by rw [f]; rfl,?_⟩⟩;dsimp only;rw [f,j];refine DkI.aiq (k:=((⟨d.b++encL l,d.synced,false,d.doomed,d.keep⟩:Dsk).at_ d.keep).toNat) z ?_ (by show List.take _ (d.b++encL l)=_; rw [y]) ?_ rfl
   ·rw [<- w];simp only [Dsk.at_,List.length_append]; omega
   simp only [Dsk.cH,Dsk.at_,List.length_take,List.length_append]; omega
  ·rw [f,j];simp only [Dsk.cH,List.length_take,List.length_append]; omega
  intro _;rw [f,j];simp only [Dsk.cH,List.length_take,List.length_append]; omega
 have u:(d.app (encL l)).e_=0:=by rw [j,Dsk.e_,if_neg (by simpa using t)]
 have f:(d.app (encL l)).sync=⟨d.b++encL l,(d.b++encL l).length,false,d.doomed,d.keep⟩:=by rw [j,Dsk.sync,if_neg Bool.false_ne_true,if_neg t]
 constructor <;> rw [saveF,if_neg g,if_neg i,if_neg o,if_neg c,if_neg (by rw [u]; decide)]
 ·refine fun _=>⟨by rw [f],?_,rfl,p,v,by rw [f],by rw [f],fun e=>absurd e a⟩;dsimp only;rw [f];exact DkI.enc z y rfl
 ·intro e; exact absurd rfl e
 ·rw [f]; dsimp only; rw [List.length_append]; omega
 intro _; rw [f]; dsimp only; rw [List.length_append]; omega
def aiT (h:r.kind=1/\1<=r.a/\r.a<=3/\r.b=0/\r.x=[]):recOk r=true:=bT.2 (.inl h)
def adm (h:r.kind=2/\0<=r.a/\r.a<=1048576/\0<=r.b/\r.b<=5/\r.x=[]):recOk r=true:=bT.2 (.inr (.inl h))
def agD (h:r.kind=3/\1<=r.a/\r.a<=64/\0<=r.b/\r.b<=1048576/\r.x.length<=200):recOk r=true:=bT.2 (.inr (.inr (.inl h)))
def aiV (h:r.kind=4/\1<=r.a/\r.a<=64/\r.b=0/\r.x=[]):recOk r=true:=bT.2 (.inr (.inr (.inr h)))
def kE {s t:Stable} (h:recOk r=true) (e:fh s r=some t):aN s r=(t,0):=by
 rw [aN,if_neg (by rw [h]; decide),e]
def hP {s:Stable} (h:(aN s r).2=0):stepsF s [r]=((aN s r).1,0):=by
 rw [stepsF,if_pos h,stepsF]
variable {t:Int}
theorem yj {s:Stable} {v:Int} (a:0<=t) (c:t<=1048576) (f:0<=v) (g:v<=5) (h:s.term<t\/(s.term=t/\(s.vote=0\/s.vote=v))):stepsF s [⟨2,t,v,[]⟩]=({ s with term:=t,vote:=v },0):=by
 have e:aN s ⟨2,t,v,[]⟩=({ s with term:=t,vote:=v },0):=by
  refine kE (adm ⟨rfl,a,c,f,g,rfl⟩) ?_;rw [fh,if_neg (show ¬ (2:Int)=1 by decide),if_pos rfl,fD,if_neg];grind
 rw [hP (by rw [e]),e]
def nR {s:Stable} (a:0<=t) (c:t<=1048576):stepsF s (ay s t)=({ s with term:=max s.term t,vote:=if s.term<t then 0 else s.vote },0)/\(ay s t).all recOk=true:=by
 unfold ay;split
 ·rename_i h;rw [show max s.term t=s.term by omega,if_neg aE];exact ⟨rfl,rfl⟩
 rename_i h;rw [yj a c aE aE (.inl aE),show max s.term t=t by omega,if_pos aE];refine ⟨rfl,?_⟩;rw [List.all_cons,adm ⟨rfl,a,c,by dsimp only; omega,by dsimp only; omega,rfl⟩]; rfl
def lO {y:Entry}:dr y=true↔1<=y.term/\y.term<=1048576/\y.b.length<=200:=by
 simp only [dr,cq,Bool.and_eq_true,decide_eq_true_eq]; omega
theorem xG:∀ {m:List Entry} {s:Stable},m.all dr=true->s.log.length+m.length<=64->stepsF s (eX ((s.log.length:Int)+1) m)=({ s with log:=s.log++m },0)/\(eX ((s.log.length:Int)+1) m).all recOk=true
 | [],s,_,_=>⟨by rw [eX,stepsF,ad8],rfl⟩
 | y :: m,s,h,g=>by
  rw [List.all_cons,Bool.and_eq_true,lO] at h;rw [List.length_cons] at g;have a:recOk ⟨3,(s.log.length:Int)+1,y.term,y.b⟩=true:=agD ⟨rfl,by dsimp only; omega,by dsimp only; omega,by dsimp only; omega,by dsimp only; omega,by dsimp only; omega⟩;have e:aN s ⟨3,(s.log.length:Int)+1,y.term,y.b⟩=({ s with log:=s.log++[y] },0):=by
   refine kE a ?_;rw [fh,if_neg (show ¬ (3:Int)=1 by decide),if_neg (show ¬ (3:Int)=2 by decide),if_pos rfl,dx,if_neg (by dsimp only; omega)]
  obtain ⟨c,f⟩:=xG (m:=m) (s:={ s with log:=s.log++[y] }) h.2 (by dsimp only; rw [List.length_append,ahp]; omega);have i:(((s.log++[y]).length:Nat):Int)+1=(s.log.length:Int)+1+1:=by rw [List.length_append,ahp]; omega
  rw [i] at c f;refine ⟨?_,?_⟩
  ·rw [eX,stepsF,if_pos (by rw [e]),e,c]; simp
  rw [eX,List.all_cons,a,f]; rfl
theorem Cu (h:mayL x=0):x.l.all dr=true:=by
 unfold mayL at h;grind
theorem MP (h:mayL x=0):0<=x.b:=by
 unfold mayL at h;split at h
 ·rename_i a;simp only [mW,cq,dH] at a;grind
 cases h
def fk (s:Stable) (x:Letter):Nat:=ij (s.log.drop x.a.toNat) x.l
def dM (s:Stable) (x:Letter):List Entry:=if x.l.length<=fk s x then s.log else s.log.take (x.a.toNat+fk s x)++x.l.drop (fk s x)
theorem Ca {l:List Entry} {k:Int} (h:cD l k=t) (a:0<=t) (c:0<=k):k.toNat<=l.length:=by
 unfold cD at h;grind
theorem AU {s:Stable} (c:x.a.toNat<=s.log.length):x.a.toNat+x.l.length<=(dM s x).length/\(dM s x).length<=max s.log.length (x.a.toNat+x.l.length):=by
 have h:=nW (h:=s.log.drop x.a.toNat) (a:=x.l);unfold dM fk;grind
def qn {m:List Entry} (h:m.all dr=true):(m.drop k).all dr=true:=
 List.all_eq_true.2 fun y a=>List.all_eq_true.1 h y (ahO a)
theorem Hz {s:Stable} (h:mayL x=0) (I:s.log.length<=64) (z:x.a+x.l.length<=64) (J:s.term<=x.term) (A:cD s.log x.a=x.b) (B:0<=x.a) (C:1<=x.term) (o:x.term<=1048576) :
  stepsF s (iI s x)=({ s with term:=x.term,vote:=if s.term<x.term then 0 else s.vote,log:=dM s x },0)/\(iI s x).all recOk=true:=by
 have D:=MP h;have F:=Ca A D B;have q:=Cu h;obtain ⟨c,u⟩:=nR (s:=s) (t:=x.term) aE o;have c:stepsF s (ay s x.term)=({ s with term:=x.term,vote:=if s.term<x.term then 0 else s.vote },0):=by rw [c,show max s.term x.term=x.term by omega]
 have G:=nW (h:=s.log.drop x.a.toNat) (a:=x.l);rw [List.length_drop] at G;unfold iI;by_cases f:x.l.length<=fk s x
 ·have e:bj s.log x.a x.l=(0,[]):=by rw [bj,if_neg aE]; exact if_pos f
  rw [e,if_pos rfl,eX,ad8,ad8,dM,if_pos f];grind
 by_cases g:(s.log.drop x.a.toNat).length<=fk s x
 ·have H:fk s x=s.log.length - x.a.toNat:=by rw [List.length_drop] at g; unfold fk at g ⊢; omega
  have e:bj s.log x.a x.l=(0,x.l.drop (fk s x)):=by rw [bj,if_neg aE]; exact (if_neg f).trans (if_pos g)
  have p:x.a+(x.l.length:Int) - ((x.l.drop (fk s x)).length:Int)+1=(s.log.length:Int)+1:=by rw [List.length_drop]; omega
  rw [e,if_pos rfl,ad8];dsimp only;rw [p];obtain ⟨i,j⟩:=xG (m:=x.l.drop (fk s x)) (s:={ s with term:=x.term,vote:=if s.term<x.term then 0 else s.vote }) (qn q) (by dsimp only; rw [List.length_drop]; omega);dsimp only at i j;refine ⟨?_,by rw [List.all_append,u,j]; rfl⟩;rw [dN (by rw [c]),c];dsimp only;rw [i,dM,if_neg f,List.take_of_length_le (l:=s.log) aE]
 have H:x.a.toNat+fk s x<s.log.length:=by rw [List.length_drop] at g; omega
 have e:bj s.log x.a x.l=(x.a+fk s x+1,x.l.drop (fk s x)):=by rw [bj,if_neg aE]; exact (if_neg f).trans (if_neg g)
 have v:recOk ⟨4,x.a+fk s x+1,0,[]⟩=true:=aiV ⟨rfl,by dsimp only; omega,by dsimp only; omega,rfl,rfl⟩;have w:aN { s with term:=x.term,vote:=if s.term<x.term then 0 else s.vote } ⟨4,x.a+fk s x+1,0,[]⟩=({ s with term:=x.term,vote:=if s.term<x.term then 0 else s.vote,log:=s.log.take (x.a.toNat+fk s x) },0):=by
  refine kE v ?_;rw [fh,if_neg (show ¬ (4:Int)=1 by decide),if_neg (show ¬ (4:Int)=2 by decide),if_neg (show ¬ (4:Int)=3 by decide),fM,if_neg (by dsimp only; omega)];dsimp only;rw [show (x.a+(fk s x:Int)+1 - 1).toNat=x.a.toNat+fk s x by omega]
 have p:x.a+(x.l.length:Int) - ((x.l.drop (fk s x)).length:Int)+1=(((s.log.take (x.a.toNat+fk s x)).length:Nat):Int)+1:=by rw [List.length_drop,List.length_take]; omega
 rw [e];dsimp only;rw [if_neg aE,p];obtain ⟨i,j⟩:=xG (m:=x.l.drop (fk s x)) (s:={ s with term:=x.term,vote:=if s.term<x.term then 0 else s.vote,log:=s.log.take (x.a.toNat+fk s x) }) (qn q) (by dsimp only; rw [List.length_drop,List.length_take]; omega);dsimp only at i j;refine ⟨?_,by rw [List.all_append,List.all_append,u,j]; simp [v]⟩;have y:stepsF s (ay s x.term++[⟨4,x.a+fk s x+1,0,[]⟩])=({ s with term:=x.term,vote:=if s.term<x.term then 0 else s.vote,log:=s.log.take (x.a.toNat+fk s x) },0):=by
  rw [dN (by rw [c]),c,hP (by dsimp only; rw [w])];dsimp only;rw [w]
 rw [dN (by rw [y]),y];dsimp only;rw [i,dM,if_neg f]
structure NdOK (n:Nd):Prop where
 d:n.d.OK
 many:3<=n.c.many/\n.c.many<=5
 me:0<=n.c.me/\n.c.me<n.c.many
 log:n.c.st.log.length<=64
 term:0<=n.c.st.term/\n.c.st.term<=1048576
 com:0<=n.c.applied/\n.c.applied<=n.c.commit/\n.c.commit<=n.c.st.log.length
 len:n.c.role=0\/((n.vs.length:Int)=n.c.many/\(n.bn.length:Int)=n.c.many/\(n.nx.length:Int)=n.c.many/\(n.mt.length:Int)=n.c.many)
 rp:(n.rp.length:Int)=n.c.applied
abbrev fr0:State:=State.mk 1 1 0 0 [] [] []
structure UpI (n:Nd) (L:List Record):Prop where
 st:n.c.st=(stepsF sta0 L).1
 bin:1<=n.c.bin/\n.c.bin<=3/\n.c.st.floor=n.c.bin
 role:0<=n.c.role/\n.c.role<=2
 vote:n.c.role≠0->n.c.st.vote=n.c.me+1/\1<=n.c.st.term
 nx:n.c.role=2->∀ i:Nat,(i:Int)<n.c.many->1<=n.nx.getD i 0/\n.nx.getD i 0<=n.c.st.log.length+1
 pl:okPl n.c.bin (n.c.st.log.take n.c.applied.toNat)/\n.c.s=pS n.c.bin fr0 (n.c.st.log.take n.c.applied.toNat)/\n.rp=pR n.c.bin fr0 (n.c.st.log.take n.c.applied.toNat)
structure NInv (n:Nd) (L:List Record):Prop where
 ok:NdOK n
 d:DkI n.d L
 le:∀ r ∈ L,r.kind=3->1<=r.b
 up:n.d.down=false->UpI n L
structure LetI (n:Nd) (x:Letter):Prop where
 up:n.d.down=false
 frm:x.frm=n.c.me
 to:x.to≠n.c.me/\0<=x.to/\x.to<n.c.many
 term:x.term=n.c.st.term
 bin:x.bin=n.c.bin
 ask:x.kind=1->n.c.st.vote=n.c.me+1
 vote:x.kind=2->x.ok=true->n.c.st.vote=x.to+1
 copy:x.kind=3->n.c.role=2
structure StepR (n:Nd) (L:List Record) (n':Nd) (l:List Letter) (L':List Record):Prop where
 inv:NInv n' L'
 pre:L <+: L'
 me:n'.c.me=n.c.me/\n'.c.many=n.c.many
 len:n'.d.b.length<=n.d.b.length+1400
 lets:∀ x ∈ l,LetI n' x
 mono:n.d.down=false->n'.d.down=false->n.c.commit<=n'.c.commit/\n'.c.st.log.take n.c.commit.toNat=n.c.st.log.take n.c.commit.toNat/\n'.c.bin=n.c.bin
variable {n:Nd}
def StepR.refl (h:NInv n L):StepR n L n [] L:=
 ⟨h,List.prefix_refl _,⟨rfl,rfl⟩,aE,fun _ a=>(by cases a),fun _ _=>⟨afO _,rfl,rfl⟩⟩
theorem tH {s:Stable} (h:SaveR d s l L) (c:l.length<=6):(saveF d s l).1.b.length<=d.b.length+1400:=by
 cases a:l.all recOk
 ·have e:saveF d s l=(d,s,1):=by rw [saveF,if_pos a]
  grind
 have:=h.len;have:=oa a;omega
def DM (n:Nd) (l:List Record):(n.save l).c={ n.c with st:=(saveF n.d n.c.st l).2.1 }:=rfl
def Oe (n:Nd) (l:List Record):(n.save l).d=(saveF n.d n.c.st l).1:=rfl
theorem pU {s t:Stable} (a:recOk r=true) (h:fh s r=some t) (c:s.log.length<=64) (e:0<=s.term/\s.term<=1048576):t.log.length<=64/\0<=t.term/\t.term<=1048576:=by
 have f:=bT.1 a;unfold fh at h;split at h
 ·unfold dP at h;grind
 split at h
 ·unfold fD at h;grind
 split at h
 ·unfold dx at h;grind
 unfold fM at h;grind
theorem lM {s:Stable} (h:(aN s r).2=0):recOk r=true/\fh s r=some (aN s r).1:=by
 have a:=s_ h;unfold aN at h ⊢;grind
theorem ow:∀ {l:List Record} {s:Stable},s.log.length<=64->0<=s.term/\s.term<=1048576->(stepsF s l).1.log.length<=64/\0<=(stepsF s l).1.term/\(stepsF s l).1.term<=1048576
 | [],_,a,c=>⟨a,c⟩
 | r :: l,s,a,c=>by
  rw [stepsF];split
  ·rename_i h;obtain ⟨e,f⟩:=lM h;obtain ⟨g,i⟩:=pU e f a c;exact ow g i
  grind
theorem BO {s:Stable} (h:SaveR d s l L) (c:d.OK):(saveF d s l).1.OK:=by
 by_cases e:(saveF d s l).2.2=0
 ·have a:=(h.ok e).2.1.syn;exact ⟨aE,aE,h.le c.2.2⟩
 rcases (h.no e).2.2 with ⟨a,_⟩ | ⟨_,_,_,_,i,_,a⟩
 ·grind
 have f:=a.syn;exact ⟨aE,aE,h.le c.2.2⟩
theorem kR (h:NInv n L) (q:n.d.down=false) (u:l.length<=6) (B:∀ r ∈ l,r.kind=3->1<=r.b) (v:n.aJ l≠0):∃ w,StepR n L (n.save l) [] w:=by
 have j:=h.up q;have m:=yb (l:=l) h.d q j.st;have f:=tH m u;have g:=BO m h.ok.d;obtain ⟨s,C,o⟩:=m.no v;have a:(n.save l).c=n.c:=by rw [DM,s]
 have p:NdOK (n.save l):=⟨g,by rw [a]; exact h.ok.many,by rw [a]; exact h.ok.me,by rw [a]; exact h.ok.log,by rw [a]; exact h.ok.term,by rw [a]; exact h.ok.com,by rw [a]; exact h.ok.len,by rw [a]; exact h.ok.rp⟩;rcases o with ⟨o,_⟩ | ⟨_,_,y,_,i,_,z⟩
 ·have e:n.save l=n:=by
   unfold Nd.save; rw [s,o]
  rw [e]; exact ⟨L,StepR.refl h⟩
 refine ⟨L++l.take i,⟨p,z,fun r hr=>?_,fun g=>?_⟩,Bf,by rw [a]; exact ⟨rfl,rfl⟩,f,fun _ A=>(by cases A),fun _ g=>?_⟩
 ·rcases acq.1 hr with hr | hr
  ·exact h.le r hr
  grind
 ·grind
 rw [Oe,y] at g; cases g
structure SaveY (n:Nd) (L l:List Record):Prop where
 d:DkI (n.save l).d (L++l)
 dn:(n.save l).d.down=false
 st:(n.save l).c.st=(stepsF n.c.st l).1
 sts:(n.save l).c.st=(stepsF sta0 (L++l)).1
 le:∀ r ∈ L++l,r.kind=3->1<=r.b
 len:(n.save l).d.b.length<=n.d.b.length+1400
 ok:(n.save l).d.OK
 lt:(n.save l).c.st.log.length<=64/\0<=(n.save l).c.st.term/\(n.save l).c.st.term<=1048576
 no:l=[]->n.save l=n
theorem lV (h:NInv n L) (i:n.d.down=false) (j:l.length<=6) (u:∀ r ∈ l,r.kind=3->1<=r.b) (m:n.aJ l=0):SaveY n L l:=by
 have a:=h.up i;have f:=yb (l:=l) h.d i a.st;obtain ⟨o,p,q,v,w,y,z,s⟩:=f.ok m;have g:(n.save l).c.st=(stepsF n.c.st l).1:=q;refine ⟨p,o,g,?_,fun r hr=>?_,tH f j,BO f h.ok.d,?_,fun e=>?_⟩
 ·rw [g,dN h.d.st,a.st]
 ·rcases acq.1 hr with hr | hr
  ·exact h.le r hr
  grind
 ·rw [g]; exact ow h.ok.log h.ok.term
 unfold Nd.save; rw [s e]
theorem Ul {c:Type} {a b:List c} {j:Nat} (h:a.take k=b.take k) (e:j<=k):a.take j=b.take j:=by
 have f:a.take j=(a.take k).take j:=by rw [ai3,afR e]
 grind
theorem lY (h:NInv n L) (f:n.d.down=false) (y:SaveY n L l) (g:n.c.role≠0->(n.save l).c.st.vote=n.c.me+1/\1<=(n.save l).c.st.term) (j:(n.save l).c.st.floor=n.c.st.floor)
  (e:(n.save l).c.st.log.take n.c.commit.toNat=n.c.st.log.take n.c.commit.toNat) (m:n.c.commit<=((n.save l).c.st.log.length:Int)) (v:n.c.role=2->n.c.st.log.length<=(n.save l).c.st.log.length):StepR n L (n.save l) [] (L++l):=by
 have a:=h.up f;have o:(n.save l).c.st.log.take n.c.applied.toNat=n.c.st.log.take n.c.applied.toNat:=Ul e (by have:=h.ok.com; omega);refine ⟨⟨⟨y.ok,h.ok.many,h.ok.me,y.lt.1,y.lt.2,⟨h.ok.com.1,h.ok.com.2.1,m⟩,h.ok.len,h.ok.rp⟩,y.d,y.le,fun _=>⟨y.sts,⟨a.bin.1,a.bin.2.1,j.trans a.bin.2.2⟩,a.role,g,fun p i q=>?_,?_⟩⟩,List.prefix_append _ _,⟨rfl,rfl⟩,y.len,fun _ u=>(by cases u),fun _ _=>⟨afO _,e,rfl⟩⟩
 ·have w:=a.nx p i q;grind
 show okPl n.c.bin ((n.save l).c.st.log.take n.c.applied.toNat)/\n.c.s=pS n.c.bin fr0 ((n.save l).c.st.log.take n.c.applied.toNat)/\n.rp=pR n.c.bin fr0 ((n.save l).c.st.log.take n.c.applied.toNat);rw [o]; exact a.pl
def NInv.follow {n:Nd} {L:List Record} (h:NInv n L):NInv n.follow L:=
 ⟨⟨h.ok.d,h.ok.many,h.ok.me,h.ok.log,h.ok.term,h.ok.com,.inl rfl,h.ok.rp⟩,h.d,h.le,fun e=>by
  have a:=h.up e;exact ⟨a.st,a.bin,⟨afO 0,(by decide:(0:Int)<=2)⟩,fun c=>absurd rfl c,fun c=>absurd (show (0:Int)=2 from c) am,a.pl⟩⟩
variable {n':Nd} {L':List Record}
def StepR.lW {l:List Letter} (h:StepR n.follow L n' l L'):StepR n L n' l L':=⟨h.inv,h.pre,h.me,h.len,h.lets,h.mono⟩
theorem rh {n:NdC} {i:Int} (h:i ∈ cu n):i≠n.me/\0<=i/\i<n.many:=by
 unfold cu iW at h;grind
variable {to:Int}
theorem rY (h:(iG n to).2=0):(iG n to).1=ku n.c.st ⟨n.c.me,to,n.nx.getD to.toNat 0,n.c.commit,n.c.bin⟩:=by
 unfold iG fR at h ⊢;grind
def Gn (a:n.d.down=false) (f:n.c.role=2) (h:(iG n to).2=0) (g:to≠n.c.me/\0<=to/\to<n.c.many):LetI n (iG n to).1:=by
 rw [rY h];exact ⟨a,rfl,g,rfl,rfl,fun e=>absurd (show (3:Int)=1 from e) am,fun e=>absurd (show (3:Int)=2 from e) am,fun _=>f⟩
theorem Am {n:Nd}:∀ {l:List Int} {x:Letter},x ∈ (cm n l).1->∃ to ∈ l,(iG n to).2=0/\x=(iG n to).1
 | t :: l,x,h=>by
  unfold cm at h;split at h
  ·rename_i a;split at h
   ·rcases acw.1 h with rfl | h
    ·grind
    obtain ⟨u,c,k⟩:=Am h;grind
   cases h
  cases h
def pJ (a:x ∈ (aU n).1):LetI n x:=by
 unfold aU at a;split at a
 ·cases a
 rename_i c;split at a
 ·rename_i e;obtain ⟨to,f,g,rfl⟩:=Am a;exact Gn (by simpa using c) e g (rh f)
 cases a
def StepR.tell {l:List Letter} (h:StepR n L n' [] L') (a:∀ x ∈ l,LetI n' x):StepR n L n' l L':=⟨h.inv,h.pre,h.me,h.len,a,h.mono⟩
def Er (a:n.d.down=false) (f:n.c.st.vote=n.c.me+1) (g:x ∈ fP n.c):LetI n x:=by
 obtain ⟨to,h,rfl⟩:=ahE.1 g;exact ⟨a,rfl,rh h,rfl,rfl,fun _=>f,fun e=>absurd (show (1:Int)=2 from e) am,fun e=>absurd (show (1:Int)=3 from e) am⟩
def yZ {s:Stable} {m:Int} (h:(aP s m).2=0) (e:0<=m) (f:0<=s.term):aP s m=([⟨2,s.term+1,m+1,[]⟩],0)/\stepsF s [⟨2,s.term+1,m+1,[]⟩]=({ s with term:=s.term+1,vote:=m+1 },0):=by
 unfold aP at h ⊢;split at h
 ·cases h
 rename_i a;split at h
 ·cases h
 rename_i c;rw [if_neg a,if_neg c];exact ⟨rfl,yj aE aE aE aE (.inl aE)⟩
variable {k:Int}
def RI {a b:Int} (c:k≠3):∀ r ∈ [Record.mk k a b []],r.kind=3->1<=r.b:=fun r f e=>by
 rw [acr.1 f] at e; exact absurd e c
def IZ (h:NInv n L):∃ L',StepR n L (aH n).n (aH n).l L':=by
 unfold aH;split
 ·exact ⟨L,.refl h⟩
 rename_i j;have f:n.d.down=false:=by simpa using j
 split
 ·exact ⟨L,.refl h⟩
 rename_i i;split
 ·exact ⟨L,.refl h⟩
 rename_i m;obtain ⟨o,p⟩:=yZ (Classical.not_not.1 m) h.ok.me.1 h.ok.term.1;rw [o];dsimp only;split
 ·rename_i g;exact kR h f aa (RI am) g
 rename_i g;have y:=lV h f aa (RI am) (Classical.not_not.1 g);have e:=h.up f;have a:=y.st;rw [p] at a;generalize v:[Record.mk 2 (n.c.st.term+1) (n.c.me+1) []]=l at *;have w:=h.ok.me;have q:=h.ok.many;refine ⟨L++l,⟨⟨⟨y.ok,h.ok.many,h.ok.me,y.lt.1,y.lt.2,?_,?_,h.ok.rp⟩,y.d,y.le,fun _=>⟨y.sts,⟨e.bin.1,e.bin.2.1,?_⟩,⟨(by decide:(0:Int)<=1),(by decide:(1:Int)<=2)⟩,fun _=>?_,fun i=>absurd (show (1:Int)=2 from i) am,?_⟩⟩,List.prefix_append _ _,⟨rfl,rfl⟩,y.len,fun x u=>Er y.dn ?_ u,fun _ _=>⟨afO _,?_,rfl⟩⟩⟩
 ·show 0<=n.c.applied/\n.c.applied<=n.c.commit/\n.c.commit<=((n.save l).c.st.log.length:Int);rw [a]; exact h.ok.com
 ·refine .inr ⟨?_,?_,?_,?_⟩
  ·show ((((List.replicate n.c.many.toNat false).set n.c.me.toNat true).length:Nat):Int)=n.c.many;rw [acF,afN]; omega
  ·show ((((List.replicate n.c.many.toNat (0:Int)).set n.c.me.toNat n.c.bin).length:Nat):Int)=n.c.many;rw [acF,afN]; omega
  ·show (((List.replicate n.c.many.toNat (0:Int)).length:Nat):Int)=n.c.many;rw [afN]; omega
  show (((List.replicate n.c.many.toNat (0:Int)).length:Nat):Int)=n.c.many;rw [afN]; omega
 ·show (n.save l).c.st.floor=n.c.bin;rw [a]; exact e.bin.2.2
 ·show (n.save l).c.st.vote=n.c.me+1/\1<=(n.save l).c.st.term;rw [a]; exact ⟨rfl,by have:=h.ok.term.1; dsimp only; omega⟩
 ·show okPl n.c.bin ((n.save l).c.st.log.take n.c.applied.toNat)/\n.c.s=pS n.c.bin fr0 ((n.save l).c.st.log.take n.c.applied.toNat)/\n.rp=pR n.c.bin fr0 ((n.save l).c.st.log.take n.c.applied.toNat);rw [a]; exact e.pl
 ·show (n.save l).c.st.vote=n.c.me+1;rw [a]
 show (n.save l).c.st.log.take n.c.commit.toNat=_;rw [a]
theorem zu:∀ {k:Nat} {n:Nd} {L:List Record},NInv n L->n.d.down=false->NInv (n.cf k) L/\(n.cf k).d=n.d/\(n.cf k).c={ n.c with s:=(n.cf k).c.s,applied:=(n.cf k).c.applied }/\(n.cf k).vs=n.vs/\(n.cf k).bn=n.bn/\(n.cf k).nx=n.nx/\(n.cf k).mt=n.mt
 | 0,n,L,h,_=>⟨h,rfl,rfl,rfl,rfl,rfl,rfl⟩
 | k+1,n,L,h,o=>by
  unfold Nd.cf;split
  ·rename_i J;split
   ·rename_i f;have a:=h.up o;have q:=h.ok.com;obtain ⟨x,g⟩:∃ x,n.c.st.log[n.c.applied.toNat]? = some x:=⟨_,List.getElem?_eq_getElem aE⟩;have e:(n.c.st.log.drop n.c.applied.toNat).take 1=[x]:=by
     obtain ⟨i,j⟩:=aaw.1 g;rw [afP i,j]; rfl
    rw [e] at f ⊢;have m:(bg x n.c.bin).e=0:=by
     unfold pE at f;split at f
     ·assumption
     exact f
    have u:plS n.c.bin n.c.s [x]=gR n.c.bin n.c.s x:=by
     unfold plS pN pN;rw [if_pos m]; rfl
    have v:plR n.c.bin n.c.s [x]=[nb n.c.bin n.c.s x]:=by
     unfold plR pN pN;rw [if_pos m]; rfl
    have w:(n.c.applied+1).toNat=n.c.applied.toNat+1:=by omega
    obtain ⟨y,p,z⟩:=a.pl;rw [u,v];have A:NInv { n with c:={ n.c with s:=gR n.c.bin n.c.s x,applied:=n.c.applied+1 },rp:=n.rp++[nb n.c.bin n.c.s x] } L:=by
     refine ⟨⟨h.ok.d,h.ok.many,h.ok.me,h.ok.log,h.ok.term,⟨by dsimp only; omega,by dsimp only; omega,q.2.2⟩,h.ok.len,?_⟩,h.d,h.le,fun _=>⟨a.st,a.bin,a.role,a.vote,a.nx,?_⟩⟩
     ·dsimp only;rw [List.length_append,ahp];have:=h.ok.rp; omega
     dsimp only;rw [w];refine ⟨FQ y g m,?_,?_⟩
     ·rw [p]; exact XC g
     rw [z,p]; exact XO g
    obtain ⟨B,C,D,F,G,H,I⟩:=zu (k:=k) A o;exact ⟨B,C,D,F,G,H,I⟩
   grind
  grind
theorem lH {s:Stable}:∀ r ∈ ay s t,r.kind=3->1<=r.b:=fun r a e=>by
 unfold ay at a;grind
theorem gf {s:Stable}:(ay s t).length<=1:=by
 unfold ay;split <;> simp
theorem mh (h:mayL x=0):x.frm≠x.to:=by
 unfold mayL at h;split at h
 ·rename_i a;simp only [mW] at a;grind
 cases h
structure ForMe (n:Nd) (x:Letter):Prop where
 may:mayL x=0
 to:x.to=n.c.me
 frm:x.frm<n.c.many
theorem oM (h:cX n.c x=true):ForMe n x/\(x.kind=3->(az n.c.st x).2.2.2=0/\(az n.c.st x).1.any (fun r=>decide (r.kind=4) && decide (r.a<=n.c.commit))=false):=by
 unfold cX at h;split at h
 ·cases h
 rename_i e;refine ⟨⟨aE,aE,aE⟩,fun f=>?_⟩;grind
theorem Zr {s:Stable} (h:(aL s x).2.2=0) (i:mayL x=0):(aL s x).1.length<=1/\(∀ r ∈ (aL s x).1,r.kind=3->1<=r.b) /\
  (stepsF s (aL s x).1)=({ s with term:=max s.term x.term,vote:=if (aL s x).2.1=true then x.frm+1 else if s.term<x.term then 0 else s.vote },0) /\
  ((aL s x).2.1=true->s.term<=x.term/\(x.term=s.term->s.vote=0\/s.vote=x.frm+1))/\(x.term<=s.term->(aL s x).2.1=false->(aL s x).1=[])/\(x.term<=s.term->s.vote≠0->(aL s x).1=[]):=by
 have o:=eL i;unfold aL at h ⊢;split at h
 ·cases h
 rename_i j;rw [if_neg j];split at h
 ·rename_i a;rw [if_pos a];have:=(nR (s:=s) (t:=x.term) aE aE).1;refine ⟨gf,lH,?_,fun e=>(by cases e),fun e _=>(by unfold ay; rw [if_pos e]),fun e _=>(by unfold ay; rw [if_pos e])⟩;dsimp only;rw [this]; simp
 rename_i a;rw [if_neg a];have c:s.term<=x.term/\uX s x=true:=by
  rw [not_or,not_or] at a;exact ⟨aE,by simpa using a.1.2⟩
 have f:x.term=s.term->s.vote=0\/s.vote=x.frm+1:=fun e=>by
  have:=c.2;simp only [uX,Bool.or_eq_true,decide_eq_true_eq] at this;omega
 split
 ·rename_i g;refine ⟨aa,fun _ m=>(by cases m),?_,fun _=>⟨c.1,f⟩,fun _ _=>rfl,fun _ _=>rfl⟩;dsimp only;rw [stepsF,if_pos rfl,show max s.term x.term=s.term by omega,<- g.2]
 rename_i g;refine ⟨aa,RI am,?_,fun _=>⟨c.1,f⟩,fun _ e=>(by cases e),fun p q=>?_⟩
 ·dsimp only;rw [yj aE aE aE aE aE,if_pos rfl,show max s.term x.term=x.term by omega]
 grind
theorem Ez (h:NInv n L) (i:n.d.down=false) (a:ForMe n x) (o:n.c.role≠0->x.term<=n.c.st.term):∃ L',StepR n L (ct n x).n (ct n x).l L':=by
 unfold ct;split
 ·exact ⟨L,.refl h⟩
 rename_i p;obtain ⟨B,m,q,C,D,s⟩:=Zr (Classical.not_not.1 p) a.may;split
 ·rename_i j;exact kR h i aE m j
 rename_i j;have y:=lV h i aE m (Classical.not_not.1 j);have f:=y.st;rw [q] at f;have u:=h.up i;refine ⟨_,(lY h i y (fun g=>?_) (by rw [f]) (by rw [f]) (by rw [f]; exact h.ok.com.2.2) (fun _=>by rw [f]; exact Nat.le_refl _)).tell fun z v=>?_⟩
 ·have F:=u.vote g;have e:=y.no (s (o g) (by have:=h.ok.me; omega));grind
 rw [acr.1 v];have w:=eL a.may;have A:=mh a.may;refine ⟨y.dn,rfl,⟨by have:=a.to; show x.frm≠n.c.me; omega,w.1,a.frm⟩,rfl,rfl,fun e=>absurd (show (2:Int)=1 from e) am,fun _ e=>?_,fun e=>absurd (show (2:Int)=3 from e) am⟩;have e:(aL n.c.st x).2.1=true:=e;show (n.save (aL n.c.st x).1).c.st.vote=x.frm+1;grind
theorem Ho:∀ {m:List Entry} {k:Int},m.all dr=true->∀ r ∈ eX k m,r.kind=3->1<=r.b
 | y :: m,k,h,r,hr,e=>by
  rw [List.all_cons,Bool.and_eq_true,lO] at h;rcases acw.1 hr with rfl | hr
  ·exact h.1.1
  exact Ho h.2 r hr e
theorem eF {s:Stable} (h:(az s x).2.2.2=0):(mayL x=0/\x.kind=3/\x.a+x.l.length<=64)/\((x.term<s.term/\az s x=([],false,0,0))\/(s.term<=x.term/\cD s.log x.a=x.b/\az s x=(iI s x,true,x.a+x.l.length,0))\/(s.term<=x.term/\¬ cD s.log x.a=x.b/\az s x=(ay s x.term,false,0,0))):=by
 unfold az at h ⊢;split at h
 ·cases h
 grind
theorem wP {s:Stable} (h:mayL x=0):(iI s x).length<=6:=by
 have e:=eL h;have f:=gf (s:=s) (t:=x.term);have g:∀ (m:List Entry) (k:Int),(eX k m).length=m.length:=fun m=>by
  induction m with
  | nil=>intro _; rfl
  | cons y m c=>intro k; rw [eX,List.length_cons,List.length_cons,c]
 have i:(bj s.log x.a x.l).2.length<=x.l.length:=by
  unfold bj;grind
 unfold iI;grind
theorem UT {s:Stable} (h:mayL x=0):∀ r ∈ iI s x,r.kind=3->1<=r.b:=fun r hr e=>by
 rcases acq.1 hr with hr | hr
 ·rcases acq.1 hr with hr | hr
  ·exact lH r hr e
  grind
 refine Ho ?_ r hr e;have:=Cu h;unfold bj;grind
theorem xd {s:Stable} (c:mayL x=0) (q:x.a.toNat<=s.log.length) (f:(iI s x).any (fun r=>decide (r.kind=4) && decide (r.a<=k))=false) (u:0<=k) (v:k<=s.log.length):(dM s x).take k.toNat=s.log.take k.toNat/\k<=((dM s x).length:Int):=by
 have w:=eL c;have g:=nW (h:=s.log.drop x.a.toNat) (a:=x.l);rw [List.length_drop] at g;unfold dM;split
 ·grind
 rename_i i;have h2:k.toNat<=x.a.toNat+fk s x\/s.log.length<=x.a.toNat+fk s x:=by
  by_cases j:(s.log.drop x.a.toNat).length<=fk s x
  ·grind
  left;have e:bj s.log x.a x.l=(x.a+fk s x+1,x.l.drop (fk s x)):=by rw [bj,if_neg aE]; exact (if_neg i).trans (if_neg j)
  have m:Record.mk 4 (x.a+fk s x+1) 0 [] ∈ iI s x:=by
   unfold iI;rw [e];dsimp only;rw [if_neg aE];simp
  have o:=List.any_eq_false.1 f _ m;simp only [decide_true,Bool.true_and,decide_eq_true_eq] at o;omega
 have p:k.toNat<=(s.log.take (x.a.toNat+fk s x)).length:=by rw [List.length_take]; omega
 refine ⟨?_,by rw [List.length_append]; omega⟩;rw [afQ p,ai3];rcases h2 with h2 | h2
 ·grind
 grind
theorem nQ {s:Stable} (h:(saveF d s l).2.2=0):(saveF d s l).2.1=(stepsF s l).1/\(stepsF s l).2=0:=by
 unfold saveF at h ⊢;split at h
 ·cases h
 rename_i e;split at h
 ·grind
 rename_i a;have a:=Classical.not_not.1 a;split at h
 ·rename_i c;obtain rfl:=acu c;exact ⟨rfl,rfl⟩
 grind
def sR (h:NdOK n) (q:cX n.c x=true) (s:x.kind=3) (g:(az n.c.st x).2.1=true) :
  (az n.c.st x)=(iI n.c.st x,true,x.a+x.l.length,0)/\n.c.st.term<=x.term/\(stepsF n.c.st (iI n.c.st x))=({ n.c.st with term:=x.term,vote:=if n.c.st.term<x.term then 0 else n.c.st.vote,log:=dM n.c.st x },0) /\
  (dM n.c.st x).take n.c.commit.toNat=n.c.st.log.take n.c.commit.toNat/\n.c.commit<=((dM n.c.st x).length:Int)/\x.a+x.l.length<=((dM n.c.st x).length:Int)/\mayL x=0/\cD n.c.st.log x.a=x.b:=by
 obtain ⟨f,u⟩:=oM q;obtain ⟨v,m⟩:=u s;have B:=eL f.may;obtain ⟨⟨_,_,i⟩,w⟩:=eF v;rcases w with ⟨_,e⟩ | ⟨o,j,e⟩ | ⟨_,_,e⟩
 ·rw [e] at g; cases g
 ·rw [e] at m;have y:=(Hz f.may h.log i o j aE aE aE).1;have p:=Ca j (MP f.may) aE;obtain ⟨z,A⟩:=xd f.may p m (by have:=h.com; omega) h.com.2.2;have C:=AU (x:=x) p;exact ⟨e,o,y,z,A,aE,f.may,j⟩
 rw [e] at g; cases g
def FR (f:NdOK n) (h:cX n.c x=true) (i:x.kind=3) (j:n.aJ (az n.c.st x).1=0) (m:(az n.c.st x).2.1=true) :
  (0<=(n.save (az n.c.st x).1).c.applied/\max (n.save (az n.c.st x).1).c.commit (min x.c (az n.c.st x).2.2.1)<=((n.save (az n.c.st x).1).c.st.log.length:Int))/\((n.save (az n.c.st x).1).rp.length:Int)<=(n.save (az n.c.st x).1).c.applied/\(n.save (az n.c.st x).1).c.st.log.length<=10000:=by
 obtain ⟨e,v,o,w,y,z,_⟩:=sR f h i m;have g:(n.save (az n.c.st x).1).c.st=(stepsF n.c.st (az n.c.st x).1).1:=(nQ j).1;have p:=ow (l:=(az n.c.st x).1) f.log f.term;rw [<- g] at p;have q:(n.save (az n.c.st x).1).c.st.log=dM n.c.st x:=by
  rw [g,e];dsimp only;rw [o]
 have s:=f.com;have A:=f.rp;have u:(az n.c.st x).2.2.1=x.a+x.l.length:=by rw [e]
 refine ⟨⟨s.1,?_⟩,?_,aE⟩
 ·show max n.c.commit (min x.c (az n.c.st x).2.2.1)<=_;rw [q,u]; omega
 show ((n.rp.length:Nat):Int)<=n.c.applied;omega
theorem StepR.commit {n n':Nd} {L L':List Record} {c:Int} (h:StepR n L n' [] L') (g:n'.d.down=false) (i:n'.c.commit<=c) (s:c<=(n'.c.st.log.length:Int)):StepR n L ({ n' with c:={ n'.c with commit:=c } }:Nd).apply [] L' /\
  (({ n' with c:={ n'.c with commit:=c } }:Nd).apply.d=n'.d/\({ n' with c:={ n'.c with commit:=c } }:Nd).apply.c.me=n'.c.me/\({ n' with c:={ n'.c with commit:=c } }:Nd).apply.c.many=n'.c.many/\({ n' with c:={ n'.c with commit:=c } }:Nd).apply.c.st=n'.c.st/\({ n' with c:={ n'.c with commit:=c } }:Nd).apply.c.bin=n'.c.bin/\({ n' with c:={ n'.c with commit:=c } }:Nd).apply.c.role=n'.c.role):=by
 have e:=h.inv.up g;have a:=h.inv.ok;have u:NInv ({ n' with c:={ n'.c with commit:=c } }:Nd) L':=⟨⟨a.d,a.many,a.me,a.log,a.term,⟨a.com.1,aii a.com.2.1 i,s⟩,a.len,a.rp⟩,h.inv.d,h.inv.le,fun _=>⟨e.st,e.bin,e.role,e.vote,e.nx,e.pl⟩⟩;obtain ⟨v,j,w,H,I,J,K⟩:=zu (k:=(c - n'.c.applied).toNat) u g;have y:({ n' with c:={ n'.c with commit:=c } }:Nd).apply=({ n' with c:={ n'.c with commit:=c } }:Nd).cf (c - n'.c.applied).toNat:=rfl;rw [y];generalize ({ n' with c:={ n'.c with commit:=c } }:Nd).cf (c - n'.c.applied).toNat=q at *;have f:q.c.me=n'.c.me/\q.c.many=n'.c.many/\q.c.st=n'.c.st/\q.c.bin=n'.c.bin/\q.c.role=n'.c.role/\q.c.commit=c:=by rw [w]; exact ⟨rfl,rfl,rfl,rfl,rfl,rfl⟩
 obtain ⟨f,m,o,p,z,A⟩:=f;refine ⟨⟨v,h.pre,by rw [f,m]; exact h.me,by rw [j]; exact h.len,fun _ B=>(by cases B),fun C N=>?_⟩,j,f,m,o,p,z⟩;obtain ⟨D,F,G⟩:=h.mono C g;rw [o,p,A];exact ⟨aii D i,F,G⟩
def Ap (h:NInv n L) (G:n.d.down=false) (N:cX n.c x=true) (O:x.kind=3):∃ L',StepR n L (bB n x).n (bB n x).l L':=by
 obtain ⟨o,T⟩:=oM N;obtain ⟨H,h4⟩:=T O;have hb:=eL o.may;have U:=mh o.may;have hi:=h.up G;have I:x.frm≠n.c.me/\0<=x.frm/\x.frm<n.c.many:=⟨by have:=o.to; omega,aE,o.frm⟩;have f:(az n.c.st x).1.length<=6:=by
  rcases (eF H).2 with ⟨_,e⟩ | ⟨_,_,e⟩ | ⟨_,_,e⟩ <;> rw [e]
  ·simp
  ·exact wP o.may
  have:=gf (s:=n.c.st) (t:=x.term); dsimp only; omega
 have u:∀ r ∈ (az n.c.st x).1,r.kind=3->1<=r.b:=by
  rcases (eF H).2 with ⟨_,e⟩ | ⟨_,_,e⟩ | ⟨_,_,e⟩ <;> rw [e]
  ·intro r V; cases V
  ·exact UT o.may
  exact lH
 unfold bB;rw [if_neg aE];split
 ·rename_i v;exact kR h G f u v
 rename_i v;have v:=Classical.not_not.1 v;have y:=lV h G f u v;generalize P:(az n.c.st x).1=l at *;have J:((n.save l).c.st.floor=n.c.st.floor)/\(n.save l).c.st.term=max n.c.st.term x.term/\(n.save l).c.st.vote=(if n.c.st.term<x.term then 0 else n.c.st.vote)/\(n.save l).c.st.log.take n.c.commit.toNat=n.c.st.log.take n.c.commit.toNat/\n.c.commit<=((n.save l).c.st.log.length:Int)/\((az n.c.st x).2.1=true->n.c.st.term<=x.term/\(az n.c.st x).2.2.1<=((n.save l).c.st.log.length:Int))/\((az n.c.st x).2.1=false->(n.save l).c.st.log=n.c.st.log):=by
  have a:=y.st;rw [<- P] at a ⊢;rcases (eF H).2 with ⟨p,e⟩ | ⟨e0,_,e⟩ | ⟨_,_,e⟩
  ·rw [e] at a ⊢;rw [a];exact ⟨rfl,by show n.c.st.term=_; omega,by rw [if_neg aE]; rfl,rfl,h.ok.com.2.2,fun q=>(by cases q),fun _=>rfl⟩
  ·have w:(az n.c.st x).2.1=true:=by rw [e]
   obtain ⟨_,p,g,A,B,C,_⟩:=sR h.ok N O w;rw [e] at a ⊢;dsimp only at a ⊢;rw [a,g];exact ⟨rfl,by dsimp only; omega,rfl,A,B,fun _=>⟨p,C⟩,fun q=>(by cases q)⟩
  have g:=(nR (s:=n.c.st) (t:=x.term) aE aE).1;rw [e] at a ⊢;dsimp only at a ⊢;rw [a,g];exact ⟨rfl,rfl,rfl,rfl,h.ok.com.2.2,fun q=>(by cases q),fun _=>rfl⟩
 obtain ⟨W,s2,s3,X,Y,Z,s7⟩:=J;dsimp only;have i:∀ {m:Nd} {z:Letter},m.d=(n.save l).d->m.c.me=n.c.me->m.c.many=n.c.many->m.c.st=(n.save l).c.st->m.c.bin=n.c.bin->z.kind=4->z.frm=n.c.me->z.to=x.frm->z.term=(n.save l).c.st.term->z.bin=n.c.bin->LetI m z:=fun {m z} p g A B C D K k k4 k5=>
  ⟨by rw [p]; exact y.dn,by rw [g,K],by rw [g,A,k]; exact I,by rw [B,k4],by rw [C,k5],fun e=>absurd (D.symm.trans e) am,fun e=>absurd (D.symm.trans e) am,fun e=>absurd (D.symm.trans e) am⟩
 by_cases Q:x.term=(n.save l).c.st.term
 ·rw [if_pos Q];have S:StepR n L (n.save l).follow [] (L++l):=(lY h.follow G ⟨y.d,y.dn,y.st,y.sts,y.le,y.len,y.ok,y.lt,fun e=>congrArg Nd.follow (y.no e)⟩ (fun j=>absurd rfl j) W X Y (fun j=>absurd (show (0:Int)=2 from j) am)).lW;by_cases w:(az n.c.st x).2.1=true
  ·rw [if_pos w];have h6:=(Z w).2;obtain ⟨D,K⟩:=S.commit y.dn (c:=max n.c.commit (min x.c (az n.c.st x).2.2.1)) (by show n.c.commit<=_; omega) (by show _<=((n.save l).c.st.log.length:Int); omega);obtain ⟨p,g,A,B,C,e6⟩:=K;refine ⟨L++l,D.tell fun z F=>?_⟩;rw [acr.1 F];exact i p g A B C rfl rfl rfl rfl rfl
  rw [if_neg w];refine ⟨L++l,S.tell fun z F=>?_⟩;rw [acr.1 F];exact i rfl rfl rfl rfl rfl rfl rfl rfl rfl rfl
 rw [if_neg Q];have h0:x.term<n.c.st.term:=by omega
 have e:az n.c.st x=([],false,0,0):=by
  rcases (eF H).2 with ⟨_,e⟩ | ⟨_,_,_⟩ | ⟨_,_,_⟩
  ·exact e
  ·omega
  omega
 have el:l=[]:=by rw [<- P,e]
 rw [e];dsimp only;rw [if_neg am];have r:StepR n L (n.save l) [] L:=by rw [y.no el]; exact StepR.refl h
 refine ⟨L,r.tell fun z F=>?_⟩;rw [acr.1 F];exact i rfl rfl rfl rfl rfl rfl rfl rfl rfl rfl
theorem BG:∀ {n:Nat} {s:Stable} {b:List UInt8},s.log.length<=64->0<=s.term/\s.term<=1048576->((playB n s b).1.log.length<=64/\0<=(playB n s b).1.term/\(playB n s b).1.term<=1048576)/\0<=(playB n s b).2/\(playB n s b).2<=(b.length:Int)
 | 0,_,_,h,k=>⟨⟨h,k⟩,afO _,Int.natCast_nonneg _⟩
 | n+1,s,b,h,k=>by
  unfold playB;split
  ·grind
  rename_i a;split
  ·grind
  split
  ·grind
  rename_i c;have j:=il (Classical.not_not.1 a);obtain ⟨e,f⟩:=lM (Classical.not_not.1 c);obtain ⟨g,i⟩:=pU e f h k;obtain ⟨m,o,p⟩:=BG (n:=n) (b:=b.drop (bm b).2.1.toNat) g i;grind
def mX (b:List UInt8):((replayF b).1.log.length<=64/\0<=(replayF b).1.term/\(replayF b).1.term<=1048576)/\0<=(replayF b).2/\(replayF b).2<=(b.length:Int):=
 BG aa ⟨am,am⟩
def Xc (h:d.OK):d.up.OK:=h
def aaA (h:d.OK) (a:d.down=false) (c:0<=k) (g:k<=(d.b.length:Int)):(d.cut k).OK/\d.kH k=0/\d.cut k=⟨d.b.take k.toNat,k,false,d.doomed,d.keep⟩:=by
 have f:¬ (d.down=true\/k<0\/(d.b.length:Int)<k):=by rw [a]; rintro (h | h | h) <;> first | cases h | omega
 have e:d.cut k=⟨d.b.take k.toNat,k,false,d.doomed,d.keep⟩:=by rw [Dsk.cut,if_neg f,a]
 refine ⟨?_,?_,e⟩
 ·rw [e];refine ⟨c,?_,?_⟩ <;> dsimp only <;> rw [List.length_take]
  ·omega
  have:=h.2.2; omega
 rw [Dsk.kH,if_neg (by rw [a]; decide),if_neg aE]
theorem sE (h:d.OK):(d.cH k).OK:=by
 obtain ⟨a,c,e⟩:=h;refine ⟨?_,?_,?_⟩ <;> simp only [Dsk.cH,Dsk.at_]
 ·omega
 ·grind
 rw [List.length_take]; omega
def TF (h:d.OK):d.sync.OK:=by
 unfold Dsk.sync;split
 ·exact h
 split
 ·exact sE h
 exact ⟨Int.natCast_nonneg _,afO _,h.2.2⟩
def afr {x:List UInt8} (h:d.OK):(d.app x).OK:=by
 obtain ⟨a,c,e⟩:=h;unfold Dsk.app;split
 ·exact ⟨a,c,e⟩
 refine ⟨a,?_,?_⟩ <;> dsimp only <;> rw [List.length_append] <;> omega
def qI {s:Stable} (h:d.OK):(saveF d s l).1.OK:=by
 unfold saveF;repeat' split
 all_goals first | exact h | exact TF (afr h)
abbrev Nd.fr (n:Nd) (b:Int):Nd:=⟨⟨n.c.me,n.c.many,b,(replayF n.d.b).1,0,0,0,State.mk 1 1 0 0 [] [] []⟩,(if n.d.down=true then n.d.up else n.d).cut (replayF n.d.b).2,[],[],[],[],[]⟩
section
variable {n:Nd} {b:Int}
def abF (h:n.d.down=false):aZ n b=⟨n,[],31⟩:=if_pos h
variable (h:n.d.down=true)
include h
def Mx:n.fresh b=n.fr b:=by
 rw [Nd.fresh,Nd.fr,if_pos h]
def aat (a:¬ b_ b (max (replayF n.d.b).1.floor 1)=0):aZ n b=⟨n,[],b_ b (max (replayF n.d.b).1.floor 1)⟩:=by rw [aZ,if_neg (by rw [h]; decide),if_pos a]
def xM (a:n.d.OK):((if n.d.down=true then n.d.up else n.d).cut (replayF n.d.b).2).OK/\(if n.d.down=true then n.d.up else n.d).kH (replayF n.d.b).2=0/\(if n.d.down=true then n.d.up else n.d).cut (replayF n.d.b).2=⟨n.d.b.take (replayF n.d.b).2.toNat,(replayF n.d.b).2,false,false,0⟩:=by
 rw [if_pos h];have:=mX n.d.b;exact aaA (d:=n.d.up) (Xc a) rfl this.2.1 this.2.2
variable (h1:b_ b (max (replayF n.d.b).1.floor 1)=0)
include h1
theorem RR (a:(replayF n.d.b).1.floor<b) (c:(n.fr b).aJ [⟨1,b,0,[]⟩]=0):aZ n b=⟨(n.fr b).save [⟨1,b,0,[]⟩],[],0⟩:=by
 rw [aZ,if_neg (by rw [h]; decide),if_neg aE,Mx h];grind
theorem Sm (a:(replayF n.d.b).1.floor<b) (c:¬ (n.fr b).aJ [⟨1,b,0,[]⟩]=0):aZ n b=⟨{ (n.fr b).save [⟨1,b,0,[]⟩] with d:=((n.fr b).save [⟨1,b,0,[]⟩]).d.cH 0 },[],(n.fr b).aJ [⟨1,b,0,[]⟩]⟩:=by
 rw [aZ,if_neg (by rw [h]; decide),if_neg aE,Mx h];grind
theorem Wd (a:b<=(replayF n.d.b).1.floor):aZ n b=⟨n.fr b,[],0⟩:=by
 rw [aZ,if_neg (by rw [h]; decide),if_neg aE,Mx h];grind
def agK:(aZ n b).n.rp=[]/\(aZ n b).n.vs=[]/\(aZ n b).n.bn=[]/\(aZ n b).n.nx=[]/\(aZ n b).n.mt=[]:=by
 by_cases a:(replayF n.d.b).1.floor<b
 ·by_cases c:(n.fr b).aJ [⟨1,b,0,[]⟩]=0
  ·rw [RR h h1 a c]; exact ⟨rfl,rfl,rfl,rfl,rfl⟩
  rw [Sm h h1 a c]; exact ⟨rfl,rfl,rfl,rfl,rfl⟩
 rw [Wd h h1 aE]; exact ⟨rfl,rfl,rfl,rfl,rfl⟩
end
end Go.Proofs.YticbaadnibdbkaaGreat
namespace Go.Proofs.YticbaadnibdbkaaGreat
open Go.Shelf Go.Proofs
def uD:Go.Shelf.Ren:=⟨fun | 125=>283 | 128=>326 | 129=>327 | n=>n,fun | 46=>192 | 3=>3 | 51=>193 | 53=>173 | 4=>4 | 5=>5 | 9=>9 | n=>n,fun | n=>n⟩
def HX:Lays.n125 Tryz.prog uD:={
 mixed:=bN
 f125:=Tryz.func283.trans (congrArg some bN)
 f128:=Tryz.func326.trans (congrArg some bN)
 f129:=Tryz.func327.trans (congrArg some bN)
 t3:=Tryz.underlying3
 a3:=Tryz.isAgg3
 z3:=Tryz.sizeOf3
 v3:=Tryz.zeroValue3
 t4:=Tryz.underlying4
 a4:=Tryz.isAgg4
 z4:=Tryz.sizeOf4
 v4:=Tryz.zeroValue4
 t5:=Tryz.underlying5
 a5:=Tryz.isAgg5
 z5:=Tryz.sizeOf5
 v5:=Tryz.zeroValue5
 t9:=Tryz.underlying9
 a9:=Tryz.isAgg9
 z9:=Tryz.sizeOf9
 v9:=Tryz.zeroValue9
 t46:=Tryz.underlying192
 a46:=Tryz.isAgg192
 z46:=Tryz.sizeOf192
 v46:=Tryz.zeroValue192
 t51:=Tryz.underlying193
 a51:=Tryz.isAgg193
 z51:=Tryz.sizeOf193
 v51:=Tryz.zeroValue193
 t53:=Tryz.underlying173
 a53:=Tryz.isAgg173
 z53:=Tryz.sizeOf173
 v53:=Tryz.zeroValue173 }
def iE:Go.Shelf.Ren:=⟨fun | 6=>265 | 15=>283 | 14=>282 | 28=>326 | 29=>327 | 20=>318 | 21=>319 | 22=>320 | 23=>321 | 24=>322 | 25=>323 | 26=>324 | 27=>325 | 46=>350 | 47=>351 | 48=>352 | 49=>353 | 50=>354 | 57=>364 | n=>n,fun | 22=>33 | 24=>3 | 25=>217 | 3=>3 | 39=>192 | 0=>0 | 53=>193 | 55=>173 | 4=>4 | 46=>318 | 45=>317 | 50=>322 | 5=>5 | 9=>9 | 66=>340 | 70=>344 | 76=>353 | 77=>112 | n=>n,fun | n=>n⟩
def sf:Go.Proofs.SlLaysF.n6 Tryz.prog iE:={
 mixed:=bN
 f6:=⟨Tryz.f265.name,am,Tryz.func265.trans (congrArg some bN)⟩
 f14:=⟨Tryz.f282.name,am,Tryz.func282.trans (congrArg some bN)⟩
 f15:=Tryz.func283.trans (congrArg some bN)
 f20:=⟨Tryz.f318.name,am,Tryz.func318.trans (congrArg some bN)⟩
 f21:=⟨Tryz.f319.name,am,Tryz.func319.trans (congrArg some bN)⟩
 f22:=⟨Tryz.f320.name,am,Tryz.func320.trans (congrArg some bN)⟩
 f23:=⟨Tryz.f321.name,am,Tryz.func321.trans (congrArg some bN)⟩
 f24:=⟨Tryz.f322.name,am,Tryz.func322.trans (congrArg some bN)⟩
 f25:=⟨Tryz.f323.name,am,Tryz.func323.trans (congrArg some bN)⟩
 f26:=⟨Tryz.f324.name,am,Tryz.func324.trans (congrArg some bN)⟩
 f27:=⟨Tryz.f325.name,am,Tryz.func325.trans (congrArg some bN)⟩
 f28:=Tryz.func326.trans (congrArg some bN)
 f29:=Tryz.func327.trans (congrArg some bN)
 f46:=⟨Tryz.f350.name,am,Tryz.func350.trans (congrArg some bN)⟩
 f47:=Tryz.func351.trans (congrArg some bN)
 f48:=Tryz.func352.trans (congrArg some bN)
 f49:=⟨Tryz.f353.name,am,Tryz.func353.trans (congrArg some bN)⟩
 f50:=⟨Tryz.f354.name,am,Tryz.func354.trans (congrArg some bN)⟩
 f57:=⟨Tryz.f364.name,am,Tryz.func364.trans (congrArg some bN)⟩
 t0:=Tryz.underlying0
 a0:=Tryz.isAgg0
 z0:=Tryz.sizeOf0
 v0:=Tryz.zeroValue0
 t3:=Tryz.underlying3
 a3:=Tryz.isAgg3
 z3:=Tryz.sizeOf3
 v3:=Tryz.zeroValue3
 t4:=Tryz.underlying4
 a4:=Tryz.isAgg4
 z4:=Tryz.sizeOf4
 v4:=Tryz.zeroValue4
 t5:=Tryz.underlying5
 a5:=Tryz.isAgg5
 z5:=Tryz.sizeOf5
 v5:=Tryz.zeroValue5
 t9:=Tryz.underlying9
 a9:=Tryz.isAgg9
 z9:=Tryz.sizeOf9
 v9:=Tryz.zeroValue9
 t22:=Tryz.underlying33
 a22:=Tryz.isAgg33
 z22:=Tryz.sizeOf33
 v22:=Tryz.zeroValue33
 a24:=Tryz.isAgg3
 z24:=Tryz.sizeOf3
 t25:=Tryz.underlying217
 a25:=Tryz.isAgg217
 z25:=Tryz.sizeOf217
 v25:=Tryz.zeroValue217
 t39:=Tryz.underlying192
 a39:=Tryz.isAgg192
 z39:=Tryz.sizeOf192
 v39:=Tryz.zeroValue192
 t45:=Tryz.underlying317
 a45:=Tryz.isAgg317
 z45:=Tryz.sizeOf317
 v45:=Tryz.zeroValue317
 t46:=Tryz.underlying318
 a46:=Tryz.isAgg318
 z46:=Tryz.sizeOf318
 v46:=Tryz.zeroValue318
 t50:=Tryz.underlying322
 a50:=Tryz.isAgg322
 z50:=Tryz.sizeOf322
 v50:=Tryz.zeroValue322
 t53:=Tryz.underlying193
 a53:=Tryz.isAgg193
 z53:=Tryz.sizeOf193
 v53:=Tryz.zeroValue193
 t55:=Tryz.underlying173
 a55:=Tryz.isAgg173
 z55:=Tryz.sizeOf173
 v55:=Tryz.zeroValue173
 t66:=Tryz.underlying340
 a66:=Tryz.isAgg340
 z66:=Tryz.sizeOf340
 v66:=Tryz.zeroValue340
 t70:=Tryz.underlying344
 a70:=Tryz.isAgg344
 z70:=Tryz.sizeOf344
 v70:=Tryz.zeroValue344
 t76:=Tryz.underlying353
 a76:=Tryz.isAgg353
 z76:=Tryz.sizeOf353
 v76:=Tryz.zeroValue353
 t77:=Tryz.underlying112
 a77:=Tryz.isAgg112
 z77:=Tryz.sizeOf112
 v77:=Tryz.zeroValue112 }
end Go.Proofs.YticbaadnibdbkaaGreat
namespace Go.Proofs.YticbaadnibdbkaaGreat
open Go.RowKit Go.Proofs Go.Shelf Go.Sort
def mz (a b:Int):Int:=if b<a then -1 else if a<b then 1 else 0
theorem nu (a b:Int):ltOf mz a b=decide (b<a):=by
 unfold ltOf mz;grind
def Af:SWO (ltOf mz):=⟨fun x=>by rw [nu]; simp,fun x y z a b=>by rw [nu] at *; simp at *; omega,fun x y z a b=>by rw [nu] at *; simp at *; omega⟩
def nz (l:List Int):List Int:=l.mergeSort (fun a b=>decide (b<=a))
def pz (l:List Int):(nz l).length=l.length:=(List.mergeSort_perm l _).length_eq
theorem BI {d a:Array Int} (h:PermIn 0 d.size d a) (b:SortedIn (ltOf mz) 0 d.size a):a.toList=nz d.toList:=by
 rw [sorted_unique_holds Af (fun x y c b=>by rw [nu] at *; simp at *; omega) d a h b,nz];congr 1;funext x y;rw [nu];grind
def NL (x y:Int) (W:World):Calls Tryz.prog 266 #[.int .i64 x,.int .i64 y] W fun e c=>e = .returned (.int .i64 (mz x y))/\∃ q,c = W.drewN q:=by
 by_cases a:y<x
 ·have b:¬ x<y:=by omega
  go_wp2
  go_ret
  exact ⟨by simp [mz,a],0,rfl⟩
 by_cases b:x<y
 ·go_wp2
  go_ret
  exact ⟨by simp [mz,a,b],0,rfl⟩
 go_wp2
 go_ret
 refine ⟨?_,0,rfl⟩;rw [show mz x y=0 from by unfold mz; rw [if_neg aE,if_neg aE]]; rfl
theorem mU {c:Cx}:∀ {l:List Int} {a:List Value},Pds c (l.flatMap (cellsOf .int)) a->a=l.map (Value.int .i64)/\∀ n ∈ l,I64 n
 | [],_,h=>by cases h; exact ⟨rfl,aa⟩
 | x :: l,_,h=>by
  have b:Pds c (.int x :: l.flatMap (cellsOf .int)) _:=h;cases b with | cons d f=>?_
  cases d with | int g=>?_
  obtain ⟨e,k⟩:=mU f;grind
variable {sp:List Value}
theorem Mb {l a:List Int} (h:a.length=l.length):putCells (Value.int .i64) 0 a.toArray (List.toArray (l.map (Value.int .i64)++sp))=List.toArray (a.map (Value.int .i64)++sp):=by
 apply Array.ext_getElem?;unfold putCells;grind
theorem Lm {w:World} {a:List Int} {g c:Nat} (s:a.length<=12) (o:w.heap[g]? = some (.cells (List.toArray (a.map (Value.int .i64)++sp)) 3 (0,0))) :
  Calls Tryz.prog 265 #[.slice (some ⟨g,0,none⟩) a.length c,.func (.func 266) #[] #[]] w fun e d=>e = .returned (.tuple #[])/\Kp [g] w d /\ d.heap[g]? = some (.cells (List.toArray ((nz a).map (Value.int .i64)++sp)) 3 (0,0)):=by
 have t:∀ args w,(callFunc 266 args).run Tryz.prog w = .ok (.enter 266 args) w:=enters_of Tryz.func266 bN rfl;have h:∀ (n:Nat) (W:World),n<=12->Calls Tryz.prog (iE.f 15) #[.int .u64 n] W fun e d=>(∃ l:Int,e = .returned (.int .i64 l))/\d = W:=fun n W u=>
  (Any.bits_Len HX n W aE aE).mono fun _ _ ⟨p,m⟩=>⟨⟨_,p⟩,m⟩
 have q:Holds (Value.int .i64) w g 0 a.toArray:=fun j C=>by
  rw [acC,Lib.frozen_of_heap o,Lib.cell_of_heap o];grind
 have v:=Any.slices_SortFunc_small_sorted sf (Value.int .i64) (fun _=>rfl) mz Af 266 #[] g 0 c a.toArray w t (fun _ _ _ _ x y=>NL x y _) q (by simpa using s) h;refine v.mono fun e d ⟨p,i,n,z,A,m⟩=>?_;have k:=BI z A;have r:i.toList.length=a.length:=by rw [k]; exact pz _
 refine ⟨p,?_,?_⟩
 ·rw [m];refine ⟨rfl,rfl,rfl,?_,fun b _ u=>?_⟩
  ·simp_all
  show (w.heap.modify g (onCells (putCells (Value.int .i64) 0 i)))[b]? = _;grind
 rw [m];show (w.heap.modify g (onCells (putCells (Value.int .i64) 0 i)))[g]? = _;rw [Array.getElem?_modify,if_pos rfl,o];simp only [Option.map_some,onCells];have B:i = i.toList.toArray:=rfl;rw [B,Mb r,k]
end Go.Proofs.YticbaadnibdbkaaGreat
namespace Go.Proofs.YticbaadnibdbkaaGreat
open Go.RowKit
abbrev c16:Code:=Xy Tryz.f171
abbrev c60:Code:=Xy Tryz.f258
abbrev pR0:Code:=pc c16
abbrev pR1:Code:=pc (f_ c16)
abbrev pR2:Code:=pc (f_ (f_ c16))
abbrev pR3:Code:=pc (pc (f_ (f_ (f_ c16))))
abbrev pRf:Code:=cdB (f_ (pc (f_ (f_ (f_ c16)))))
abbrev Tm:Code:=f_ (f_ (f_ (f_ c16)))
abbrev NB:Code:=ajj pRf
abbrev Kx:Code:=ahu pRf
abbrev iR0:Code:=pc c60
abbrev iB:Code:=cdB (cdB (f_ c60))
abbrev iR1:Code:=pc iB
abbrev iCo:Code:=pc (f_ iB)
abbrev iBl:Code:=cdB (pc (f_ (f_ iB)))
abbrev iR2:Code:=pc iBl
abbrev iR3:Code:=pc (f_ iBl)
abbrev ED:Code:=pc (f_ (f_ iBl))
abbrev aba:Code:=f_ (f_ (f_ iBl))
abbrev iR5:Code:=f_ (f_ (f_ iB))
def hK (s:State) (r:List Reply) (l:List Entry) (v:Int):AH:=[.box 46 ([.int ((s.version)),.int ((s.next)),.int ((s.keep)),.int ((s.quota)),.own 7,.own 8,.own 9]),.box 46 ([.int ((0)),.int ((0)),.int ((0)),.int ((0)),.em true,.em true,.em true]),.box 72 ([.em true]),.box 26 ([.int ((0))]),.box 72 ([.own 10]),.box 38 ([.fz (.nm .entry) ((l))]),.box 3 ([.int ((v))]),.row 137 (.nm .sess) ((s.sess)),.row 139 (.nm .opn) ((s.opens)),.row 172 (.nm .snap) ((s.snaps)),.row 78 (.nm .reply) ((r))]
def hE (s:State) (r:List Reply):AH:=[.row 137 (.nm .sess) ((s.sess)),.row 139 (.nm .opn) ((s.opens)),.row 172 (.nm .snap) ((s.snaps)),.row 78 (.nm .reply) ((r))]
def rE (s:State) (e:Int):List TV1:=[.agg [.int s.version,.int s.next,.int s.keep,.int s.quota,.own 0,.own 1,.own 2],.c (.own 3),.c (.int e)]
def frP:AFr:=[(3,one (.ptr 0 0)),(6,one (.ptr 1 0)),(7,one (.ptr 2 0)),(8,one (.ptr 3 0)),(9,one (.ptr 4 0)),(16,one (.fn 258 [] [(5,0),(6,0)]))]
def Ir (L:Nat):Option TV->Prop
 | some (.one (.c (.yl a)))=>a=L
 | _=>False
def X_ (l:List Entry) (k:Nat):AFr:=[(1,one (.ptr 5 0)),(2,one (.ptr 6 0)),(9,one (.fz (.nm .entry) l)),(10,one (.int l.length)),(11,one (.int k))]
def Oj (c:Command) (b:Bool) (e:Int):TV1:=.agg (cellsOf (.nm .command) ((c))++[.bool (.atom ((b))),.int ((e))])
def frY (l:List Entry) (k:Nat) (c:Command) (b:Bool) (e:Int):AFr:=(26,.one (Oj c b e)) :: X_ l k
def hT (c:Command) (b:Bool) (e:Int):AO:=.box 265 (cellsOf (.nm .command) ((c))++[.bool (.atom ((b))),.int ((e))])
def koN (a:Nat) (q:AFr × AH):Exit->AFr->AH->Prop
 | .normal,fr,K=>jw (Dh tyT a fr K q)
 | _,_,_=>False
def koY (L:Nat) (q:AFr × AH):Exit->AFr->AH->Prop
 | .normal,fr,K=>Ir L (lookA fr 0)/\jw (Dh tyT 11 fr K q)
 | _,_,_=>False
def aiu (L:Nat) (s:State) (r:List Reply) (l:List Entry) (v:Int) (k:Nat) (fr:AFr) (K:AH):Prop:=
 ∃ x,l[k]? = some x/\Ir L (lookA fr 0)/\Ir L (lookA fr 22)/\jw (Dh tyT 11 fr K (frY l k (bg x v).c (bg x v).some (bg x v).e,hK s r l v))
def ah_ (L:Nat) (s:State) (r:List Reply) (l:List Entry) (v:Int) (k:Nat):Exit->AFr->AH->Prop
 | .normal,fr,K=>wpOps tyT fF (gF 0) (kr ED) (aiu L s r l v k) 6 ((kr ED).take 5) fr K
 | _,_,_=>False
def ajo (L:Nat) (s:State) (r:List Reply) (l:List Entry) (v:Int) (k:Nat):Exit->AFr->AH->Prop
 | .exit j,fr,K=>j=0/\l.length<=k/\Ir L (lookA fr 0)/\jw (Dh tyT 11 fr K (X_ l k,hK s r l v))
 | .normal,fr,K=>jb tyT fF (gF 0) 11 [] (.seq iR2 iR3) (ah_ L s r l v k) fr K
 | _,_,_=>False
def acV (L:Nat) (s:State) (r:List Reply) (l:List Entry) (v:Int) (k:Nat):Exit->AFr->AH->Prop
 | .normal,fr,K=>jb tyT fF (gF 0) 11 [] iCo (ajo L s r l v k) fr K
 | _,_,_=>False
def koD (L:Nat) (s:State) (r:List Reply) (l:List Entry) (v:Int) (k:Nat) (fr:AFr) (K:AH):Prop:=jb tyT fF (gF 0) 11 [] (.seq aba iR5) (koY L (X_ l (k+1),hK s r l v)) fr K
def koH (s:State) (r:List Reply) (l:List Entry) (v:Int) (x:Entry):Exit->AFr->AH->Prop
 | .normal,_,K=>(bg x v).e=0/\jw (aft tyT (hK s r l v) 11 (hK (gR v s x) (r++[nb v s x]) l v) K)
 | .ret,_,K=>¬ (bg x v).e=0/\endE tyT [] 0 Tryz.f171 (rE s (bg x v).e) (hE s r) frP K
 | _,_,_=>False
def koI (s:State) (r:List Reply):Exit->AFr->AH->Prop
 | .ret,fr,K=>endE tyT [] 0 Tryz.f171 (rE s 0) (hE s r) fr K
 | _,_,_=>False
def ahy (s:State) (l:List Entry) (v:Int):kL (JV [.agg (cellsOf (.nm .state) s),.c (.fz (.nm .entry) l),.c (.int v)]) (jb tyT fF (gF 0) 0 [] (.seq pR0 (.seq pR1 (.seq pR2 pR3))) (koN 0 (frP,hK s [] l v)) (tX 0 [.agg (cellsOf (.nm .state) s),.c (.fz (.nm .entry) l),.c (.int v)]) [])=((fun a=>fK s (l.length*32<=140737488355328->I64 v->I64 s.version->I64 s.next->I64 s.keep->I64 s.quota->s.version=s.version/\s.next=s.next/\s.keep=s.keep/\s.quota=s.quota/\a/\a/\a/\a/\a/\l=l/\v=v/\s.sess=s.sess/\s.opens=s.opens/\s.snaps=s.snaps /\ @Eq (List (den (Sh.nm NT.reply))) [] [])) ((0:Int)=0)):=bN
def ah0 (L:Nat) (s:State) (r:List Reply) (l:List Entry) (v:Int):jb tyT fF (gF 0) 11 [] iR0 (koY L (X_ l 0,hK s r l v)) [(0,one (.yl L)),(1,one (.ptr 5 0)),(2,one (.ptr 6 0))] (hK s r l v)=((fun a=>L=L/\l=l/\(↑l.length:Int)=(↑l.length:Int)/\(0:Int)=(↑(0:Nat):Int)/\s.version=s.version/\s.next=s.next/\s.keep=s.keep/\s.quota=s.quota/\a/\a/\a/\a/\a/\l=l/\v=v/\s.sess=s.sess/\s.opens=s.opens/\s.snaps=s.snaps/\r=r) ((0:Int)=(0:Int))):=bN
def aiP (L:Nat) (s:State) (r:List Reply) (l:List Entry) (v:Int) (k:Nat):jb tyT fF (gF 0) 11 [] iR1 (acV L s r l v k) ((0,one (.yl L)) :: X_ l k) (hK s r l v)=((fun f=>(fun a=>(fun g=>((↑k:Int)<f->0<=(↑k:Int)/\(↑k:Int)<(↑l.length:Int)/\∀ (x:Entry),(fun d=>l[k]? = some x->I64 x.term->x.b.length*1<=140737488355328->bF d.c (I64 d.e->∃ x,l[k]? = some x/\L=L/\L=L/\bu d.c (bg x v).c (d.some=(bg x v).some/\d.e=(bg x v).e/\g))) (bg x v))/\(f<=(↑k:Int)->(0:Nat)=0/\l.length<=k/\L=L/\g)) (l=l/\f=f/\(↑k:Int)=(↑k:Int)/\s.version=s.version/\s.next=s.next/\s.keep=s.keep/\s.quota=s.quota/\a/\a/\a/\a/\a/\l=l/\v=v/\s.sess=s.sess/\s.opens=s.opens/\s.snaps=s.snaps/\r=r)) ((0:Int)=0)) (↑l.length:Int)):=bN
def ag4 (L:Nat) (s:State) (r:List Reply) (l:List Entry) (v:Int) (k:Nat) (c:Command) (b:Bool) (d:Int):wpOps tyT fF (gF 0) (kr ED) (koD L s r l v k) 2 ((kr ED).drop 6) ((27,one (.bool (.lit true))) :: (0,one (.yl L)) :: frY l k c b d) (hK s r l v)=((fun a=>I64 ((↑k:Int)+1)/\L=L/\l=l/\(↑l.length:Int)=(↑l.length:Int)/\(↑k:Int)+1=(↑(k+1):Int)/\s.version=s.version/\s.next=s.next/\s.keep=s.keep/\s.quota=s.quota/\a/\a/\a/\a/\a/\l=l/\v=v/\s.sess=s.sess/\s.opens=s.opens/\s.snaps=s.snaps/\r=r) ((0:Int)=0)):=bN
def ahT (s:State) (r:List Reply) (l:List Entry) (v:Int) (c:Command) (b:Bool) (d:Int):jb tyT fF (gF 0) 11 [] NB (koN 11 ((10,one (.ptr 11 0)) :: frP,hK s r l v++[hT c b d])) ((17,.one (Oj c b d)) :: frP) (hK s r l v)=((fun a=>s.version=s.version/\s.next=s.next/\s.keep=s.keep/\s.quota=s.quota/\a/\a/\a/\a/\a/\l=l/\v=v/\s.sess=s.sess/\s.opens=s.opens/\s.snaps=s.snaps/\r=r/\bu c c (b=b/\d=d)) ((0:Int)=0)):=bN
def age (s:State) (r:List Reply) (l:List Entry) (v:Int) (x:Entry):jb tyT fF (gF 0) 12 [] Kx (koH s r l v x) ((10,one (.ptr 11 0)) :: frP) (hK s r l v++[hT (bg x v).c (bg x v).some (bg x v).e])=((fun g=>(fun a=>(fun f=>(fun h=>(fun d=>(fun i=>(fun b=>(¬h->¬h/\s.version=s.version/\s.next=s.next/\s.keep=s.keep/\s.quota=s.quota/\g.e=g.e/\s.sess=s.sess/\s.opens=s.opens/\s.snaps=s.snaps/\r=r)/\(h->(g.some=true->I64 b.version->I64 b.next->I64 b.keep->I64 b.quota->I64 i.snd.code->I64 i.snd.n->(r.length+[i.snd].length)*16<=140737488355328/\h/\b.version=a.version/\b.next=a.next/\b.keep=a.keep/\b.quota=a.quota/\d/\d/\d/\d/\d/\l=l/\v=v/\b.sess=a.sess/\b.opens=a.opens/\b.snaps=a.snaps/\r++[i.snd]=r++[nb v s x])/\(g.some=false->(r.length+[Reply.mk f f].length)*16<=140737488355328/\h/\s.version=a.version/\s.next=a.next/\s.keep=a.keep/\s.quota=a.quota/\d/\d/\d/\d/\d/\l=l/\v=v/\s.sess=a.sess/\s.opens=a.opens/\s.snaps=a.snaps/\r++[Reply.mk f f]=r++[nb v s x]))) i.fst) (rf s g.c)) (f=f)) (g.e=f)) (0:Int)) (gR v s x)) (bg x v)):=bN
def ahB (s:State) (r:List Reply) (l:List Entry) (v:Int):jb tyT fF (gF 0) 11 [] Tm (koI s r) frP (hK s r l v)=(s.version=s.version/\s.next=s.next/\s.keep=s.keep/\s.quota=s.quota/\(0:Int)=0/\s.sess=s.sess/\s.opens=s.opens/\s.snaps=s.snaps/\r=r):=bN
def afH:bP:=fF
def VM:aA Tryz.prog (ak tyT) afH:=qT
variable {G:Gl} {K:Exit->AFr->AH->Prop} {k0 n:Nat} {F:Fr} {w w0:World} {H:AH} {Q:Exit->Act->World->Prop} {ρ0:List RE}
def EW {c:Code} {fr:AFr} (a:G.shp=ak tyT) (b:ρ0.length<=k0) (d:eD n c=true) (h:jb tyT fF (gF 0) k0 [] c K fr H)
  (f:St G (gF 0) ρ0 w0 fr H F w) (hK:∀ e fr H F w,K e fr H->St G (gF 0) ρ0 w0 fr H F w->WX Q n e F w):WC Tryz.prog Q n c F w:=
 wZ (by rw [a]; exact dF) (by rw [a]; exact qT) (od dF qT jM G n (gF 0) ρ0 w0 a (fun i h=>by simp [gF,Nat.ble] at h)) b c Q K fr H F w d h f hK
def aeV {m:Nat} {l a:List Oper} {K:AFr->AH->Prop} {fr:AFr} (b:G.shp=ak tyT) (c:kB n a=true) (h:wpOps tyT fF (gF 0) l K m a fr H)
  (d:St G (gF 0) ρ0 w0 fr H F w) (hK:∀ fr H F w,K fr H->St G (gF 0) ρ0 w0 fr H F w->WX Q n .normal F w):WO Tryz.prog Q n l a F w:=
 l_ (by rw [b]; exact dF) (by rw [b]; exact qT) hK m a fr H F w c h d
abbrev yV (L:Nat):Value:=.func (.yield L) #[] #[]
variable {t:Nat} {ρ:List RE}
theorem lK {c:Cx} {fr:AFr} {L:Nat} (b:FrR c ρ fr F) (h:Ir L (lookA fr t)):look F t=some (yV L):=by
 unfold Ir at h;split at h
 ·rename_i a d;subst h;obtain ⟨v,e,f⟩:=eH b d;rw [e,f]
 grind
theorem xb {a:Fr} {v:Value} (h:look F t=some v) (k:∀ i u,look a i=some u->look F i=some u):∀ i u,look ((t,v) :: a) i=some u->look F i=some u:=fun i u b=>by
 rw [aW] at b;grind
def FrR.BT {c:Cx} {fr:AFr} {a:TV1} {v:Value} (h:di c ρ a v) (k:FrR c ρ fr F):FrR c ρ ((t,.one a) :: fr) ((t,v) :: F):=.cons ⟨rfl,h⟩ k
variable {b:Nat}
def Rep.jS (h:Rep G ρ H w) (a:G.Z b):¬ live ρ b:=fun ⟨i,r,c,d⟩=>(h.bnd i r b c d).2.2 a
def eY {o:Obj} (h:w.heap[b]? = some o):b<w.heap.size:=(af1.1 h).1
structure PX where
 G:Gl
 D:Nat
 L:Nat
 fn:Nat
 tm:Array Value
 FP:Fr
 s:State
 l:List Entry
 v:Int
 hD:G.B0<=D
 hL:G.B0<=L
def PX.g (X:PX):Gl:=GZ X.G X.D X.L
def PX.rc (X:PX) (st:LoopState) (a:Option Code):Loop:={ state:=st,pending:=a,fn:=X.fn,tmps:=X.tm,params:=#[17],assign:=NB,body:=Kx,defers:=X.D }
def PX.hk (X:PX) (k:Nat):AH:=hK (pS X.v X.s (X.l.take k)) (pR X.v X.s (X.l.take k)) X.l X.v
abbrev PX.Z (X:PX):Nat->Prop:=fun b=>b=X.D\/b=X.L
def PX.hB (X:PX):∀ b,X.Z b->X.g.B0<=b:=fun b a=>by
 rcases a with rfl | rfl
 ·exact X.hD
 exact X.hL
structure Mid (X:PX) (k:Nat) (ρ:List RE) (W:World):Prop where
 rep:Rep X.g ρ (X.hk k) W
 fr:FrR (cx X.g ρ W) ρ frP X.FP
 ok:okPl X.v (X.l.take k)
 loop:W.heap[X.L]? = some (.loop (X.rc .ready none))
 dfr:W.heap[X.D]? = some (.deferred (some []))
structure Stopd (X:PX) (ρ:List RE) (W:World):Prop where
 rep:∃ H,Rep X.g ρ H W/\endE tyT [] 0 Tryz.f171 (rE (plS X.v X.s X.l) (pE X.v X.l)) (hE (plS X.v X.s X.l) (plR X.v X.s X.l)) frP H
 fr:FrR (cx X.g ρ W) ρ frP X.FP
 loop:W.heap[X.L]? = some (.loop (X.rc .done (some .ret)))
 dfr:W.heap[X.D]? = some (.deferred (some []))
def DT:GO frP=true:=by decide
section
variable {X:PX} {k:Nat} {ρ ρ':List RE} {W W':World}
def Mid.step {e:Lv} (h:Mid X k ρ W) (a:Stp e ρ W ρ' W') (f:Rep X.g ρ' (X.hk k) W'):Mid X k ρ' W' /\ Adv X.Z ρ W ρ' W':=by
 have d:Adv X.Z ρ W ρ' W':=.yr a.ext a.bx;have c:=d.le (G:=X.g) (fun b i=>.inr i) h.rep.lo X.hB;exact ⟨⟨f,h.fr.eO DT c a.bx,h.ok,(a.ext.old _ (eY h.loop) (h.rep.jS (.inr (.inr rfl)))).2.trans h.loop,(a.ext.old _ (eY h.dfr) (h.rep.jS (.inr (.inl rfl)))).2.trans h.dfr⟩,d⟩
section
variable {s:State} {r:List Reply} {l:List Entry} {v:Int} {x:Entry}
def agm (h:(bg x v).some=true):gR v s x=(rf s (bg x v).c).1:=by unfold gR; rw [if_pos h]
def agE (h:(bg x v).some=false):gR v s x=s:=by unfold gR; rw [if_neg (by rw [h]; decide)]
def ahz (h:(bg x v).some=true):nb v s x=(rf s (bg x v).c).2:=by unfold nb; rw [if_pos h]
def aiE (h:(bg x v).some=false):nb v s x=⟨0,0⟩:=by unfold nb; rw [if_neg (by rw [h]; decide)]
theorem abP (a:(r.length+1)*16<=140737488355328):jb tyT fF (gF 0) 12 [] Kx (koH s r l v x) ((10,one (.ptr 11 0)) :: frP) (hK s r l v++[hT (bg x v).c (bg x v).some (bg x v).e]):=by
 rw [age];repeat' (first | with_reducible apply aV | with_reducible refine bl ?_ | intro)
 all_goals first | with_reducible rfl | with_reducible assumption | contradiction | (simp only [List.length_cons]; omega) | (rw [agm ab]; done) | (rw [agE ab]; done) | (rw [ahz ab]; done) | (rw [aiE ab]; done)
theorem abH {c:Command} {b:Bool} {er:Int}:jb tyT fF (gF 0) 11 [] NB (koN 11 ((10,one (.ptr 11 0)) :: frP,hK s r l v++[hT c b er])) ((17,.one (Oj c b er)) :: frP) (hK s r l v):=by
 rw [ahT];grind
end
variable {u:Value}
def JF (hG:X.G.shp=ak tyT) (hsz:X.l.length*32<=140737488355328) (hM:M 40 X.FP { tmps:=X.tm,defers:=[] }) (S:X.D≠X.L) (h:Mid X k ρ W) {x:Entry} (Y:X.l[k]? = some x) 
  (hu:di (cx X.g ρ W) ρ (Oj (bg x X.v).c (bg x X.v).some (bg x X.v).e) u) (ro:Option Nat) (m:Nat) :
  RoundIn (gM ro) m Tryz.prog X.L X.fn (X.tm.setIfInBounds 17 u) NB Kx W fun e w'=>∃ b,e = .returned b/\((b = .bool true/\∃ ρ',Mid X (k+1) ρ' w' /\ Adv X.Z ρ W ρ' w')\/(b = .bool false/\∃ ρ',Stopd X ρ' w' /\ Adv X.Z ρ W ρ' w')):=by
 refine Nj ?_;have A:X.g.shp=ak tyT:=hG;have hM1:M 40 ((17,u) :: X.FP) { tmps:=X.tm.setIfInBounds 17 u,defers:=[] }:=hM.put (d:=17) (v:=u) am;have q:ρ.length=11:=h.rep.obj.length.symm;have hkl:k<X.l.length:=(aaw.1 Y).1;refine EW A (af0 q) (c:=NB) (n:=40) bN (abH (s:=pS X.v X.s (X.l.take k)) (r:=pR X.v X.s (X.l.take k)) (l:=X.l) (v:=X.v) (c:=(bg x X.v).c) (b:=(bg x X.v).some) (er:=(bg x X.v).e)) (⟨ρ,Stp.refl _ _ _,h.rep,FrR.BT hu h.fr⟩) (fun e fr H F N hK hs=>?_) _ hM1;cases e with
 | normal=>
  obtain ⟨F1,⟨f,B,t,hf1⟩,hlk⟩:=gl (P:=Tryz.prog) (by rw [A]; exact dF) (af0 q) hs hK;intro a ha;have w:N.heap[X.L]? = some (.loop (X.rc .ready none)):=(B.ext.old _ (eY h.loop) (h.rep.jS (.inr (.inr rfl)))).2.trans h.loop;have hd1:N.heap[X.D]? = some (.deferred (some [])):=(B.ext.old _ (eY h.dfr) (h.rep.jS (.inr (.inl rfl)))).2.trans h.dfr;refine ⟨_,run_beginRound (P:=Tryz.prog) w rfl,?_,ha.1⟩;have z:Adv X.Z ρ W f (N.putObj X.L (.loop { X.rc .ready none with state:=.busy })):=(Adv.yr B.ext B.bx).trans (.put _ (.inr rfl));have j:Rep X.g f (X.hk k++[hT (bg x X.v).c (bg x X.v).some (bg x X.v).e]) (N.putObj X.L (.loop { X.rc .ready none with state:=.busy })):=t.Iv _ (.inr (.inr rfl)) X.hL;have C:(N.putObj X.L (.loop { X.rc .ready none with state:=.busy })).heap[X.L]? = some (.loop { X.rc .ready none with state:=.busy }):=World.putObj_heap_same (eY w);have I:(N.putObj X.L (.loop { X.rc .ready none with state:=.busy })).heap[X.D]? = some (.deferred (some [])):=(afX S).trans hd1;have T:FrR (cx X.g f (N.putObj X.L (.loop { X.rc .ready none with state:=.busy }))) f ((10,one (.ptr 11 0)) :: frP) F1:=hf1.carry ((Adv.put (Z:=X.Z) _ (.inr rfl)).le (fun b O=>.inr O) t.lo X.hB) (ky.refl _);revert z j C I T;generalize N.putObj X.L (.loop { X.rc .ready none with state:=.busy })=w2;intro z j C I T;have U:f.length=12:=j.obj.length.symm;refine EW A (af0 U) (c:=Kx) (n:=40) bN (abP (s:=pS X.v X.s (X.l.take k)) (r:=pR X.v X.s (X.l.take k)) (l:=X.l) (v:=X.v) (x:=x) (by rw [DE,List.length_take]; omega)) (⟨f,Stp.refl _ _ _,j,T⟩) (fun e fr H F K hK hs=>?_) _ (ha.sub hlk);obtain ⟨Q,p,hr3,_⟩:=hs;have J:K.heap[X.L]? = _:=(p.ext.old _ (eY C) (j.jS (.inr (.inr rfl)))).2.trans C;have hd3:K.heap[X.D]? = _:=(p.ext.old _ (eY I) (j.jS (.inr (.inl rfl)))).2.trans I;cases e with
  | normal=>
   obtain ⟨he,o⟩:=hK;obtain ⟨ρ',hr',y,hb'⟩:=MV (P:=Tryz.prog) (ρ0:=f) (w0:=w2) (by rw [A]; exact dF) hr3 p.ext p.bx (fun i g hi hg=>by
    have hn:=WL (b:=false) j hg;have:i=0\/i=1\/i=2\/i=3\/i=4\/i=5\/i=6\/i=7\/i=8\/i=9\/i=10:=by omega
    rcases this with rfl | rfl | rfl | rfl | rfl | rfl | rfl | rfl | rfl | rfl | rfl <;> exact hn) o
   refine fun _ _=>⟨_,_,run_endRound (P:=Tryz.prog) none J,_,rfl,.inl ⟨rfl,ρ',?_⟩⟩;have V:Adv X.Z ρ W ρ' (K.putObj X.L (.loop (X.rc .ready none))):=by
    have A2:Adv X.Z ρ W ρ' K:=⟨y.os.trans z.os,y.tape.trans z.tape,y.output.trans z.output,Nat.le_trans z.size y.size,fun b O hl=>by
     obtain ⟨h1,h2⟩:=z.old b O hl;obtain ⟨h3,h4⟩:=y.old b (acv O z.size) h1;exact ⟨h3,fun hz=>h4.trans (h2 hz)⟩,fun i g hg=>hb' i g (by rw [<- q]; exact (aaw.1 hg).1) (z.bx i g hg)⟩
    exact A2.trans (.put _ (.inr rfl))
   refine ⟨⟨?_,h.fr.eO DT (V.le (fun b O=>.inr O) h.rep.lo X.hB) V.bx,FQ h.ok Y he,World.putObj_heap_same (eY J),(afX S).trans hd3⟩,V⟩;have:=hr'.Iv (l:=X.L) (.loop (X.rc .ready none)) (.inr (.inr rfl)) X.hL;rw [XC Y,XO Y] at this;exact this
  | ret=>
   obtain ⟨he,o⟩:=hK;refine fun _ _=>⟨_,_,run_endRound (P:=Tryz.prog) (some .ret) J,_,rfl,.inr ⟨rfl,Q,?_⟩⟩;have V:Adv X.Z ρ W Q (K.putObj X.L (.loop (X.rc .done (some .ret)))):=(z.trans (.yr p.ext p.bx)).trans (.put _ (.inr rfl));obtain ⟨p1,p2,p3⟩:=RY (s:=X.s) h.ok Y he;rw [p1,p2,p3] at o;exact ⟨⟨⟨_,hr3.Iv _ (.inr (.inr rfl)) X.hL,o⟩,h.fr.eO DT (V.le (fun b O=>.inr O) h.rep.lo X.hB) V.bx,World.putObj_heap_same (eY J),(afX S).trans hd3⟩,V⟩
  | _=>exact hK.elim
 | _=>exact hK.elim
def Zk:Tryz.f258.body=some (.seq iR0 (.block 0 (.loop (.seq iR1 (.seq iCo (.seq (.block 1 (.seq iR2 (.seq iR3 (.seq ED aba)))) iR5)))))):=bN
def abT:ED = .region 4 (kr ED).toArray false:=bN
def Ti:aba = .cond (.tmp 28) .ret .skip:=bN
def WW (k:Nat):Oper:=(kr ED).getD k ⟨none,.move (.tmp 0),0,"",#[],none⟩
def ahh:Array TypeId:=match (WW 5).op with
 | .call c=>c.argTypes
 | _=>#[]
def ty6:TypeId:=match (WW 6).op with
 | .unOp _ t _=>t
 | _=>0
def ajh:kr ED=(kr ED).take 5++(⟨some 27,.call ⟨.value (.tmp 22),#[.tmp 26],ahh⟩,(WW 5).type,(WW 5).pos,(WW 5).after,none⟩ :: (kr ED).drop 6):=bN
def agn:(kr ED).drop 6=[⟨some 28,.unOp .not ty6 (.tmp 27),(WW 6).type,(WW 6).pos,(WW 6).after,none⟩]:=bN
variable {P:Program}
def Dq {L:Nat} {c:Loop} {e:Array TypeId} {m:TypeId} (f:look F 22=some (yV L)) (h:look F 26=some u) (o:w.heap[L]? = some (.loop c)) (j:c.params = #[17]) (a:Act) (d:Option Tmp) (i:String) (p:Array Edge) (g:Option (Nat × Bool)) (l:M n F a) :
  (execOp a.eval ⟨d,.call ⟨.value (.tmp 22),#[.tmp 26],e⟩,m,i,p,g⟩).run P w = .ok (.round L c.fn (c.tmps.setIfInBounds 17 u) c.assign c.body) w:=by
 have q:a.eval (.tmp 22)=yV L:=l.ev (x:=.tmp 22) f;have r:a.eval (.tmp 26)=u:=l.ev (x:=.tmp 26) h;have s:=run_yield (P:=P) (args:=#[u]) o (by rw [j]; rfl);simp [execOp,resolve,q,r,Deferred.ofValue,invoke,s,j]
theorem UZ {a:Fr} {v:Value} (k:∀ i u,look a i=some u->look F i=some u):∀ i u,look ((t,v) :: a) i=some u->look ((t,v) :: F) i=some u:=fun i u c=>by
 rw [aW] at c ⊢;grind
section
variable {s:State} {r:List Reply} {l:List Entry} {v:Int} {L:Nat}
theorem aaT:jb tyT fF (gF 0) 11 [] iR0 (koY L (X_ l 0,hK s r l v)) [(0,one (.yl L)),(1,one (.ptr 5 0)),(2,one (.ptr 6 0))] (hK s r l v):=by
 rw [ah0];grind
theorem ZT:jb tyT fF (gF 0) 11 [] iR1 (acV L s r l v k) ((0,one (.yl L)) :: X_ l k) (hK s r l v):=by
 rw [aiP];grind
def aab {c:Command} {b:Bool} {a:Int} (d:k<4611686018427387904):wpOps tyT fF (gF 0) (kr ED) (koD L s r l v k) 2 ((kr ED).drop 6) ((27,one (.bool (.lit true))) :: (0,one (.yl L)) :: frY l k c b a) (hK s r l v):=by
 rw [ag4];repeat' (first | with_reducible apply aV | with_reducible refine bl ?_ | intro)
 all_goals first | with_reducible rfl | omega | (refine aD ?_ ?_ <;> omega) | rfl
end
def Yy (y:Code) (k0:Nat) (K:Exit->AFr->AH->Prop):Exit->AFr->AH->Prop
 | .normal,fr,H=>jb tyT fF (gF 0) k0 [] y K fr H
 | e,fr,H=>K e fr H
def ny {x y:Code} {fr:AFr} (h:jb tyT fF (gF 0) k0 [] (.seq x y) K fr H):jb tyT fF (gF 0) k0 [] x (Yy y k0 K) fr H:=by
 have e:Yy y k0 K=fun e fr H=>(match e with | .normal=>jb tyT fF (gF 0) k0 [] y K fr H | e=>K e fr H):=by funext e fr H; cases e <;> rfl
 rw [e]; exact h
def PX.Out (X:PX) (ρ:List RE) (W:World) (_:Value) (a:World):Prop:=∃ ρ',Adv X.Z ρ W ρ' a /\ ((∃ k,X.l.length<=k/\Mid X k ρ' a)\/Stopd X ρ' a)
def WO.of_eq {l r a:List Oper} (e:r=a) (h:WO P Q n l a F w):WO P Q n l r F w:=e ▸ h
def OQ (hG:X.G.shp=ak tyT) (hsz:X.l.length*32<=140737488355328) (hM:M 40 X.FP { tmps:=X.tm,defers:=[] }) (hDL:X.D≠X.L) (h:Mid X 0 ρ W) {p8 p9:Value} (h8:dY ρ (5,0) p8) (h9:dY ρ (6,0) p9) :
  jT Tryz.prog 258 #[yV X.L,p8,p9] W (X.Out ρ W):=by
 have o:X.g.shp=ak tyT:=hG;have S:ρ.length=11:=h.rep.obj.length.symm;refine jT.enter (args:=[yV X.L,p8,p9]) (n:=30) Tryz.func258 Zk rfl rfl rfl ?_;refine WC.seq (EW o (af0 S) bN aaT (⟨ρ,Stp.refl _ _ _,h.rep,FrR.BT (a:=.c (.yl X.L)) rfl (FrR.BT (a:=.c (.ptr 5 0)) h8 (FrR.BT (a:=.c (.ptr 6 0)) h9 .nil))⟩) fun e fr H F w hK q=>?_);cases e with
 | normal=>
  obtain ⟨hy,T⟩:=hK;have y:look F 0=some (yV X.L):=by obtain ⟨_,_,_,U⟩:=q; exact lK U hy
  obtain ⟨F1,⟨ρ1,hs1,hr1,hf1⟩,hlk⟩:=gl (P:=Tryz.prog) (by rw [o]; exact dF) (af0 S) q T;refine WX.next (WC.block fun a z=>?_)
  refine r_ (fun a w k=>∃ ρ' F',M 30 F' a/\Mid X k ρ' w/\FrR (cx X.g ρ' w) ρ' ((0,one (.yl X.L)) :: X_ X.l k) F' /\ k<=X.l.length/\Adv X.Z ρ W ρ' w) (fun k=>X.l.length - k) 0 ⟨ρ1,(0,yV X.L) :: F1,z.sub (xb y hlk),(h.step hs1 hr1).1,FrR.BT (a:=.c (.yl X.L)) rfl hf1,af3 _,(h.step hs1 hr1).2⟩ fun k a w hD=>?_;obtain ⟨ρ',F',hM',s,hfr,hk,A⟩:=hD;have p:ρ'.length=11:=s.rep.obj.length.symm;refine (WC.seq (EW o (af0 p) bN (ZT (L:=X.L) (k:=k)) (⟨ρ',Stp.refl _ _ _,s.rep,hfr⟩) fun e fr H F w2 hK q=>?_)) a hM';cases e with
  | normal=>
   refine WX.next (WC.seq (EW o (af0 p) bN hK q fun e fr H F w2 hK q=>?_))
   cases e with
   | exit j=>
    obtain ⟨rfl,hle,hy,T⟩:=hK;obtain ⟨F2,⟨ρ2,V,I,Y⟩,B⟩:=gl (P:=Tryz.prog) (by rw [o]; exact dF) (af0 p) q T;obtain ⟨J,N⟩:=s.step V I;have K:X.Out ρ W (.tuple #[]) w2:=⟨ρ2,A.trans N,.inl ⟨k,hle,J⟩⟩;have hh:=WX.Zu (id:=0) (WX.Yv (WX.aen (n:=30) (fr:=F) (P:=Tryz.prog) (fn:=Tryz.f258) (φ:=X.Out ρ W) rfl K));exact fun a z=>hh a z
   | normal=>
    refine WX.next (WC.seq (WC.block (WC.seq (EW o (af0 p) bN (ny hK) q fun e fr H F w2 hK q=>?_))))
    cases e with
    | normal=>
     refine WX.next (WC.seq (EW o (af0 p) bN hK q fun e fr H F w2 hK q=>?_))
     cases e with
     | normal=>
      refine WX.next (WC.seq ?_)
      rw [abT];refine WC.region ?_;refine WO.of_eq ajh (WO.app (aeV o bN hK q fun fr H F w3 hK q=>?_));intro a z;obtain ⟨x,hx,hy,hy22,T⟩:=hK;have y:look F 0=some (yV X.L):=by obtain ⟨_,_,_,U⟩:=q; exact lK U hy
      have h22:look F 22=some (yV X.L):=by obtain ⟨_,_,_,U⟩:=q; exact lK U hy22
      obtain ⟨F2,⟨ρ2,V,I,Y⟩,B⟩:=gl (P:=Tryz.prog) (by rw [o]; exact dF) (af0 p) q T;obtain ⟨J,N⟩:=s.step V I;obtain ⟨u,hu26,hu⟩:=eH (i:=26) (tv:=.one (Oj (bg x X.v).c (bg x X.v).some (bg x X.v).e)) Y rfl;have hkl:k<X.l.length:=(aaw.1 hx).1;refine WO.yield (L:=X.L) (f:=X.fn) (tmps:=X.tm.setIfInBounds 17 u) (assign:=NB) (body:=Kx) (fun a d pos af g z=>Dq h22 (B _ _ hu26) J.loop rfl a d pos af g z) rfl (fun ro m=>JF hG hsz hM hDL J hx hu ro m) (fun b w4 hb=>?_) a z;rcases hb with ⟨rfl,O,Q,C⟩ | ⟨rfl,O,hst4,C⟩
      ·intro a z;have hf4:=FrR.BT (t:=0) (a:=.c (.yl X.L)) (v:=yV X.L) rfl (Y.eO rfl (C.le (fun b hb=>.inr hb) I.lo X.hB) C.bx);have r:O.length=11:=Q.rep.obj.length.symm;refine (aeV o bN (aab (L:=X.L) (k:=k) aE) (⟨O,Stp.refl _ _ _,Q.rep,FrR.BT (t:=27) (a:=.c (.bool (.lit true))) (Pd.bool (e:=.lit true)) hf4⟩) fun fr H F w5 hK q=>?_) a (z.sub (UZ (xb y B)));refine WX.next (EW o (af0 r) bN (ny hK) q fun e fr H F w6 hK q=>?_)
       cases e with
       | normal=>
        refine WX.IJ (WX.next (EW o (af0 r) bN hK q fun e fr H F w7 hK q=>?_));cases e with
        | normal=>
         obtain ⟨hy,T⟩:=hK;have y:look F 0=some (yV X.L):=by obtain ⟨_,_,_,U⟩:=q; exact lK U hy
         obtain ⟨F7,⟨ρ7,hs7,hr7,hf7⟩,hlk7⟩:=gl (P:=Tryz.prog) (by rw [o]; exact dF) (af0 r) q T;obtain ⟨hm7,ha7⟩:=Q.step hs7 hr7;exact fun a z=>⟨k+1,⟨ρ7,(0,yV X.L) :: F7,z.sub (xb y hlk7),hm7,FrR.BT (a:=.c (.yl X.L)) rfl hf7,hkl,((A.trans N).trans C).trans ha7⟩,aE⟩
        | _=>exact hK.elim
       | _=>exact hK.elim
      have K:X.Out ρ W (.tuple #[]) w4:=⟨O,(A.trans N).trans C,.inr hst4⟩;refine WO.of_eq agn (WO.v (R.not (b:=false) rfl) rfl (WO.nil (WX.next ?_)));rw [Ti];exact WC.Ff rfl (WC.ret (WX.aen (P:=Tryz.prog) (fn:=Tryz.f258) (φ:=X.Out ρ W) rfl K))
     | _=>exact hK.elim
    | _=>exact hK.elim
   | _=>exact hK.elim
  | _=>exact hK.elim
 | _=>exact hK.elim
end
def Za:Tryz.f171.body=some (.seq pR0 (.seq pR1 (.seq pR2 (.seq (.seq pR3 (.block 0 (.rangeFunc (.tmp 16) #[17] NB Kx))) Tm)))):=bN
def YH {args:List Value} (e:args.length<=n):M n (wg 0 args) { tmps:=args.toArray++Array.replicate (n - args.toArray.size) undef,defers:=[] }:=by
 refine ⟨rfl,?_,fun i v c=>?_⟩
 ·simp; omega
 rw [uh] at c;obtain ⟨_,a⟩:=tE args 0 i v c;rw [ajg] at a;have d:i<args.length:=(aaw.1 a).1;have f:args[i]=v:=by rw [List.getElem?_eq_getElem d] at a; exact acD a
 simp [Array.getD,d,f];omega
def Fq (G:Gl) (w0:World) (s:State) (l:List Entry) (v:Int) (u:Value) (c:World):Prop:=
 ∃ d,u=Cq d/\∃ a,Rep G a (hE (plS v s l) (plR v s l)) c /\ Ext [] w0 a c /\ All2 (di (cx G a c) a) (rE (plS v s l) (pE v l)) d/\Kp [] w0 c
section
variable {X:PX} {ρ1 ρ':List RE} {w0 W1 w4:World} {H:AH} {a:Act}
def LJ {fr:AFr} (O:X.G.shp=ak tyT) (hz:∀ x,X.G.Z x->x<w0.heap.size) (Q:w0.heap.size<=X.D) (T:X.D<X.L) (S:Rep X.g ρ' H w4) (U:FrR (cx X.g ρ' w4) ρ' fr F) (V:M 40 F a)
  (c:endE tyT [] 0 Tryz.f171 (rE (plS X.v X.s X.l) (pE X.v X.l)) (hE (plS X.v X.s X.l) (plR X.v X.s X.l)) fr H) (W:w4.heap[X.D]? = some (.deferred (some []))) (hE:Ext [] w0 ρ1 W1) (j:Adv X.Z ρ1 W1 ρ' w4) :
  ∃ y,(Instr.takeDeferred X.D).run Tryz.prog w4 = .ok [] y /\ ∃ u,(results Tryz.f171 a.tmps).run Tryz.prog y = .ok u y /\ Fq X.G w0 X.s X.l X.v u y:=by
 refine ⟨_,run_takeDeferred (P:=Tryz.prog) W,?_⟩;have z:=S.Iv (l:=X.D) (.deferred none) (.inr (.inl rfl)) X.hD;have k:(w4.putObj X.D (.deferred none)).heap.size=w4.heap.size:=by simp
 have m:w0.heap.size<=w4.heap.size:=Nat.le_trans hE.size j.size;obtain ⟨e,A⟩:=z.leave (fun x Y=>acv (hz x Y) (by rw [k]; exact m));have o:(cx X.g ρ' w4).le (cx X.G ρ' (w4.putObj X.D (.deferred none))):=((Adv.put (Z:=X.Z) (ρ:=ρ') (w:=w4) (.deferred none) (.inl rfl)).le (G:=X.g) (fun b f=>.inr f) S.lo X.hB).trans A;have B:=U.carry o (ky.refl _);have d:Ext [] w0 ρ' (w4.putObj X.D (.deferred none)):=⟨j.os.trans hE.os,j.tape.trans hE.tape,j.output.trans hE.output,by rw [k]; exact m,fun b f C=>by
  obtain ⟨I,J⟩:=hE.old b f C;obtain ⟨n,t⟩:=j.old b (acv f hE.size) I;have N:b≠X.D:=by omega
  exact ⟨n,(afX N).trans ((t (fun hz=>by rcases hz with hz | hz <;> omega)).trans J)⟩⟩
 unfold endE Zt at c;split at c
 ·rename_i l C;obtain ⟨K,I,J⟩:=kK (by rw [O]; exact dF) e B V C;replace c:=ew.1 c;refine ⟨_,J,K,rfl,_,nD (P:=Tryz.prog) (by rw [O]; exact dF) e rfl (bH.1 fun p q=>c p (acz _ (acz _ q))) fun p q=>c p (acB _ q),nn d,oE e rfl I fun p q=>c p (acz _ (acB _ q)),?_⟩;exact ⟨d.os,d.tape,d.output,d.size,fun b f _=>(d.old b f (fun ⟨i,r,h,_⟩=>by simp at h)).2⟩
 exact (show False from c).elim
end
variable {l:List Entry}
theorem YJ {s:State} {r:List Reply} {v:Int}:jb tyT fF (gF 0) 11 [] Tm (koI s r) frP (hK s r l v):=by
 rw [ahB];grind
def Wq.go {l:List Prop} {R:Prop} (k:∀ p ∈ l,p) (h:Wq (kL l R)):Wq R:=⟨ez.1 h.h k⟩
def Wq.seq {x y:Code} {k0:Nat} {K:Exit->AFr->AH->Prop} {fr:AFr} {H:AH} (h:Wq (jb tyT fF (gF 0) k0 [] (.seq x y) K fr H)):Wq (jb tyT fF (gF 0) k0 [] x (Yy y k0 K) fr H):=⟨ny h.h⟩
def agR {c:Code} {fr:AFr} (a:G.shp=ak tyT) (d:ρ0.length<=k0) (f:eD n c=true) (h:Wq (jb tyT fF (gF 0) k0 [] c K fr H))
  (g:St G (gF 0) ρ0 w0 fr H F w) (hK:∀ e fr H F w,K e fr H->St G (gF 0) ρ0 w0 fr H F w->WX Q n e F w):WC Tryz.prog Q n c F w:=EW a d f h.h g hK
theorem ZO {s:State} {l:List Entry} {v:Int}:Wq (kL (JV [.agg (cellsOf (.nm .state) s),.c (.fz (.nm .entry) l),.c (.int v)]) (jb tyT fF (gF 0) 0 [] (.seq pR0 (.seq pR1 (.seq pR2 pR3))) (koN 0 (frP,hK s [] l v)) (tX 0 [.agg (cellsOf (.nm .state) s),.c (.fz (.nm .entry) l),.c (.int v)]) [])):=by
 refine ⟨?_⟩;rw [ahy];grind
def ach {s:State} {v:Int} (h:∀ p ∈ JV [.agg (cellsOf (.nm .state) s),.c (.fz (.nm .entry) l),.c (.int v)],p):Wq (jb tyT fF (gF 0) 0 [] (.seq pR0 (.seq pR1 (.seq pR2 pR3))) (koN 0 (frP,hK s [] l v)) (tX 0 [.agg (cellsOf (.nm .state) s),.c (.fz (.nm .entry) l),.c (.int v)]) []):=by
 have a:=@ZO s l v;revert a h;intro h a;exact Wq.go h a
def KY {vs:List Value} {s:State} {v:Int} (hG:G.shp=ak tyT) (hR:Rep G ρ [] w) (V:All2 (di (cx G ρ w) ρ) [.agg (cellsOf (.nm .state) s),.c (.fz (.nm .entry) l),.c (.int v)] vs) :
  jT Tryz.prog 171 vs.toArray w (Fq G w s l v):=by
 have hok:=Vl.oQ V;have hsz:l.length*32<=140737488355328:=by
  have:l.length*Sh.bytes (.nm .entry)<=140737488355328:=hok _ (by simp [JV,TV1.ok,AV.ok]);exact this
 have hρ:ρ=[]:=acu hR.obj.length.symm;subst hρ;have hl3:vs.length=3:=V.length.symm;refine (callsIn_wide (n:=0)).1 (callsIn_of_wp_marks (F:=gM none) (n:=0) Tryz.func171 Za trivial ?_);have hM0:=YH (n:=40) (args:=vs) aE;have h0:([]:List RE).length<=0:=Nat.le_refl 0;refine wpIn_seq (kD.in0 rfl ((agR (n:=40) hG h0 bN (Wq.seq (ach hok)) (⟨[],Stp.refl _ _ _,hR,nU V⟩) fun e fr H F d hK J=>?_) _ hM0));cases e with
 | normal=>
  intro a q;refine wpIn_seq (kD.in0 q.1 ((EW (n:=40) hG h0 bN (ny hK) J fun e fr H F d hK J=>?_) _ q));cases e with
  | normal=>
   intro a q;refine wpIn_seq (kD.in0 q.1 ((EW (n:=40) hG h0 bN (ny hK) J fun e fr H F d hK J=>?_) _ q));cases e with
   | normal=>
    intro a q;refine wpIn_seq (wpIn_seq (kD.in0 q.1 ((EW (n:=40) hG h0 bN hK J fun e fr H F d hK J=>?_) _ q)));cases e with
    | normal=>
     obtain ⟨F1,⟨o,hs1,W,hf1⟩,hlk⟩:=gl (P:=Tryz.prog) (by rw [hG]; exact dF) h0 J hK;intro a ha0;have q:=ha0.sub hlk;refine wpIn_block (wpIn_rangeFunc fun fn hfn=>?_);have hae:a={ tmps:=a.tmps,defers:=[] }:=by rw [<- q.1]
     obtain ⟨vg,hg1,hg2⟩:=eH (i:=16) (tv:=one (.fn 258 [] [(5,0),(6,0)])) hf1 rfl;obtain ⟨bs,us,Y,t,rfl⟩:=hg2;cases Y;cases t with | cons h8 t=>
     cases t with | cons h9 t=>
     cases t;rename_i p8 p9;have hg:a.eval (.tmp 16) = .func (.func 258) #[] #[p8,p9]:=q.ev (x:=.tmp 16) hg1;obtain ⟨X,B⟩:∃ X:PX,X=⟨G,d.heap.size,d.heap.size+1,fn,a.tmps,F1,s,l,v,W.b0,Nat.le_succ_of_le W.b0⟩:=⟨_,rfl⟩;have p:X.D=d.heap.size:=by rw [B]
     have y:X.L=d.heap.size+1:=by rw [B]
     obtain ⟨hre,hle,hk⟩:=W.enter (.deferred (some [])) (.loop (X.rc .ready none));have hsz2:((d.alloc (.deferred (some []))).alloc (.loop (X.rc .ready none))).heap.size=d.heap.size+1+1:=by simp
     have hmid:Mid X 0 o ((d.alloc (.deferred (some []))).alloc (.loop (X.rc .ready none))):=by
      refine ⟨?_,?_,fun x hx=>by simp at hx,?_,?_⟩
      ·have:Rep (GZ G d.heap.size (d.heap.size+1)) o (Go.Proofs.YticbaadnibdbkaaGreat.hK s [] l v) ((d.alloc (.deferred (some []))).alloc (.loop (X.rc .ready none))):=hre;rw [B] at this ⊢; exact this
      ·have:=hf1.carry hle (ky.refl _);rw [B] at this ⊢; exact this
      ·rw [y];have:=World.alloc_heap_new (d.alloc (.deferred (some []))) (.loop (X.rc .ready none));rwa [World.size_alloc] at this
      rw [p];exact (Below.heap_alloc _ _ _ aa).trans (World.alloc_heap_new d _)
     have K:X.G.shp=ak tyT:=by rw [B]; exact hG
     have hGgX:X.g.shp=ak tyT:=K;have hlX:X.l=l:=by rw [B]
     have hMX:M 40 X.FP { tmps:=X.tm,defers:=[] }:=by rw [B]; rw [hae] at q; exact q
     have hMa:M 40 X.FP a:=by rw [B]; exact q
     have h8':dY o (5,0) p8:=h8;have h9':dY o (6,0) p9:=h9;have hit:=OQ K (by rw [hlX]; exact hsz) hMX (by rw [p,y]; omega) hmid h8' h9';have hE1:Ext [] w o ((d.alloc (.deferred (some []))).alloc (.loop (X.rc .ready none))):=hs1.ext.trans (Ext.kp hk);have T:∀ {N:List RE} {U:World} {H:AH} {b:Act} {fr:AFr} {F:Fr},Rep X.g N H U->FrR (cx X.g N U) N fr F->M 40 F b->endE tyT [] 0 Tryz.f171 (rE (plS X.v X.s X.l) (pE X.v X.l)) (hE (plS X.v X.s X.l) (plR X.v X.s X.l)) fr H->U.heap[X.D]? = some (.deferred (some [])) ->
       Adv X.Z o ((d.alloc (.deferred (some []))).alloc (.loop (X.rc .ready none))) N U->bodyPostM (gM none) 0 Tryz.prog Tryz.f171 (fun e w'=>∃ u,e = .returned u/\Fq G w s l v u w') .ret (iU b [{ target:=.collected X.D,args:=#[] }]) U:=fun hR4 hf4 hMb j hd4 hA4=>by
      obtain ⟨w',ht,u,t,ho⟩:=LJ (w0:=w) K (by rw [B]; exact hR.z) (by rw [p]; exact hs1.ext.size) (by rw [p,y]; omega) hR4 hf4 hMb j hd4 hE1 hA4;rw [B] at ho;exact ⟨aa,.inl ⟨_,w',rfl,ht,u,t,u,rfl,ho⟩⟩
     refine ⟨d.heap.size+1,[{ target:=.collected d.heap.size,args:=#[] }],(d.alloc (.deferred (some []))).alloc (.loop { state:=.ready,pending:=none,fn:=fn,tmps:=a.tmps,params:=#[17],assign:=NB,body:=Kx,defers:=d.heap.size }),{ target:=.fn (.func 258) #[p8,p9],args:=#[yV (d.heap.size+1)] },(d.alloc (.deferred (some []))).alloc (.loop { state:=.ready,pending:=none,fn:=fn,tmps:=a.tmps,params:=#[17],assign:=NB,body:=Kx,defers:=d.heap.size }),258,#[yV (d.heap.size+1)] ++ #[p8,p9],(d.alloc (.deferred (some []))).alloc (.loop { state:=.ready,pending:=none,fn:=fn,tmps:=a.tmps,params:=#[17],assign:=NB,body:=Kx,defers:=d.heap.size }),run_enterLoop_outer _ _ _ _ _,?_,fun _ _=>trivial,?_,fun h=>(by cases h),?_⟩
     ·simp only [resolve,hg];simp [go_sem]
     ·simp [invoke,go_sem]
     have hrc:({ state:=.ready,pending:=none,fn:=fn,tmps:=a.tmps,params:=#[17],assign:=NB,body:=Kx,defers:=d.heap.size }:Loop)=X.rc .ready none:=by rw [B]; rfl
     rw [hrc,<- y];refine Lk (ajv hit fun e O ⟨v0,he,f,hA2,hc⟩=>?_);subst he;rcases hc with ⟨k,hk,Q⟩ | hst
     ·refine ⟨none,_,run_endLoop (P:=Tryz.prog) Q.loop (by simp [PX.rc]),?_⟩;obtain ⟨p1,p2,p3⟩:=aaM (s:=X.s) Q.ok hk;have S:=Q.rep.Iv (l:=X.L) (.loop { X.rc .ready none with state:=.exhausted }) (.inr (.inr rfl)) X.hL;have A2:Adv X.Z o _ f (O.putObj X.L (.loop { X.rc .ready none with state:=.exhausted })):=hA2.trans (.put _ (.inr rfl));have C:FrR (cx X.g f (O.putObj X.L (.loop { X.rc .ready none with state:=.exhausted }))) f frP X.FP:=Q.fr.carry ((Adv.put (Z:=X.Z) (ρ:=f) (w:=O) _ (.inr rfl)).le (G:=X.g) (fun b Y=>.inr Y) Q.rep.lo X.hB) (ky.refl _);have A:(O.putObj X.L (.loop { X.rc .ready none with state:=.exhausted })).heap[X.D]? = some (.deferred (some [])):=(afX (by rw [p,y]; omega)).trans Q.dfr;have hlen2:f.length=11:=Q.rep.obj.length.symm;revert S A2 C A;generalize O.putObj X.L (.loop { X.rc .ready none with state:=.exhausted })=U;intro S A2 C A;have hwc:WC Tryz.prog (fun e b w5=>e = .ret/\bodyPostM (gM none) 0 Tryz.prog Tryz.f171 (fun e w'=>∃ u,e = .returned u/\Fq G w s l v u w') .ret (iU b [{ target:=.collected X.D,args:=#[] }]) w5) 40 Tm X.FP U:=by
       refine EW hGgX (af0 hlen2) bN (YJ (s:=pS X.v X.s (X.l.take k)) (r:=pR X.v X.s (X.l.take k)) (l:=X.l) (v:=X.v)) (⟨f,Stp.refl _ _ _,S,C⟩) fun e fr H F w5 hK J=>?_;cases e with
       | ret=>
        obtain ⟨ρ5,hs5,hr5,hf5⟩:=J;have hd5:w5.heap[X.D]? = some (.deferred (some [])):=(hs5.ext.old _ (eY A) (S.jS (.inr (.inl rfl)))).2.trans A;have j:endE tyT [] 0 Tryz.f171 (rE (pS X.v X.s (X.l.take k)) 0) (hE (pS X.v X.s (X.l.take k)) (pR X.v X.s (X.l.take k))) fr H:=hK;rw [p1,p2,p3] at j;exact fun b Y=>⟨rfl,T hr5 hf5 Y j hd5 (A2.trans (.yr hs5.ext hs5.bx))⟩
       | _=>exact hK.elim
      have hwi:=Nx (m:=0) (hwc a hMa none [{ target:=.collected X.D,args:=#[] }]);rw [p] at hwi;have I:({ a with defers:=[{ target:=.collected d.heap.size,args:=#[] }]++a.defers }:Act)=iU a [{ target:=.collected d.heap.size,args:=#[] }]:=by rw [q.1]; rfl
      show Exit.inBlock 0 _ .normal _ U;rw [I];refine wpIn_mono hwi fun e b w5 ⟨b0,hb0,hbe,hbr,hpost⟩=>?_;subst hbr; subst hbe;exact hpost
     refine ⟨some .ret,_,run_endLoop (P:=Tryz.prog) hst.loop (by simp [PX.rc]),?_⟩;obtain ⟨H,hR,j⟩:=hst.rep;have A2:Adv X.Z o _ f (O.putObj X.L (.loop { X.rc .done (some .ret) with state:=.exhausted })):=hA2.trans (.put _ (.inr rfl));have C:FrR (cx X.g f (O.putObj X.L (.loop { X.rc .done (some .ret) with state:=.exhausted }))) f frP X.FP:=hst.fr.carry ((Adv.put (Z:=X.Z) (ρ:=f) (w:=O) _ (.inr rfl)).le (G:=X.g) (fun b Y=>.inr Y) hR.lo X.hB) (ky.refl _);have A:(O.putObj X.L (.loop { X.rc .done (some .ret) with state:=.exhausted })).heap[X.D]? = some (.deferred (some [])):=(afX (by rw [p,y]; omega)).trans hst.dfr;have hp:=T (hR.Iv _ (.inr (.inr rfl)) X.hL) C hMa j A A2;have I:({ a with defers:=[{ target:=.collected d.heap.size,args:=#[] }]++a.defers }:Act)=iU a [{ target:=.collected d.heap.size,args:=#[] }]:=by rw [q.1]; rfl
     rw [p] at hp;show Code.ret.wpIn _ _ _ _ _ _;rw [I];exact wpIn_ret hp
    | _=>exact hK.elim
   | _=>exact hK.elim
  | _=>exact hK.elim
 | _=>exact hK.elim
def Pr (s:State) (l:List Entry) (v:Int):Sat Tryz.prog (ak tyT) 171 [.agg (cellsOf (.nm .state) s),.c (.fz (.nm .entry) l),.c (.int v)] [] ⟨[],rE (plS v s l) (pE v l),some (hE (plS v s l) (plR v s l)),true⟩:=by
 refine ⟨⟨_,Tryz.func171,am,by kernel_rfl⟩,fun G ρ w y k j a=>?_⟩;have d:ρ=[]:=acu j.obj.length.symm;subst d;refine (KY k j a).mono fun u z ⟨m,e,f,o,p,q,x⟩=>⟨m,e,f,o,p,fun i g h=>by simp at h,q,fun _=>⟨x,fun i r h=>by simp at h⟩⟩
section
variable {v:Int} {s:State} {l:List Entry} {k:Nat} {x:Entry}
end
def Ro (st:State) (l:List Entry) (v:Int):Sat Tryz.prog (ak tyT) 171 [.agg (cellsOf (.nm .state) st),.c (.fz (.nm .entry) (l)),.c (.int (v))] [] ⟨[],[.agg ([.int (((plS v st l).version)),.int (((plS v st l).next)),.int (((plS v st l).keep)),.int (((plS v st l).quota)),.own 0,.own 1,.own 2]),.c (.own 3),.c (.int ((pE v l)))],some ([.row 137 (.nm .sess) (((plS v st l).sess)),.row 139 (.nm .opn) (((plS v st l).opens)),.row 172 (.nm .snap) (((plS v st l).snaps)),.row 78 (.nm .reply) ((plR v st l))]),true⟩:=Pr st l v
def Gq:Kn:=aO (ae (kT (.nm .state)) (ae (kC (cL (.nm .entry))) (ae (kC cI) ao))) aw fun (st,l,v,_) _=>⟨[],[.agg ([.int (((plS v st l).version)),.int (((plS v st l).next)),.int (((plS v st l).keep)),.int (((plS v st l).quota)),.own 0,.own 1,.own 2]),.c (.own 3),.c (.int ((pE v l)))],some ([.row 137 (.nm .sess) (((plS v st l).sess)),.row 139 (.nm .opn) (((plS v st l).opens)),.row 172 (.nm .snap) (((plS v st l).snaps)),.row 78 (.nm .reply) ((plR v st l))]),true⟩
def Vf:CK 171 Gq:=ah fun (st,l,v,_) _ _=>Ro st l v
def ada:bP:=(aQ 171 Gq afH)
def gI:aA Tryz.prog (ak tyT) ada:=(ag Vf VM)
def adM (O:bP):bP:=fun g a H=>bif Nat.beq g 1000000003 then some ⟨[False],[],none,false⟩ else O g a H
variable {shp:TypeId->Option Sh} {P:Program}
def xX {O:bP} (c:aA P shp O):aA P shp (adM O):=fun g args H r h a=>by
 unfold adM at h;cases d:Nat.beq g 1000000003 <;> rw [d] at h
 ·exact c g args H r h a
 cases h; exact (a False aa).elim
def cWp:AV->Option Nat
 | .xx (.w n) []=>some n
 | _=>none
def cW:PC Nat:=⟨cWp,fun n=>.xx (.w n) [],fun a y h c ρ v d=>by
 unfold cWp at h
 split at h
 ·cases h; exact d
 ·cases h⟩
theorem Sat.OU {f:Nat} {args O:List TV1} {p:AH} {pre:List Prop} {d b:Bool} (i k:Nat) (e:TypeId) (s:Sh) {t:TypeId} {x:List AV} {S:AH} (W:shp e=some s) (q:p[i]? = some (.box t x)) (B:x[k]? = some (.em b)) (h:Sat P shp f args H ⟨pre,O,some p,d⟩) (X:S=p.set i (.box t (x.set k (.own p.length)))++[.row e s []]):Sat P shp f args H ⟨pre,O,some S,d⟩:=by
 subst X;refine ⟨h.1,fun G ρ w Y j Z l=>(h.2 G ρ w Y j Z l).mono ?_⟩;rintro v C ⟨n,F,c,D,K,Q,k4,T⟩;have I:=(Ext.app (ρ:=c) (r:=.emp) (Kp.refl C) fun g j=>by cases j).le D.lo;have y:=D.obj.length;have m:=D.app (r:=.emp) (o:=.row e s []) (Kp.refl C) (fun g j=>by cases j) ⟨by show G.shp e=some s; rw [j]; exact W,aa,.inl ⟨rfl,rfl⟩⟩;have A:=(aaw.1 q).1;refine ⟨n,F,c ++ [.emp],⟨?_,m.inj,m.bnd,m.z,m.b0,m.tb⟩,K.trans (Ext.app (Kp.refl C) fun g j=>by cases j),fun i g q=>by
  rw [List.getElem?_append_left]
  ·grind
  ·exact (aaw.1 (Q i g q)).1,k4.imp fun _ _ h=>h.carry I (gk _ _),fun B=>⟨(T B).1,fun i rr q=>by
  rw [List.getElem?_append_left]
  ·grind
  exact (aaw.1 ((T B).2 i rr q)).1⟩⟩
 obtain ⟨r,hr,g,J,rfl,h1,U⟩:=m.at_ (i:=i) (o:=.box t x) (by rw [List.getElem?_append_left A]; exact q);have V:=m.obj.set i (a:=.box t (x.set k (.own p.length))) (b:=.blk g) ⟨g,J,rfl,h1,?_⟩
 ·rw [List.set_append_left _ _ A] at V;have:(c ++ [RE.emp]).set i (.blk g)=c ++ [RE.emp]:=by
   obtain ⟨hj,L⟩:=aaw.1 hr;rw [<- L,List.set_getElem_self]
  rwa [this] at V
 obtain ⟨u,hu,N⟩:=dQ U k _ B;have k8:=U.set k (a:=.own p.length) (b:=u) (.inr ⟨by rw [y]; simp,?_⟩)
 ·have:J.set k u=J:=by
   obtain ⟨hj,L⟩:=aaw.1 hu;rw [<- L,List.set_getElem_self]
  rwa [this] at k8
 have N:Pd _ _ _:=N;cases N with | em _=>exact ⟨_,rfl⟩
def BR:Kn:=aO (ae (kC (ba 0 0)) ao) (aC (dC 147 (ax (eI 1) (ax cI (ax cB (ax cB (ax cI dA)))))) (aC (eG 5 .u8) aw)) fun _ ((_,d,a,e,f,_),g,_)=>⟨[],[.c (.bool (.atom ((a))))],none,false⟩
def Ko:CK 40 BR:=ah fun _ ((_,c,a,d,e,_),f,_) _=>by
 refine av gI [] Tryz.func40 (?_:a=a);try rfl
def zX:Kn:=aO (ae (kC (ba 0 0)) (ae (kC cI) ao)) (aC (dC 147 (ax (eI 1) (ax cI (ax cB (ax cB (ax cI dA)))))) (aC (eG 5 .u8) aw)) fun (_,k,_) ((_,a,c,e,f,_),d,_)=>⟨[],[],some ([.box 147 ([.own 1,.int (((Dsk.mk d a c true k).synced)),.bool (.atom (((Dsk.mk d a c true k).down))),.bool (.atom (((Dsk.mk d a c true k).doomed))),.int (((Dsk.mk d a c true k).keep))]),.row 5 .u8 (((Dsk.mk d a c true k).b))]),false⟩
theorem Rh:CK 108 zX:=ah fun (_,k,_) ((_,a,c,e,f,_),d,_) _=>by
 refine bz gI [] Tryz.func108 (?_:I64 k->a=a/\c=c/\true=true/\k=k/\d=d);(repeat' with_reducible first|apply aV|refine bl ?_|intro) <;> (first | with_reducible rfl | with_reducible assumption | omega | (refine aD ?_ ?_ <;> omega))
def PA:Kn:=aO (ae (kC (ba 0 0)) ao) (aC (dC 147 (ax (eI 1) (ax cI (ax cB (ax cB (ax cI dA)))))) (aC (eG 5 .u8) aw)) fun _ ((_,d,a,e,f,_),g,_)=>⟨[],[.c (.int ((if a=true then 0 else 31)))],some ([.box 147 ([.own 1,.int (((if a=true then (Dsk.mk g d a e f).up else (Dsk.mk g d a e f)).synced)),.bool (.atom (((if a=true then (Dsk.mk g d a e f).up else (Dsk.mk g d a e f)).down))),.bool (.atom (((if a=true then (Dsk.mk g d a e f).up else (Dsk.mk g d a e f)).doomed))),.int (((if a=true then (Dsk.mk g d a e f).up else (Dsk.mk g d a e f)).keep))]),.row 5 .u8 (((if a=true then (Dsk.mk g d a e f).up else (Dsk.mk g d a e f)).b))]),false⟩
theorem YI:CK 44 PA:=ah fun _ ((_,d,c,f,g,_),e,_) _=>by
 refine bz gI [] Tryz.func44 (?_:(fun h=>(fun a=>(c=false->31=h/\d=a.synced/\c=a.down/\f=a.doomed/\g=a.keep/\e=a.b)/\(c=true->0=h/\d=a.synced/\false=a.down/\false=a.doomed/\0=a.keep/\e=a.b)) (if c=true then (Dsk.mk e d c f g).up else Dsk.mk e d c f g)) (if c=true then (0:Int) else (31:Int)));(repeat' with_reducible first|apply aV|refine bl ?_|intro) <;> grind [Dsk.up]
def wF:Kn:=aO (ae (kC (ba 0 0)) (ae (kC cI) ao)) (aC (dC 147 (ax (eI 1) (ax cI (ax cB (ax cB (ax cI dA)))))) (aC (eG 5 .u8) aw)) fun (_,k,_) ((_,a,c,d,e,_),f,_)=>⟨[(Dsk.mk f a c d e).OK],[],some ([.box 147 ([.own 1,.int ((((Dsk.mk f a c d e).cH k).synced)),.bool (.atom ((((Dsk.mk f a c d e).cH k).down))),.bool (.atom ((((Dsk.mk f a c d e).cH k).doomed))),.int ((((Dsk.mk f a c d e).cH k).keep))]),.row 5 .u8 ((((Dsk.mk f a c d e).cH k).b))]),false⟩
theorem HO:CK 39 wF:=ah fun (_,k,_) ((_,e,f,g,h,_),a,_) i=>by
 have j:=cg i;refine bz (xX gI) [] Tryz.func39 (?_:(fun c=>(fun d=>I64 k->I64 ((↑a.length:Int) - e)/\I64 d/\(0<=d/\d<=(↑a.length:Int))/\(↑(List.take d.toNat a).length:Int)=c.synced/\true=c.down/\false=c.doomed/\0=c.keep/\List.take d.toNat a=c.b) (e+min (max k 0) ((↑a.length:Int) - e))) ((Dsk.mk a e f g h).cH k));obtain ⟨m,o,p⟩:=j;dsimp only at m o p;(repeat' with_reducible first|apply aV|refine bl ?_|intro) <;> first | (first | with_reducible rfl | with_reducible assumption | omega | (refine aD ?_ ?_ <;> omega)) | (simp only [Dsk.cH,Dsk.at_]; first | done | (first | with_reducible rfl | with_reducible assumption | omega | (refine aD ?_ ?_ <;> omega)) | (rw [List.length_take]; omega))
def Fe:Kn:=aO (ae (kC (ba 0 0)) (ae (kC cI) ao)) (aC (dC 147 (ax (eI 1) (ax cI (ax cB (ax cB (ax cI dA)))))) (aC (eG 5 .u8) aw)) fun (_,k,_) ((_,a,d,e,f,_),g,_)=>⟨[(Dsk.mk g a d e f).OK],[.c (.int (((Dsk.mk g a d e f).kH k)))],some ([.box 147 ([.own 1,.int ((((Dsk.mk g a d e f).cut k).synced)),.bool (.atom ((((Dsk.mk g a d e f).cut k).down))),.bool (.atom ((((Dsk.mk g a d e f).cut k).doomed))),.int ((((Dsk.mk g a d e f).cut k).keep))]),.row 5 .u8 ((((Dsk.mk g a d e f).cut k).b))]),false⟩
theorem RA:CK 45 Fe:=ah fun (_,k,_) ((_,h,d,f,g,_),c,_) j=>by
 have m:=cg j;refine bz (xX gI) [] Tryz.func45 (?_:(fun e=>(fun a=>(fun i=>I64 k->(d=true->30=e.kH k/\i)/\(d=false->(k<0\/(↑c.length:Int)<k->1=e.kH k/\i)/\(0<=k/\k<=(↑c.length:Int)->0<=k/\k<=(↑c.length:Int)/\0=e.kH k/\k=a.synced/\d=a.down/\f=a.doomed/\g=a.keep/\List.take k.toNat c=a.b))) (h=a.synced/\d=a.down/\f=a.doomed/\g=a.keep/\c=a.b)) (e.cut k)) (Dsk.mk c h d f g));obtain ⟨o,p,q⟩:=m;dsimp only at o p q;(repeat' with_reducible first|apply aV|refine bl ?_|intro) <;> first | (first | with_reducible rfl | with_reducible assumption | omega | (refine aD ?_ ?_ <;> omega)) | grind [Dsk.cut,Dsk.kH]
def FD:Kn:=aO (ae (kC (ba 0 0)) (ae (kC (cL .u8)) ao)) (aC (dC 147 (ax (eI 1) (ax cI (ax cB (ax cB (ax cI dA)))))) (aC (eG 5 .u8) aw)) fun (_,x,_) ((_,a,d,e,f,_),g,_)=>⟨[(Dsk.mk g a d e f).OK],[.c (.int (((Dsk.mk g a d e f).iX x)))],some ([.box 147 ([.own 1,.int ((((Dsk.mk g a d e f).app x).synced)),.bool (.atom ((((Dsk.mk g a d e f).app x).down))),.bool (.atom ((((Dsk.mk g a d e f).app x).doomed))),.int ((((Dsk.mk g a d e f).app x).keep))]),.row 5 .u8 ((((Dsk.mk g a d e f).app x).b))]),false⟩
theorem UA:CK 150 FD:=ah fun (_,x,_) ((_,f,c,g,h,_),d,_) k=>by
 have m:=cg k;refine bz gI [] Tryz.func150 (?_:(fun e=>(fun i=>(fun a=>(fun j=>x.length*1<=140737488355328->(c=true->30=e.iX x/\j)/\(c=false->I64 i/\(i<(↑x.length:Int)->20=e.iX x/\j)/\((↑x.length:Int)<=i->(d.length+x.length)*1<=140737488355328/\0=e.iX x/\f=a.synced/\c=a.down/\g=a.doomed/\h=a.keep/\d++x=a.b))) (f=a.synced/\c=a.down/\g=a.doomed/\h=a.keep/\d=a.b)) (e.app x)) (65536 - (↑d.length:Int))) (Dsk.mk d f c g h));obtain ⟨o,p,q⟩:=m;dsimp only at o p q;(repeat' with_reducible first|apply aV|refine bl ?_|intro) <;> first | (first | with_reducible rfl | with_reducible assumption | omega | (refine aD ?_ ?_ <;> omega)) | grind [Dsk.app,Dsk.iX]
def vZ:Kn:=aO (ae (kC (ba 0 0)) ao) (aC (dC 147 (ax (eI 1) (ax cI (ax cB (ax cB (ax cI dA)))))) (aC (eG 5 .u8) aw)) fun _ ((_,d,e,f,g,_),a,_)=>⟨[(Dsk.mk a d e f g).OK],[.c (.own 2)],some ([.box 147 ([.own 1,.int ((d)),.bool (.atom ((e))),.bool (.atom ((f))),.int ((g))]),.row 5 .u8 ((a)),.row 5 .u8 ((a))]),true⟩
theorem It:CK 42 vZ:=ah fun _ ((_,d,e,f,g,_),c,_) h=>by
 have i:=cg h;refine cT gI [] Tryz.func42 (?_:(fun (a:Nat)=>(0:Int)<=(↑a:Int)/\(↑a:Int)*(↑(1:Nat):Int)<=(140737488355328:Int)/\(↑a:Int)=(↑a:Int)/\d=d/\e=e/\f=f/\g=g/\c=c/\List.take (List.replicate a (au Sh.u8)).length c++List.drop a (List.replicate a (au Sh.u8))=c) c.length);obtain ⟨j,k,m⟩:=i;dsimp only at j k m;(repeat' with_reducible first|apply aV|refine bl ?_|intro) <;> first | (first | with_reducible rfl | with_reducible assumption | omega | (refine aD ?_ ?_ <;> omega)) | simp
def Ey:Kn:=aO ao aw fun _ _=>⟨[],[.c (.ptr 0 0)],some ([.box 147 ([.em true,.int ((0)),.bool (.atom ((false))),.bool (.atom ((false))),.int ((0))])]),true⟩
theorem GS:CK 38 Ey:=ah fun _ _ _=>by
 refine cT gI [] Tryz.func38 (?_:(0:Int)=0/\false=false/\false=false/\(0:Int)=0);(repeat' with_reducible first|apply aV|refine bl ?_|intro) <;> (first | with_reducible rfl | with_reducible assumption | omega | (refine aD ?_ ?_ <;> omega))
def Ty :Sat Tryz.prog (ak tyT) 38 [] [] ⟨[],[.c (.ptr 0 0)],some ([.box 147 ([.em true,.int ((0)),.bool (.atom ((false))),.bool (.atom ((false))),.int ((0))])]),true⟩:=GS _ _ _ rfl aa
def acS:bP:=(aQ 38 Ey (aQ 42 vZ (aQ 150 FD (aQ 45 Fe (aQ 39 wF (aQ 44 PA (aQ 108 zX (aQ 40 BR ada))))))))
def fN:aA Tryz.prog (ak tyT) acS:=(ag GS (ag It (ag UA (ag RA (ag HO (ag YI (ag Rh (ag Ko gI))))))))
variable {x:UInt8} {k:Nat}
def wV {q:Nat × Nat} {l:List UInt8} (h:l[k]? = some x):iA q (l.take (k+1))=Oc (iA q (l.take k)) x:=by
 rw [ai h,iA,List.foldl_append]; rfl
variable {b:List UInt8}
def Zx {s:Nat} (h:b[k]? = some x):((iA (s % 65536 % 65521,s / 65536 % 65521) (b.take k)).1+x.toNat) % 4294967296 % 65521=(iA (s % 65536 % 65521,s / 65536 % 65521) (b.take (k+1))).1:=by
 have:=(qW (s:=s) (b.take k)).1;have:=x.toNat_lt;rw [wV h,Oc];omega
def ZS {s:Nat} (h:b[k]? = some x):((iA (s % 65536 % 65521,s / 65536 % 65521) (b.take k)).2+((iA (s % 65536 % 65521,s / 65536 % 65521) (b.take k)).1+x.toNat) % 4294967296 % 65521) % 4294967296 % 65521=(iA (s % 65536 % 65521,s / 65536 % 65521) (b.take (k+1))).2:=by
 have:=(qW (s:=s) (b.take k));have:=x.toNat_lt;rw [wV h,Oc];omega
def Zp {s:Nat} (h:(b.length:Int)<=k):(65536*(iA (s % 65536 % 65521,s / 65536 % 65521) (b.take k)).2 % 4294967296+(iA (s % 65536 % 65521,s / 65536 % 65521) (b.take k)).1) % 4294967296=dV s b:=by
 have:=(qW (s:=s) b);rw [List.take_of_length_le aE,dV];omega
variable {x:Bool} {l:List Bool}
def ag0 (h:l[k]? = some x) (a:x=true):(((l.take k).countP id:Nat):Int)+1=((l.take (k+1)).countP id:Nat):=by
 rw [ai h,List.countP_append,a]; simp
def ahF (h:l[k]? = some x) (a:x=false):(((l.take k).countP id:Nat):Int)=((l.take (k+1)).countP id:Nat):=by
 rw [ai h,List.countP_append,a]; simp
def agZ (h:(l.length:Int)<=k):decide ((l.length:Int).tdiv 2<((l.take k).countP id:Nat))=decide ((l.length:Int).tdiv 2<(l.countP id:Nat)):=by
 rw [List.take_of_length_le aE]
def ah7 (h:l.length*1<=140737488355328):I64 (((l.take k).countP id:Nat)+1):=by
 have a:(l.take k).countP id<=(l.take k).length:=List.countP_le_length;rw [List.length_take] at a;exact aD aE aE
variable {l:List Entry}
def Ss (h:(l.length:Int)=0):(0:Int)=fT l:=by
 rw [acu (l:=l) aE]; rfl
def U_ (h:¬ (l.length:Int)=0):(l.getD ((l.length:Int) - 1).toNat (au (Sh.nm NT.entry))).term=fT l:=by
 rw [show ((l.length:Int) - 1).toNat=l.length - 1 by omega]; rfl
variable {k:Int}
def Vz {x:Entry} (a:¬ k=0) (c:0<=k) (d:k<=(l.length:Int)) (h:l[(k - 1).toNat]? = some x):x.term=cD l k:=by
 rw [cD,if_neg a,if_neg aE,List.getD_eq_getElem?_getD,h]; rfl
def aaS (s:Nat) (b:List UInt8):List (Nat × LI):=[(3,{ σ:=Nat,F:=fun k=>([(5,one (.ptr 0 0)),(15,one (.fz .u8 (b))),(16,one (.int (b).length)),(17,one (.int k))],[.box 286 ([.xx (.w (((iA (s % 65536 % 65521,s / 65536 % 65521) (b.take k)).1))) [],.xx (.w (((iA (s % 65536 % 65521,s / 65536 % 65521) (b.take k)).2))) []])]),J:=fun k=>k<=b.length,μ:=fun k=>(b).length - k })]
def abw (l:List Bool):List (Nat × LI):=[(3,{ σ:=Nat,F:=fun k=>([(0,one (.fz .bool (l))),(3,one (.int ((l.take k).countP id))),(6,one (.fz .bool (l))),(7,one (.int (l).length)),(8,one (.int k))],[]),J:=fun k=>k<=l.length,μ:=fun k=>(l).length - k })]
def Aa:Kn:=aO (ae (kC (ba 0 0)) ao) (aC (dC 147 (ax (eI 1) (ax cI (ax cB (ax cB (ax cI dA)))))) (aC (eG 5 .u8) aw)) fun _ ((_,a,d,e,f,_),g,_)=>⟨[(Dsk.mk g a d e f).OK],[.c (.int (((Dsk.mk g a d e f).e_)))],some ([.box 147 ([.own 1,.int ((((Dsk.mk g a d e f).sync).synced)),.bool (.atom ((((Dsk.mk g a d e f).sync).down))),.bool (.atom ((((Dsk.mk g a d e f).sync).doomed))),.int ((((Dsk.mk g a d e f).sync).keep))]),.row 5 .u8 ((((Dsk.mk g a d e f).sync).b))]),false⟩
theorem NR:CK 151 Aa:=ah fun _ ((_,f,g,h,i,_),c,_) m=>by
 have o:=cg m;refine bz fN [] Tryz.func151 (?_:(fun d=>(fun e=>(fun a=>(fun j=>(g=true->30=d.e_/\f=a.synced/\j)/\(g=false->(h=true->(0<=f/\f<=(↑c.length:Int)/\c.length<=65536)/\30=d.e_/\e.synced=a.synced/\e.down=a.down/\e.doomed=a.doomed/\e.keep=a.keep/\e.b=a.b)/\(h=false->0=d.e_/\(↑c.length:Int)=a.synced/\j))) (g=a.down/\h=a.doomed/\i=a.keep/\c=a.b)) d.sync) (d.cH i)) (Dsk.mk c f g h i));obtain ⟨p,q,r⟩:=o;dsimp only at p q r;(repeat' with_reducible first|apply aV|refine bl ?_|intro) <;> first | (first | with_reducible rfl | with_reducible assumption | omega | (refine aD ?_ ?_ <;> omega)) | grind [Dsk.sync,Dsk.e_]
def Py :Sat Tryz.prog (ak tyT) 38 [] [] ⟨[],[.c (.ptr 0 0)],some ([.box 147 ([.own 1,.int ((0)),.bool (.atom ((false))),.bool (.atom ((false))),.int ((0))]),.row 5 .u8 (([]))]),true⟩:=Sat.OU 0 0 5 .u8 bN rfl rfl Ty rfl
def yK:Kn:=aO ao aw fun _ _=>⟨[],[.c (.ptr 0 0)],some ([.box 147 ([.own 1,.int ((0)),.bool (.atom ((false))),.bool (.atom ((false))),.int ((0))]),.row 5 .u8 (([]))]),true⟩
def MQ:CK 38 yK:=ah fun _ _ _=>Py
def HM:Kn:=aO (ae (kC cW) (ae (kC (cL .u8)) ao)) aw fun (s,b,_) _=>⟨[],[.c (.xx (.w ((dV s b))) [])],none,false⟩
theorem Vy:CK 252 HM:=ah fun (s,b,_) _ _=>by
 refine av fN (aaS s b) Tryz.func252 (?_:(fun (i:Nat)=>(fun (g:Nat)=>(fun (f:Int)=>(fun (d:Nat)=>(fun (e:Nat)=>(fun (h:Int)=>(fun (c:Int)=>(fun (j:Nat × Nat)=>b.length*(1:Nat)<=(140737488355328:Nat)->i<g/\i<e/\i<g/\i<e/\∃ (o:Nat),(b=b/\(↑b.length:Int)=(↑d:Int)/\c=(↑o:Int)/\s % g % e=(iA j (List.take o b)).fst/\s / g % e=(iA j (List.take o b)).snd)/\o<=d/\∀ (a:Nat),(fun (p:Nat × Nat)=>a<=d->((↑a:Int)<(↑d:Int)->c<=(↑a:Int)/\(↑a:Int)<(↑b.length:Int)/\∀ (x:UInt8),(fun (q:Nat)=>b[a]? = some x->c<=c/\c<h/\i<e/\c<=c/\c<h/\c<=f/\f<h/\c<=c/\c<h/\i<e/\c<=f/\f<h/\I64 ((↑a:Int)+f)/\∃ (m:Nat),(b=b/\(↑d:Int)=(↑d:Int)/\(↑a:Int)+f=(↑m:Int)/\q=(iA j (List.take m b)).fst/\(p.snd+q) % (4294967296:Nat) % e=(iA j (List.take m b)).snd)/\m <= d/\d - m < d - a) ((p.fst+x.toNat) % (4294967296:Nat) % e))/\((↑d:Int)<=(↑a:Int)->c<=f/\f<h/\c<=c/\c<h/\(g*p.snd % (4294967296:Nat)+p.fst) % (4294967296:Nat)=dV s b)) (iA j (List.take a b))) (s % g % e,s / g % e)) (0:Int)) (↑(2:Nat):Int)) (65521:Nat)) b.length) (1:Int)) (65536:Nat)) (0:Nat));(repeat' with_reducible first|apply aV|refine bl ?_|intro)
 all_goals try ( refine ⟨0,?_⟩; (repeat' with_reducible first|apply aV|refine bl ?_|intro))
 all_goals try ( refine ⟨‹Nat› + 1,?_⟩; (repeat' with_reducible first|apply aV|refine bl ?_|intro))
 all_goals (first | exact bY | exact rfl | exact (Zx ab) | exact (ZS ab) | exact (Zp ab))
def qp:Kn:=aO (ae (kC (cL .u8)) ao) aw fun (l,_) _=>⟨[],[.c (.fz .u8 ((l)))],none,false⟩
theorem zU:CK 104 qp:=ah fun (l,_) _ _=>by
 refine av fN [] Tryz.func104 (?_:(fun a=>a->∀ (b:Bool),(b=true->l=[])->(b=true->l=[])/\(b=false->a/\l=l)) (l.length*1<=140737488355328));grind
def mD:Kn:=aO (ae (kC (cL .bool)) ao) aw fun (l,_) _=>⟨[],[.c (.fz .bool ((l)))],none,false⟩
theorem ux:CK 74 mD:=ah fun (l,_) _ _=>by
 refine av fN [] Tryz.func74 (?_:(fun a=>a->∀ (b:Bool),(b=true->l=[])->(b=true->l=[])/\(b=false->a/\l=l)) (l.length*1<=140737488355328));grind
def Gy:Kn:=aO (ae (kC (cL (.nm .entry))) ao) aw fun (l,_) _=>⟨[],[.c (.int (((l.length:Int)))),.c (.int ((fT l)))],none,false⟩
def R_:CK 49 Gy:=ah fun (l,_) _ _=>by
 refine av fN [] Tryz.func49 (?_:(fun a=>(fun c=>(fun d=>l.length*32<=140737488355328->(a=0->0=(↑l.length:Int)/\0=fT l)/\(¬a=0->I64 c/\(0<=c/\c<a)/\(I64 d.term->d.b.length*1<=140737488355328->a=(↑l.length:Int)/\d.term=fT l))) (l.getD c.toNat (au (Sh.nm NT.entry)))) (a - 1)) (↑l.length:Int));(repeat' with_reducible first|apply aV|refine bl ?_|intro)
 all_goals (first | exact bY | exact (Ss ab) | exact (U_ ab))
def G_:Kn:=aO (ae (kC (cL (.nm .entry))) (ae (kC cI) ao)) aw fun (l,k,_) _=>⟨[],[.c (.int ((cD l k)))],none,false⟩
def TY:CK 193 G_:=ah fun (l,k,_) _ _=>by
 refine av fN [] Tryz.func193 (?_:(fun a=>(fun c=>l.length*32<=140737488355328->I64 k->(k=a->a=cD l k)/\(¬k=a->(k<a\/(↑l.length:Int)<k -> -1=cD l k)/\(a<=k/\k<=(↑l.length:Int)->I64 c/\a<=c/\c<(↑l.length:Int)/\∀ (x:Entry),l[c.toNat]? = some x->I64 x.term->x.b.length*1<=140737488355328->x.term=cD l k))) (k - 1)) (0:Int));(repeat' with_reducible first|apply aV|refine bl ?_|intro)
 all_goals (first | exact bY | exact (Vz ab ab ab ab) | (rw [cD,if_pos ab]) | (rw [cD,if_neg ab,if_pos ab]))
def Fa:Kn:=aO (ae (kC cI) (ae (kT (.nm .letter)) ao)) aw fun (n,x,_) _=>⟨[0<=x.a/\x.a<=64],[.c (.int ((jn n x)))],none,false⟩
theorem To:CK 172 Fa:=ah fun (n,x,_) _ e=>by
 have f:=cg e;refine av fN [] Tryz.func172 (?_:(fun c=>(fun d=>I64 n->aT x ((x.ok=true->I64 d/\d=jn n x)/\(x.ok=false->(c<n->I64 (n - c)/\I64 d/\min (n - c) d=jn n x)/\(n<=c->c=jn n x)))) (x.a+c)) (1:Int));(repeat' with_reducible first|apply aV|refine bl ?_|intro)
 all_goals first | exact bY | (simp only [jn]; grind) | (have q:=(by with_reducible assumption:I64 n); exact aD (by have:=q.1; omega) (by have:=q.2; omega))
def FJ:Kn:=aO (ae (kC cI) (ae (kC cI) ao)) aw fun (t,v,_) _=>⟨[],[.c (.own 0)],some ([.row 108 (.nm .record) (([⟨2,t,v,[]⟩]))]),true⟩
def Sc:CK 88 FJ:=ah fun (t,v,_) _ _=>by
 refine cT fN [] Tryz.func88 (?_:I64 t->I64 v->[Record.mk 2 t v []]=[Record.mk 2 t v []]);intros; rfl
def EC:Kn:=aO (ae (kC (cL .bool)) ao) aw fun (l,_) _=>⟨[],[.c (.bool (.atom ((nX l))))],none,false⟩
theorem RS:CK 101 EC:=ah fun (l,_) _ _=>by
 refine av fN (abw l) Tryz.func101 (?_:(fun e=>(fun h=>(fun a=>(fun d=>l.length*(1:Nat)<=(140737488355328:Nat)->∃ i,(l=l/\(0:Int)=(↑(List.countP id (List.take i l)):Int)/\l=l/\e=d/\(0:Int)=(↑i:Int))/\i<=a/\∀ (s:Nat),(fun f=>(fun g=>s<=a->((↑s:Int)<d->(0:Int)<=(↑s:Int)/\(↑s:Int)<e/\∀ (x:Bool),l[s]? = some x->(x=true->I64 (g+h)/\I64 f/\∃ c,(l=l/\g+h=(↑(List.countP id (List.take c l)):Int)/\l=l/\d=d/\f=(↑c:Int))/\c <= a/\a - c < a - s)/\(x=false->I64 f/\∃ c,(l=l/\g=(↑(List.countP id (List.take c l)):Int)/\l=l/\d=d/\f=(↑c:Int))/\c <= a/\a - c < a - s))/\(d<=(↑s:Int)->(0:Int)<=e/\(0:Int)<(2:Int)/\decide (e.tdiv (2:Int)<g)=nX l)) (↑(List.countP id (List.take s l)):Int)) ((↑s:Int)+h)) (↑a:Int)) l.length) (1:Int)) (↑l.length:Int));iterate 3 ((all_goals (repeat' with_reducible first|apply aV|refine bl ?_|intro)); (all_goals try (first | exact bY | exact rfl | exact (ag0 ab ab) | exact (ahF ab ab) | exact (ah7 ab) | exact (agZ ab))); all_goals try first | refine ⟨‹Nat› + 1,?_⟩ | refine ⟨0,?_⟩)
def Ov:Kn:=aO (ae (kC cI) (ae (kC cI) (ae (kC cI) ao))) aw fun (n,a,b,_) _=>⟨[],[.c (.bool (.atom ((cq n a b))))],none,false⟩
theorem abR:CK 165 Ov:=ah fun (n,a,b,_) _ _=>by
 refine av fN [] Tryz.func165 (?_:I64 n->I64 a->I64 b->(decide (a<=n) && decide (n<=b))=cq n a b);grind [cq]
def adr:bP:=(aQ 165 Ov (aQ 101 EC (aQ 88 FJ (aQ 172 Fa (aQ 193 G_ (aQ 49 Gy (aQ 74 mD (aQ 104 qp (aQ 252 HM (aQ 38 yK (aQ 151 Aa acS)))))))))))
def jJ:aA Tryz.prog (ak tyT) adr:=(ag abR (ag RS (ag Sc (ag To (ag TY (ag R_ (ag ux (ag zU (ag Vy (ag MQ (ag NR fN)))))))))))
def Bg:Kn:=aO (ae (kC (cL .u8)) ao) aw fun (b,_) _=>⟨[],[.c (.xx (.w ((dV 1 b))) [])],none,false⟩
def LQ:CK 209 Bg:=ah fun (b,_) _ _=>by
 refine av jJ [] Tryz.func209 (?_:b.length*1<=140737488355328->dV 1 b=dV 1 b);intros; rfl
def Qc:Kn:=aO (ae (kC (cL .u8)) ao) aw fun (b,_) _=>⟨[],[.c (.fz .u8 ((b)))],none,false⟩
def Yz:CK 211 Qc:=ah fun (b,_) _ _=>by
 refine av jJ [] Tryz.func211 (?_:(fun a=>a->((↑b.length:Int)=0->b=[])/\(¬(↑b.length:Int)=0->a->b=b)) (b.length*1<=140737488355328));(repeat' with_reducible first|apply aV|refine bl ?_|intro)
 all_goals (first | exact bY | exact (acu aE).symm | exact (acu aE))
def mn:Kn:=aO (ae (kC (cL (.nm .entry))) ao) aw fun (l,_) _=>⟨[],[.c (.own 0)],some ([.row 52 (.nm .entry) ((l))]),true⟩
def uH:CK 213 mn:=ah fun (l,_) _ _=>by
 refine cT jJ [] Tryz.func213 (?_:(fun a=>a->∀ (b:Bool),(b=true->l=[])->(b=true->l=[])/\(b=false->a/\l=l)) (l.length*32<=140737488355328));exact fun h b c=>⟨c,fun _=>⟨h,rfl⟩⟩
def yM:Kn:=aO (ae (kC (cL (.nm .entry))) (ae (kC cI) (ae (kC cI) ao))) aw fun (l,k,m,_) _=>⟨[],[.c (.bool (.atom ((decide (cD l k=m)))))],none,false⟩
def Km:CK 166 yM:=ah fun (l,k,m,_) _ _=>by
 refine av jJ [] Tryz.func166 (?_:l.length*32<=140737488355328->I64 k->I64 m->I64 (cD l k)->decide (cD l k=m)=decide (cD l k=m));intros; rfl
def zS:Kn:=aO (ae (kC (cL (.nm .entry))) (ae (kC cI) (ae (kC cI) ao))) aw fun (l,k,m,_) _=>⟨[],[.c (.bool (.atom ((ki l k m))))],none,false⟩
def OB:CK 170 zS:=ah fun (l,k,m,_) _ _=>by
 refine av jJ [] Tryz.func170 (?_:l.length*32<=140737488355328->I64 k->I64 m->I64 (↑l.length:Int)->I64 (fT l)->(decide (fT l<m) || decide (m=fT l) && decide ((↑l.length:Int)<=k))=ki l k m);intros; rfl
def Cl:Kn:=aO (ae (kC cI) (ae (kC cI) (ae (kC cB) ao))) aw fun (n,m,a,_) _=>⟨[],[.c (.bool (.atom ((dH n m a))))],none,false⟩
theorem Pg:CK 164 Cl:=ah fun (n,m,a,_) _ _=>by
 refine av jJ [] Tryz.func164 (?_:I64 n->I64 m->(a=false->cq n 0 0=dH n m a)/\(a=true->cq n 0 m=dH n m a));(repeat' with_reducible first|apply aV|refine bl ?_|intro)
 all_goals first | exact bY | (simp only [dH]; grind)
def adD:bP:=(aQ 164 Cl (aQ 170 zS (aQ 166 yM (aQ 213 mn (aQ 211 Qc (aQ 209 Bg adr))))))
def iN:aA Tryz.prog (ak tyT) adD:=(ag Pg (ag OB (ag Km (ag uH (ag Yz (ag LQ jJ))))))
theorem VY (n:Nat):u8w (n:Int)=UInt8.ofNat n:=by
 apply UInt8.toNat_inj.1;rw [u8w,ofNat_toNat,ofNat_toNat]; omega
variable {m:Int}
def NO (h:(k<0\/(l.length:Int)<k)\/m<1):ef l k m=[]:=if_pos h
def LL (a:0<=k) (c:k<=(l.length:Int)) (d:1<=m):(l.drop k.toNat).take (min m ((l.drop k.toNat).length:Int)).toNat=ef l k m:=by
 rw [ef,if_neg aE]
variable {m:List Entry}
def ae3 (h:k<0\/(l.length:Int)<k):bj l k m=(0,[]):=if_pos h
variable {j:Nat}
def MK (c:j<=ij (l.drop k.toNat) m) (d:0<=k) (f:k<=(l.length:Int)) (g:j<m.length) (i:(((l.drop k.toNat).length:Nat):Int)<=j):bj l k m=(0,m.drop j):=by
 have:=nW (h:=l.drop k.toNat) (a:=m);have e:ij (l.drop k.toNat) m=j:=by omega
 rw [bj,if_neg aE,e,if_neg aE,if_pos aE]
theorem XN {y:Entry} (c:j<=ij (l.drop k.toNat) m) (f:0<=k) (g:k<=(l.length:Int)) (h:(j:Int)<((l.drop k.toNat).length:Nat)) (a:m[j]? = some y) (i:¬ ((l.drop k.toNat).getD j (au (Sh.nm NT.entry))).term=y.term):bj l k m=(k+j+1,m.drop j):=by
 have d:(l.drop k.toNat)[j]? = some ((l.drop k.toNat).getD j (au (Sh.nm NT.entry))):=by grind
 have:=pb c d a;have o:=(aaw.1 a).1;have e:ij (l.drop k.toNat) m=j:=by grind
 rw [bj,if_neg aE,e,if_neg aE,if_neg aE]
theorem ae0 {y:Entry} (a:j<=ij (l.drop k.toNat) m) (f:(j:Int)<((l.drop k.toNat).length:Nat)) (c:m[j]? = some y) (d:((l.drop k.toNat).getD j (au (Sh.nm NT.entry))).term=y.term):j+1<=ij (l.drop k.toNat) m:=by
 have e:(l.drop k.toNat)[j]? = some ((l.drop k.toNat).getD j (au (Sh.nm NT.entry))):=by grind
 exact (pb a e c).1 d
def afx (a:j<=ij (l.drop k.toNat) m) (c:0<=k) (d:k<=(l.length:Int)) (e:(m.length:Int)<=j):bj l k m=(0,[]):=by
 rw [bj,if_neg aE,if_pos aE]
variable {x:Letter}
theorem aby (h:((((((((((((¬x.kind=1/\¬x.kind=2)/\¬x.kind=3)/\¬x.kind=4)\/cq x.frm 0 4=false)\/cq x.to 0 4=false)\/x.frm=x.to)\/cq x.term 1 1048576=false)\/cq x.bin 1 3=false)\/dH x.a 64 (decide (x.kind=1) || decide (x.kind=3) || decide (x.kind=4))=false)\/dH x.b 1048576 (decide (x.kind=1) || decide (x.kind=3))=false)\/dH x.c 64 (decide (x.kind=3))=false)\/(x.ok=true/\¬x.kind=2)/\¬x.kind=4)\/dH (x.l.length:Int) 4 (decide (x.kind=3))=false):mW x=false:=by
 unfold mW;grind
theorem aaI (e:((x.kind=1\/x.kind=2)\/x.kind=3)\/x.kind=4) (f:cq x.frm 0 4=true) (g:cq x.to 0 4=true) (h:¬x.frm=x.to) (i:cq x.term 1 1048576=true) (o:cq x.bin 1 3=true) (p:dH x.a 64 (decide (x.kind=1) || decide (x.kind=3) || decide (x.kind=4))=true) (q:dH x.b 1048576 (decide (x.kind=1) || decide (x.kind=3))=true) (r:dH x.c 64 (decide (x.kind=3))=true) (s:(x.ok=false\/x.kind=2)\/x.kind=4) (d:dH (x.l.length:Int) 4 (decide (x.kind=3))=true):mW x=true:=by
 unfold mW;grind
theorem TA {y:Entry} (h:cq y.term 1 1048576=false\/200<(y.b.length:Int)):dr y=false:=by
 unfold dr;grind
def Ry {y:Entry} (h:cq y.term 1 1048576=true) (a:(y.b.length:Int)<=200):dr y=true:=by
 unfold dr; rw [h,decide_eq_true a]; rfl
variable {k:Nat}
def Xh (h:mW x=true) (c:(x.l.length:Int)<=k) (a:(x.l.take k).all dr=true):0=mayL x:=by
 rw [List.take_of_length_le aE] at a;rw [mayL,if_pos ⟨h,a⟩]
theorem YR {y:Entry} (a:x.l[k]? = some y) (h:dr y=false):1=mayL x:=by
 rw [mayL,if_neg];grind
def aeX {y:Entry} (a:x.l[k]? = some y) (h:dr y=true) (c:(x.l.take k).all dr=true):(x.l.take (k+1)).all dr=true:=by
 rw [ai a,List.all_append,c]; simp [h]
def aiU:(x.l.take 0).all dr=true:=rfl
def adu (h:mW x=false):1=mayL x:=by
 rw [mayL,if_neg (by rintro ⟨a,_⟩; rw [h] at a; cases a)]
def aaq (x:Letter):List (Nat × LI):=[(7,{ σ:=Nat,F:=fun k=>([(112,one (.fz (.nm .entry) x.l)),(113,one (.int x.l.length)),(114,one (.int k))],[]),J:=fun k=>k<=x.l.length/\mW x=true/\(x.l.take k).all dr=true,μ:=fun k=>x.l.length - k })]
def RK (l:List Entry) (k:Int) (m:List Entry):List (Nat × LI):=[(5,{ σ:=Nat,F:=fun j=>([(1,one (.int (k))),(2,one (.fz (.nm .entry) (m))),(8,one (.fz (.nm .entry) (l.drop k.toNat))),(22,one (.fz (.nm .entry) (m))),(23,one (.int (m).length)),(24,one (.int j))],[]),J:=fun j=>j<=m.length/\j<=ij (l.drop k.toNat) m,μ:=fun j=>(m).length - j })]
def FH:Kn:=aO (ae (kC (cL .u8)) (ae (kC cW) ao)) aw fun (b,s,_) _=>⟨[],[.c (.bool (.atom ((decide (dV 1 b=s)))))],none,false⟩
def RV:CK 143 FH:=ah fun (b,s,_) _ _=>by
 refine av iN [] Tryz.func143 (?_:b.length*1<=140737488355328->decide ((↑(dV 1 b):Int)=(↑s:Int))=decide (dV 1 b=s));(repeat' (intro)) <;> first | (first | (refine aD ?_ ?_ <;> omega)) | (simp only [decide_eq_decide]; omega)
def Ln:Kn:=aO (ae (kC (cL .u8)) ao) aw fun (x,_) _=>⟨[],[.c (.fz .u8 (((pD x).1))),.c (.int (((pD x).2)))],none,false⟩
theorem ab3:CK 149 Ln:=ah fun (x,_) _ _=>by
 refine av (VU iN) [] Tryz.func149 (?_:(fun (g:Nat)=>(fun (a:Nat)=>(fun (c:Int)=>(fun (e:Int)=>(fun (f:List (den Sh.u8))=>(fun (d:List (den Sh.u8))=>(fun (h:List (den Sh.u8))=>x.length*a<=(140737488355328:Nat)->(c=(0:Int)\/(4096:Int)<c->(pD x).fst=[]/\(4:Int)=(pD x).snd)/\(¬c=(0:Int)/\c<=(4096:Int)->I64 ((2:Int)+c)/\I64 e/\(0:Int)<=e/\e*(↑a:Int)<=(140737488355328:Int)/\(0:Int)<=c/\(8:Nat)<(64:Nat)/\((0:Nat)+f.length)*a<=(140737488355328:Nat)/\(([]++f).length+x.length)*a<=(140737488355328:Nat)/\(24:Nat)<(32:Nat)/\(16:Nat)<(32:Nat)/\(8:Nat)<(32:Nat)/\(d.length+h.length)*a<=(140737488355328:Nat)/\d++h=(pD x).fst/\(0:Int)=(pD x).snd)) [UInt8.ofNat (dV a d / (2:Nat) ^ (24:Nat)),UInt8.ofNat (dV a d / (2:Nat) ^ (16:Nat)),UInt8.ofNat (dV a d / g),UInt8.ofNat (dV a d)]) ([]++f++x)) [u8w (↑(x.length / g):Int),u8w c]) ((2:Int)+c+(4:Int))) (↑x.length:Int)) (1:Nat)) ((2:Nat) ^ (8:Nat)));(repeat' (first | with_reducible apply aV | intro))
 all_goals first | (first | (refine aD ?_ ?_ <;> omega)) | (simp only [pD,eW,jf,yB,VY,ail] at *; grind)
def vf:Kn:=aO (ae (kC (cL (.nm .entry))) (ae (kC cI) (ae (kC cI) ao))) aw fun (l,k,m,_) _=>⟨[],[.c (.fz (.nm .entry) ((ef l k m)))],none,false⟩
def IG:CK 194 vf:=ah fun (l,k,m,_) _ _=>by
 refine av iN [] Tryz.func194 (?_:(fun a=>l.length*32<=140737488355328->I64 k->I64 m->((k<0\/(↑l.length:Int)<k)\/m<1->ef l k m=[])/\((0<=k/\k<=(↑l.length:Int))/\1<=m->0<=k/\k<=(↑l.length:Int)/\0<=min m a/\min m a<=a/\List.take (min m a).toNat (List.drop k.toNat l)=ef l k m)) (↑(List.drop k.toNat l).length:Int));(repeat' with_reducible first|apply aV|refine bl ?_|intro)
 all_goals (first | (omega) | exact (NO ab) | exact (LL ab ab ab))
def Gs:Kn:=aO (ae (kT (.nm .stable)) ao) aw fun (s,_) _=>⟨[],[.agg ([.int ((s.floor)),.int ((s.term)),.int ((s.vote)),.own 0])],some ([.row 52 (.nm .entry) ((s.log))]),true⟩
def RD:CK 147 Gs:=ah fun (s,_) _ _=>by
 refine cT iN [] Tryz.func147 (?_:cj s (dT s s));(repeat' (first | with_reducible apply aV | intro))
 all_goals (exact rfl)
def At:Kn:=aO (ae (kT (.nm .stable)) (ae (kC cI) ao)) aw fun (s,t,_) _=>⟨[],[.c (.own 0)],some ([.row 108 (.nm .record) ((ay s t))]),true⟩
def LW:CK 100 At:=ah fun (s,t,_) _ _=>by
 refine cT iN [] Tryz.func100 (?_:cj s (I64 t->(t<=s.term->ay s t=[])/\(s.term<t->[Record.mk 2 t 0 []]=ay s t)));(repeat' (first | with_reducible apply aV | intro))
 all_goals (first | (rw [ay,if_pos ab]) | (rw [ay,if_neg aE]))
def HI:Kn:=aO (ae (kT (.nm .letter)) ao) aw fun (x,_) _=>⟨[],[.c (.int ((mayL x)))],none,false⟩
theorem Ru:CK 94 HI:=ah fun (x,_) _ _=>by
 refine av iN (aaq x) Tryz.func94 (?_:(fun (o:Int)=>(fun (i:Int)=>(fun (q:Int)=>(fun (g:Int)=>(fun (h:Nat)=>(fun (f:Int)=>(fun (r:Prop)=>(fun (e:Int)=>(fun (v:Bool)=>(fun (q0:Bool)=>(fun (p:Bool)=>aT x (((((((((((((¬f=e/\¬r)/\¬f=3)/\¬f=g\/cq x.frm i g=false)\/cq x.to i g=false)\/x.frm=x.to)\/cq x.term e o=false)\/cq x.bin e 3=false)\/p=false)\/dH x.b o (v || q0)=false)\/dH x.c 64 q0=false)\/(x.ok=true/\¬r)/\¬f=g)\/dH q g q0=false->e=mayL x)/\(((((((((((((f=e\/r)\/f=3)\/f=g)/\cq x.frm i g=true)/\cq x.to i g=true)/\¬x.frm=x.to)/\cq x.term e o=true)/\cq x.bin e 3=true)/\p=true)/\dH x.b o (v || q0)=true)/\dH x.c 64 q0=true)/\((x.ok=false\/r)\/f=g))/\dH q g q0=true->∃ (y:Nat),(x.l=x.l/\q=(↑h:Int)/\i=(↑y:Int))/\(y<=h/\mW x=true/\(List.take y x.l).all dr=true)/\∀ (s:Nat),s<=h/\mW x=true/\(List.take s x.l).all dr=true->((↑s:Int)<(↑h:Int)->i<=(↑s:Int)/\(↑s:Int)<q/\∀ (d:Entry),x.l[s]? = some d->I64 d.term->d.b.length*1<=140737488355328->(cq d.term e o=false\/200<(↑d.b.length:Int)->e=mayL x)/\(cq d.term e o=true/\(↑d.b.length:Int)<=200->I64 ((↑s:Int)+e)/\∃ (u:Nat),(x.l=x.l/\(↑h:Int)=(↑h:Int)/\(↑s:Int)+e=(↑u:Int))/\(u <= h/\mW x=true/\(List.take u x.l).all dr=true)/\h - u < h - s))/\((↑h:Int)<=(↑s:Int)->i=mayL x)))) (dH x.a 64 (v || q0 || decide (f=g)))) (decide (f=3))) (decide (f=e))) 1) (f=2)) x.kind) x.l.length) 4) (↑x.l.length:Int)) 0) 1048576);(repeat' with_reducible first|apply aV|refine bl ?_|intro)
 all_goals try (exact (Xh ab ab ab))
 all_goals try (refine ⟨0,?_⟩; (repeat' with_reducible first|apply aV|refine bl ?_|intro))
 all_goals try (exact (Xh ab ab ab))
 all_goals try (refine ⟨‹Nat› + 1,?_⟩; (repeat' with_reducible first|apply aV|refine bl ?_|intro))
 all_goals (first | (first | with_reducible rfl | omega | (refine aD ?_ ?_ <;> omega)) | exact aiU | exact (adu (aby ab)) | exact (aaI ab ab ab ab ab ab ab ab ab ab ab) | exact (aeX ab (Ry ab ab) ab) | exact (YR ab (TA ab)))
def Ad:Kn:=aO (ae (kC (cL (.nm .entry))) (ae (kC cI) (ae (kC (cL (.nm .entry))) ao))) aw fun (l,k,m,_) _=>⟨[],[.c (.int (((bj l k m).1))),.c (.fz (.nm .entry) (((bj l k m).2)))],none,false⟩
theorem Pb:CK 167 Ad:=ah fun (l,k,m,_) _ _=>by
 refine av iN (RK l k m) Tryz.func167 (?_:(fun (g:Int)=>(fun (o:Nat)=>(fun (d:Nat)=>(fun (e:Int × List Entry)=>(fun (c:Int)=>(fun (f:List (den (Sh.nm NT.entry)))=>l.length*32<=140737488355328->I64 k->m.length*32<=140737488355328->(k<c\/(↑l.length:Int)<k->c=e.fst/\e.snd=[])/\(c<=k/\k<=(↑l.length:Int)->c<=k/\k<=(↑l.length:Int)/\∃ (p:Nat),(k=k/\m=m/\f=f/\m=m/\g=(↑d:Int)/\c=(↑p:Int))/\(p<=d/\p<=o)/\∀ (s:Nat),(fun (h:den (Sh.nm NT.entry))=>(fun (a:Int)=>s<=d/\s<=o->(a<(↑d:Int)->c<=a/\a<g/\∀ (x:Entry),m[s]? = some x->I64 x.term->x.b.length*1<=140737488355328->((↑f.length:Int)<=a->c<=a/\a<=g/\c=e.fst/\List.drop s m=e.snd)/\(a<(↑f.length:Int)->c<=a/\a<(↑f.length:Int)/\(I64 h.term->h.b.length*1<=140737488355328->(¬h.term=x.term->I64 (k+a)/\I64 (k+a+1)/\c<=a/\a<=g/\k+a+1=e.fst/\List.drop s m=e.snd)/\(h.term=x.term->I64 (a+1)/\∃ (i:Nat),(k=k/\m=m/\f=f/\m=m/\(↑d:Int)=(↑d:Int)/\a+1=(↑i:Int))/\(i <= d/\i <= o)/\d - i < d - s))))/\((↑d:Int)<=a->c=e.fst/\e.snd=[])) (↑s:Int)) (f.getD s (au (Sh.nm NT.entry))))) (List.drop k.toNat l)) 0) (bj l k m)) m.length) (ij (List.drop k.toNat l) m)) (↑m.length:Int));(repeat' with_reducible first|apply aV|refine bl ?_|intro)
 all_goals try (exact (congrArg Prod.fst (MK ab ab ab aE ab)).symm)
 all_goals try (refine ⟨0,?_⟩; (repeat' with_reducible first|apply aV|refine bl ?_|intro))
 all_goals try (exact (congrArg Prod.fst (MK ab ab ab aE ab)).symm)
 all_goals try (refine ⟨‹Nat› + 1,?_⟩; (repeat' with_reducible first|apply aV|refine bl ?_|intro))
 all_goals (first | (first | with_reducible rfl | omega | (refine aD ?_ ?_ <;> omega)) | exact (congrArg Prod.fst (ae3 ab)).symm | exact (congrArg Prod.fst (XN ab ab ab ab ab ab)).symm | exact (congrArg Prod.fst (afx ab ab ab ab)).symm | exact (congrArg Prod.snd (MK ab ab ab aE ab)).symm | exact (congrArg Prod.snd (XN ab ab ab ab ab ab)).symm | exact (congrArg Prod.snd (ae3 ab)) | exact (congrArg Prod.snd (afx ab ab ab ab)) | exact (ae0 ab ab ab ab))
def acP:bP:=(aQ 167 Ad (aQ 94 HI (aQ 100 At (aQ 147 Gs (aQ 194 vf (aQ 149 Ln (aQ 143 FH adD)))))))
def gE:aA Tryz.prog (ak tyT) acP:=(ag Pb (ag Ru (ag LW (ag RD (ag IG (ag ab3 (ag RV iN)))))))
