/- What leads to the law, part 6. Conditions: each lemma's own. -/
import Derived.Shelf.Lay
import Derived.Shelf.SlSortCmp.Small
import Derived.Shelf.Small.Bits
import Derived.Sort.LotA
import Derived.Test.YticbaadnibdbkaaGreatNDM5
set_option linter.unusedVariables false
set_option linter.unusedSimpArgs false
set_option maxHeartbeats 2000000
set_option linter.defProp false
noncomputable section
namespace Go.Proofs.YticbaadnibdbkaaGreat
open Go.RowKit
def ahf:=@Nat.le_of_eq
variable {k:Nat} {l:List Field}
def ae4 (a:k<=l.length) (b:0<(k:Int)):l[k - 1]? = some (l.getD ((k:Int) - 1).toNat (aj (.nm .field))):=by
 rw [show ((k:Int) - 1).toNat=k - 1 by omega,List.getD_eq_getElem?_getD,List.getElem?_eq_getElem aI]; rfl
variable {x:Field}
def Ya (h:(k:Int)<=0\/gj (l.getD ((k:Int) - 1).toNat (aj (.nm .field))) x=true) (a:k<=l.length):xl l k x:=by
 by_cases b:0<(k:Int)
 ·exact .inr ⟨_,ae4 a b,h.resolve_left aI⟩
 exact .inl aI
def adN {v:Int}:(((bV.take k).filter (fun s=>decide (s.since<=v))).length+1)*32<=140737488355328:=by
 have:=LF (v:=v) (k:=k); omega
def adZ {v:Int} (a:1<=v) (b:v<=3) (c:8<=(k:Int)):(bV.take k).filter (fun s=>decide (s.since<=v))=aW v:=Ld aI (by show 8<=k; omega)
def akx {v:Int}:eu (l.take 0) v=[]:=rfl
def ajK {v:Int}:eM (l.take 0) v=[]:=rfl
def ahZ {v:Int} (a:l[k]? = some x) (h:x.num<=v):eu (l.take k) v++[x]=eu (l.take (k+1)) v:=WZ a h
def ai6 {v:Int} (a:l[k]? = some x) (h:¬ x.num<=v):eu (l.take k) v=eu (l.take (k+1)) v:=ab1 a h
def ak5 {v:Int} (a:l[k]? = some x) (h:¬ x.num<=v):eM (l.take k) v++[x]=eM (l.take (k+1)) v:=WS a h
def aiD {v:Int} (a:l[k]? = some x) (h:x.num<=v):eM (l.take k) v=eM (l.take (k+1)) v:=ach a h
def akp {v:Int} (a:l.length<=k):eu (l.take k) v=eu l v:=Jo a
def aj4 {v:Int} (a:l.length<=k):eM (l.take k) v=eM l v:=K_ a
attribute [local irreducible] eu eM
def acW (l:List Field):List (Nat × LI):=[(3,{ σ:=Nat,F:=fun k=>([(0,one (.fz (.nm .field) (l))),(3,one (.int (iC (l.take k):Nat))),(6,one (.fz (.nm .field) (l))),(7,one (.int (l).length)),(8,one (.int k))],[]),J:=fun k=>k<=l.length/\ez none l=ez (fh l k) (l.drop k)/\iC (l.take k)<=k*16404,μ:=fun k=>(l).length - k })]
def adb (q:Int) (v:Int):List (Nat × LI):=[(5,{ σ:=Nat,F:=fun k=>([(1,one (.int (v))),(5,one (.own 0)),(15,one (.fz (.nm .spec) bV)),(16,one (.int 8)),(17,one (.int k))],[.row 255 (.nm .spec) (((bV.take k).filter (fun (s:Spec)=>decide (s.since<=v))))]),J:=fun k=>k<=8,μ:=fun k=>8 - k })]
def Uv (l:List Field) (v:Int):List (Nat × LI):=[(2,{ σ:=Nat,F:=fun k=>([(1,one (.int (v))),(4,one (.own 0)),(5,one (.own 1)),(8,one (.fz (.nm .field) (l))),(9,one (.int (l).length)),(10,one (.int k))],[.row 219 (.nm .field) ((eu (l.take k) v)),.row 219 (.nm .field) ((eM (l.take k) v))]),J:=fun k=>k<=l.length,μ:=fun k=>(l).length - k })]
def abg (l:List Field):List (Nat × LI):=[(3,{ σ:=Nat,F:=fun k=>([(2,one (.ptr 0 0)),(3,one (.ptr 1 0)),(6,one (.fz (.nm .field) (l))),(7,one (.int (l).length)),(8,one (.int k))],[.box 35 (cellsOf (.nm .command) (cR)),.box 35 (cellsOf (.nm .command) ((c_ (l.take k))))]),J:=fun k=>k<=l.length,μ:=fun k=>(l).length - k })]
def E_:Kn:=aO (ae (kC (ba 0 0)) (ae (kC (ba 1 0)) al)) (aH (dN 50 (ax (cL .u8) dK)) (aH (dN 3 (ax cI dK)) av)) fun _ ((b,_),(s,_),_)=>⟨[0<=s,s<=(b.length:Int),b.length*1<=140737488355328],[.c (.u64 ((U64.mk (takeF (b.drop s.toNat)).1)).n),.c (.int (((takeF (b.drop s.toNat)).2.2)))],some ([.box 50 ([.fz .u8 ((b))]),.box 3 ([.int ((s+((takeF (b.drop s.toNat)).2.1:Nat)))])]),false⟩
def SO:CK 356 E_:=ah fun _ ((b,_),(s,_),_) c=>by
 have d:=cg c;have e:=cg (eW c);have f:=cg (eW (eW c));refine bA ke [] Tryz.func356 (?_:(fun a=>0<=s/\s<=(↑b.length:Int)/\(a.fst<18446744073709551616->I64 (↑a.snd.fst:Int)->I64 a.snd.snd->I64 (s+(↑a.snd.fst:Int))/\a.fst=(takeF (List.drop s.toNat b)).fst/\a.snd.snd=(takeF (List.drop s.toNat b)).snd.snd/\b=b/\s+(↑a.snd.fst:Int)=s+(↑(takeF (List.drop s.toNat b)).snd.fst:Int))) (takeF (List.drop s.toNat b)));(repeat' with_reducible first|apply a_|refine aY ?_|intro)
 all_goals (first | exact bq | (have:=(oC b s.toNat).1; refine bw ?_ ?_ <;> omega))
def BU:Kn:=aO (ae (kC (cL .u8)) al) av fun (b,_) _=>⟨[],[.agg (cellsOf (.nm .field) (iy b))],none,false⟩
def Pa:CK 330 BU:=ah fun (b,_) _ _=>by
 refine ao ke [] Tryz.func330 (?_:(fun a=>(fun c=>(fun d=>b.length*1<=140737488355328->I64 a.num->I64 a.wire->I64 (↑a.k:Int)->I64 a.e->0<=(↑a.k:Int)/\(↑a.k:Int)<=(↑b.length:Int)/\(c.fst<18446744073709551616->I64 (↑c.snd.fst:Int)->I64 c.snd.snd->(a.wire=0->a.num=(iy b).num/\a.wire=(iy b).wire/\c.fst=(iy b).n.n/\(iy b).b=[])/\(¬a.wire=0->I64 d/\0<=d/\d<=(↑b.length:Int)/\(List.drop d.toNat b).length*1<=140737488355328/\a.num=(iy b).num/\a.wire=(iy b).wire/\0=(iy b).n.n/\List.drop d.toNat b=(iy b).b))) ((↑a.k:Int)+(↑c.snd.fst:Int))) (takeF (List.drop a.k b))) (aU b));(repeat' with_reducible first|apply a_|refine aY ?_|intro)
 all_goals (first | exact bq | exact (congrArg Field.num (Ik ab)) | exact (congrArg Field.wire (Ik ab)) | exact (congrArg (fun f=>f.n.n) (Ik ab)) | exact (congrArg Field.b (Ik ab)).symm | exact (congrArg Field.num (Ha ab)) | exact (congrArg Field.wire (Ha ab)) | exact (congrArg (fun f=>f.n.n) (Ha ab)) | exact (congrArg Field.b (Ha ab)) | (have g:=rf b; have h:=oC b (aU b).k; first | omega | (refine bw ?_ ?_ <;> omega) | (rw [List.length_drop]; omega)))
def GF:Kn:=aO (ae (kC (cL (.nm .field))) al) av fun (l,_) _=>⟨[],[.c (.int ((cZ l)))],none,false⟩
theorem WA:CK 221 GF:=ah fun (l,_) _ _=>by
 refine ao ke (acW l) Tryz.func221 (?_:(fun (m:den (Sh.nm NT.field))=>(fun (c:Nat)=>(fun (d:Int)=>(fun (g:Int)=>l.length*48<=140737488355328->∃ (h:Nat),(l=l/\d=(↑(iC (List.take h l)):Int)/\l=l/\(↑l.length:Int)=(↑c:Int)/\d=(↑h:Int))/\(h<=c/\ez none l=ez (fh l h) (List.drop h l)/\iC (List.take h l)<=h*16404)/\∀ (s:Nat),(fun (j:Int)=>(fun (a:Int)=>(fun (i:den (Sh.nm NT.field))=>s<=c/\ez none l=ez (fh l s) (List.drop s l)/\iC (List.take s l)<=s*16404->(a<(↑c:Int)->d<=a/\a<(↑l.length:Int)/\∀ (x:Field),l[s]? = some x->I64 x.num->I64 x.wire->x.n.n<18446744073709551616->x.b.length*1<=140737488355328->(eJ x=false->g=cZ l)/\(eJ x=true->(d<a->I64 (a - g))/\(d<a->d<=a - g/\a - g<(↑l.length:Int))/\((d<a->I64 i.num/\I64 i.wire/\i.n.n<18446744073709551616/\i.b.length*1<=140737488355328)->(d<a/\gj i x=false->5=cZ l)/\(a<=d\/gj i x=true->(16384<(↑x.b.length:Int)->4=cZ l)/\((↑x.b.length:Int)<=16384->x.b.length<=16384/\I64 (j+(↑(cH x).length:Int))/\I64 (a+g)/\∃ (e:Nat),(l=l/\j+(↑(cH x).length:Int)=(↑(iC (List.take e l)):Int)/\l=l/\(↑c:Int)=(↑c:Int)/\a+g=(↑e:Int))/\(e <= c/\ez none l=ez (fh l e) (List.drop e l)/\iC (List.take e l)<=e * 16404)/\c - e < c - s)))))/\((↑c:Int)<=a->(16384<j->4=cZ l)/\(j<=16384->d=cZ l))) (l.getD (a - g).toNat m)) (↑s:Int)) (↑(iC (List.take s l)):Int)) 1) 0) l.length) (aj (Sh.nm NT.field)));iterate 3 ((all_goals (repeat' with_reducible first|apply a_|refine aY ?_|intro)); (all_goals try (first | exact bq | exact rfl | exact (Nat.le_refl 0) | exact (acJ ab ab ab) | exact (ac_ ab ab ab aI (ae4 aI ab) ab) | exact (acr ab ab ab (Ya ap aI) ab) | exact (RP ab ab ab (Ya ap aI) aI) | exact (OE ab aI ab) | exact (Sn ab aI aI) | (have o:=tD (f:=‹Field›) aI ab; have p:=ML (show l[_]? = some ‹Field› by with_reducible assumption); first | omega | (refine bw ?_ ?_ <;> omega)))); all_goals try first | refine ⟨‹Nat› + 1,?_⟩ | refine ⟨0,?_⟩)
def FL:Kn:=aO (ae (kC cI) (ae (kC cI) al)) av fun (q,v,_) _=>⟨[q=1],[.c (.fz (.nm .spec) ((aW v)))],none,false⟩
theorem Th:CK 220 FL:=ah fun (q,v,_) _ h=>by
 have i:=cg h;refine ao ke (adb q v) Tryz.func220 (?_:(fun (c:Int)=>(fun (d:Int)=>(fun (b:Nat)=>I64 q->I64 v->(v<d\/3<v->aW v=[])/\(d<=v/\v<=3->q=d/\(bV.length*32<=140737488355328->∃ (g:Nat),(v=v/\bV=bV/\(↑bV.length:Int)=c/\0=(↑g:Int)/\List.filter (fun (s:Spec)=>decide (s.since<=v)) (List.take g bV)=[])/\g<=b/\∀ (s:Nat),(fun (e:Int)=>(fun (f:List (den (Sh.nm NT.spec)))=>s<=b->((↑s:Int)<c->0<=(↑s:Int)/\(↑s:Int)<(↑bV.length:Int)/\∀ (x:Spec),bV[s]? = some x->mZ x ((x.since<=v->(f.length+[x].length)*32<=140737488355328/\I64 e/\∃ (a:Nat),(v=v/\bV=bV/\c=c/\e=(↑a:Int)/\f++[x]=List.filter (fun (s:Spec)=>decide (s.since<=v)) (List.take a bV))/\a <= b/\b - a < b - s)/\(v<x.since->I64 e/\∃ (a:Nat),(v=v/\bV=bV/\c=c/\e=(↑a:Int)/\f=List.filter (fun (s:Spec)=>decide (s.since<=v)) (List.take a bV))/\a <= b/\b - a < b - s)))/\(c<=(↑s:Int)->f=aW v)) (List.filter (fun (s:Spec)=>decide (s.since<=v)) (List.take s bV))) ((↑s:Int)+d)))) 8) 1) 8);iterate 3 ((all_goals (repeat' with_reducible first|apply a_|refine aY ?_|intro)); (all_goals try (first | exact bq | exact rfl | exact (Jh ab).symm | exact (Lu ab ab) | exact (WU ab aI) | exact adN | exact (adZ aI aI aI) | (have j:bV.length=8:=rfl; omega))); all_goals try first | refine ⟨‹Nat› + 1,?_⟩ | refine ⟨0,?_⟩)
def CO:Kn:=aO (ae (kC (cL (.nm .field))) (ae (kC cI) al)) av fun (l,v,_) _=>⟨[],[.c (.fz (.nm .field) ((eu l v))),.c (.fz (.nm .field) ((eM l v)))],none,false⟩
theorem Nq:CK 288 CO:=ah fun (l,v,_) _ _=>by
 refine ao ke (Uv l v) Tryz.func288 (?_:(fun (c:Nat)=>(fun (e:Int)=>l.length*48<=140737488355328->I64 v->∃ (f:Nat),(v=v/\l=l/\(↑l.length:Int)=e/\0=(↑f:Int)/\eu (List.take f l) v=[]/\eM (List.take f l) v=[])/\f<=c/\∀ (s:Nat),(fun (d:List Field)=>(fun (g:Int)=>s<=c->((↑s:Int)<e->0<=(↑s:Int)/\(↑s:Int)<(↑l.length:Int)/\∀ (x:Field),(fun (h:Prop)=>l[s]? = some x->I64 x.num->I64 x.wire->x.n.n<18446744073709551616->h->h->(x.num<=v->((eu d v).length+[x].length)*48<=140737488355328/\I64 g/\∃ (a:Nat),(v=v/\l=l/\e=e/\g=(↑a:Int)/\eu d v++[x]=eu (List.take a l) v/\eM d v=eM (List.take a l) v)/\a <= c/\c - a < c - s)/\(v<x.num->((eM d v).length+[x].length)*48<=140737488355328/\I64 g/\∃ (a:Nat),(v=v/\l=l/\e=e/\g=(↑a:Int)/\eu d v=eu (List.take a l) v/\eM d v++[x]=eM (List.take a l) v)/\a <= c/\c - a < c - s)) (x.b.length*1<=140737488355328))/\(e<=(↑s:Int)->eu d v=eu l v/\eM d v=eM l v)) ((↑s:Int)+1)) (List.take s l)) (↑c:Int)) l.length);iterate 3 ((all_goals (repeat' with_reducible first|apply a_|refine aY ?_|intro)); (all_goals try (first | exact bq | exact akx | exact ajK | exact (ahZ ab ab) | exact (ai6 ab aI) | exact (ak5 ab aI) | exact (aiD ab ab) | exact (akp aI) | exact (aj4 aI) | (have i:=TT (l.take ‹Nat›) v; have j:=GM (l.take ‹Nat›) v; rw [List.length_take] at i j; simp only [List.length_cons,List.length_nil]; omega))); all_goals try first | refine ⟨‹Nat› + 1,?_⟩ | refine ⟨0,?_⟩)
def Hr:Kn:=aO (ae (kC (cL (.nm .field))) al) av fun (l,_) _=>⟨[∀ f ∈ l,f.b.length<=16384],[.agg (cellsOf (.nm .command) (c_ l))],none,false⟩
theorem Wu:CK 289 Hr:=ah fun (l,_) _ y=>by
 have z:=cg y;refine ao ke (abg l) Tryz.func289 (?_:(fun (o:Prop)=>(fun (j:Int)=>(fun (v:Int)=>(fun (e:Nat)=>(fun (q:Prop)=>l.length*48<=140737488355328->∃ (w:Nat),(fun (u:Command)=>(o/\(↑l.length:Int)=(↑e:Int)/\j=(↑w:Int)/\j=cR.kind/\j=cR.client/\j=cR.seq/\j=cR.set/\j=cR.id/\j=cR.n/\cR.chunks=[]/\Str.mk []=cR.text/\j=u.kind/\j=u.client/\j=u.seq/\j=u.set/\j=u.id/\j=u.n/\u.chunks=[]/\Str.mk []=u.text)/\w<=e/\∀ (s:Nat),(fun (r:Nat)=>(fun (p:Int)=>(fun (t:Prop)=>(fun (d:Command)=>(fun (f:Str)=>(fun (g:Int)=>(fun (h:List Int)=>(fun (i:Int)=>s<=e->((↑s:Int)<(↑e:Int)->j<=(↑s:Int)/\(↑s:Int)<(↑l.length:Int)/\∀ (x:Field),(fun (m:Int)=>(fun (c:Int)=>l[s]? = some x->I64 c->I64 x.wire->x.n.n<18446744073709551616->x.b.length*1<=140737488355328->(c=v->t/\∃ (a:Nat),(o/\q/\p=(↑a:Int)/\bt cR cR (aS (Command.mk m i d.seq d.set d.id d.n h f) (c_ (List.take a l))))/\a <= e/\e - a < r)/\(¬c=v->(c=2->t/\∃ (a:Nat),(o/\q/\p=(↑a:Int)/\bt cR cR (aS (Command.mk g m d.seq d.set d.id d.n h f) (c_ (List.take a l))))/\a <= e/\e - a < r)/\(¬c=2->(c=3->t/\∃ (a:Nat),(o/\q/\p=(↑a:Int)/\bt cR cR (aS (Command.mk g i m d.set d.id d.n h f) (c_ (List.take a l))))/\a <= e/\e - a < r)/\(¬c=3->(c=4->t/\∃ (a:Nat),(o/\q/\p=(↑a:Int)/\bt cR cR (aS (Command.mk g i d.seq m d.id d.n h f) (c_ (List.take a l))))/\a <= e/\e - a < r)/\(¬c=4->(c=5->t/\∃ (a:Nat),(o/\q/\p=(↑a:Int)/\bt cR cR (aS (Command.mk g i d.seq d.set m d.n h f) (c_ (List.take a l))))/\a <= e/\e - a < r)/\(¬c=5->(c=6->t/\∃ (a:Nat),(o/\q/\p=(↑a:Int)/\bt cR cR (aS (Command.mk g i d.seq d.set d.id m h f) (c_ (List.take a l))))/\a <= e/\e - a < r)/\(¬c=6->(c=7->x.b.length<=100000/\((lA x.b).length*8<=140737488355328->I64 (qp x.b)->t/\∃ (a:Nat),(o/\q/\p=(↑a:Int)/\bt cR cR (aS (Command.mk g i d.seq d.set d.id d.n (lA x.b) f) (c_ (List.take a l))))/\a <= e/\e - a < r))/\(¬c=7->(c=8->t/\∃ (a:Nat),(o/\q/\p=(↑a:Int)/\bt cR cR (aS (Command.mk g i d.seq d.set d.id d.n h (Str.mk x.b)) (c_ (List.take a l))))/\a <= e/\e - a < r)/\(¬c=8->t/\∃ (a:Nat),(o/\q/\p=(↑a:Int)/\bt cR cR (aS d (c_ (List.take a l))))/\a <= e/\e - a < r))))))))) x.num) (dp x.n.n))/\((↑e:Int)<=(↑s:Int)->aS d (c_ l))) d.client) d.chunks) d.kind) d.text) (c_ (List.take s l))) (I64 p)) ((↑s:Int)+v)) (e - s)) (c_ (List.take w l))) ((↑e:Int)=(↑e:Int))) l.length) 1) 0) (l=l));iterate 3 ((all_goals (repeat' with_reducible first|apply a_|refine aY ?_|intro)); (all_goals try (first | exact bq | exact rfl | (have:=z _ (adB ab); omega) | (rw [dV ab,<- ahG ab] <;> first | rfl | exact (ef ab).symm) | (rw [dV ab,<- aie ab] <;> first | rfl | exact (ef ab).symm) | (rw [dV ab,<- akR ab] <;> first | rfl | exact (ef ab).symm) | (rw [dV ab,<- ahl ab] <;> first | rfl | exact (ef ab).symm) | (rw [dV ab,<- akT ab] <;> first | rfl | exact (ef ab).symm) | (rw [dV ab,<- ahA ab] <;> first | rfl | exact (ef ab).symm) | (rw [dV ab,<- ajC ab] <;> first | rfl | exact (ef ab).symm) | (rw [dV ab,<- ajY ab] <;> first | rfl | exact (ef ab).symm) | (rw [dV ab,<- ajf aI] <;> first | rfl | exact (ef ab).symm) | (rw [List.take_of_length_le aI]))); all_goals try first | refine ⟨‹Nat› + 1,?_⟩ | refine ⟨0,?_⟩)
def ad7:bH:=(aP 289 Hr (aP 288 CO (aP 220 FL (aP 221 GF (aP 330 BU (aP 356 E_ adE))))))
def oG:aw Tryz.prog (ak tyT) ad7:=(ag Wu (ag Nq (ag Th (ag WA (ag Pa (ag SO ke))))))
def FJ:Kn:=aO (ae (kC cI) (ae (kC cI) (ae (kC (ba 0 0)) al))) (aH (dN 177 (ax (cEm true) dK)) av) fun (k,n,_,_) ((_,_),_)=>⟨[0<=n],[],some ([.box 177 ([.own 1]),.row 219 (.nm .field) ((qz k n))]),false⟩
def Uk:CK 223 FJ:=ah fun (k,n,_,_) ((_,_),_) a=>by
 have b:=cg a;refine bA oG [] Tryz.func223 (?_:I64 k->I64 n->(¬n=0->0<=n/\[Field.mk k 0 (U64.mk n.toNat) []].length*48<=140737488355328/\[Field.mk k 0 (U64.mk n.toNat) []]=qz k n)/\(n=0->qz k n=[]));(repeat' with_reducible first|apply a_|refine aY ?_|intro)
 all_goals (first | exact bq | exact (CY ab) | exact (BJ ab) | exact (CU ab) | exact (zC aI) | exact (CY (xs:=[]) ab) | exact (BJ (xs:=[]) ab).symm | exact (CU (xs:=[]) ab) | exact (zC (xs:=[]) aI).symm | (simp only [List.length_cons,List.length_nil]; omega) | decide)
def HN:Kn:=aO (ae (kC cI) (ae (kC cI) (ae (kC (ba 0 0)) al))) (aH (dN 177 (ax (fg 1) dK)) (aH (e_ 219 (.nm .field)) av)) fun (k,n,_,_) ((_,_),a,_)=>⟨[0<=n,a.length<=1000],[],some ([.box 177 ([.own 1]),.row 219 (.nm .field) ((a++qz k n))]),false⟩
def VF:CK 223 HN:=ah fun (k,n,_,_) ((_,_),xs,_) a=>by
 have b:=cg a;have c:=cg (eW a);refine bA oG [] Tryz.func223 (?_:I64 k->I64 n->(¬n=0->0<=n/\(xs.length+[Field.mk k 0 (U64.mk n.toNat) []].length)*48<=140737488355328/\xs++[Field.mk k 0 (U64.mk n.toNat) []]=xs++qz k n)/\(n=0->xs=xs++qz k n));(repeat' with_reducible first|apply a_|refine aY ?_|intro)
 all_goals (first | exact bq | exact (CY ab) | exact (BJ ab) | exact (CU ab) | exact (zC aI) | exact (CY (xs:=[]) ab) | exact (BJ (xs:=[]) ab).symm | exact (CU (xs:=[]) ab) | exact (zC (xs:=[]) aI).symm | (simp only [List.length_cons,List.length_nil]; omega) | decide)
def GI:Kn:=aO (ae (kC cI) (ae (kC (cL .u8)) (ae (kC (ba 0 0)) al))) (aH (dN 177 (ax (cEm true) dK)) av) fun (k,b,_,_) ((_,_),_)=>⟨[],[],some ([.box 177 ([.own 1]),.row 219 (.nm .field) ((Dj k b))]),false⟩
def Wb:CK 224 GI:=ah fun (k,b,_,_) ((_,_),_) _=>by
 refine bA oG [] Tryz.func224 (?_:I64 k->b.length*1<=140737488355328->(0<(↑b.length:Int)->[Field.mk k 2 (U64.mk 0) b].length*48<=140737488355328/\[Field.mk k 2 (U64.mk 0) b]=Dj k b)/\((↑b.length:Int)<=0->Dj k b=[]));(repeat' with_reducible first|apply a_|refine aY ?_|intro)
 all_goals (first | exact bq | exact (CY ab) | exact (BJ ab) | exact (CU ab) | exact (zC aI) | exact (CY (xs:=[]) ab) | exact (BJ (xs:=[]) ab).symm | exact (CU (xs:=[]) ab) | exact (zC (xs:=[]) aI).symm | (simp only [List.length_cons,List.length_nil]; omega) | decide)
def HF:Kn:=aO (ae (kC cI) (ae (kC (cL .u8)) (ae (kC (ba 0 0)) al))) (aH (dN 177 (ax (fg 1) dK)) (aH (e_ 219 (.nm .field)) av)) fun (k,b,_,_) ((_,_),a,_)=>⟨[a.length<=1000],[],some ([.box 177 ([.own 1]),.row 219 (.nm .field) ((a++Dj k b))]),false⟩
def Ul:CK 224 HF:=ah fun (k,b,_,_) ((_,_),xs,_) a=>by
 have c:=cg a;refine bA oG [] Tryz.func224 (?_:I64 k->b.length*1<=140737488355328->(0<(↑b.length:Int)->(xs.length+[Field.mk k 2 (U64.mk 0) b].length)*48<=140737488355328/\xs++[Field.mk k 2 (U64.mk 0) b]=xs++Dj k b)/\((↑b.length:Int)<=0->xs=xs++Dj k b));(repeat' with_reducible first|apply a_|refine aY ?_|intro)
 all_goals (first | exact bq | exact (CY ab) | exact (BJ ab) | exact (CU ab) | exact (zC aI) | exact (CY (xs:=[]) ab) | exact (BJ (xs:=[]) ab).symm | exact (CU (xs:=[]) ab) | exact (zC (xs:=[]) aI).symm | (simp only [List.length_cons,List.length_nil]; omega) | decide)
def XX:bH:=(aP 224 HF (aP 224 GI (aP 223 HN (aP 223 FJ ad7))))
def An:aw Tryz.prog (ak tyT) XX:=(ag Ul (ag Wb (ag VF (ag Uk oG))))
def wk:Kn:=aO (ae (kT (.nm .command)) (ae (kC cI) al)) av fun (c,v,_) _=>⟨[0<=c.kind,0<=c.client,0<=c.seq,0<=c.set,0<=c.id,0<=c.n],[.c (.own 0)],some ([.row 219 (.nm .field) ((dX c v))]),true⟩
def Kt:CK 163 wk:=ah fun (c,v,_) _ d=>by
 have s:=cg d;have m:=cg (eW d);have o:=cg (eW (eW d));have p:=cg (eW (eW (eW d)));have q:=cg (eW (eW (eW (eW d))));have r:=cg (eW (eW (eW (eW (eW d)))));refine dF An [] Tryz.func163 (?_:(fun e=>(fun j=>(fun a=>(fun g=>(fun h=>(fun i=>(fun f=>bB c (I64 v->e<=c.kind/\e<=c.client/\(qz 1 c.kind).length<=a/\e<=c.seq/\j.length<=a/\e<=c.set/\i.length<=a/\e<=c.id/\(i++qz 4 c.set).length<=a/\e<=c.n/\f.length<=a/\((eQ c.chunks).length*1<=140737488355328->I64 (fR c.chunks)->(f++g).length<=a/\(3<=v->(f++g++h).length<=a/\f++g++h++Dj 8 c.text.b=dX c v)/\(v<3->f++g++h=dX c v)))) (i++qz 4 c.set++qz 5 c.id)) (j++qz 3 c.seq)) (Dj 7 (eQ c.chunks))) (qz 6 c.n)) (1000:Nat)) (qz 1 c.kind++qz 2 c.client)) (0:Int));(repeat' with_reducible first|apply a_|refine aY ?_|intro)
 all_goals (first | exact bq | (rw [dX,if_pos aI]; rfl) | (rw [dX,if_neg aI]; rfl) | (have m:=gL 1 c.kind; have o:=gL 2 c.client; have p:=gL 3 c.seq; have q:=gL 4 c.set; have r:=gL 5 c.id; have t:=gL 6 c.n; have u:=Du 7 (eQ c.chunks); (try simp only [List.length_append]); omega))
def YG:bH:=(aP 163 wk XX)
def nL:aw Tryz.prog (ak tyT) YG:=(ag Kt An)
variable {b:List UInt8}
def agb (h:(aU b).e=0) (a:(takeF (b.drop (aU b).k)).2.2=0) (c:¬ (aU b).wire=0) (f:(takeF (b.drop (aU b).k)).1<=16384) (d:((b.length:Nat):Int) - (((aU b).k:Int)+((takeF (b.drop (aU b).k)).2.1:Nat))<dp (takeF (b.drop (aU b).k)).1):(0:Int)=((bm b).1:Nat)/\2=(bm b).2:=by
 rw [oX aI] at d;rw [ahx h a c aI aI]; exact ⟨rfl,rfl⟩
def aeM (h:(aU b).e=0) (a:(takeF (b.drop (aU b).k)).2.2=0) (c:¬ (aU b).wire=0) (f:(takeF (b.drop (aU b).k)).1<=16384) (d:dp (takeF (b.drop (aU b).k)).1<=((b.length:Nat):Int) - (((aU b).k:Int)+((takeF (b.drop (aU b).k)).2.1:Nat))):((aU b).k:Int)+((takeF (b.drop (aU b).k)).2.1:Nat)+dp (takeF (b.drop (aU b).k)).1=((bm b).1:Nat)/\0=(bm b).2:=by
 rw [oX aI] at d ⊢;rw [ahL h a c aI aI]; exact ⟨rfl,rfl⟩
def agc (l:List Field):List (Nat × LI):=[(6,{ σ:=Nat,F:=fun k=>([(5,one (.own 0)),(13,one (.fz (.nm .field) (l))),(14,one (.int (l).length)),(15,one (.int k))],[.row 5 .u8 ((((l.take k).map cH).flatten))]),J:=fun k=>k<=l.length,μ:=fun k=>l.length - k })]
def afp (q:Int) (v:Int):List (Nat × LI):=[(3,{ σ:=Nat,F:=fun k=>([(5,one (.int (((aW v).take k).foldl (fun t s=>max t s.num) 0))),(10,one (.fz (.nm .spec) (aW v))),(11,one (.int (aW v).length)),(12,one (.int k))],[]),J:=fun k=>k<=(aW v).length,μ:=fun k=>(aW v).length - k })]
def Fx:Kn:=aO (ae (kC (cL .u8)) al) av fun (b,_) _=>⟨[],[.c (.int ((((bm b).1:Nat)))),.c (.int (((bm b).2)))],none,false⟩
def Ua:CK 329 Fx:=ah fun (b,_) _ _=>by
 refine ao nL [] Tryz.func329 (?_:(fun h=>(fun n=>(fun c=>(fun f=>(fun d=>(fun i=>(fun j=>(fun a=>(fun g=>n->I64 c.num->I64 c.wire->I64 j->I64 c.e->(¬c.e=d->i/\c.e=f)/\(c.e=d->d<=j/\j<=h/\n/\(a.fst<(18446744073709551616:Nat)->I64 a.snd.snd->(¬a.snd.snd=d->i/\a.snd.snd=f)/\(a.snd.snd=d->(c.wire=d->g=(↑(bm b).fst:Int)/\d=f)/\(¬c.wire=d->((↑(16384:Nat):Int)<(↑a.fst:Int)->i/\(4:Int)=f)/\((↑a.fst:Int)<=(↑(16384:Nat):Int)->I64 (h - g)/\(h - g<dp a.fst->i/\(2:Int)=f)/\(dp a.fst<=h - g->I64 (g+dp a.fst)/\g+dp a.fst=(↑(bm b).fst:Int)/\d=f))))))) (j+(↑a.snd.fst:Int))) (takeF (List.drop c.k b))) (↑c.k:Int)) (d=(↑(bm b).fst:Int))) (0:Int)) (bm b).snd) (aU b)) (b.length*(1:Nat)<=(140737488355328:Nat))) (↑b.length:Int));(repeat' with_reducible first|apply a_|refine aY ?_|intro)
 all_goals (first | exact bq | (rw [ajy ab] <;> rfl) | (rw [aj_ ab ab] <;> rfl) | (rw [ak8 ab ab ab] <;> rfl) | (rw [ajr ab ab ab aI] <;> rfl) | exact (agb ab ab ab aI ab).1 | exact (agb ab ab ab aI ab).2 | exact (aeM ab ab ab aI ab).1 | exact (aeM ab ab ab aI ab).2 | (have o:=rf b; have p:=oC b (aU b).k; first | omega | (refine bw ?_ ?_ <;> omega)) | (have o:=rf b; have p:=oC b (aU b).k; have q:=oX (m:=(takeF (b.drop (aU b).k)).1) aI; first | omega | (refine bw ?_ ?_ <;> omega)))
def Nk:Kn:=aO (ae (kC (cL (.nm .field))) al) av fun (l,_) _=>⟨[],[.c (.own 0),.c (.int ((cZ l)))],some ([.row 5 .u8 ((mP l))]),true⟩
theorem abt:CK 162 Nk:=ah fun (l,_) _ _=>by
 refine dF nL (agc l) Tryz.func162 (?_:(fun (a:Nat)=>l.length*48<=140737488355328->I64 (cZ l)->(¬cZ l=0->cZ l=cZ l/\mP l=[])/\(cZ l=0->∃ (d:Nat),(l=l/\(↑l.length:Int)=(↑a:Int)/\0=(↑d:Int)/\(List.map cH (List.take d l)).flatten=[])/\d<=a/\∀ (s:Nat),(fun (e:List UInt8)=>s<=a->((↑s:Int)<(↑a:Int)->0<=(↑s:Int)/\(↑s:Int)<(↑l.length:Int)/\∀ (x:Field),l[s]? = some x->I64 x.num->I64 x.wire->x.n.n<18446744073709551616->x.b.length*1<=140737488355328->x.b.length<=16384/\(e.length+(cH x).length)*1<=140737488355328/\I64 ((↑s:Int)+1)/\∃ (c:Nat),(l=l/\(↑a:Int)=(↑a:Int)/\(↑s:Int)+1=(↑c:Int)/\e++cH x=(List.map cH (List.take c l)).flatten)/\c <= a/\a - c < a - s)/\((↑a:Int)<=(↑s:Int)->0=cZ l/\e=mP l)) (List.map cH (List.take s l)).flatten)) l.length);iterate 3 ((all_goals (repeat' with_reducible first|apply a_|refine aY ?_|intro)); (all_goals try (first | exact bq | exact rfl | exact (aap ab).symm | exact (Eq.symm ab) | exact (JW ab) | exact (yq ab (adB ab)) | exact (UM ab aI) | (have g:=RU (k:=‹Nat›) (show cZ l=0 by with_reducible assumption); have h:=tD (f:=‹Field›) (yq (show cZ l=0 by with_reducible assumption) (adB ab)) ab; omega))); all_goals try first | refine ⟨‹Nat› + 1,?_⟩ | refine ⟨0,?_⟩)
def Qk:Kn:=aO (ae (kC cI) (ae (kC cI) al)) av fun (q,v,_) _=>⟨[q=1],[.c (.int ((di v)))],none,false⟩
theorem abE:CK 161 Qk:=ah fun (q,v,_) _ h=>by
 have i:=cg h;refine ao nL (afp q v) Tryz.func161 (?_:(fun (d:Int)=>(fun (a:List Spec)=>(fun (c:Nat)=>I64 q->I64 v->q=1/\(a.length*32<=140737488355328->∃ (f:Nat),(d=List.foldl (fun (t:Int) (s:Spec)=>max t s.num) d (List.take f a)/\a=a/\(↑a.length:Int)=(↑c:Int)/\d=(↑f:Int))/\f<=c/\∀ (s:Nat),(fun (g:Int)=>s<=c->((↑s:Int)<(↑c:Int)->d<=(↑s:Int)/\(↑s:Int)<(↑a.length:Int)/\∀ (x:Spec),a[s]? = some x->mZ x (I64 ((↑s:Int)+1)/\∃ (e:Nat),(max g x.num=List.foldl (fun (t:Int) (s:Spec)=>max t s.num) d (List.take e a)/\a=a/\(↑c:Int)=(↑c:Int)/\(↑s:Int)+1=(↑e:Int))/\e <= c/\c - e < c - s))/\((↑c:Int)<=(↑s:Int)->g=di v)) (List.foldl (fun (t:Int) (s:Spec)=>max t s.num) d (List.take s a)))) a.length) (aW v)) 0);iterate 3 ((all_goals (repeat' with_reducible first|apply a_|refine aY ?_|intro)); (all_goals try (first | exact bq | exact rfl | exact (OW ab) | (rw [di,List.take_of_length_le aI]))); all_goals try first | refine ⟨‹Nat› + 1,?_⟩ | refine ⟨0,?_⟩)
def agn:bH:=(aP 161 Qk (aP 162 Nk (aP 329 Fx YG)))
def rh:aw Tryz.prog (ak tyT) agn:=(ag abE (ag abt (ag Ua nL)))
structure Wq (p:Prop):Prop where
 h:p
def fH (l:List Field):Int->Option Int:=fun q=>if iN l q=0 then none else some ((iN l q:Nat):Int)
def Cm (a:List Field) (v:Int) (k:Nat):Prop:=∀ j y,j<k->a[j]? = some y->¬ y.num<=di v
variable {f:Field} {xs:List Field}
def aaq (h:(xs.length:Int)=0):true=gi xs f:=by
 unfold gi; rw [List.getElem?_eq_none aI]
def acQ (h:¬ (xs.length:Int)=0):gj (xs.getD ((xs.length:Int) - 1).toNat (aj (.nm .field))) f=gi xs f:=by
 unfold gi;rw [show ((xs.length:Int) - 1).toNat=xs.length - 1 by omega,List.getD_eq_getElem?_getD,List.getElem?_eq_getElem aI]; rfl
theorem IN (l:List Field) (q:Int):(fH l q).getD (aj .int)=((iN l q:Nat):Int):=by
 unfold fH;by_cases h:iN l q=0
 ·rw [if_pos h,h]; rfl
 grind
def ab3:(fun _=>none)=fH (l.take 0):=rfl
def aak (h:l.length<=k):fH (l.take k)=fH l:=by rw [List.take_of_length_le h]
def TS (c:l[k]? = some x):(fun j=>if j=x.num then some ((fH (l.take k) x.num).getD (aj .int)+1) else fH (l.take k) j)=fH (l.take (k+1)):=by
 funext j;have h:=Rz c j;by_cases a:j=x.num
 ·rw [if_pos a] at h ⊢;rw [IN]; unfold fH; rw [h,if_neg aI]; rfl
 rw [if_neg a] at h ⊢;unfold fH; rw [h]
def gdX (a:l[k]? = some x):x=l.getD k (aj (.nm .field)):=by rw [List.getD_eq_getElem?_getD,a]; rfl
def gdY (h:k<l.length):l[k]? = some (l.getD k (aj (.nm .field))):=by
 rw [List.getD_eq_getElem?_getD,List.getElem?_eq_getElem h]; rfl
variable {m:Nat} {ss:List Spec}
def ah1 {y:Spec} (h:Wq (NZ ss x ((iN l x.num:Nat):Int) m)) (c:ss[m]? = some y) (a:¬ y.num=x.num\/Nb x y ((fH l x.num).getD (aj .int))=true):Wq (NZ ss x ((iN l x.num:Nat):Int) (m+1)):=
 ⟨MR h.h c fun e=>by rw [IN] at a; exact a.resolve_left (fun h=>h e)⟩
def aiS (h:Wq (uP l ss k)) (a:k<l.length) (c:Wq (NZ ss (l.getD k (aj (.nm .field))) ((iN (l.take (k+1)) (l.getD k (aj (.nm .field))).num:Nat):Int) m)) (d:(ss.length:Int)<=(m:Int)):Wq (uP l ss (k+1)):=
 ⟨Lk h.h (gdY a) c.h aI rfl⟩
def ajs (h:Wq (uP l ss k)) (a:l.length<=k):Wq (uP l ss l.length):=⟨fun j x c=>h.h j x aI⟩
def ajc {v:Int} {y:Spec} (c:(aW v)[m]? = some y) (d:y.need=true) (a:(fH l y.num).getD (aj .int)=0):¬ Be l v:=TA c ⟨d,by rw [IN] at a; exact a⟩ rfl
theorem aiV {y:Spec} (h:Wq (KX l ss m)) (a:ss[m]? = some y) (hn:y.need=false\/¬ (fH l y.num).getD (aj .int)=0):Wq (KX l ss (m+1)):=
 ⟨Ng h.h a fun c=>by
  rw [IN] at hn;rcases hn with hn | hn
  ·grind
  omega⟩
def ahv {v:Int} (a:Wq (uP l (aW v) l.length)) (c:Wq (KX l (aW v) k)) (d:(aW v).length<=k):Be l v:=TZ a.h (Nat.le_refl _) c.h d
variable {rest:List Field}
def afj {v:Int}:Cm rest v 0:=fun j y h=>by omega
def aff {v:Int} (h:Wq (Cm rest v k)) (a:rest[k]? = some x) (c:¬ x.num<=di v):Wq (Cm rest v (k+1)):=⟨JC h.h a c⟩
def pb1 {c:Command} {v:Int} (h:cD v=false):dR c rest v=1:=aiM (by show (!(cD v))=true; rw [h]; rfl)
def pb2 {c:Command} {v:Int} (h:cD v=true) (a:gB c v=false) (d:¬ bQ c v=0):dR c rest v=bQ c v:=akv (by show (!(cD v))=false; rw [h]; rfl) a d
def pb3 {c:Command} {v:Int} (h:cD v=true) (a:gB c v=true\/bQ c v=0) (d:rest[k]? = some x) (e:x.num<=di v):dR c rest v=6:=aim (by show (!(cD v))=false; rw [h]; rfl) a d e
def pb0 {c:Command} {v:Int} (h:cD v=true) (a:gB c v=true\/bQ c v=0) (d:Wq (Cm rest v k)) (e:rest.length<=k):dR c rest v=0:=aiG (by show (!(cD v))=false; rw [h]; rfl) a d.h e
def Xb (q:Int) (v:Int) (l:List Field):List (Nat × LI):=[(9,{ σ:=Nat,F:=fun k=>([(7,one (.fz (.nm .spec) (aW v))),(9,one (.mq 0)),(28,one (.fz (.nm .field) (l))),(29,one (.int (l).length)),(30,one (.int k))],[.mapo .int (fH (l.take k))]),J:=fun k=>k<=l.length/\Wq (uP l (aW v) k),μ:=fun k=>(l).length - k }),(13,{ σ:=Nat × Nat,F:=fun q=>([(7,one (.fz (.nm .spec) (aW v))),(9,one (.mq 0)),(11,one (.ptr 1 0)),(28,one (.fz (.nm .field) (l))),(29,one (.int (l).length)),(30,one (.int q.1)),(39,one (.fz (.nm .spec) (aW v))),(40,one (.int (aW v).length)),(41,one (.int q.2))],[.mapo .int (fH (l.take (q.1+1))),.box 219 (cellsOf (.nm .field) ((l.getD q.1 (aj (.nm .field)))))]),J:=fun q=>q.1<l.length/\q.2<=(aW v).length/\Wq (uP l (aW v) q.1)/\Wq (NZ (aW v) (l.getD q.1 (aj (.nm .field))) ((iN (l.take (q.1+1)) (l.getD q.1 (aj (.nm .field))).num:Nat):Int) q.2),μ:=fun q=>(aW v).length - q.2,R:=some fun a q=>q.1=a.1 }),(20,{ σ:=Nat,F:=fun k=>([(9,one (.mq 0)),(62,one (.fz (.nm .spec) (aW v))),(63,one (.int (aW v).length)),(64,one (.int k))],[.mapo .int (fH l)]),J:=fun k=>k<=(aW v).length/\Wq (uP l (aW v) l.length)/\Wq (KX l (aW v) k),μ:=fun k=>(aW v).length - k })]
def af7 (c:Command) (rest:List Field) (v:Int):List (Nat × LI):=[(9,{ σ:=Nat,F:=fun k=>([(1,one (.fz (.nm .field) (rest))),(2,one (.int (v))),(3,one (.ptr 0 0)),(9,one (.int (di v))),(27,one (.fz (.nm .field) (rest))),(28,one (.int (rest).length)),(29,one (.int k))],[.box 35 (cellsOf (.nm .command) (c))]),J:=fun k=>k<=rest.length/\Wq (Cm rest v k),μ:=fun k=>rest.length - k })]
def Fq:Kn:=aO (ae (kT (.nm .field)) (ae (kC (ba 0 0)) al)) (aH (dN 177 (ax (fg 1) dK)) (aH (e_ 219 (.nm .field)) av)) fun (f,_,_) ((_,_),xs,_)=>⟨[xs.length<=20000],[.c (.bool (.atom ((gi xs f))))],none,false⟩
def Tv:CK 328 Fq:=ah fun (f,_,_) ((_,_),xs,_) e=>by
 have g:=cg e;refine ao rh [] Tryz.func328 (?_:(fun c=>(fun d=>(fun a=>I64 f.num->I64 f.wire->f.n.n<18446744073709551616->f.b.length*1<=140737488355328->(c=0->true=gi xs f)/\(¬c=0->I64 d/\(0<=d/\d<c)/\(I64 a.num->I64 a.wire->a.n.n<18446744073709551616->a.b.length*1<=140737488355328->gj a f=gi xs f))) (xs.getD d.toNat (aj (Sh.nm NT.field)))) (c - 1)) (↑xs.length:Int));(repeat' with_reducible first|apply a_|refine aY ?_|intro)
 all_goals (first | exact bq | exact (aaq ab) | exact (acQ ab))
def Am:Kn:=aO (ae (kC cI) (ae (kC cI) (ae (kC (cL (.nm .field))) al))) av fun (q,v,l,_) _=>⟨[q=1],[.c (.int ((gE l v)))],none,false⟩
theorem Na:CK 287 Am:=ah fun (q,v,l,_) _ J=>by
 have K:=cg J;refine ao rh (Xb q v l) Tryz.func287 (?_:(fun (C:Nat)=>(fun (y:Int)=>(fun (t:Int)=>(fun (u:Nat)=>(fun (z:Int)=>(fun (I:den (Sh.nm NT.field))=>(fun (c:List Spec)=>(fun (B:Prop)=>(fun (D:Int)=>(fun (w:Nat)=>(fun (e:Int)=>I64 q->I64 v->l.length*48<=140737488355328->q=y/\(c.length*32<=140737488355328->(D=t->y=gE l v)/\(¬D=t->I64 (cZ l)->(¬cZ l=t->cZ l=gE l v)/\(cZ l=t->∃ (i:Nat),(B/\l=l/\(↑l.length:Int)=z/\t=(↑i:Int)/\(fun (_:Int)=>none)=fH (List.take i l))/\(i<=u/\Wq (uP l c i))/\∀ (s:Nat),s<=u/\Wq (uP l c s)->((↑s:Int)<z->t<=(↑s:Int)/\(↑s:Int)<(↑l.length:Int)/\∀ (x:Field),(fun (F:Int)=>l[s]? = some x->I64 x.num->I64 x.wire->x.n.n<18446744073709551616->x.b.length*C<=140737488355328->I64 F/\∃ (i:Nat × Nat),(fun (g:Nat)=>(fun (o:Field)=>(B/\l=l/\z=z/\(↑s:Int)=(↑g:Int)/\B/\D=e/\t=(↑i.snd:Int)/\(fun (j:Int)=>if j=x.num then some F else fH (List.take s l) j)=fH (List.take (g+C) l)/\x.num=o.num/\x.wire=o.wire/\x.n.n=o.n.n/\x.b=o.b)/\(g<u/\i.snd<=w/\Wq (uP l c g)/\Wq (NZ c o (↑(iN (List.take (g+C) l) o.num):Int) i.snd))/\g=g/\∀ (a:Nat × Nat),(fun (p:Int)=>(fun (A:List Field)=>(fun (h:Field)=>a.fst<u/\a.snd<=w/\Wq (uP l c a.fst)/\Wq (NZ c h (↑(iN A h.num):Int) a.snd)->a.fst=g->(p<e->t<=p/\p<D/\∀ (x:Spec),(fun (G:Bool)=>c[a.snd]? = some x->mZ x ((x.num=h.num/\G=false->6=gE l v)/\(¬x.num=h.num\/G=true->I64 (p+y)/\∃ (d:Nat × Nat),(fun (r:Field)=>(B/\l=l/\z=z/\(↑a.fst:Int)=(↑d.fst:Int)/\B/\e=e/\p+y=(↑d.snd:Int)/\fH A=fH (List.take (d.fst+C) l)/\h.num=r.num/\h.wire=r.wire/\h.n.n=r.n.n/\h.b=r.b)/\(d.fst<u/\d.snd<=w/\Wq (uP l c d.fst)/\Wq (NZ c r (↑(iN (List.take (d.fst+C) l) r.num):Int) d.snd))/\d.fst=g/\w - d.snd<w - a.snd) (l.getD d.fst I)))) (Nb h x ((fH A h.num).getD (aj Sh.int))))/\(e<=p->I64 ((↑a.fst:Int)+y)/\∃ (d:Nat),(B/\l=l/\z=z/\(↑a.fst:Int)+y=(↑d:Int)/\fH A=fH (List.take d l))/\(d <= u/\Wq (uP l c d))/\u - d < u - s)) (l.getD a.fst I)) (List.take (a.fst+C) l)) (↑a.snd:Int)) (l.getD g I)) i.fst) ((fH (List.take s l) x.num).getD (aj Sh.int)+y))/\(z<=(↑s:Int)->∃ (i:Nat),(B/\D=e/\t=(↑i:Int)/\fH (List.take s l)=fH l)/\(i<=w/\Wq (uP l c u)/\Wq (KX l c i))/\∀ (s:Nat),s<=w/\Wq (uP l c u)/\Wq (KX l c s)->((↑s:Int)<e->t<=(↑s:Int)/\(↑s:Int)<D/\∀ (x:Spec),(fun (H:Prop)=>c[s]? = some x->mZ x ((x.need=true/\H->6=gE l v)/\(x.need=false\/¬H->I64 ((↑s:Int)+y)/\∃ (d:Nat),(B/\e=e/\(↑s:Int)+y=(↑d:Int)/\fH l=fH l)/\(d <= w/\Wq (uP l c u)/\Wq (KX l c d))/\w - d < w - s))) ((fH l x.num).getD (aj Sh.int)=t))/\(e<=(↑s:Int)->t=gE l v)))))) (↑w:Int)) c.length) (↑c.length:Int)) (c=c)) (aW v)) (aj (Sh.nm NT.field))) (↑u:Int)) l.length) 0) 1) 1);(repeat' with_reducible first|apply a_|refine aY ?_|intro)
 all_goals try (refine ⟨0,?_⟩; (repeat' with_reducible first|apply a_|refine aY ?_|intro))
 all_goals try (refine ⟨(‹Nat›,0),?_⟩; (repeat' with_reducible first|apply a_|refine aY ?_|intro))
 all_goals try (refine ⟨(‹Nat × Nat›.1,‹Nat × Nat›.2+1),?_⟩; (repeat' with_reducible first|apply a_|refine aY ?_|intro))
 all_goals try (refine ⟨‹Nat × Nat›.1+1,?_⟩; (repeat' with_reducible first|apply a_|refine aY ?_|intro))
 all_goals try (refine ⟨0,?_⟩; (repeat' with_reducible first|apply a_|refine aY ?_|intro))
 all_goals try (refine ⟨‹Nat› + 1,?_⟩; (repeat' with_reducible first|apply a_|refine aY ?_|intro))
 all_goals (first | exact bq | exact rfl | exact (akV aI) | exact (aia aI ab) | exact ab3 | exact ⟨aem⟩ | exact ⟨aeR⟩ | exact ⟨aeh⟩ | exact (TS ab) | exact (congrArg Field.num (gdX ab)) | exact (congrArg Field.wire (gdX ab)) | exact (congrArg (fun f=>f.n.n) (gdX ab)) | exact (congrArg Field.b (gdX ab)) | exact (aeP aI ab (TY (gdY ab) ab (And.intro ab ab) (IN _ _))) | exact (ah1 ab ab ap) | exact (aiS ab ab ab ab) | exact (ajs ab aI) | exact (aak aI) | exact (aeP aI ab (ajc ab ab ab)) | exact (aiV ab ab ap) | exact (akF aI ab (ahv ab ab aI)) | (have L:=WR (l:=l) (k:=‹Nat›) ‹Field›.num; have N:=IN (l.take ‹Nat›) ‹Field›.num; refine bw ?_ ?_ <;> omega))
def Ry:Kn:=aO (ae (kT (.nm .command)) (ae (kC (cL (.nm .field))) (ae (kC cI) al))) av fun (c,rest,v,_) _=>⟨[rest.length<=20000],[.c (.own 0),.c (.int ((fx c rest v)))],some ([.row 5 .u8 ((gC c rest v))]),true⟩
theorem ace:CK 93 Ry:=ah fun (c,rest,v,_) _ p=>by
 have q:=cg p;refine dF rh (af7 c rest v) Tryz.func93 (?_:(fun (e:Int)=>(fun (i:Prop)=>(fun (a:Int)=>(fun (d:Nat)=>(fun (o:Prop)=>bB c (rest.length*48<=140737488355328->I64 v->(cD v=false->1=e/\i)/\(cD v=true->(gB c v=false->I64 (bQ c v)->(¬bQ c v=a->bQ c v=e/\i)/\(bQ c v=a->o))/\(gB c v=true->o)))) ((1:Int)=1/\(I64 (di v)->∃ (j:Nat),(rest=rest/\v=v/\di v=di v/\rest=rest/\(↑rest.length:Int)=(↑d:Int)/\a=(↑j:Int)/\aS c c)/\(j<=d/\Wq (Cm rest v j))/\∀ (s:Nat),s<=d/\Wq (Cm rest v s)->((↑s:Int)<(↑d:Int)->a<=(↑s:Int)/\(↑s:Int)<(↑rest.length:Int)/\∀ (x:Field),rest[s]? = some x->I64 x.num->I64 x.wire->x.n.n<18446744073709551616->x.b.length*1<=140737488355328->(x.num<=di v->6=e/\i)/\(di v<x.num->I64 ((↑s:Int)+1)/\∃ (g:Nat),(rest=rest/\v=v/\di v=di v/\rest=rest/\(↑d:Int)=(↑d:Int)/\(↑s:Int)+1=(↑g:Int)/\aS c c)/\(g <= d/\Wq (Cm rest v g))/\d - g < d - s))/\((↑d:Int)<=(↑s:Int)->a<=c.kind/\a<=c.client/\a<=c.seq/\a<=c.set/\a<=c.id/\a<=c.n/\((dX c v).length+rest.length)*48<=140737488355328/\(I64 (cZ (dX c v++rest))->cZ (dX c v++rest)=e/\mP (dX c v++rest)=gC c rest v))))) rest.length) 0) (gC c rest v=[])) (fx c rest v));iterate 3 ((all_goals (repeat' with_reducible first|apply a_|refine aY ?_|intro)); (all_goals try (first | exact bq | exact rfl | exact ⟨afj⟩ | exact (aff ab ab aI) | exact (Ds (pb1 ab) am) | exact (EL (pb1 ab) am).symm | exact (Ds (pb2 ab ab ab) ab) | exact (EL (pb2 ab ab ab) ab).symm | exact (Ds (pb3 ab (by first | exact .inl ab | exact .inr ab) ab ab) am) | exact (EL (pb3 ab (by first | exact .inl ab | exact .inr ab) ab ab) am).symm | exact (agh (pb0 ab (by first | exact .inl ab | exact .inr ab) ab aI)) | exact (adQ (pb0 ab (by first | exact .inl ab | exact .inr ab) ab aI)) | (have h:0<=c.kind/\0<=c.client/\0<=c.seq/\0<=c.set/\0<=c.id/\0<=c.n:=(by first | exact abv ab | exact acR ab); omega) | (have h:=Ev c v; omega))); all_goals try first | refine ⟨‹Nat› + 1,?_⟩ | refine ⟨0,?_⟩)
def agq:bH:=(aP 93 Ry (aP 287 Am (aP 328 Fq agn)))
def Hk:aw Tryz.prog (ak tyT) agq:=(ag ace (ag Na (ag Tv rh)))
def Xg (b:List UInt8) (s:Nat × List Field):Nat × List Field:=(s.1+(bm (b.drop s.1)).1,s.2++[iy ((b.drop s.1).take (((s.1:Int)+((bm (b.drop s.1)).1:Nat)).toNat - s.1))])
def Zd {s:Nat × List Field}:(Xg b s).2=s.2++[iy ((b.drop s.1).take (bm (b.drop s.1)).1)]:=by
 unfold Xg; rw [show ((s.1:Int)+((bm (b.drop s.1)).1:Nat)).toNat - s.1=(bm (b.drop s.1)).1 by omega]
def tlB (h:16384<(b.length:Int)):bO b=([],4):=aaZ aI
def tlS {s:Nat × List Field} (h:Wq (jz b s.1 s.2)) (c:(s.1:Int)<(b.length:Int)) (a:¬ (bm (b.drop s.1)).2=0):bO b=([],(bm (b.drop s.1)).2):=UR h.h aI a
theorem tlL {s:Nat × List Field} (h:Wq (jz b s.1 s.2)) (a:(s.1:Int)<(b.length:Int)) (c:(bm (b.drop s.1)).2=0) (d:gi s.2 (iy ((b.drop s.1).take (((s.1:Int)+((bm (b.drop s.1)).1:Nat)).toNat - s.1)))=false):bO b=([],5):=by
 obtain ⟨f,_,e⟩:=QI h.h (show s.1<b.length by omega);grind
def tlN {s:Nat × List Field} (h:Wq (jz b s.1 s.2)) (d:(s.1:Int)<(b.length:Int)) (a:(bm (b.drop s.1)).2=0) (c:gi s.2 (iy ((b.drop s.1).take (((s.1:Int)+((bm (b.drop s.1)).1:Nat)).toNat - s.1)))=true):Wq (jz b (Xg b s).1 (Xg b s).2):=by
 rw [show ((s.1:Int)+((bm (b.drop s.1)).1:Nat)).toNat - s.1=(bm (b.drop s.1)).1 by omega] at c;obtain ⟨f,g,e⟩:=QI h.h (show s.1<b.length by omega);have i:=nH a;rw [Zd];refine ⟨f,by show b.length - (s.1+(bm (b.drop s.1)).1)<=f; omega,?_⟩;rw [e,if_pos a,c,if_pos rfl,ahb]; rfl
def tlE {s:Nat × List Field} (h:Wq (jz b s.1 s.2)) (a:(b.length:Int)<=(s.1:Int)):bO b=(s.2,0):=aau h.h aI
def nx1 {s:Nat × List Field} (a:s.1<=b.length):(Xg b s).1<=b.length:=by
 have:=Ag (b.drop s.1); rw [List.length_drop] at this; show s.1+_<=_; omega
def nx2 {s:Nat × List Field} (c:s.2.length<=s.1) (a:(bm (b.drop s.1)).2=0):(Xg b s).2.length<=(Xg b s).1:=by
 have d:=nH a;rw [Zd,List.length_append]; simp only [List.length_cons,List.length_nil]; show _<=s.1+_; omega
def nx3 {s:Nat × List Field} (c:(s.1:Int)<(b.length:Int)) (a:(bm (b.drop s.1)).2=0):b.length - (Xg b s).1<b.length - s.1:=by
 have d:=nH a; show b.length - (s.1+_)<_; omega
def aaG (b:List UInt8):List (Nat × LI):=[(6,{ σ:=Nat × List Field,F:=fun s=>([(0,one (.fz .u8 (b))),(4,one (.ptr 0 0)),(5,one (.fn 328 [] [(0,0)])),(6,one (.int s.1))],[.box 177 ([.own 1]),.row 219 (.nm .field) ((s.2))]),J:=fun s=>Wq (jz b s.1 s.2)/\s.1<=b.length/\s.2.length<=s.1,μ:=fun s=>b.length - s.1 })]
def Fv:Kn:=aO (ae (kC (cL .u8)) al) av fun (b,_) _=>⟨[],[.c (.fz (.nm .field) (((bO b).1))),.c (.int (((bO b).2)))],none,false⟩
theorem VN:CK 286 Fv:=ah fun (b,_) _ _=>by
 refine ao Hk (aaG b) Tryz.func286 (?_:(fun (p:Prop)=>(fun (g:Int)=>(fun (i:Int)=>b.length*1<=140737488355328->(16384<i->p/\4=(bO b).snd)/\(i<=16384->∃ (d:Nat × List Field),(b=b/\g=(↑d.fst:Int)/\d.snd=[])/\(Wq (jz b d.fst d.snd)/\d.fst<=b.length/\d.snd.length<=d.fst)/\∀ (s:Nat × List Field),(fun (e:Int)=>(fun (j:Nat × Int)=>(fun (o:Int)=>(fun (a:Field)=>Wq (jz b s.fst s.snd)/\s.fst<=b.length/\s.snd.length<=s.fst->(e<i->g<=e/\e<=i/\(I64 (↑j.fst:Int)->I64 j.snd->(¬j.snd=g->p/\j.snd=(bO b).snd)/\(j.snd=g->I64 o/\g<=e/\e<=o/\o<=i/\(I64 a.num->I64 a.wire->a.n.n<18446744073709551616->a.b.length*1<=140737488355328->s.snd.length<=20000/\(gi s.snd a=false->p/\5=(bO b).snd)/\(gi s.snd a=true->(s.snd.length+[a].length)*48<=140737488355328/\I64 o/\∃ (c:Nat × List Field),(b=b/\o=(↑c.fst:Int)/\s.snd++[a]=c.snd)/\(Wq (jz b c.fst c.snd)/\c.fst<=b.length/\c.snd.length<=c.fst)/\b.length - c.fst<b.length - s.fst)))))/\(i<=e->s.snd=(bO b).fst/\g=(bO b).snd)) (iy (List.take (o.toNat - s.fst) (List.drop s.fst b)))) (e+(↑j.fst:Int))) (bm (List.drop s.fst b))) (↑s.fst:Int))) (↑b.length:Int)) 0) ((bO b).fst=[]));iterate 3 ((all_goals (repeat' with_reducible first|apply a_|refine aY ?_|intro)); (all_goals try (first | exact bq | exact rfl | exact ⟨Qz aI⟩ | (rw [tlB ab] <;> rfl) | (rw [tlS ab ab ab] <;> rfl) | (rw [tlL ab ab ab ab] <;> rfl) | (rw [tlE ab ab] <;> rfl) | exact (tlN ab ab ab ab) | exact (nx1 ab) | exact (nx2 ab ab) | exact (nx3 ab ab) | (have h:=Ag (b.drop ‹Nat × List Field›.1); rw [List.length_drop] at h; first | omega | (refine bw ?_ ?_ <;> omega)) | (simp only [List.length_cons,List.length_nil]; omega))); all_goals try first | refine ⟨Xg b ‹Nat × List Field›,?_⟩ | refine ⟨(0,[]),?_⟩)
def adL:bH:=(aP 286 Fv agq)
def Fz:aw Tryz.prog (ak tyT) adL:=(ag VN Hk)
def tin {v:Int} (h:cD v=true):1<=v/\v<=3:=by
 unfold cD at h; simpa using h
def tqe {v:Int} (a:(bO b).2=0) (c:gE (bO b).1 v=0):mX b v=0:=by rw [mX,if_pos a,c]
def tq1 {v:Int} (h:cD v=false):cK b v=⟨cR,[],1⟩:=akM (fun a=>by unfold cD at h; simp only [a,decide_true,Bool.and_self] at h; cases h)
def tq2 {v:Int} (h:cD v=true) (a:(bO b).2=0) (c:¬ gE (bO b).1 v=0):cK b v=⟨cR,[],gE (bO b).1 v⟩:=by
 have e:mX b v=gE (bO b).1 v:=by rw [mX,if_pos a]
 rw [afg (tin h) (by rw [e]; exact c),e]
def tq3 {v:Int} (h:cD v=true) (a:¬ (bO b).2=0):cK b v=⟨cR,[],(bO b).2⟩:=by
 have e:mX b v=(bO b).2:=by rw [mX,if_neg a]
 rw [afg (tin h) (by rw [e]; exact a),e]
def tq4 {v:Int} (h:cD v=true) (a:(bO b).2=0) (c:gE (bO b).1 v=0) (d:¬ fx (c_ (eu (bO b).1 (di v))) (eM (bO b).1 (di v)) v=0\/decide (gC (c_ (eu (bO b).1 (di v))) (eM (bO b).1 (di v)) v=b)=false):cK b v=⟨cR,[],6⟩:=
 aih (tin h) (tqe a c) (d.imp_right fun h=>by simpa using h)
def tq5 {v:Int} (h:cD v=true) (a:(bO b).2=0) (c:gE (bO b).1 v=0) (d:fx (c_ (eu (bO b).1 (di v))) (eM (bO b).1 (di v)) v=0) (e:decide (gC (c_ (eu (bO b).1 (di v))) (eM (bO b).1 (di v)) v=b)=true):cK b v=⟨c_ (eu (bO b).1 (di v)),eM (bO b).1 (di v),0⟩:=
 alg (tin h) (tqe a c) ⟨d,adw e⟩
def HU:Kn:=aO (ae (kC (cL .u8)) (ae (kC cI) al)) av fun (b,v,_) _=>⟨[],[.agg (cellsOf (.nm .command) ((cK b v).c)),.c (.fz (.nm .field) (((cK b v).r))),.c (.int (((cK b v).e)))],none,false⟩
def SL:CK 275 HU:=ah fun (b,v,_) _ _=>by
 refine ao Fz [] Tryz.func275 (?_:(fun u=>(fun w=>(fun g=>(fun h=>(fun s=>(fun t=>(fun a=>(fun d=>(fun i=>(fun j=>(fun o=>(fun p=>(fun q=>(fun y=>(fun z=>b.length*1<=140737488355328->I64 v->(cD v=false->o/\p/\j/\i/\a=d.id/\a=d.n/\q/\y/\g.r=[]/\1=g.e)/\(cD v=true->h.length*48<=140737488355328->I64 u->(u=a->(1:Int)=1/\(I64 (gE h v)->(¬gE h v=a->o/\p/\j/\i/\a=d.id/\a=d.n/\q/\y/\g.r=[]/\gE h v=g.e)/\(gE h v=a->z)))/\(¬u=a->(¬u=a->o/\p/\j/\i/\a=d.id/\a=d.n/\q/\y/\g.r=[]/\u=g.e)/\(u=a->z)))) ((1:Int)=1/\(I64 w->(eu h w).length*48<=140737488355328->s.length*48<=140737488355328->(∀ (f:Field),List.Mem f (eu h w)->f.b.length<=16384)/\bB t (s.length<=20000/\(I64 (fx t s v)->(¬fx t s v=a\/decide (gC t s v=b)=false->o/\p/\j/\i/\a=d.id/\a=d.n/\q/\y/\g.r=[]/\6=g.e)/\(fx t s v=a/\decide (gC t s v=b)=true->bt t d (s=g.r/\a=g.e))))))) (Str.mk []=d.text)) (d.chunks=[])) (a=d.client)) (a=d.kind)) (a=d.seq)) (a=d.set)) g.c) (0:Int)) (c_ (eu h w))) (eM h w)) (bO b).fst) (cK b v)) (di v)) (bO b).snd);(repeat' with_reducible first|apply a_|refine aY ?_|intro)
 all_goals (first | exact bq | (rw [tq1 ab] <;> rfl) | (rw [tq2 ab ab ab] <;> rfl) | (rw [tq3 ab ab] <;> rfl) | (rw [tq4 ab ab ab ap] <;> rfl) | (rw [tq5 ab ab ab ab ab] <;> rfl) | exact (aaK (tqe ab ab) _ ap) | (have A:=GM (bO b).1 (di v); have B:=Wx b; omega))
def aeC:bH:=(aP 275 HU adL)
def EZ:aw Tryz.prog (ak tyT) aeC:=(ag SL Fz)
variable {r n:Nat}
def p1n {p:List UInt8} (h:p++bk r=bk n) (a:¬ r<128):(p++[UInt8.ofNat ((r % 128+128) % 18446744073709551616)])++bk (r / 128)=bk n:=by
 rw [Nat.mod_eq_of_lt (show r % 128+128<18446744073709551616 by omega)]; exact Kz h a
variable {x:UInt8}
def p1l {p:List UInt8} (h:p++bk r=bk n) (a:n<18446744073709551616):(p.length+[x].length)*1<=140737488355328:=by
 have:=Qo h a; rw [akS]; omega
def afO (n:U64):List (Nat × LI):=[(2,{ σ:=List UInt8 × Nat,F:=fun s=>([(0,one (.u64 s.2)),(3,one (.own 0))],[.row 5 .u8 ((s.1))]),J:=fun s=>s.1++bk s.2=bk n.n/\s.2<18446744073709551616/\n.n<18446744073709551616,μ:=fun s=>s.2 })]
def Sv:Kn:=aO (ae (kC cU) al) av fun (n,_) _=>⟨[],[.c (.own 0)],some ([.row 5 .u8 ((bk n.n))]),true⟩
theorem ZZ:CK 175 Sv:=ah fun (n,_) _ _=>by
 refine dF EZ (afO n) Tryz.func175 (?_:(fun (a:Nat)=>(fun (c:Nat)=>n.n<a->∃ (e:List UInt8 × Nat),(n.n=e.snd/\e.fst=[])/\(e.fst++bk e.snd=bk n.n/\e.snd<a/\n.n<a)/\∀ (s:List UInt8 × Nat),(fun (g:List (den Sh.u8))=>s.fst++bk s.snd=bk n.n/\s.snd<a/\n.n<a->((↑c:Int)<=(↑s.snd:Int)->0<c/\(s.fst.length+g.length)*1<=140737488355328/\0<c/\∃ (d:List UInt8 × Nat),(s.snd / c=d.snd/\s.fst++g=d.fst)/\(d.fst++bk d.snd=bk n.n/\d.snd<a/\n.n<a)/\d.snd<s.snd)/\((↑s.snd:Int)<(↑c:Int)->(s.fst.length+[UInt8.ofNat s.snd].length)*1<=140737488355328/\s.fst++[UInt8.ofNat s.snd]=bk n.n)) [UInt8.ofNat ((s.snd % c+c) % a)]) 128) 18446744073709551616);iterate 3 ((all_goals (repeat' with_reducible first|apply a_|refine aY ?_|intro)); (all_goals try (first | exact bq | exact (p1n ab aI) | exact (P_ ab aI) | exact rfl | exact (p1l ab ab))); all_goals try first | refine ⟨(‹List UInt8 × Nat›.1++[UInt8.ofNat ((‹List UInt8 × Nat›.2 % 128+128) % 18446744073709551616)],‹List UInt8 × Nat›.2 / 128),?_⟩ | refine ⟨([],n.n),?_⟩)
def afd:bH:=(aP 175 Sv aeC)
def Fy:aw Tryz.prog (ak tyT) afd:=(ag ZZ EZ)
def py (b:List UInt8):Nat->Nat
 | 0=>0
 | k+1=>(py b k+(b.getD k 0).toNat % 128*2 ^ (7*k) % 18446744073709551616) % 18446744073709551616
def vN (b:List UInt8) (k:Nat) (x:UInt8):Nat:=(py b k+(x % UInt8.ofNat 128).toNat*2 ^ (7*(k:Int)).toNat % 18446744073709551616) % 18446744073709551616
theorem canon:∀ {l:List UInt8} {k n v e:Nat},bL k n l=(v,e,0)->∃ u j,v=n+u*2 ^ (7*k)/\e=k+j/\bk u=l.take j/\(0<k->u≠0)
 | [],k,n,v,e,h=>by rw [bL] at h; split at h <;> cases h
 | x :: r,k,n,v,e,h=>by
  rw [bL] at h;split at h
  ·cases h
  split at h
  ·cases h
  rename_i p d;split at h
  ·rename_i a;cases h;refine ⟨x.toNat,1,by rw [wy a],rfl,?_,fun g e=>d (.inl ⟨g,e⟩)⟩;rw [mY a]; simp
  rename_i a;obtain ⟨u,j,rfl,rfl,i,c⟩:=canon h;refine ⟨x.toNat % 128+128*u,j+1,?_,aI,?_,fun _ e=>by have:=c aI; omega⟩
  ·rw [kV,show 7*(k+1)=7*k+7 by omega,Nat.pow_add,aja,Nat.add_assoc,show (2:Nat) ^ 7=128 from rfl,Nat.mul_comm (2 ^ (7*k)) 128,<- Nat.mul_assoc,Nat.mul_comm u 128]
  have o:=c aI;rw [um aI,HZ,show (x.toNat % 128+128*u) / 128=u by omega,i,ah7];congr 1;apply UInt8.toNat_inj.1;have:=x.toNat_lt;rw [UInt8.toNat_ofNat'];omega
def SI (b:List UInt8) (k:Nat):Prop:=(k<=9->takeF b=bL k (py b k) (b.drop k)/\py b k<2 ^ (7*k))/\(k=10->takeF b=(0,0,3))
def air (b:List UInt8):SI b 0:=⟨fun _=>⟨rfl,show (0:Nat)<2 ^ (7*0) by decide⟩,fun h=>by omega⟩
def akr (h:Wq (SI b k)) (a:(k:Int)<10) (c:(b.length:Int)<=(k:Int)):takeF b=(0,0,2):=(h.h.1 aI).1.trans (Ql aI aI)
def ai3 (h:Wq (SI b k)) (c:10<=(k:Int)) (a:k<=10):takeF b=(0,0,3):=h.h.2 aI
def Yu (a:b[k]? = some x):vN b k x=py b (k+1):=by
 unfold vN;rw [py,List.getD_eq_getElem?_getD,a,show (7*(k:Int)).toNat=7*k by omega,UInt8.toNat_mod]; rfl
def QM (e:k<=9) (a:py b k<2 ^ (7*k)) (g:k=9->x.toNat<=1):vN b k x=py b k+(x &&& 127).toNat*2 ^ (7*k):=by
 have c:=OB e g;have h:=Sm (k:=k) (m:=(x &&& 127).toNat) a;have d:py b k ||| (x &&& 127).toNat*2 ^ (7*k)<2 ^ 64:=ajj (ac2 a (Nat.pow_le_pow_right am aI)) c;rw [h] at d;unfold vN;rw [show (7*(k:Int)).toNat=7*k by omega,UInt8.toNat_mod,show (UInt8.ofNat 128).toNat=128 from rfl,<- kV,Nat.mod_eq_of_lt c,Nat.mod_eq_of_lt d]
def ajM {y:UInt8} (h:Wq (SI b k)) (o:(k:Int)<10) (a:b[k]? = some x) (c:b[k]? = some y) (i:((UInt8.ofNat 128).toNat:Int)<=(y.toNat:Int)):Wq (SI b (k+1)):=by
 rw [a] at c; cases c;rw [show (UInt8.ofNat 128).toNat=128 from rfl] at i;obtain ⟨d,g⟩:=h.h.1 aI;refine ⟨fun j=>?_,fun j=>yS d aI a (.inr ⟨aI,aI⟩)⟩;have e:=QM (x:=x) aI g aI;rw [<- Yu a,e];exact ⟨GG d aI a aI aI aI,Gv g⟩
def ZJ (h:Str.mk (bk (vN b k x))=Str.mk (b.take ((k:Int)+1).toNat)) (a:b[k]? = some x):takeF b=(vN b k x,k+1,0):=by
 have c:bk (vN b k x)=b.take (k+1):=by have:=congrArg Str.b h; rw [show ((k:Int)+1).toNat=k+1 by omega] at this; exact this
 have d:vN b k x<18446744073709551616:=ahk _ am;have e:=jA d (b.drop (k+1));rw [c,List.take_append_drop,List.length_take,ag3 (uL a)] at e;exact e
def aka {y:UInt8} (p:¬ Str.mk (bk (vN b k x))=Str.mk (b.take ((k:Int)+1).toNat)) (h:Wq (SI b k)) (z:(k:Int)<10) (a:b[k]? = some x) (d:b[k]? = some y) (q:(y.toNat:Int)<((UInt8.ofNat 128).toNat:Int)):takeF b=(0,0,3):=by
 rw [a] at d; cases d;rw [show (UInt8.ofNat 128).toNat=128 from rfl] at q;obtain ⟨g,s⟩:=h.h.1 aI;by_cases c:(0<k/\x.toNat=0)\/(k=9/\1<x.toNat)
 ·exact yS g aI a c
 exfalso;have i:=Gb g aI a (fun h=>c (.inl h)) (fun h=>c (.inr h)) aI;have e:=QM (b:=b) (x:=x) (show k<=9 by omega) s aI;rw [<- e] at i;obtain ⟨u,j,t,A,o,_⟩:=canon (k:=0) (n:=0) i;have v:u=vN b k x:=by simpa using t.symm
 have w:j=k+1:=by omega
 rw [v,w] at o;exact p (by rw [show ((k:Int)+1).toNat=k+1 by omega,o])
def Wa (b:List UInt8):List (Nat × LI):=[(3,{ σ:=Nat,F:=fun k=>([(0,one (.fz .u8 (b))),(5,one (.u64 (py b k))),(6,one (.int k))],[]),J:=fun k=>k<=10/\k<=b.length/\Wq (SI b k),μ:=fun k=>10 - k })]
def zk:Kn:=aO (ae (kC (cL .u8)) al) av fun (b,_) _=>⟨[],[.c (.u64 ((U64.mk (takeF b).1)).n),.c (.int ((((takeF b).2.1:Nat)))),.c (.int (((takeF b).2.2)))],none,false⟩
theorem Ot:CK 110 zk:=ah fun (b,_) _ _=>by
 refine ao Fy (Wa b) Tryz.func110 (?_:(fun q=>(fun o=>(fun h=>(fun u=>(fun c=>(fun w=>(fun p=>(fun v=>b.length*1<=140737488355328->∃ i,(b=b/\0=py b i/\c=(↑i:Int))/\(i<=10/\i<=b.length/\Wq (SI b i))/\∀ (s:Nat),(fun a=>(fun y=>(fun d=>s<=10/\s<=b.length/\Wq (SI b s)->(a<10->(h<=a->0=(takeF b).fst/\c=q/\2=(takeF b).snd.snd)/\(a<h->c<=a/\a<h/\∀ (x:UInt8),(fun e=>(fun j=>b[s]? = some x->0<p.toNat/\I64 (o*a)/\c<=o*a/\o*a<64/\c<=a/\a<h/\∀ (x:UInt8),b[s]? = some x->((↑x.toNat:Int)<(↑p.toNat:Int)->I64 d/\(c<=d/\d<=h)/\(¬j->v)/\(j->I64 d/\e=(takeF b).fst/\d=q/\c=(takeF b).snd.snd))/\((↑p.toNat:Int)<=(↑x.toNat:Int)->I64 d/\∃ g,(b=b/\e=py b g /\ d=(↑g:Int))/\(g <= 10/\g <= b.length/\Wq (SI b g))/\10 - g < 10 - s)) (Str.mk (bk e)=Str.mk (List.take d.toNat b))) ((py b s+(x % p).toNat*y % u) % u)))/\(10<=a->v)) (a+w)) ((2:Nat) ^ (o*a).toNat)) (↑s:Int)) (0=(takeF b).fst/\c=q/\3=(takeF b).snd.snd)) (UInt8.ofNat 128)) (1:Int)) (0:Int)) (18446744073709551616:Nat)) (↑b.length:Int)) (7:Int)) (↑(takeF b).snd.fst:Int));iterate 3 ((all_goals (repeat' with_reducible first|apply a_|refine aY ?_|intro)); (all_goals try (first | exact bq | exact rfl | exact ⟨air b⟩ | (rw [akr ab ab ab] <;> rfl) | (rw [ai3 ab ab ab] <;> rfl) | (rw [aka ap ab ab ab ab ab] <;> rfl) | exact (congrArg Prod.fst (ZJ ap ab)).symm | exact (congrArg (fun t=>((t.2.1:Nat):Int)) (ZJ ap ab)).symm | exact (congrArg (fun t=>t.2.2) (ZJ ap ab)).symm | exact (ajM ab ab ab ab ab) | exact (Yu ab) | decide)); all_goals try first | refine ⟨‹Nat› + 1,?_⟩ | refine ⟨0,?_⟩)
def ae6:bH:=(aP 110 zk afd)
def VJ:aw Tryz.prog (ak tyT) ae6:=(ag Ot Fy)
def agv:bH:=ae6
def VA:aw Tryz.prog (ak tyT) agv:=VJ
def agX:bH:=agv
def Tw:aw Tryz.prog (ak tyT) agX:=VA
def afD:bH:=agX
def Um:aw Tryz.prog (ak tyT) afD:=Tw
def aei:bH:=afD
def UQ:aw Tryz.prog (ak tyT) aei:=Um
def ajU {v:Int} (h:cn v 1 3=false):cK b v=⟨cR,[],1⟩:=tq1 h
def aeU:bH:=aei
def yt:aw Tryz.prog (ak tyT) aeU:=UQ
def ey (c:Command) (term v:Int):Entry × Int:=if bQ c v=0 then (if fx c [] v=0 then (⟨term,gC c [] v⟩,0) else (⟨0,[]⟩,fx c [] v)) else (⟨0,[]⟩,bQ c v)
structure RdM where
 c:Command
 some:Bool
 e:Int
def bg (x:Entry) (v:Int):RdM:=
 if x.b.length=0 then (if v<1\/3<v then ⟨cR,false,1⟩ else ⟨cR,false,0⟩)
 else if ¬ (cK x.b v).e=0 then ⟨cR,false,(cK x.b v).e⟩
 else if cF (cK x.b v).c.kind=0\/v<cF (cK x.b v).c.kind then ⟨cR,false,10⟩
 else ⟨(cK x.b v).c,true,0⟩
variable {term:Int}
def en1 {c:Command} {v:Int} (h:¬ bQ c v=0):ey c term v=(⟨0,[]⟩,bQ c v):=by unfold ey; rw [if_neg h]
def en2 {c:Command} {v:Int} (h:bQ c v=0) (a:¬ fx c [] v=0):ey c term v=(⟨0,[]⟩,fx c [] v):=by unfold ey; rw [if_pos h,if_neg a]
def en3 {c:Command} {v:Int} (h:bQ c v=0) (a:fx c [] v=0):ey c term v=(⟨term,gC c [] v⟩,0):=by unfold ey; rw [if_pos h,if_pos a]
section
variable {x:Entry} {v:Int}
def rdA (h:((x.b.length:Nat):Int)=0) (a:v<1\/3<v):bg x v=⟨cR,false,1⟩:=by unfold bg; rw [if_pos aI,if_pos a]
def rdB (h:((x.b.length:Nat):Int)=0) (a:1<=v) (c:v<=3):bg x v=⟨cR,false,0⟩:=by unfold bg; rw [if_pos aI,if_neg aI]
def rdC (h:¬ ((x.b.length:Nat):Int)=0) (a:¬ (cK x.b v).e=0):bg x v=⟨cR,false,(cK x.b v).e⟩:=by unfold bg; rw [if_neg aI,if_pos a]
def rdD (h:¬ ((x.b.length:Nat):Int)=0) (a:(cK x.b v).e=0) (d:cF (cK x.b v).c.kind=0\/v<cF (cK x.b v).c.kind):bg x v=⟨cR,false,10⟩:=by unfold bg; rw [if_neg aI,if_neg (by rw [a]; simp),if_pos d]
def rdE (h:¬ ((x.b.length:Nat):Int)=0) (a:(cK x.b v).e=0) (d:¬ cF (cK x.b v).c.kind=0) (g:cF (cK x.b v).c.kind<=v):bg x v=⟨(cK x.b v).c,true,0⟩:=by unfold bg; rw [if_neg aI,if_neg (by rw [a]; simp),if_neg aI]
def rdF (h2:v<1\/3<v):bg x v=⟨cR,false,1⟩:=by
 by_cases h:((x.b.length:Nat):Int)=0
 ·exact rdA h h2
 have e:cK x.b v=⟨cR,[],1⟩:=ajU (by unfold cn; rcases h2 with h2 | h2 <;> simp <;> omega);rw [rdC h (by rw [e]; decide),e]
end
def NY:Kn:=aO (ae (kT (.nm .command)) (ae (kC cI) (ae (kC cI) al))) av fun (c,term,v,_) _=>⟨[],[.agg (cellsOf (.nm .entry) ((ey c term v).1)),.c (.int (((ey c term v).2)))],none,false⟩
def abm:CK 54 NY:=ah fun (c,term,v,_) _ _=>by
 refine ao yt [] Tryz.func54 (?_:(fun (e:Int)=>(fun (d:Int)=>(fun (a:Entry × Int)=>bB c (I64 term->I64 v->I64 (bQ c v)->(¬bQ c v=d->d=a.fst.term/\a.fst.b=[]/\bQ c v=a.snd)/\(bQ c v=d->(0:Nat)<=(20000:Nat)/\(I64 e->(¬e=d->d=a.fst.term/\a.fst.b=[]/\e=a.snd)/\(e=d->term=a.fst.term/\gC c [] v=a.fst.b/\d=a.snd))))) (ey c term v)) (0:Int)) (fx c [] v));(repeat' with_reducible first|apply a_|refine aY ?_|intro)
 all_goals (first | exact bq | (rw [en1 ab] <;> rfl) | (rw [en2 ab ab] <;> rfl) | (rw [en3 ab ab] <;> rfl))
def zD:Kn:=aO (ae (kT (.nm .entry)) (ae (kC cI) al)) av fun (x,v,_) _=>⟨[],[.agg (cellsOf (.nm .command) ((bg x v).c)),.c (.bool (.atom (((bg x v).some)))),.c (.int (((bg x v).e)))],none,false⟩
def NM:CK 259 zD:=ah fun (x,v,_) _ _=>by
 refine ao yt [] Tryz.func259 (?_:(fun i=>(fun p=>(fun j=>(fun o=>(fun a=>(fun d=>(fun g=>(fun h=>(fun q=>(fun s=>(fun t=>(fun u=>I64 x.term->x.b.length*1<=140737488355328->I64 v->((↑x.b.length:Int)=a->(v<1\/3<v->q/\s/\h/\g/\a=d.id/\a=d.n/\t/\u/\p/\1=i.e)/\(1<=v/\v<=3->q/\s/\h/\g/\a=d.id/\a=d.n/\t/\u/\p/\a=i.e))/\(¬(↑x.b.length:Int)=a->bB j.c (j.r.length*48<=140737488355328->I64 j.e->(¬j.e=a->q/\s/\h/\g/\a=d.id/\a=d.n/\t/\u/\p/\j.e=i.e)/\(j.e=a->I64 o->(o=a\/v<o->q/\s/\h/\g/\a=d.id/\a=d.n/\t/\u/\p/\10=i.e)/\(¬o=a/\o<=v->bt j.c d (true=i.some/\a=i.e)))))) (Str.mk []=d.text)) (d.chunks=[])) (a=d.client)) (a=d.kind)) (a=d.seq)) (a=d.set)) i.c) (0:Int)) (cF j.c.kind)) (cK x.b v)) (false=i.some)) (bg x v));(repeat' with_reducible first|apply a_|refine aY ?_|intro)
 all_goals (first | exact bq | (rw [rdF ap] <;> rfl) | (rw [rdB ab ab ab] <;> rfl) | (rw [rdC ab ab] <;> rfl) | (rw [rdD ab ab ap] <;> rfl) | (rw [rdE ab ab ab ab] <;> rfl))
def agz:bH:=(aP 259 zD (aP 54 NY aeU))
def GQ:aw Tryz.prog (ak tyT) agz:=(ag NM (ag abm yt))
def im (v:Int) (s:State) (x:Entry):State:=if (bg x v).some=true then (rz s (bg x v).c).1 else s
def nk (v:Int) (s:State) (x:Entry):Reply:=if (bg x v).some=true then (rz s (bg x v).c).2 else ⟨0,0⟩
def pS (v:Int) (s:State) (l:List Entry):State:=l.foldl (im v) s
def pR (v:Int):State->List Entry->List Reply
 | _,[]=>[]
 | s,x :: l=>nk v s x :: pR v (im v s x) l
def pN (v:Int):List Entry->Nat
 | []=>0
 | x :: l=>if (bg x v).e=0 then pN v l+1 else 0
def pE (v:Int):List Entry->Int
 | []=>0
 | x :: l=>if (bg x v).e=0 then pE v l else (bg x v).e
def plS (v:Int) (s:State) (l:List Entry):State:=pS v s (l.take (pN v l))
def plR (v:Int) (s:State) (l:List Entry):List Reply:=pR v s (l.take (pN v l))
section
variable {v:Int} {s:State} {l:List Entry} {x:Entry} {k:Nat}
def Yh (a:l[k]? = some x):im v (pS v s (l.take k)) x=pS v s (l.take (k+1)):=by
 rw [ai a]; unfold pS; rw [List.foldl_append]; rfl
theorem GH:∀ {l:List Entry} {s:State},pR v s (l++[x])=pR v s l++[nk v (pS v s l) x]
 | [],_=>rfl
 | y :: l,s=>by
  show nk v s y :: pR v (im v s y) (l++[x])=nk v s y :: (pR v (im v s y) l++[nk v (pS v (im v s y) l) x]);rw [GH]
def ZB (a:l[k]? = some x):pR v s (l.take k)++[nk v (pS v s (l.take k)) x]=pR v s (l.take (k+1)):=by
 rw [ai a,GH]
theorem DY:∀ {l:List Entry} {s:State},(pR v s l).length=l.length
 | [],_=>rfl
 | y :: l,s=>by
  show (pR v (im v s y) l).length+1=l.length+1;rw [DY]
def okPl (v:Int) (l:List Entry):Prop:=∀ x ∈ l,(bg x v).e=0
theorem HC (h:okPl v (l.take k)) (a:l[k]? = some x) (c:(bg x v).e=0):okPl v (l.take (k+1)):=by
 rw [ai a];intro y hy;rcases abx.1 hy with hy | hy
 ·exact h y hy
 grind
theorem Nw:∀ {l:List Entry},okPl v l->pN v l=l.length/\pE v l=0
 | [],_=>⟨rfl,rfl⟩
 | y :: l,h=>by
  obtain ⟨c,d⟩:=Nw (l:=l) fun z a=>h z (abM _ a);have e:=h y adx;unfold pN pE;grind
theorem Fc:∀ {l:List Entry} {k:Nat},okPl v (l.take k)->l[k]? = some x->¬ (bg x v).e=0->pN v l=k/\pE v l=(bg x v).e
 | [],k,_,a,_=>by simp at a
 | y :: l,0,_,a,c=>by
  simp at a; subst a;unfold pN pE;grind
 | y :: l,k+1,h,a,c=>by
  have d:=h y aa;obtain ⟨g,i⟩:=Fc (l:=l) (k:=k) (fun z j=>h z (by rw [ah7]; exact abM _ j)) (by simpa using a) c;unfold pN pE;rw [if_pos d,if_pos d,g,i]; exact ⟨rfl,rfl⟩
def We (h:okPl v (l.take k)) (a:l[k]? = some x) (c:¬ (bg x v).e=0):pS v s (l.take k)=plS v s l/\pR v s (l.take k)=plR v s l/\(bg x v).e=pE v l:=by
 obtain ⟨d,g⟩:=Fc h a c;unfold plS plR; rw [d,g]; exact ⟨rfl,rfl,rfl⟩
def aa7 (h:okPl v (l.take k)) (a:l.length<=k):pS v s (l.take k)=plS v s l/\pR v s (l.take k)=plR v s l/\0=pE v l:=by
 rw [List.take_of_length_le a] at h ⊢;obtain ⟨c,d⟩:=Nw h;unfold plS plR; rw [c,d,List.take_length]; exact ⟨rfl,rfl,rfl⟩
end
def pI:Code->Code
 | .seq x _=>x
 | c=>c
def gg:Code->Code
 | .seq _ y=>y
 | c=>c
def cdB:Code->Code
 | .block _ c=>c
 | .loop c=>c
 | c=>c
def ajA:Code->Code
 | .rangeFunc _ _ a _=>a
 | c=>c
def akw:Code->Code
 | .rangeFunc _ _ _ b=>b
 | c=>c
def kr:Code->List Oper
 | .region _ a _=>a.toList
 | _=>[]
def Ze (f:Func):Code:=f.body.getD .skip
def MH:Kn:=aO (ae (kC (cL (.nm .entry))) (ae (kC cI) al)) av fun (l,v,_) _=>⟨[],[.c (.fn 258 [] [(0,0),(1,0)])],some ([.box 38 ([.fz (.nm .entry) ((l))]),.box 3 ([.int ((v))])]),true⟩
theorem ac1:CK 226 MH:=ah fun (l,v,_) _ _=>by
 refine dF GQ [] Tryz.func226 (?_:l.length*32<=140737488355328->I64 v->l=l/\v=v);grind
def fG:bH:=(aP 226 MH agz)
def rb:aw Tryz.prog (ak tyT) fG:=(ag ac1 GQ)
end Go.Proofs.YticbaadnibdbkaaGreat
namespace Go.Proofs.YticbaadnibdbkaaGreat
open Go.RowKit
open Go.MapKept (IsKey run_checkKey run_findKey run_setObj_map heap_set heap_alloc)
def VR (k:Int):List (Int × Value)->Bool
 | []=>false
 | p :: r=>decide (k=p.1) || VR k r
def aaj (w:World) (g:Nat) (L:List (Int × Value)):Prop:=
 ∃ a,w.heap[g]? = some (.map a L.length)/\a.toList.map (fun e=>(e.key,e.val))=L.map (fun p=>(Value.int .i64 p.1,p.2))
theorem vU {k:Int}:∀ {l:List MapEntry} {L:List (Int × Value)} {i:Nat},l.map (fun e=>(e.key,e.val))=L.map (fun p=>(Value.int .i64 p.1,p.2))->VR k L=false->Instr.findNow (.int .i64) (.int .i64 k) l i=some none
 | [],[],i,_,_=>rfl
 | e :: l,p :: L,i,h,a=>by
  simp only [ahd,List.cons.injEq,alG] at h;obtain ⟨⟨b,f⟩,c⟩:=h;simp only [VR,Bool.or_eq_false_iff] at a;have d:(k == p.1)=false:=by simpa using a.1
  simp [Instr.findNow,b,Instr.sameNow,d,vU (i:=i+1) c a.2]
section
variable {P:Program} {Q:Exit->Act->World->Prop} {n:Nat} {l rest:List Oper} {fr:Fr} {w:World} {x y z':Operand} {t ty kt et:TypeId} {pos:String} {af:Array Edge} {g:Nat} {L:List (Int × Value)} {k:Int}
def WO.insert {v:Value} (p:ev fr x=some (.map (some g))) (q:ev fr y=some (.int .i64 k)) (r:ev fr z' = some v) (h:aaj w g L) (b:VR k L=false) (u:P.underlying t=some (.map kt et)) (j:P.underlying kt=some (.int .i64))
  (z:∀ w',aaj w' g (L++[(k,v)])->Kp [g] w w' -> WO P Q n l rest fr w') :
  WO P Q n l (⟨none,.insert t x y z',ty,pos,af,none⟩ :: rest) fr w:=by
 obtain ⟨a,c,m⟩:=h;have A:=vU (k:=k) (i:=0) m b;have d:IsKey (.int .i64) (.int .i64 k):=rfl;have o:=heap_set (o':=.map (a.push { key:=.int .i64 k,val:=v,born:=L.length }) (L.length+1)) c;refine WO.s (w':={ w with heap:=w.heap.setIfInBounds g (.map (a.push { key:=.int .i64 k,val:=v,born:=L.length }) (L.length+1)) }) (fun B _ _ _ _ f=>?_) (z _ ⟨_,by simpa using o.1,by simp [m]⟩ ⟨rfl,rfl,rfl,aa,fun i C b=>o.2 i (by simpa using b)⟩);have e:(Instr.mapUpdate t (.map (some g)) (.int .i64 k) v).run P w = .ok () { w with heap:=w.heap.setIfInBounds g (.map (a.push { key:=.int .i64 k,val:=v,born:=L.length }) (L.length+1)) }:=by
  unfold Instr.mapUpdate;simp only [Sem.run_bind,run_underlying u];simp only [Sem.run_bind,MapKept.run_getObj_map c,Result.andThen,run_checkKey j d,run_findKey j A,run_setObj_map _ c]
 simp [execOp,f.ev p,f.ev q,f.ev r,e]
end
def bT:List (Int × List KC):=[(1,[.i 1,.i 3,.b false,.i 0,.i 0,.f 214]),(2,[.i 0,.i 1048576,.b true,.i 5,.i 0,.f 215]),(3,[.i 1,.i 64,.b true,.i 1048576,.i 200,.f 216]),(4,[.i 1,.i 64,.b false,.i 0,.i 0,.f 217])]
def ads:List (Int × Value):=bT.map fun p=>(p.1,.agg (p.2.map KC.val).toArray)
theorem su {k:Int}:∀ {a:List MapEntry} {l:List (Int × List KC)},a.map (fun e=>(e.key,e.val))=(l.map fun p=>(p.1,Value.agg (p.2.map KC.val).toArray)).map (fun p=>(Value.int .i64 p.1,p.2))->getM k a=(dU l k).map fun b=>.agg (b.map KC.val).toArray
 | [],[],_=>rfl
 | e :: l,p :: L,h=>by
  simp only [ahd,List.cons.injEq,alG] at h;obtain ⟨⟨c,f⟩,d⟩:=h;simp only [getM,dU,c,pU];by_cases h:k=p.1
  ·grind
  rw [if_neg (by simpa using fun e=>h e.symm),if_neg h]; exact su d
set_option maxRecDepth 100000 in
def IF {w:World}:jS Tryz.prog 148 #[] w fun r e=>r = .map (some w.heap.size)/\Kp [] w e /\ aaj e w.heap.size ads:=by
 refine jS.enter (args:=[]) Tryz.func148 rfl Tryz.ntmps148 rfl rfl ?_;refine WC.seq (WC.region (WO.v (R.assign rfl) rfl (WO.nil (WX.next ?_))));have c:=Tryz.underlying202;have d:=Tryz.underlying3;refine WC.seq (WC.region (WO.v R.uA rfl ?_));refine WO.v (R.pY (cells:=(((bT.getD 0 (0,[])).2).map KC.val).toArray) rfl bP) rfl (WO.insert (L:=[]) rfl rfl rfl ⟨#[],aio w _,rfl⟩ rfl c d fun t j l=>?_);refine WO.v (R.pY (cells:=(((bT.getD 1 (0,[])).2).map KC.val).toArray) rfl bP) rfl (WO.insert rfl rfl rfl j rfl c d fun u m n=>?_);refine WO.v (R.pY (cells:=(((bT.getD 2 (0,[])).2).map KC.val).toArray) rfl bP) rfl (WO.insert rfl rfl rfl m rfl c d fun x o p=>?_);refine WO.v (R.pY (cells:=(((bT.getD 3 (0,[])).2).map KC.val).toArray) rfl bP) rfl (WO.insert rfl rfl rfl o rfl c d fun y q s=>?_);refine WO.v (R.move rfl) rfl (WO.v (R.assign rfl) rfl (WO.nil (WX.next ?_)));have a:∀ {f g:World},Kp [] w f->Kp [w.heap.size] f g->Kp [] w g:=fun h k=>⟨k.os.trans h.os,k.tape.trans h.tape,k.output.trans h.output,Nat.le_trans h.size k.size,fun b i _=>(k.block b (ac2 i h.size) (by simp; omega)).trans (h.block b i aa)⟩;exact WC.ret (WX.zy Tryz.results148 rfl ⟨rfl,a (a (a (a (Kp.alloc w _) l) n) p) s,q⟩)
theorem Jy:Sat Tryz.prog (ak tyT) 148 [] [] ⟨[],[.c (.xx (.km bT) [])],none,false⟩:=by
 refine ⟨⟨_,Tryz.func148,am,by kernel_rfl⟩,fun G q w s t f b=>?_⟩;cases b;refine IF.mono fun r u ⟨h,j,a,g,l⟩=>⟨[r],rfl,j,.cons ?_ .nil⟩;subst h;have d:=(ahh.1 g).1;refine ⟨[],.nil,rfl,w.heap.size,a,_,rfl,⟨d,fun ⟨i,r,m,n⟩=>by have:=(f.bnd i r _ m n).2.1; omega,fun o=>by have:=f.z _ o; omega⟩,g,fun e p=>?_,fun k=>su l⟩;have:(e.key,e.val) ∈ a.toList.map (fun e=>(e.key,e.val)):=alb.2 ⟨e,p,rfl⟩;grind
end Go.Proofs.YticbaadnibdbkaaGreat
namespace Go.Proofs.YticbaadnibdbkaaGreat
open Go.RowKit
def Re (q:Nat × Nat) (x:UInt8):Nat × Nat:=((q.1+x.toNat) % 65521,(q.2+(q.1+x.toNat) % 65521) % 65521)
def fI (q:Nat × Nat) (l:List UInt8):Nat × Nat:=l.foldl Re q
def cz (s:Nat) (l:List UInt8):Nat:=65536*(fI (s % 65536 % 65521,s / 65536 % 65521) l).2+(fI (s % 65536 % 65521,s / 65536 % 65521) l).1
def Ui {q:Nat × Nat} (a:q.1<65521) (b:q.2<65521):∀ l:List UInt8,(fI q l).1<65521/\(fI q l).2<65521:=fun l=>by
 induction l generalizing q with
 | nil=>exact ⟨a,b⟩
 | cons x l c=>exact c (q:=Re q x) (ahk _ am) (ahk _ am)
def rO {s:Nat} (l:List UInt8):(fI (s % 65536 % 65521,s / 65536 % 65521) l).1<65521/\(fI (s % 65536 % 65521,s / 65536 % 65521) l).2<65521:=Ui (ahk _ am) (ahk _ am) l
def Bx {s:Nat} (l:List UInt8):cz s l<4294967296:=by
 have:=rO (s:=s) l;unfold cz; omega
def yX (l:List UInt8):Nat:=l.foldl (fun w x=>(w*256) % 4294967296 ||| x.toNat) 0
abbrev bF (b:List UInt8):Int:=Vp (((b.getD 0 (aj .u8):UInt8).toNat:Int)*2 ^ 8) ((b.getD 1 (aj .u8):UInt8).toNat:Int)
def az (b:List UInt8):List UInt8 × Int × Int:=
 if b.length<2 then ([],0,2) else if bF b=0\/4096<bF b then ([],0,3) else if (b.length:Int)<2+bF b+4 then ([],0,2)
 else if cz 1 (b.take (2+bF b).toNat)=yX ((b.drop (2+bF b).toNat).take 4) then ((b.drop 2).take ((2+bF b).toNat - 2),2+bF b+4,0) else ([],0,3)
def fJ (x:List UInt8):List UInt8:=[UInt8.ofNat (x.length / 256),UInt8.ofNat x.length]++x
def pP (s:Nat):List UInt8:=[UInt8.ofNat (s / 2 ^ 24),UInt8.ofNat (s / 2 ^ 16),UInt8.ofNat (s / 2 ^ 8),UInt8.ofNat s]
def eh (x:List UInt8):List UInt8:=fJ x++pP (cz 1 (fJ x))
def fS (x:List UInt8):List UInt8 × Int:=if x.length=0\/4096<x.length then ([],4) else (eh x,0)
theorem mL {a b:Nat} (c:b<256):a*256 ||| b=a*256+b:=by
 have:=Nat.two_pow_add_eq_or_of_lt (i:=8) (b:=b) c a;grind
theorem ofNat_toNat (n:Nat):(UInt8.ofNat n).toNat=n % 256:=UInt8.toNat_ofNat'
def GU {s:Nat} (h:s<4294967296):yX (pP s)=s:=by
 simp only [yX,pP,List.foldl_cons,List.foldl_nil,ofNat_toNat];rw [show (0*256) % 4294967296=0*256 from rfl,mL (a:=0) (ahk _ am),alw,adz];have b:s / 2 ^ 24 % 256=s / 16777216:=by omega
 rw [b,Nat.mod_eq_of_lt (a:=s / 16777216*256) aI,mL (ahk _ am),Nat.mod_eq_of_lt (a:=(s / 16777216*256+s / 2 ^ 16 % 256)*256) aI,mL (ahk _ am),Nat.mod_eq_of_lt (a:=((s / 16777216*256+s / 2 ^ 16 % 256)*256+s / 2 ^ 8 % 256)*256) aI,mL (ahk _ am)];omega
variable {x r:List UInt8}
def Cy (h:x.length<=4096):bF (eh x++r)=x.length:=by
 have e:eh x++r=UInt8.ofNat (x.length / 256) :: UInt8.ofNat x.length :: (x++(pP (cz 1 (fJ x))++r)):=by simp [eh,fJ]
 have a:((UInt8.ofNat (x.length / 256)).toNat:Int)*2 ^ 8=((x.length / 256*256:Nat):Int):=by rw [ofNat_toNat]; omega
 rw [e,bF,List.getD_cons_zero,List.getD_cons_succ,List.getD_cons_zero,a,Vp,agr,agr,ofNat_toNat,mL (ahk _ am)];omega
def nz:(eh x).length=x.length+6:=by simp [eh,fJ,pP]
def IE (a:x≠[]) (h:x.length<=4096):az (eh x++r)=(x,(x.length:Int)+6,0):=by
 have d:0<x.length:=List.length_pos_iff.2 a;have e:(eh x++r).length=x.length+6+r.length:=by rw [List.length_append,nz]
 have b:(2+(x.length:Int)).toNat=(fJ x).length:=by simp [fJ]; omega
 have c:eh x++r=fJ x++(pP (cz 1 (fJ x))++r):=by simp [eh]
 unfold az;rw [Cy h,if_neg aI,if_neg aI,if_neg aI,b,c,List.take_left,List.drop_left,show List.take 4 (pP (cz 1 (fJ x))++r)=pP (cz 1 (fJ x)) from List.take_left' rfl,GU (Bx _),if_pos rfl];refine Prod.ext ?_ (Prod.ext (by dsimp only; omega) rfl);simp [fJ]
variable {k:Nat}
theorem Ay (h:x.length<=4096) (a:k<x.length+6):(az ((eh x).take k)).2.2≠0:=by
 by_cases b:k<2
 ·unfold az; rw [if_pos (by rw [List.length_take]; omega)]; decide
 have e:bF ((eh x).take k)=x.length:=by
  have:=Cy (r:=[]) h;grind
 unfold az;grind
def ow (b:List UInt8):0<=bF b:=Int.natCast_nonneg _
abbrev kz:List KC:=[.i 0,.i 0,.b false,.i 0,.i 0,.nf]
def YL (k:Int):List KC:=(dU bT k).getD kz
def recOk (r:Record):Bool:=(dU bT r.kind).isSome && decide (((YL r.kind).getD 0 .nf).int<=r.a) && decide (r.a<=((YL r.kind).getD 1 .nf).int) && decide (0<=r.b) && decide (r.b<=((YL r.kind).getD 3 .nf).int) && decide ((r.x.length:Int)<=((YL r.kind).getD 4 .nf).int)
def qX (k:Int):Bool:=((YL k).getD 2 .nf).bool
def recPut (r:Record):List UInt8:=([UInt8.ofNat r.kind.toNat]++bk r.a.toNat)++(if qX r.kind=true then bk r.b.toNat else [])++r.x
def ay (r:Record):List UInt8 × Int:=if recOk r=true then (recPut r,0) else ([],1)
abbrev kv:Record:=⟨0,0,0,[]⟩
def bI (b:List UInt8):Record × Bool:=
 if b.length=0 then (kv,false) else if (takeF (b.drop 1)).2.2≠0 then (kv,false)
 else if qX ((b.getD 0 (aj .u8):UInt8).toNat:Int)=true then
  if (takeF ((b.drop 1).drop (takeF (b.drop 1)).2.1)).2.2≠0 then (kv,false)
  else (⟨((b.getD 0 (aj .u8):UInt8).toNat:Int),dp (takeF (b.drop 1)).1,dp (takeF ((b.drop 1).drop (takeF (b.drop 1)).2.1)).1,((b.drop 1).drop (takeF (b.drop 1)).2.1).drop (takeF ((b.drop 1).drop (takeF (b.drop 1)).2.1)).2.1⟩,true)
 else (⟨((b.getD 0 (aj .u8):UInt8).toNat:Int),dp (takeF (b.drop 1)).1,0,(b.drop 1).drop (takeF (b.drop 1)).2.1⟩,true)
def aC (b:List UInt8):Record × Int:=if (bI b).2=false then (kv,3) else if (ay (bI b).1).2≠0\/(ay (bI b).1).1≠b then (kv,3) else ((bI b).1,0)
def du (s:Stable) (r:Record):Option Stable:=if r.a<s.floor then none else some { s with floor:=r.a }
def eB (s:Stable) (r:Record):Option Stable:=if r.a<s.term\/(r.a=s.term/\¬ s.vote=0)/\¬ s.vote=r.b then none else some { s with term:=r.a,vote:=r.b }
def df (s:Stable) (r:Record):Option Stable:=if ¬ r.a=(s.log.length:Int)+1 then none else some { s with log:=s.log++[⟨r.b,r.x⟩] }
def eX (s:Stable) (r:Record):Option Stable:=if (s.log.length:Int)<r.a then none else some { s with log:=s.log.take (r.a - 1).toNat }
def cV (s:Stable) (r:Record):Option Stable:=if r.kind=1 then du s r else if r.kind=2 then eB s r else if r.kind=3 then df s r else eX s r
def aG (s:Stable) (r:Record):Stable × Int:=if recOk r=false then (s,1) else match cV s r with
 | some t=>(t,0)
 | none=>(s,5)
def playB:Nat->Stable->List UInt8->Stable × Int
 | 0,s,_=>(s,0)
 | n+1,s,b=>if (az b).2.2≠0 then (s,0) else if (aC (az b).1).2≠0 then (s,0) else if (aG s (aC (az b).1).1).2≠0 then (s,0)
  else ((playB n (aG s (aC (az b).1).1).1 (b.drop (az b).2.1.toNat)).1,(az b).2.1+(playB n (aG s (aC (az b).1).1).1 (b.drop (az b).2.1.toNat)).2)
abbrev sta0:Stable:=⟨0,0,0,[]⟩
def replayF (b:List UInt8):Stable × Int:=playB (b.length+1) sta0 b
theorem ab9 {k:Int} (h:(dU bT k).isSome=true):k=1\/k=2\/k=3\/k=4:=by
 simp only [bT,dU] at h;grind
variable {r:Record}
theorem bR:recOk r=true↔(r.kind=1/\1<=r.a/\r.a<=3/\r.b=0/\r.x=[])\/(r.kind=2/\0<=r.a/\r.a<=1048576/\0<=r.b/\r.b<=5/\r.x=[])\/(r.kind=3/\1<=r.a/\r.a<=64/\0<=r.b/\r.b<=1048576/\r.x.length<=200)\/(r.kind=4/\1<=r.a/\r.a<=64/\r.b=0/\r.x=[]):=by
 have e:∀ l:List UInt8,((l.length:Int)<=0)↔l=[]:=fun l=>by
  simp_all
 constructor
 ·intro h;simp only [recOk,Bool.and_eq_true] at h;obtain ⟨⟨⟨⟨⟨i,c⟩,d⟩,j⟩,f⟩,g⟩:=h;rcases ab9 i with hk | hk | hk | hk <;> rw [hk] at c d f g <;> simp [YL,bT,dU,KC.int] at c d f g
  ·grind
  ·grind
  ·grind
  grind
 rintro (⟨hk,h⟩ | ⟨hk,h⟩ | ⟨hk,h⟩ | ⟨hk,h⟩) <;> simp only [recOk,YL,bT,dU,hk] <;> simp [KC.int] <;> simp_all <;> omega
theorem ju (h:recOk r=true):1<=(recPut r).length/\(recPut r).length<=221:=by
 have c:=cN (n:=r.a.toNat) (by rcases bR.1 h with h | h | h | h <;> omega);have d:=cN (n:=r.b.toNat) (by rcases bR.1 h with h | h | h | h <;> omega);have e:r.x.length<=200:=by rcases bR.1 h with h | h | h | h <;> first | omega | simp [h]
 simp only [recPut];grind
variable {n:Nat}
def nn (h:n<9223372036854775808):dp n=n:=by
 rw [dp,if_pos h]
theorem JV (h:recOk r=true):bI (recPut r)=(r,true):=by
 have d:=bR.1 h;have m:0<=r.a/\r.a<=1048576:=by rcases d with h | h | h | h <;> omega
 have o:0<=r.b/\r.b<=1048576:=by rcases d with h | h | h | h <;> omega
 have e:1<=r.kind/\r.kind<=4:=by rcases d with h | h | h | h <;> omega
 have f:recPut r=UInt8.ofNat r.kind.toNat :: (bk r.a.toNat++((if qX r.kind=true then bk r.b.toNat else [])++r.x)):=by simp [recPut]
 have g:((UInt8.ofNat r.kind.toNat).toNat:Int)=r.kind:=by rw [ofNat_toNat]; omega
 have i:=jA (n:=r.a.toNat) aI ((if qX r.kind=true then bk r.b.toNat else [])++r.x);have j:dp r.a.toNat=r.a:=by rw [nn aI]; omega
 have l:dp r.b.toNat=r.b:=by rw [nn aI]; omega
 unfold bI;rw [f,if_neg aa,List.drop_one,List.tail_cons,i,List.getD_cons_zero,g];dsimp only;rw [if_neg am,j,List.drop_left];by_cases c:qX r.kind=true
 ·rw [if_pos c,if_pos c,jA aI];dsimp only;rw [if_neg am,l,List.drop_left]
 rw [if_neg c,if_neg c,ak_];have:r.b=0:=by
  rcases d with h | h | h | h
  ·grind
  ·exact absurd (by rw [h.1]; rfl) c
  ·exact absurd (by rw [h.1]; rfl) c
  exact h.2.2.2.1
 cases r; simp_all
theorem zT (h:recOk r=true):aC (recPut r)=(r,0):=by
 unfold aC;rw [JV h];simp [ay,h]
variable {b:List UInt8}
theorem xL (h:(aC b).2=0):recOk (aC b).1=true/\b=recPut (aC b).1:=by
 revert h;unfold aC;split
 ·grind
 split
 ·grind
 rename_i f a;intro _;have a:=not_or.1 a;have c:recOk (bI b).1=true:=by
  cases e:recOk (bI b).1
  ·exact absurd a.1 (by simp [ay,e])
  rfl
 refine ⟨c,?_⟩;have d:=adv.1 a.2;simp only [ay,c] at d;exact d.symm
def kn (r:Record):List UInt8:=eh (recPut r)
def encL (l:List Record):List UInt8:=l.flatMap kn
def stepsF:Stable->List Record->Stable × Int
 | s,[]=>(s,0)
 | s,r :: l=>if (aG s r).2=0 then stepsF (aG s r).1 l else (s,(aG s r).2)
theorem sY {s:Stable} (h:(aG s r).2=0):recOk r=true:=by
 unfold aG at h;grind
theorem db (h:(az b).2.2=0):7<=(az b).2.1/\(az b).2.1<=b.length:=by
 have a:0<=bF b:=Int.natCast_nonneg _;revert h;unfold az;grind
theorem nj:∀ {n m:Nat} {s:Stable} {b:List UInt8},b.length<n->b.length<m->playB n s b=playB m s b
 | n+1,m+1,s,b,c,d=>by
  simp only [playB];by_cases a:(az b).2.2=0
  ·have e:=db a;have f:(b.drop (az b).2.1.toNat).length<b.length:=by rw [List.length_drop]; omega
   rw [nj (n:=n) (m:=m) aI aI]
  grind
theorem kQ (r:Record):(kn r).length=(recPut r).length+6:=nz
theorem Ew {s:Stable} {t:List UInt8} (h:(aG s r).2=0):playB (n+1) s (kn r++t)=((playB n (aG s r).1 t).1,(kn r).length+(playB n (aG s r).1 t).2):=by
 have a:=sY h;have c:=ju a;have d:az (kn r++t)=(recPut r,((recPut r).length:Int)+6,0):=IE (by intro e; rw [e] at c; simp at c) aI;have f:(kn r++t).drop (((recPut r).length:Int)+6).toNat=t:=by
  rw [show (((recPut r).length:Int)+6).toNat=(kn r).length by rw [kQ]; omega];grind
 simp only [playB,d,zT a,h,f,kQ];simp
def nu {s:Stable} (h:(az b).2.2≠0):playB n s b=(s,0):=by
 cases n
 ·rfl
 rw [playB,if_pos h]
def Jl:(az []).2.2≠0:=by decide
theorem wX:∀ {l:List Record} {n k:Nat} {s:Stable},(stepsF s l).2=0->(encL l).length<n->∃ j,j<=l.length/\playB n s ((encL l).take k)=((stepsF s (l.take j)).1,((encL (l.take j)).length:Int))/\(stepsF s (l.take j)).2=0/\(encL (l.take j)).length<=k/\(∀ i,i<=l.length->(encL (l.take i)).length<=k->i<=j)
 | [],n,k,s,_,_=>⟨0,Nat.le_refl _,by simp only [encL,List.flatMap_nil,List.take_nil]; rw [nu Jl]; rfl,rfl,by simp [encL],fun i d _=>d⟩
 | r :: l,0,_,_,_,e=>by omega
 | r :: l,n+1,k,s,h,e=>by
  have c:(aG s r).2=0:=by
   unfold stepsF at h;split at h
   ·assumption
   rename_i g; exact absurd h g
  have m:(stepsF (aG s r).1 l).2=0:=by
   unfold stepsF at h;rwa [if_pos c] at h
  have o:=sY c;have w:=ju o;have p:encL (r :: l)=kn r++encL l:=by simp [encL]
  rw [p] at e ⊢;rw [List.length_append] at e;by_cases q:k<(kn r).length
  ·refine ⟨0,ahj _,?_,rfl,by simp [encL],fun i d a=>?_⟩
   ·have f:(kn r++encL l).take k=(kn r).take k:=ag4 aI;rw [f,nu (b:=(kn r).take k) (Ay (x:=recPut r) aI (by rw [kQ] at q; omega))];rfl
   cases i with
   | zero=>exact Nat.le_refl _
   | succ i=>
    rw [ah7] at a;simp only [encL,List.flatMap_cons,List.length_append] at a;omega
  obtain ⟨j,g,t,u,y,v⟩:=wX (l:=l) (n:=n) (k:=k - (kn r).length) m (by have:=kQ r; omega);have f:(kn r++encL l).take k=kn r++(encL l).take (k - (kn r).length):=by
   rw [List.take_append,List.take_of_length_le aI]
  refine ⟨j+1,by simp; omega,?_,?_,?_,fun i d a=>?_⟩
  ·rw [f,Ew c,t,ah7,stepsF,if_pos c];simp [encL]
  ·rw [ah7,stepsF,if_pos c]; exact u
  ·rw [ah7];simp only [encL,List.flatMap_cons,List.length_append];have:(encL (l.take j)).length=(List.flatMap kn (l.take j)).length:=rfl;omega
  cases i with
  | zero=>omega
  | succ i=>
   rw [ah7] at a;simp only [encL,List.flatMap_cons,List.length_append] at a;have:=v i (by simpa using d) (by simp only [encL]; omega);omega
theorem dC:∀ {l m:List Record} {s:Stable},(stepsF s l).2=0->stepsF s (l++m)=stepsF (stepsF s l).1 m
 | [],_,_,_=>rfl
 | r :: l,m,s,h=>by
  rw [List.cons_append,stepsF];simp only [stepsF] at h ⊢;split
  ·rename_i a;rw [if_pos a] at h;rw [dC h]
  grind
def ue (l m:List Record):encL (l++m)=encL l++encL m:=by simp [encL]
structure Dsk where
 b:List UInt8
 synced:Int
 down:Bool
 doomed:Bool
 keep:Int
deriving DecidableEq
def Dsk.OK (d:Dsk):Prop:=0<=d.synced/\d.synced<=d.b.length/\d.b.length<=65536
def Dsk.at_ (d:Dsk) (k:Int):Int:=d.synced+min (max k 0) (d.b.length - d.synced)
def Dsk.ck (d:Dsk) (k:Int):Dsk:=⟨d.b.take (d.at_ k).toNat,d.at_ k,true,false,0⟩
def Dsk.up (d:Dsk):Dsk:=⟨d.b,d.synced,false,false,0⟩
def Dsk.cut (d:Dsk) (n:Int):Dsk:=if d.down=true\/n<0\/(d.b.length:Int)<n then d else ⟨d.b.take n.toNat,n,d.down,d.doomed,d.keep⟩
def Dsk.lh (d:Dsk) (n:Int):Int:=if d.down=true then 30 else if n<0\/(d.b.length:Int)<n then 1 else 0
def Dsk.app (d:Dsk) (x:List UInt8):Dsk:=if d.down=true\/65536 - (d.b.length:Int)<x.length then d else ⟨d.b++x,d.synced,d.down,d.doomed,d.keep⟩
def Dsk.je (d:Dsk) (x:List UInt8):Int:=if d.down=true then 30 else if 65536 - (d.b.length:Int)<x.length then 20 else 0
def Dsk.sync (d:Dsk):Dsk:=if d.down=true then d else if d.doomed=true then d.ck d.keep else ⟨d.b,d.b.length,d.down,d.doomed,d.keep⟩
def Dsk.eV (d:Dsk):Int:=if d.down=true\/d.doomed=true then 30 else 0
def saveF (d:Dsk) (s:Stable) (l:List Record):Dsk × Stable × Int:=
 if l.all recOk=false then (d,s,1) else if (stepsF s l).2≠0 then (d,s,(stepsF s l).2) else if l.length=0 then (d,s,0)
 else if d.je (encL l)≠0 then (d,s,d.je (encL l)) else if (d.app (encL l)).eV≠0 then ((d.app (encL l)).sync,s,(d.app (encL l)).eV)
 else ((d.app (encL l)).sync,(stepsF s l).1,0)
def iw (l:List Entry):Int:=(l.getD (l.length - 1) ⟨0,[]⟩).term
def cX (l:List Entry) (k:Int):Int:=if k=0 then 0 else if k<0\/(l.length:Int)<k then -1 else (l.getD (k - 1).toNat ⟨0,[]⟩).term
def kg (l:List Entry) (n t:Int):Bool:=decide (iw l<t) || decide (t=iw l) && decide ((l.length:Int)<=n)
def g_:List Entry->List Entry->Nat
 | x :: h,y :: a=>if x.term=y.term then g_ h a+1 else 0
 | _,_=>0
def bl (l:List Entry) (k:Int) (m:List Entry):Int × List Entry:=
 if k<0\/(l.length:Int)<k then (0,[]) else if m.length<=g_ (l.drop k.toNat) m then (0,[]) else if (l.drop k.toNat).length<=g_ (l.drop k.toNat) m then (0,m.drop (g_ (l.drop k.toNat) m)) else (k+g_ (l.drop k.toNat) m+1,m.drop (g_ (l.drop k.toNat) m))
def fN (l:List Entry) (k m:Int):List Entry:=if (k<0\/(l.length:Int)<k)\/m<1 then [] else (l.drop k.toNat).take (min m ((l.drop k.toNat).length:Int)).toNat
def gK (l:List Int):Int:=if l.length=0 then 0 else (l.mergeSort (fun a b=>decide (b<=a))).getD (l.length / 2) 0
theorem nF:∀ {h a:List Entry},g_ h a<=h.length/\g_ h a<=a.length
 | [],_=>⟨Nat.le_refl _,ahj _⟩
 | _ :: _,[]=>⟨ahj _,Nat.le_refl _⟩
 | x :: h,y :: a=>by
  have:=nF (h:=h) (a:=a);simp only [g_];grind
theorem ph:∀ {h a:List Entry} {j:Nat} {x y:Entry},j<=g_ h a->h[j]? = some x->a[j]? = some y->(x.term=y.term↔j+1<=g_ h a)
 | u :: h,v :: a,0,x,y,_,c,d=>by
  simp at c d;simp only [g_];grind
 | u :: h,v :: a,j+1,x,y,f,c,d=>by
  simp only [ajm] at c d;simp only [g_] at f ⊢;split at f
  ·rename_i e;rw [if_pos e];rw [ph aI c d]; omega
  omega
def dZ (n m:Int) (b:Bool):Bool:=cn n 0 (if b=true then m else 0)
def oJ (x:Letter):Bool:=(decide (x.kind=1) || decide (x.kind=2) || decide (x.kind=3) || decide (x.kind=4)) && cn x.frm 0 4 && cn x.to 0 4 && !decide (x.frm=x.to) && cn x.term 1 1048576 && cn x.bin 1 3 &&
 dZ x.a 64 (decide (x.kind=1) || decide (x.kind=3) || decide (x.kind=4)) && dZ x.b 1048576 (decide (x.kind=1) || decide (x.kind=3)) && dZ x.c 64 (decide (x.kind=3)) && (!x.ok || decide (x.kind=2) || decide (x.kind=4)) && dZ (x.l.length:Int) 4 (decide (x.kind=3))
def eU (y:Entry):Bool:=cn y.term 1 1048576 && decide ((y.b.length:Int)<=200)
def mayL (x:Letter):Int:=if oJ x=true/\x.l.all eU=true then 0 else 1
def aB (s:Stable) (t:Int):List Record:=if t<=s.term then [] else [⟨2,t,0,[]⟩]
def aX (s:Stable) (me:Int):List Record × Int:=if me<0\/5<=me then ([],1) else if 1048576<=s.term then ([],4) else ([⟨2,s.term+1,me+1,[]⟩],0)
def Fh (s:Stable) (x:Letter):Bool:=decide (s.term<x.term) || decide (s.vote=0) || decide (s.vote=x.frm+1)
def aQ (s:Stable) (x:Letter):List Record × Bool × Int:=
 if ¬ mayL x=0\/¬ x.kind=1 then ([],false,1) else if (x.term<s.term\/Fh s x=false)\/kg s.log x.a x.b=false then (aB s x.term,false,0)
 else if x.term=s.term/\s.vote=x.frm+1 then ([],true,0) else ([⟨2,x.term,x.frm+1,[]⟩],true,0)
def qy (l:List Bool):Bool:=decide ((l.length:Int).tdiv 2<(l.countP id:Nat))
abbrev cr:Letter:=⟨0,0,0,0,0,0,0,0,false,[]⟩
def qR (s:Stable) (r:Route):Letter:=⟨3,r.frm,r.to,s.term,r.next - 1,cX s.log (r.next - 1),r.commit,r.bin,false,fN s.log (r.next - 1) 4⟩
def gI (s:Stable) (r:Route):Letter × Int:=if r.next<1\/(s.log.length:Int)+1<r.next then (cr,1) else if ¬ mayL (qR s r)=0 then (cr,mayL (qR s r)) else (qR s r,0)
def fi:Int->List Entry->List Record
 | _,[]=>[]
 | n,y :: l=>⟨3,n,y.term,y.b⟩ :: fi (n+1) l
def jF (s:Stable) (x:Letter):List Record:=
 aB s x.term++(if (bl s.log x.a x.l).1=0 then [] else [⟨4,(bl s.log x.a x.l).1,0,[]⟩])++fi (x.a+x.l.length - (bl s.log x.a x.l).2.length+1) (bl s.log x.a x.l).2
def aE (s:Stable) (x:Letter):List Record × Bool × Int × Int:=
 if (¬ mayL x=0\/¬ x.kind=3)\/64<x.a+x.l.length then ([],false,0,1) else if x.term<s.term then ([],false,0,0)
 else if cX s.log x.a=x.b then (jF s x,true,x.a+x.l.length,0) else (aB s x.term,false,0,0)
def jC (n:Int) (x:Letter):Int:=if x.ok=true then x.a+1 else if 1<n then min (n - 1) (x.a+1) else 1
def mh (s:Stable) (l:List Int) (k:Int):Int:=if k<min (gK l) s.log.length/\cX s.log (min (gK l) s.log.length)=s.term then min (gK l) s.log.length else k
variable {x:Letter}
theorem fK (h:mayL x=0):0<=x.frm/\x.frm<=4/\0<=x.to/\x.to<=4/\1<=x.term/\x.term<=1048576/\1<=x.bin/\x.bin<=3/\0<=x.a/\x.a<=64/\0<=x.c/\x.c<=64/\x.l.length<=4/\1<=x.kind/\x.kind<=4:=by
 unfold mayL at h;split at h
 ·rename_i d;simp only [oJ,cn,dZ] at d;grind
 cases h
theorem oI:∀ {l:List Record},l.all recOk=true->(encL l).length<=227*l.length
 | [],_=>Nat.le_refl _
 | r :: l,h=>by
  simp only [aik,Bool.and_eq_true] at h;have a:=ju h.1;have c:=oI h.2;have e:encL (r :: l)=kn r++encL l:=by simp [encL]
  rw [e,List.length_append,kQ,List.length_cons]; omega
structure NdC where
 me:Int
 many:Int
 bin:Int
 st:Stable
 role:Int
 commit:Int
 applied:Int
 s:State
def noF (k:Nat) (n:NdC):List AV:=[.int n.me,.int n.many,.ptr (k+1) 0,.int n.bin]++(cellsOf (.nm .stable) n.st++([.int n.role,.int n.commit,.int n.applied]++cellsOf (.nm .state) n.s))
def lNd {a:Type} (k:Nat) (R:PL a):PL (NdC × a):=PL.iso (ax cI (ax cI (ax (ba (k+1) 0) (ax cI (lSt (.nm .stable) (ax cI (ax cI (ax cI (lSt (.nm .state) R))))))))) (fun q=>(⟨q.1,q.2.1,q.2.2.2.1,q.2.2.2.2.1,q.2.2.2.2.2.1,q.2.2.2.2.2.2.1,q.2.2.2.2.2.2.2.1,q.2.2.2.2.2.2.2.2.1⟩,q.2.2.2.2.2.2.2.2.2)) (fun q=>(q.1.me,q.1.many,(),q.1.bin,q.1.st,q.1.role,q.1.commit,q.1.applied,q.1.s,q.2))
structure Nd where
 c:NdC
 d:Dsk
 rp:List Reply
 vs:List Bool
 bn:List Int
 nx:List Int
 mt:List Int
def ndO (k:Nat) (n:Nd):AH:=[.box 103 (noF k n.c++[.own (k+3),.own (k+4),.own (k+5),.own (k+6),.own (k+7)]),.box 147 [.own (k+2),.int n.d.synced,.bool (.atom n.d.down),.bool (.atom n.d.doomed),.int n.d.keep],.row 5 .u8 n.d.b,.row 78 (.nm .reply) n.rp,.row 4 .bool n.vs,.row 3 .int n.bn,.row 3 .int n.nx,.row 3 .int n.mt]
def aeA {a:Type} (k:Nat) (R:PH a):PH (Nd × a):=PH.iso (aH (dN 103 (lNd k (ax (fg (k+3)) (ax (fg (k+4)) (ax (fg (k+5)) (ax (fg (k+6)) (ax (fg (k+7)) dK))))))) (aH (dN 147 (ax (fg (k+2)) (ax cI (ax cB (ax cB (ax cI dK)))))) (aH (e_ 5 .u8) (aH (e_ 78 (.nm .reply)) (aH (e_ 4 .bool) (aH (e_ 3 .int) (aH (e_ 3 .int) (aH (e_ 3 .int) R))))))))
 (fun q=>(⟨q.1.1,⟨q.2.2.1,q.2.1.2.1,q.2.1.2.2.1,q.2.1.2.2.2.1,q.2.1.2.2.2.2.1⟩,q.2.2.2.1,q.2.2.2.2.1,q.2.2.2.2.2.1,q.2.2.2.2.2.2.1,q.2.2.2.2.2.2.2.1⟩,q.2.2.2.2.2.2.2.2))
 (fun q=>((q.1.c,(),(),(),(),(),()),((),q.1.d.synced,q.1.d.down,q.1.d.doomed,q.1.d.keep,()),q.1.d.b,q.1.rp,q.1.vs,q.1.bn,q.1.nx,q.1.mt,q.2))
def mW (n:Nd):AH:=ndO 0 n
def rk:PH Nd:=PH.iso (aeA 0 av) (·.1) (fun n=>(n,()))
structure NdR where
 n:Nd
 l:List Letter
 e:Int
abbrev Nd.save (n:Nd) (l:List Record):Nd:={ n with d:=(saveF n.d n.c.st l).1,c:={ n.c with st:=(saveF n.d n.c.st l).2.1 } }
abbrev Nd.aR (n:Nd) (l:List Record):Int:=(saveF n.d n.c.st l).2.2
def jV (n:NdC) (k:Nat):List Int:=((List.range k).map fun i:Nat=>(i:Int)).filter (fun i=>decide (i≠n.me))
def cP (n:NdC):List Int:=jV n n.many.toNat
def rA (n:NdC) (kd a:Int):Letter:=⟨kd,n.me,a,n.st.term,0,0,0,n.bin,false,[]⟩
def jt (n:Nd) (a:Int):Letter × Int:=gI n.c.st ⟨n.c.me,a,n.nx.getD a.toNat 0,n.c.commit,n.c.bin⟩
def ct (n:Nd):List Int->List Letter × Int
 | []=>([],0)
 | to :: l=>if (jt n to).2=0 then (if (ct n l).2=0 then ((jt n to).1 :: (ct n l).1,0) else ([],(ct n l).2)) else ([],(jt n to).2)
def bD (n:Nd):List Letter × Int:=if n.d.down=true then ([],30) else if n.c.role=2 then ct n (cP n.c) else ([],33)
def Nd.dx:Nat->Nd->Nd
 | 0,n=>n
 | k+1,n=>if n.c.applied<n.c.commit then
   (if pE n.c.bin ((n.c.st.log.drop n.c.applied.toNat).take 1)=0 then Nd.dx k { n with c:={ n.c with s:=plS n.c.bin n.c.s ((n.c.st.log.drop n.c.applied.toNat).take 1),applied:=n.c.applied+1 },rp:=n.rp++plR n.c.bin n.c.s ((n.c.st.log.drop n.c.applied.toNat).take 1) } else n)
  else n
def Nd.apply (n:Nd):Nd:=n.dx (n.c.commit - n.c.applied).toNat
def Nd.eF (n:Nd):Nd:={ n with c:={ n.c with role:=1 },vs:=(List.replicate n.c.many.toNat false).set n.c.me.toNat true,bn:=(List.replicate n.c.many.toNat (0:Int)).set n.c.me.toNat n.c.bin,nx:=List.replicate n.c.many.toNat 0,mt:=List.replicate n.c.many.toNat 0 }
def gA (n:NdC):List Letter:=(cP n).map fun c=>{ rA n 1 c with a:=n.st.log.length,b:=iw n.st.log }
def bj (n:Nd):NdR:=if n.d.down=true then ⟨n,[],30⟩ else if n.c.role=2 then ⟨n,[],0⟩ else if ¬ (aX n.c.st n.c.me).2=0 then ⟨n,[],(aX n.c.st n.c.me).2⟩
 else if ¬ n.aR (aX n.c.st n.c.me).1=0 then ⟨n.save (aX n.c.st n.c.me).1,[],n.aR (aX n.c.st n.c.me).1⟩ else ⟨(n.save (aX n.c.st n.c.me).1).eF,gA (n.save (aX n.c.st n.c.me).1).eF.c,0⟩
def dr (n:NdC) (x:Letter):Bool:=if (¬ mayL x=0\/¬ x.to=n.me)\/n.many<=x.frm then false else if ¬ x.kind=3 then true else if ¬ (aE n.st x).2.2.2=0 then false
 else !(aE n.st x).1.any (fun r=>decide (r.kind=4) && decide (r.a<=n.commit))
def cS (n:Nd) (x:Letter):NdR:=if ¬ (aQ n.c.st x).2.2=0 then ⟨n,[],(aQ n.c.st x).2.2⟩ else if ¬ n.aR (aQ n.c.st x).1=0 then ⟨n.save (aQ n.c.st x).1,[],n.aR (aQ n.c.st x).1⟩
 else ⟨n.save (aQ n.c.st x).1,[{ rA (n.save (aQ n.c.st x).1).c 2 x.frm with ok:=(aQ n.c.st x).2.1 }],0⟩
def Nd.follow (n:Nd):Nd:={ n with c:={ n.c with role:=0 } }
def cc (n:Nd) (x:Letter):NdR:=if ¬ (aE n.c.st x).2.2.2=0 then ⟨n,[],(aE n.c.st x).2.2.2⟩ else if ¬ n.aR (aE n.c.st x).1=0 then ⟨n.save (aE n.c.st x).1,[],n.aR (aE n.c.st x).1⟩
 else let m:=n.save (aE n.c.st x).1
  let f:=if x.term=m.c.st.term then m.follow else m
  if (aE n.c.st x).2.1=true then (let g:=({ f with c:={ f.c with commit:=max f.c.commit (min x.c (aE n.c.st x).2.2.1) } }:Nd).apply; ⟨g,[{ rA f.c 4 x.frm with ok:=true,a:=(aE n.c.st x).2.2.1 }],0⟩)
  else ⟨f,[{ rA f.c 4 x.frm with a:=if x.term=f.c.st.term then min 64 (f.c.st.log.length:Int) else 0 }],0⟩
def fV (n:Nd):NdR:=
 let m:Nd:={ n with c:={ n.c with role:=2 },nx:=List.replicate n.nx.length ((n.c.st.log.length:Int)+1),mt:=List.replicate n.mt.length 0 }
 if (n.c.st.log.length:Int)+1<=64 then (let l:=[⟨3,(n.c.st.log.length:Int)+1,n.c.st.term,[]⟩]; if m.aR l=0 then ⟨m.save l,(bD (m.save l)).1,(bD (m.save l)).2⟩ else ⟨m.save l,[],m.aR l⟩)
 else ⟨m,(bD m).1,(bD m).2⟩
def Nd.SH (n:Nd) (x:Letter):Nd:=
 let e:Int:=n.c.st.log.length
 let nx:=n.nx.set x.frm.toNat (min (jC (n.nx.getD x.frm.toNat 0) x) (e+1))
 let mt:=if x.ok=true then n.mt.set x.frm.toNat (max (n.mt.getD x.frm.toNat 0) (min x.a e)) else n.mt
 { n with nx:=nx,mt:=mt,c:={ n.c with commit:=mh n.c.st (mt.set n.c.me.toNat e) n.c.commit } }
def gw (n:Nd) (x:Letter):NdR:=
 let m:=(n.SH x).apply
 if (n.c.st.log.length:Int)<m.nx.getD x.frm.toNat 0 then ⟨m,[],0⟩ else if (jt m x.frm).2=0 then ⟨m,[(jt m x.frm).1],0⟩ else ⟨m,[],(jt m x.frm).2⟩
def bu (n:Nd) (x:Letter):NdR:=
 let l:=aB n.c.st x.term
 if ¬ n.aR l=0 then ⟨n.save l,[],n.aR l⟩ else
 let m:=n.save l
 if ¬ x.term=m.c.st.term\/m.c.role=0 then ⟨m,[],0⟩ else
 let a:Nd:={ m with bn:=m.bn.set x.frm.toNat x.bin }
 if (x.kind=2/\x.ok=true)/\m.c.role=1 then (let d:Nd:={ a with vs:=a.vs.set x.frm.toNat true }; if qy d.vs=true then fV d else ⟨d,[],0⟩)
 else if x.kind=4/\m.c.role=2 then gw a x else ⟨a,[],0⟩
def bd (n:Nd) (x:Letter):NdR:=if n.d.down=true then ⟨n,[],30⟩ else if dr n.c x=false then ⟨n,[],1⟩ else
 let m:=if n.c.st.term<x.term then n.follow else n
 if x.kind=1 then cS m x else if x.kind=3 then cc m x else bu m x
def Nd.fresh (n:Nd) (b:Int):Nd:={ c:=⟨n.c.me,n.c.many,b,(replayF n.d.b).1,0,0,0,State.mk 1 1 0 0 [] [] []⟩,d:=n.d.up.cut (replayF n.d.b).2,rp:=[],vs:=[],bn:=[],nx:=[],mt:=[] }
def aL (n:Nd) (b:Int):NdR:=if n.d.down=false then ⟨n,[],31⟩ else if ¬ bW b (max (replayF n.d.b).1.floor 1)=0 then ⟨n,[],bW b (max (replayF n.d.b).1.floor 1)⟩
 else let m:=n.fresh b
  if m.c.st.floor<b then (let l:=[⟨1,b,0,[]⟩]; if m.aR l=0 then ⟨m.save l,[],0⟩ else ⟨{ m.save l with d:=(m.save l).d.ck 0 },[],m.aR l⟩) else ⟨m,[],0⟩
structure NdC3 where
 n:Nd
 a:Int
 b:Int
 e:Int
def cE (n:Nd) (c:Command):NdC3:=if n.d.down=true then ⟨n,0,0,30⟩ else if ¬ n.c.role=2 then ⟨n,0,0,33⟩ else if ¬ bQ c n.c.s.version=0 then ⟨n,0,0,bQ c n.c.s.version⟩
 else if c.kind=8/\¬ c.n=n.c.s.version+1 then ⟨n,0,0,1⟩ else if c.kind=8/\lI n.c.s.version n.bn=false then ⟨n,0,0,34⟩
 else if 64<(n.c.st.log.length:Int)+1 then ⟨n,0,0,20⟩ else if ¬ (ey c n.c.st.term n.c.s.version).2=0 then ⟨n,0,0,(ey c n.c.st.term n.c.s.version).2⟩
 else let l:=[⟨3,(n.c.st.log.length:Int)+1,(ey c n.c.st.term n.c.s.version).1.term,(ey c n.c.st.term n.c.s.version).1.b⟩]
  if n.aR l=0 then ⟨n.save l,(n.c.st.log.length:Int)+1,n.c.st.term,0⟩ else ⟨n.save l,0,0,n.aR l⟩
def iz (n:Nd) (k t:Int):Reply × Int:=if n.d.down=true then (⟨0,0⟩,30) else if (k<1\/n.c.applied<k)\/¬ (n.c.st.log.getD (k - 1).toNat ⟨0,[]⟩).term=t then (⟨0,0⟩,15) else (n.rp.getD (k - 1).toNat ⟨0,0⟩,0)
abbrev bZ (a b:Nd):Prop:=a.c.me=b.c.me/\a.c.many=b.c.many/\a.c.bin=b.c.bin/\a.c.st.floor=b.c.st.floor/\a.c.st.term=b.c.st.term/\a.c.st.vote=b.c.st.vote/\a.c.st.log=b.c.st.log/\a.c.role=b.c.role/\a.c.commit=b.c.commit/\a.c.applied=b.c.applied/\a.c.s.version=b.c.s.version/\a.c.s.next=b.c.s.next/\a.c.s.keep=b.c.s.keep/\a.c.s.quota=b.c.s.quota/\a.c.s.sess=b.c.s.sess/\a.c.s.opens=b.c.s.opens/\a.c.s.snaps=b.c.s.snaps/\a.d.synced=b.d.synced/\a.d.down=b.d.down/\a.d.doomed=b.d.doomed/\a.d.keep=b.d.keep/\a.d.b=b.d.b/\a.rp=b.rp/\a.vs=b.vs/\a.bn=b.bn/\a.nx=b.nx/\a.mt=b.mt
abbrev PJ (a b:Nd) (p:Prop):Prop:=a.c.me=b.c.me/\a.c.many=b.c.many/\a.c.bin=b.c.bin/\a.c.st.floor=b.c.st.floor/\a.c.st.term=b.c.st.term/\a.c.st.vote=b.c.st.vote/\a.c.st.log=b.c.st.log/\a.c.role=b.c.role/\a.c.commit=b.c.commit/\a.c.applied=b.c.applied/\a.c.s.version=b.c.s.version/\a.c.s.next=b.c.s.next/\a.c.s.keep=b.c.s.keep/\a.c.s.quota=b.c.s.quota/\a.c.s.sess=b.c.s.sess/\a.c.s.opens=b.c.s.opens/\a.c.s.snaps=b.c.s.snaps/\a.d.synced=b.d.synced/\a.d.down=b.d.down/\a.d.doomed=b.d.doomed/\a.d.keep=b.d.keep/\a.d.b=b.d.b/\a.rp=b.rp/\a.vs=b.vs/\a.bn=b.bn/\a.nx=b.nx/\a.mt=b.mt/\p
structure DkI (d:Dsk) (L:List Record):Prop where
 st:(stepsF sta0 L).2=0
 rep:replayF d.b=((stepsF sta0 L).1,((encL L).length:Int))
 pre:∃ t,d.b=encL L++t
 syn:d.synced=d.b.length
 up:d.down=false->d.b=encL L
variable {L:List Record}
def qw (h:(stepsF sta0 L).2=0):∃ j,j<=L.length/\replayF ((encL L).take k)=((stepsF sta0 (L.take j)).1,((encL (L.take j)).length:Int))/\(stepsF sta0 (L.take j)).2=0/\(encL (L.take j)).length<=k/\∀ i,i<=L.length->(encL (L.take i)).length<=k->i<=j:=by
 obtain ⟨j,a,c,d⟩:=wX (n:=(encL L).length+1) (k:=k) h aI;refine ⟨j,a,?_,d⟩;rw [replayF,<- c];exact nj aI (by rw [List.length_take]; omega)
theorem rY (h:(stepsF sta0 L).2=0):replayF (encL L)=((stepsF sta0 L).1,((encL L).length:Int)):=by
 obtain ⟨j,c,d,e,f,a⟩:=qw (k:=(encL L).length) h;have:=a L.length aI (by rw [List.take_length]; omega);grind
variable {l:List Record}
def DkI.akq {a:Dsk} (m:(stepsF sta0 (L++l)).2=0) (o:(encL L).length<=k) (c:a.b=(encL (L++l)).take k) (p:a.synced=a.b.length) (q:a.down=true):∃ i,i<=l.length/\DkI a (L++l.take i):=by
 obtain ⟨j,s,d,f,g,t⟩:=qw (k:=k) m;have v:=t L.length aa (by rw [List.take_left]; exact o);have e:(L++l).take j=L++l.take (j - L.length):=by rw [List.take_append,List.take_of_length_le aI]
 rw [e] at d f g;rw [List.length_append] at s;refine ⟨j - L.length,aI,f,by rw [c]; exact d,?_,p,fun h=>by rw [q] at h; cases h⟩;refine ⟨(encL (l.drop (j - L.length))).take (k - (encL (L++l.take (j - L.length))).length),?_⟩;have u:encL (L++l)=encL (L++l.take (j - L.length))++encL (l.drop (j - L.length)):=by
  rw [<- ue,List.append_assoc,List.take_append_drop]
 rw [c,u,List.take_append,List.take_of_length_le g]
def DkI.enc {e:Bool} {c f:Int} (d:(stepsF sta0 L).2=0) (a:b=encL L) (g:c=b.length) {h:Bool}:DkI ⟨b,c,h,e,f⟩ L:=
 ⟨d,by rw [a]; exact rY d,⟨[],by rw [adD]; exact a⟩,g,fun _=>a⟩
def AY {i:Nat}:L <+: L++l.take i:=⟨_,rfl⟩
structure SaveR (d:Dsk) (s:Stable) (l L:List Record):Prop where
 ok:(saveF d s l).2.2=0->(saveF d s l).1.down=false/\DkI (saveF d s l).1 (L++l)/\(saveF d s l).2.1=(stepsF s l).1/\(stepsF s l).2=0/\l.all recOk=true/\(saveF d s l).1.doomed=d.doomed/\(saveF d s l).1.keep=d.keep/\(l=[]->saveF d s l=(d,s,0))
 no:(saveF d s l).2.2≠0->(saveF d s l).2.1=s/\l≠[]/\(((saveF d s l).1=d/\(saveF d s l).2.2≠30)\/(d.doomed=true/\(saveF d s l).2.2=30/\(saveF d s l).1.down=true/\(saveF d s l).1.doomed=false/\∃ i,i<=l.length/\DkI (saveF d s l).1 (L++l.take i)))
 len:(saveF d s l).1.b.length<=d.b.length+(encL l).length
 le:d.b.length<=65536->(saveF d s l).1.b.length<=65536
theorem sk:∀ {l:List Record} {s:Stable},(stepsF s l).2=0\/(stepsF s l).2=1\/(stepsF s l).2=5
 | [],_=>.inl rfl
 | r :: l,s=>by
  rw [stepsF];split
  ·exact sk
  dsimp only;unfold aG;grind
variable {d:Dsk}
def DR {s:Stable} (h:DkI d L) (m:d.down=false) (A:s=(stepsF sta0 L).1):SaveR d s l L:=by
 have w:=h.up m;have D:=h.syn;by_cases g:l.all recOk=false
 ·have a:l≠[]:=by rintro rfl; cases g
  constructor <;> rw [saveF,if_pos g]
  ·intro e; cases e
  ·exact fun _=>⟨rfl,a,.inl ⟨rfl,(by decide:(1:Int)≠30)⟩⟩
  ·dsimp only; omega
  exact id
 by_cases i:(stepsF s l).2≠0
 ·have a:l≠[]:=by rintro rfl; exact i rfl
  constructor <;> rw [saveF,if_neg g,if_pos i]
  ·intro e; exact absurd e i
  ·exact fun _=>⟨rfl,a,.inl ⟨rfl,by rcases sk (l:=l) (s:=s) with e | e | e <;> rw [e] <;> decide⟩⟩
  ·dsimp only; omega
  exact id
 have p:(stepsF s l).2=0:=adv.1 i;have v:l.all recOk=true:=by simpa using g
 by_cases o:l.length=0
 ·obtain rfl:=abb o;constructor <;> rw [saveF,if_neg g,if_neg i,if_pos o]
  ·exact fun _=>⟨m,by rw [adD]; exact h,rfl,rfl,rfl,rfl,rfl,fun _=>rfl⟩
  ·intro e; exact absurd rfl e
  ·dsimp only; omega
  exact id
 have a:l≠[]:=by rintro rfl; exact o rfl
 by_cases c:d.je (encL l)≠0
 ·have B:d.je (encL l)=20:=by
   unfold Dsk.je at c ⊢;rw [m] at c ⊢;simp only [Bool.false_eq_true,if_false] at c ⊢;split at c
   ·rename_i q; rw [if_pos q]
   exact absurd rfl c
  constructor <;> rw [saveF,if_neg g,if_neg i,if_neg o,if_pos c]
  ·intro e; exact absurd e c
  ·exact fun _=>⟨rfl,a,.inl ⟨rfl,by dsimp only; rw [B]; decide⟩⟩
  ·dsimp only; omega
  exact id
 have C:¬ 65536 - (d.b.length:Int)<(encL l).length:=by
  intro q;unfold Dsk.je at c;rw [m,if_neg am,if_pos q] at c;exact c am
 have j:d.app (encL l)=⟨d.b++encL l,d.synced,false,d.doomed,d.keep⟩:=by
  rw [Dsk.app,if_neg (by rw [m]; simpa using C),m]
 have y:d.b++encL l=encL (L++l):=by rw [w,ue]
 have z:(stepsF sta0 (L++l)).2=0:=by rw [dC h.st,<- A]; exact p
 by_cases t:d.doomed=true
 ·have u:(d.app (encL l)).eV=30:=by rw [j,Dsk.eV,if_pos (.inr t)]
  have f:(d.app (encL l)).sync=(d.app (encL l)).ck d.keep:=by rw [j,Dsk.sync,if_neg Bool.false_ne_true,if_pos t]
  constructor <;> rw [saveF,if_neg g,if_neg i,if_neg o,if_neg c,if_pos (by rw [u]; decide)]
  ·intro e; rw [u] at e; cases e
  ·refine fun _=>⟨rfl,a,.inr ⟨t,u,by rw [f]; rfl,by rw [f]; rfl,?_⟩⟩;dsimp only;rw [f,j];refine DkI.akq (k:=((⟨d.b++encL l,d.synced,false,d.doomed,d.keep⟩:Dsk).at_ d.keep).toNat) z ?_ (by show List.take _ (d.b++encL l)=_; rw [y]) ?_ rfl
   ·rw [<- w];simp only [Dsk.at_,List.length_append]; omega
   simp only [Dsk.ck,Dsk.at_,List.length_take,List.length_append]; omega
  ·rw [f,j];simp only [Dsk.ck,List.length_take,List.length_append]; omega
  intro _;rw [f,j];simp only [Dsk.ck,List.length_take,List.length_append]; omega
 have u:(d.app (encL l)).eV=0:=by rw [j,Dsk.eV,if_neg (by simpa using t)]
 have f:(d.app (encL l)).sync=⟨d.b++encL l,(d.b++encL l).length,false,d.doomed,d.keep⟩:=by rw [j,Dsk.sync,if_neg Bool.false_ne_true,if_neg t]
 constructor <;> rw [saveF,if_neg g,if_neg i,if_neg o,if_neg c,if_neg (by rw [u]; decide)]
 ·refine fun _=>⟨by rw [f],?_,rfl,p,v,by rw [f],by rw [f],fun e=>absurd e a⟩;dsimp only;rw [f];exact DkI.enc z y rfl
 ·intro e; exact absurd rfl e
 ·rw [f]; dsimp only; rw [List.length_append]; omega
 intro _; rw [f]; dsimp only; rw [List.length_append]; omega
def akO (h:r.kind=1/\1<=r.a/\r.a<=3/\r.b=0/\r.x=[]):recOk r=true:=bR.2 (.inl h)
def agD (h:r.kind=2/\0<=r.a/\r.a<=1048576/\0<=r.b/\r.b<=5/\r.x=[]):recOk r=true:=bR.2 (.inr (.inl h))
def ajx (h:r.kind=3/\1<=r.a/\r.a<=64/\0<=r.b/\r.b<=1048576/\r.x.length<=200):recOk r=true:=bR.2 (.inr (.inr (.inl h)))
def ajz (h:r.kind=4/\1<=r.a/\r.a<=64/\r.b=0/\r.x=[]):recOk r=true:=bR.2 (.inr (.inr (.inr h)))
def oE {s t:Stable} (h:recOk r=true) (e:cV s r=some t):aG s r=(t,0):=by
 rw [aG,if_neg (by rw [h]; decide),e]
def jM {s:Stable} (h:(aG s r).2=0):stepsF s [r]=((aG s r).1,0):=by
 rw [stepsF,if_pos h,stepsF]
variable {t:Int}
theorem xk {s:Stable} {v:Int} (a:0<=t) (c:t<=1048576) (f:0<=v) (g:v<=5) (h:s.term<t\/(s.term=t/\(s.vote=0\/s.vote=v))):stepsF s [⟨2,t,v,[]⟩]=({ s with term:=t,vote:=v },0):=by
 have e:aG s ⟨2,t,v,[]⟩=({ s with term:=t,vote:=v },0):=by
  refine oE (agD ⟨rfl,a,c,f,g,rfl⟩) ?_;rw [cV,if_neg (show ¬ (2:Int)=1 by decide),if_pos rfl,eB,if_neg];grind
 rw [jM (by rw [e]),e]
def nW {s:Stable} (a:0<=t) (c:t<=1048576):stepsF s (aB s t)=({ s with term:=max s.term t,vote:=if s.term<t then 0 else s.vote },0)/\(aB s t).all recOk=true:=by
 unfold aB;split
 ·rename_i h;rw [show max s.term t=s.term by omega,if_neg aI];exact ⟨rfl,rfl⟩
 rename_i h;rw [xk a c aI aI (.inl aI),show max s.term t=t by omega,if_pos aI];refine ⟨rfl,?_⟩;rw [aik,agD ⟨rfl,a,c,by dsimp only; omega,by dsimp only; omega,rfl⟩]; rfl
def wi {y:Entry}:eU y=true↔1<=y.term/\y.term<=1048576/\y.b.length<=200:=by
 simp only [eU,cn,Bool.and_eq_true,decide_eq_true_eq]; omega
theorem xX:∀ {m:List Entry} {s:Stable},m.all eU=true->s.log.length+m.length<=64->stepsF s (fi ((s.log.length:Int)+1) m)=({ s with log:=s.log++m },0)/\(fi ((s.log.length:Int)+1) m).all recOk=true
 | [],s,_,_=>⟨by rw [fi,stepsF,adD],rfl⟩
 | y :: m,s,h,g=>by
  rw [aik,Bool.and_eq_true,wi] at h;rw [List.length_cons] at g;have a:recOk ⟨3,(s.log.length:Int)+1,y.term,y.b⟩=true:=ajx ⟨rfl,by dsimp only; omega,by dsimp only; omega,by dsimp only; omega,by dsimp only; omega,by dsimp only; omega⟩;have e:aG s ⟨3,(s.log.length:Int)+1,y.term,y.b⟩=({ s with log:=s.log++[y] },0):=by
   refine oE a ?_;rw [cV,if_neg (show ¬ (3:Int)=1 by decide),if_neg (show ¬ (3:Int)=2 by decide),if_pos rfl,df,if_neg (by dsimp only; omega)]
  obtain ⟨c,f⟩:=xX (m:=m) (s:={ s with log:=s.log++[y] }) h.2 (by dsimp only; rw [List.length_append,akS]; omega);have i:(((s.log++[y]).length:Nat):Int)+1=(s.log.length:Int)+1+1:=by rw [List.length_append,akS]; omega
  rw [i] at c f;refine ⟨?_,?_⟩
  ·rw [fi,stepsF,if_pos (by rw [e]),e,c]; simp
  rw [fi,aik,a,f]; rfl
theorem CH (h:mayL x=0):x.l.all eU=true:=by
 unfold mayL at h;grind
theorem Ra (h:mayL x=0):0<=x.b:=by
 unfold mayL at h;split at h
 ·rename_i a;simp only [oJ,cn,dZ] at a;grind
 cases h
def fo (s:Stable) (x:Letter):Nat:=g_ (s.log.drop x.a.toNat) x.l
def dW (s:Stable) (x:Letter):List Entry:=if x.l.length<=fo s x then s.log else s.log.take (x.a.toNat+fo s x)++x.l.drop (fo s x)
theorem AQ {l:List Entry} {k:Int} (h:cX l k=t) (a:0<=t) (c:0<=k):k.toNat<=l.length:=by
 unfold cX at h;grind
theorem AG {s:Stable} (c:x.a.toNat<=s.log.length):x.a.toNat+x.l.length<=(dW s x).length/\(dW s x).length<=max s.log.length (x.a.toNat+x.l.length):=by
 have h:=nF (h:=s.log.drop x.a.toNat) (a:=x.l);unfold dW fo;grind
def qn {m:List Entry} (h:m.all eU=true):(m.drop k).all eU=true:=
 ahW.2 fun y a=>ahW.1 h y (alD a)
theorem Us {s:Stable} (h:mayL x=0) (I:s.log.length<=64) (z:x.a+x.l.length<=64) (J:s.term<=x.term) (A:cX s.log x.a=x.b) (B:0<=x.a) (C:1<=x.term) (o:x.term<=1048576) :
  stepsF s (jF s x)=({ s with term:=x.term,vote:=if s.term<x.term then 0 else s.vote,log:=dW s x },0)/\(jF s x).all recOk=true:=by
 have D:=Ra h;have F:=AQ A D B;have q:=CH h;obtain ⟨c,u⟩:=nW (s:=s) (t:=x.term) aI o;have c:stepsF s (aB s x.term)=({ s with term:=x.term,vote:=if s.term<x.term then 0 else s.vote },0):=by rw [c,show max s.term x.term=x.term by omega]
 have G:=nF (h:=s.log.drop x.a.toNat) (a:=x.l);rw [List.length_drop] at G;unfold jF;by_cases f:x.l.length<=fo s x
 ·have e:bl s.log x.a x.l=(0,[]):=by rw [bl,if_neg aI]; exact if_pos f
  rw [e,if_pos rfl,fi,adD,adD,dW,if_pos f];grind
 by_cases g:(s.log.drop x.a.toNat).length<=fo s x
 ·have H:fo s x=s.log.length - x.a.toNat:=by rw [List.length_drop] at g; unfold fo at g ⊢; omega
  have e:bl s.log x.a x.l=(0,x.l.drop (fo s x)):=by rw [bl,if_neg aI]; exact (if_neg f).trans (if_pos g)
  have p:x.a+(x.l.length:Int) - ((x.l.drop (fo s x)).length:Int)+1=(s.log.length:Int)+1:=by rw [List.length_drop]; omega
  rw [e,if_pos rfl,adD];dsimp only;rw [p];obtain ⟨i,j⟩:=xX (m:=x.l.drop (fo s x)) (s:={ s with term:=x.term,vote:=if s.term<x.term then 0 else s.vote }) (qn q) (by dsimp only; rw [List.length_drop]; omega);dsimp only at i j;refine ⟨?_,by rw [aiU,u,j]; rfl⟩;rw [dC (by rw [c]),c];dsimp only;rw [i,dW,if_neg f,List.take_of_length_le (l:=s.log) aI]
 have H:x.a.toNat+fo s x<s.log.length:=by rw [List.length_drop] at g; omega
 have e:bl s.log x.a x.l=(x.a+fo s x+1,x.l.drop (fo s x)):=by rw [bl,if_neg aI]; exact (if_neg f).trans (if_neg g)
 have v:recOk ⟨4,x.a+fo s x+1,0,[]⟩=true:=ajz ⟨rfl,by dsimp only; omega,by dsimp only; omega,rfl,rfl⟩;have w:aG { s with term:=x.term,vote:=if s.term<x.term then 0 else s.vote } ⟨4,x.a+fo s x+1,0,[]⟩=({ s with term:=x.term,vote:=if s.term<x.term then 0 else s.vote,log:=s.log.take (x.a.toNat+fo s x) },0):=by
  refine oE v ?_;rw [cV,if_neg (show ¬ (4:Int)=1 by decide),if_neg (show ¬ (4:Int)=2 by decide),if_neg (show ¬ (4:Int)=3 by decide),eX,if_neg (by dsimp only; omega)];dsimp only;rw [show (x.a+(fo s x:Int)+1 - 1).toNat=x.a.toNat+fo s x by omega]
 have p:x.a+(x.l.length:Int) - ((x.l.drop (fo s x)).length:Int)+1=(((s.log.take (x.a.toNat+fo s x)).length:Nat):Int)+1:=by rw [List.length_drop,List.length_take]; omega
 rw [e];dsimp only;rw [if_neg aI,p];obtain ⟨i,j⟩:=xX (m:=x.l.drop (fo s x)) (s:={ s with term:=x.term,vote:=if s.term<x.term then 0 else s.vote,log:=s.log.take (x.a.toNat+fo s x) }) (qn q) (by dsimp only; rw [List.length_drop,List.length_take]; omega);dsimp only at i j;refine ⟨?_,by rw [aiU,aiU,u,j]; simp [v]⟩;have y:stepsF s (aB s x.term++[⟨4,x.a+fo s x+1,0,[]⟩])=({ s with term:=x.term,vote:=if s.term<x.term then 0 else s.vote,log:=s.log.take (x.a.toNat+fo s x) },0):=by
  rw [dC (by rw [c]),c,jM (by dsimp only; rw [w])];dsimp only;rw [w]
 rw [dC (by rw [y]),y];dsimp only;rw [i,dW,if_neg f]
structure NdOK (n:Nd):Prop where
 d:n.d.OK
 many:3<=n.c.many/\n.c.many<=5
 me:0<=n.c.me/\n.c.me<n.c.many
 log:n.c.st.log.length<=64
 term:0<=n.c.st.term/\n.c.st.term<=1048576
 com:0<=n.c.applied/\n.c.applied<=n.c.commit/\n.c.commit<=n.c.st.log.length
 len:n.c.role=0\/((n.vs.length:Int)=n.c.many/\(n.bn.length:Int)=n.c.many/\(n.nx.length:Int)=n.c.many/\(n.mt.length:Int)=n.c.many)
 rp:(n.rp.length:Int)=n.c.applied
abbrev fr0:State:=State.mk 1 1 0 0 [] [] []
structure UpI (n:Nd) (L:List Record):Prop where
 st:n.c.st=(stepsF sta0 L).1
 bin:1<=n.c.bin/\n.c.bin<=3/\n.c.st.floor=n.c.bin
 role:0<=n.c.role/\n.c.role<=2
 vote:n.c.role≠0->n.c.st.vote=n.c.me+1/\1<=n.c.st.term
 nx:n.c.role=2->∀ i:Nat,(i:Int)<n.c.many->1<=n.nx.getD i 0/\n.nx.getD i 0<=n.c.st.log.length+1
 pl:okPl n.c.bin (n.c.st.log.take n.c.applied.toNat)/\n.c.s=pS n.c.bin fr0 (n.c.st.log.take n.c.applied.toNat)/\n.rp=pR n.c.bin fr0 (n.c.st.log.take n.c.applied.toNat)
structure NInv (n:Nd) (L:List Record):Prop where
 ok:NdOK n
 d:DkI n.d L
 le:∀ r ∈ L,r.kind=3->1<=r.b
 up:n.d.down=false->UpI n L
structure LetI (n:Nd) (x:Letter):Prop where
 up:n.d.down=false
 frm:x.frm=n.c.me
 to:x.to≠n.c.me/\0<=x.to/\x.to<n.c.many
 term:x.term=n.c.st.term
 bin:x.bin=n.c.bin
 ask:x.kind=1->n.c.st.vote=n.c.me+1
 vote:x.kind=2->x.ok=true->n.c.st.vote=x.to+1
 copy:x.kind=3->n.c.role=2
structure StepR (n:Nd) (L:List Record) (n':Nd) (l:List Letter) (L':List Record):Prop where
 inv:NInv n' L'
 pre:L <+: L'
 me:n'.c.me=n.c.me/\n'.c.many=n.c.many
 len:n'.d.b.length<=n.d.b.length+1400
 lets:∀ x ∈ l,LetI n' x
 mono:n.d.down=false->n'.d.down=false->n.c.commit<=n'.c.commit/\n'.c.st.log.take n.c.commit.toNat=n.c.st.log.take n.c.commit.toNat/\n'.c.bin=n.c.bin
variable {n:Nd}
def StepR.refl (h:NInv n L):StepR n L n [] L:=
 ⟨h,List.prefix_refl _,⟨rfl,rfl⟩,aI,fun _ a=>(by cases a),fun _ _=>⟨agO _,rfl,rfl⟩⟩
theorem rX {s:Stable} (h:SaveR d s l L) (c:l.length<=6):(saveF d s l).1.b.length<=d.b.length+1400:=by
 cases a:l.all recOk
 ·have e:saveF d s l=(d,s,1):=by rw [saveF,if_pos a]
  grind
 have:=h.len;have:=oI a;omega
def MG (n:Nd) (l:List Record):(n.save l).c={ n.c with st:=(saveF n.d n.c.st l).2.1 }:=rfl
def RI (n:Nd) (l:List Record):(n.save l).d=(saveF n.d n.c.st l).1:=rfl
theorem qu {s t:Stable} (a:recOk r=true) (h:cV s r=some t) (c:s.log.length<=64) (e:0<=s.term/\s.term<=1048576):t.log.length<=64/\0<=t.term/\t.term<=1048576:=by
 have f:=bR.1 a;unfold cV at h;split at h
 ·unfold du at h;grind
 split at h
 ·unfold eB at h;grind
 split at h
 ·unfold df at h;grind
 unfold eX at h;grind
theorem jj {s:Stable} (h:(aG s r).2=0):recOk r=true/\cV s r=some (aG s r).1:=by
 have a:=sY h;unfold aG at h ⊢;grind
theorem oZ:∀ {l:List Record} {s:Stable},s.log.length<=64->0<=s.term/\s.term<=1048576->(stepsF s l).1.log.length<=64/\0<=(stepsF s l).1.term/\(stepsF s l).1.term<=1048576
 | [],_,a,c=>⟨a,c⟩
 | r :: l,s,a,c=>by
  rw [stepsF];split
  ·rename_i h;obtain ⟨e,f⟩:=jj h;obtain ⟨g,i⟩:=qu e f a c;exact oZ g i
  grind
theorem Al {s:Stable} (h:SaveR d s l L) (c:d.OK):(saveF d s l).1.OK:=by
 by_cases e:(saveF d s l).2.2=0
 ·have a:=(h.ok e).2.1.syn;exact ⟨aI,aI,h.le c.2.2⟩
 rcases (h.no e).2.2 with ⟨a,_⟩ | ⟨_,_,_,_,i,_,a⟩
 ·grind
 have f:=a.syn;exact ⟨aI,aI,h.le c.2.2⟩
theorem kJ (h:NInv n L) (q:n.d.down=false) (u:l.length<=6) (B:∀ r ∈ l,r.kind=3->1<=r.b) (v:n.aR l≠0):∃ w,StepR n L (n.save l) [] w:=by
 have j:=h.up q;have m:=DR (l:=l) h.d q j.st;have f:=rX m u;have g:=Al m h.ok.d;obtain ⟨s,C,o⟩:=m.no v;have a:(n.save l).c=n.c:=by rw [MG,s]
 have p:NdOK (n.save l):=⟨g,by rw [a]; exact h.ok.many,by rw [a]; exact h.ok.me,by rw [a]; exact h.ok.log,by rw [a]; exact h.ok.term,by rw [a]; exact h.ok.com,by rw [a]; exact h.ok.len,by rw [a]; exact h.ok.rp⟩;rcases o with ⟨o,_⟩ | ⟨_,_,y,_,i,_,z⟩
 ·have e:n.save l=n:=by
   unfold Nd.save; rw [s,o]
  rw [e]; exact ⟨L,StepR.refl h⟩
 refine ⟨L++l.take i,⟨p,z,fun r hr=>?_,fun g=>?_⟩,AY,by rw [a]; exact ⟨rfl,rfl⟩,f,fun _ A=>(by cases A),fun _ g=>?_⟩
 ·rcases abx.1 hr with hr | hr
  ·exact h.le r hr
  grind
 ·grind
 rw [RI,y] at g; cases g
structure SaveY (n:Nd) (L l:List Record):Prop where
 d:DkI (n.save l).d (L++l)
 dn:(n.save l).d.down=false
 st:(n.save l).c.st=(stepsF n.c.st l).1
 sts:(n.save l).c.st=(stepsF sta0 (L++l)).1
 le:∀ r ∈ L++l,r.kind=3->1<=r.b
 len:(n.save l).d.b.length<=n.d.b.length+1400
 ok:(n.save l).d.OK
 lt:(n.save l).c.st.log.length<=64/\0<=(n.save l).c.st.term/\(n.save l).c.st.term<=1048576
 no:l=[]->n.save l=n
theorem oa (h:NInv n L) (i:n.d.down=false) (j:l.length<=6) (u:∀ r ∈ l,r.kind=3->1<=r.b) (m:n.aR l=0):SaveY n L l:=by
 have a:=h.up i;have f:=DR (l:=l) h.d i a.st;obtain ⟨o,p,q,v,w,y,z,s⟩:=f.ok m;have g:(n.save l).c.st=(stepsF n.c.st l).1:=q;refine ⟨p,o,g,?_,fun r hr=>?_,rX f j,Al f h.ok.d,?_,fun e=>?_⟩
 ·rw [g,dC h.d.st,a.st]
 ·rcases abx.1 hr with hr | hr
  ·exact h.le r hr
  grind
 ·rw [g]; exact oZ h.ok.log h.ok.term
 unfold Nd.save; rw [s e]
theorem Tl {c:Type} {a b:List c} {j:Nat} (h:a.take k=b.take k) (e:j<=k):a.take j=b.take j:=by
 have f:a.take j=(a.take k).take j:=by rw [alC,ag3 e]
 grind
theorem lT (h:NInv n L) (f:n.d.down=false) (y:SaveY n L l) (g:n.c.role≠0->(n.save l).c.st.vote=n.c.me+1/\1<=(n.save l).c.st.term) (j:(n.save l).c.st.floor=n.c.st.floor)
  (e:(n.save l).c.st.log.take n.c.commit.toNat=n.c.st.log.take n.c.commit.toNat) (m:n.c.commit<=((n.save l).c.st.log.length:Int)) (v:n.c.role=2->n.c.st.log.length<=(n.save l).c.st.log.length):StepR n L (n.save l) [] (L++l):=by
 have a:=h.up f;have o:(n.save l).c.st.log.take n.c.applied.toNat=n.c.st.log.take n.c.applied.toNat:=Tl e (by have:=h.ok.com; omega);refine ⟨⟨⟨y.ok,h.ok.many,h.ok.me,y.lt.1,y.lt.2,⟨h.ok.com.1,h.ok.com.2.1,m⟩,h.ok.len,h.ok.rp⟩,y.d,y.le,fun _=>⟨y.sts,⟨a.bin.1,a.bin.2.1,j.trans a.bin.2.2⟩,a.role,g,fun p i q=>?_,?_⟩⟩,List.prefix_append _ _,⟨rfl,rfl⟩,y.len,fun _ u=>(by cases u),fun _ _=>⟨agO _,e,rfl⟩⟩
 ·have w:=a.nx p i q;grind
 show okPl n.c.bin ((n.save l).c.st.log.take n.c.applied.toNat)/\n.c.s=pS n.c.bin fr0 ((n.save l).c.st.log.take n.c.applied.toNat)/\n.rp=pR n.c.bin fr0 ((n.save l).c.st.log.take n.c.applied.toNat);rw [o]; exact a.pl
def NInv.follow {n:Nd} {L:List Record} (h:NInv n L):NInv n.follow L:=
 ⟨⟨h.ok.d,h.ok.many,h.ok.me,h.ok.log,h.ok.term,h.ok.com,.inl rfl,h.ok.rp⟩,h.d,h.le,fun e=>by
  have a:=h.up e;exact ⟨a.st,a.bin,⟨agO 0,(by decide:(0:Int)<=2)⟩,fun c=>absurd rfl c,fun c=>absurd (show (0:Int)=2 from c) am,a.pl⟩⟩
variable {L':List Record} {n':Nd}
def StepR.lQ {l:List Letter} (h:StepR n.follow L n' l L'):StepR n L n' l L':=⟨h.inv,h.pre,h.me,h.len,h.lets,h.mono⟩
theorem xv {n:NdC} {i:Int} (h:i ∈ cP n):i≠n.me/\0<=i/\i<n.many:=by
 unfold cP jV at h;grind
variable {to:Int}
theorem aci (h:(jt n to).2=0):(jt n to).1=qR n.c.st ⟨n.c.me,to,n.nx.getD to.toNat 0,n.c.commit,n.c.bin⟩:=by
 unfold jt gI at h ⊢;grind
def Iu (a:n.d.down=false) (f:n.c.role=2) (h:(jt n to).2=0) (g:to≠n.c.me/\0<=to/\to<n.c.many):LetI n (jt n to).1:=by
 rw [aci h];exact ⟨a,rfl,g,rfl,rfl,fun e=>absurd (show (3:Int)=1 from e) am,fun e=>absurd (show (3:Int)=2 from e) am,fun _=>f⟩
theorem Aa {n:Nd}:∀ {l:List Int} {x:Letter},x ∈ (ct n l).1->∃ to ∈ l,(jt n to).2=0/\x=(jt n to).1
 | t :: l,x,h=>by
  unfold ct at h;split at h
  ·rename_i a;split at h
   ·rcases ado.1 h with rfl | h
    ·grind
    obtain ⟨u,c,k⟩:=Aa h;grind
   cases h
  cases h
def pc (a:x ∈ (bD n).1):LetI n x:=by
 unfold bD at a;split at a
 ·cases a
 rename_i c;split at a
 ·rename_i e;obtain ⟨to,f,g,rfl⟩:=Aa a;exact Iu (by simpa using c) e g (xv f)
 cases a
def StepR.tell {l:List Letter} (h:StepR n L n' [] L') (a:∀ x ∈ l,LetI n' x):StepR n L n' l L':=⟨h.inv,h.pre,h.me,h.len,a,h.mono⟩
def DQ (a:n.d.down=false) (f:n.c.st.vote=n.c.me+1) (g:x ∈ gA n.c):LetI n x:=by
 obtain ⟨to,h,rfl⟩:=alb.1 g;exact ⟨a,rfl,xv h,rfl,rfl,fun _=>f,fun e=>absurd (show (1:Int)=2 from e) am,fun e=>absurd (show (1:Int)=3 from e) am⟩
def Sq {s:Stable} {m:Int} (h:(aX s m).2=0) (e:0<=m) (f:0<=s.term):aX s m=([⟨2,s.term+1,m+1,[]⟩],0)/\stepsF s [⟨2,s.term+1,m+1,[]⟩]=({ s with term:=s.term+1,vote:=m+1 },0):=by
 unfold aX at h ⊢;split at h
 ·cases h
 rename_i a;split at h
 ·cases h
 rename_i c;rw [if_neg a,if_neg c];exact ⟨rfl,xk aI aI aI aI (.inl aI)⟩
variable {k:Int}
def aaL {a b:Int} (c:k≠3):∀ r ∈ [Record.mk k a b []],r.kind=3->1<=r.b:=fun r f e=>by
 rw [abL.1 f] at e; exact absurd e c
def JJ (h:NInv n L):∃ L',StepR n L (bj n).n (bj n).l L':=by
 unfold bj;split
 ·exact ⟨L,.refl h⟩
 rename_i j;have f:n.d.down=false:=by simpa using j
 split
 ·exact ⟨L,.refl h⟩
 rename_i i;split
 ·exact ⟨L,.refl h⟩
 rename_i m;obtain ⟨o,p⟩:=Sq (adv.1 m) h.ok.me.1 h.ok.term.1;rw [o];dsimp only;split
 ·rename_i g;exact kJ h f aa (aaL am) g
 rename_i g;have y:=oa h f aa (aaL am) (adv.1 g);have e:=h.up f;have a:=y.st;rw [p] at a;generalize v:[Record.mk 2 (n.c.st.term+1) (n.c.me+1) []]=l at *;have w:=h.ok.me;have q:=h.ok.many;refine ⟨L++l,⟨⟨⟨y.ok,h.ok.many,h.ok.me,y.lt.1,y.lt.2,?_,?_,h.ok.rp⟩,y.d,y.le,fun _=>⟨y.sts,⟨e.bin.1,e.bin.2.1,?_⟩,⟨(by decide:(0:Int)<=1),(by decide:(1:Int)<=2)⟩,fun _=>?_,fun i=>absurd (show (1:Int)=2 from i) am,?_⟩⟩,List.prefix_append _ _,⟨rfl,rfl⟩,y.len,fun x u=>DQ y.dn ?_ u,fun _ _=>⟨agO _,?_,rfl⟩⟩⟩
 ·show 0<=n.c.applied/\n.c.applied<=n.c.commit/\n.c.commit<=((n.save l).c.st.log.length:Int);rw [a]; exact h.ok.com
 ·refine .inr ⟨?_,?_,?_,?_⟩
  ·show ((((List.replicate n.c.many.toNat false).set n.c.me.toNat true).length:Nat):Int)=n.c.many;rw [aeD,ag6]; omega
  ·show ((((List.replicate n.c.many.toNat (0:Int)).set n.c.me.toNat n.c.bin).length:Nat):Int)=n.c.many;rw [aeD,ag6]; omega
  ·show (((List.replicate n.c.many.toNat (0:Int)).length:Nat):Int)=n.c.many;rw [ag6]; omega
  show (((List.replicate n.c.many.toNat (0:Int)).length:Nat):Int)=n.c.many;rw [ag6]; omega
 ·show (n.save l).c.st.floor=n.c.bin;rw [a]; exact e.bin.2.2
 ·show (n.save l).c.st.vote=n.c.me+1/\1<=(n.save l).c.st.term;rw [a]; exact ⟨rfl,by have:=h.ok.term.1; dsimp only; omega⟩
 ·show okPl n.c.bin ((n.save l).c.st.log.take n.c.applied.toNat)/\n.c.s=pS n.c.bin fr0 ((n.save l).c.st.log.take n.c.applied.toNat)/\n.rp=pR n.c.bin fr0 ((n.save l).c.st.log.take n.c.applied.toNat);rw [a]; exact e.pl
 ·show (n.save l).c.st.vote=n.c.me+1;rw [a]
 show (n.save l).c.st.log.take n.c.commit.toNat=_;rw [a]
theorem CS:∀ {k:Nat} {n:Nd} {L:List Record},NInv n L->n.d.down=false->NInv (n.dx k) L/\(n.dx k).d=n.d/\(n.dx k).c={ n.c with s:=(n.dx k).c.s,applied:=(n.dx k).c.applied }/\(n.dx k).vs=n.vs/\(n.dx k).bn=n.bn/\(n.dx k).nx=n.nx/\(n.dx k).mt=n.mt
 | 0,n,L,h,_=>⟨h,rfl,rfl,rfl,rfl,rfl,rfl⟩
 | k+1,n,L,h,o=>by
  unfold Nd.dx;split
  ·rename_i J;split
   ·rename_i f;have a:=h.up o;have q:=h.ok.com;obtain ⟨x,g⟩:∃ x,n.c.st.log[n.c.applied.toNat]? = some x:=⟨_,List.getElem?_eq_getElem aI⟩;have e:(n.c.st.log.drop n.c.applied.toNat).take 1=[x]:=by
     obtain ⟨i,j⟩:=aad.1 g;rw [ag2 i,j]; rfl
    rw [e] at f ⊢;have m:(bg x n.c.bin).e=0:=by
     unfold pE at f;split at f
     ·assumption
     exact f
    have u:plS n.c.bin n.c.s [x]=im n.c.bin n.c.s x:=by
     unfold plS pN pN;rw [if_pos m]; rfl
    have v:plR n.c.bin n.c.s [x]=[nk n.c.bin n.c.s x]:=by
     unfold plR pN pN;rw [if_pos m]; rfl
    have w:(n.c.applied+1).toNat=n.c.applied.toNat+1:=by omega
    obtain ⟨y,p,z⟩:=a.pl;rw [u,v];have A:NInv { n with c:={ n.c with s:=im n.c.bin n.c.s x,applied:=n.c.applied+1 },rp:=n.rp++[nk n.c.bin n.c.s x] } L:=by
     refine ⟨⟨h.ok.d,h.ok.many,h.ok.me,h.ok.log,h.ok.term,⟨by dsimp only; omega,by dsimp only; omega,q.2.2⟩,h.ok.len,?_⟩,h.d,h.le,fun _=>⟨a.st,a.bin,a.role,a.vote,a.nx,?_⟩⟩
     ·dsimp only;rw [List.length_append,akS];have:=h.ok.rp; omega
     dsimp only;rw [w];refine ⟨HC y g m,?_,?_⟩
     ·rw [p]; exact Yh g
     rw [z,p]; exact ZB g
    obtain ⟨B,C,D,F,G,H,I⟩:=CS (k:=k) A o;exact ⟨B,C,D,F,G,H,I⟩
   grind
  grind
theorem lu {s:Stable}:∀ r ∈ aB s t,r.kind=3->1<=r.b:=fun r a e=>by
 unfold aB at a;grind
def fY {s:Stable}:(aB s t).length<=1:=by
 unfold aB;split <;> simp
theorem qh (h:mayL x=0):x.frm≠x.to:=by
 unfold mayL at h;split at h
 ·rename_i a;simp only [oJ] at a;grind
 cases h
structure ForMe (n:Nd) (x:Letter):Prop where
 may:mayL x=0
 to:x.to=n.c.me
 frm:x.frm<n.c.many
theorem xJ (h:dr n.c x=true):ForMe n x/\(x.kind=3->(aE n.c.st x).2.2.2=0/\(aE n.c.st x).1.any (fun r=>decide (r.kind=4) && decide (r.a<=n.c.commit))=false):=by
 unfold dr at h;split at h
 ·cases h
 rename_i e;refine ⟨⟨aI,aI,aI⟩,fun f=>?_⟩;grind
theorem ac0 {s:Stable} (h:(aQ s x).2.2=0) (i:mayL x=0):(aQ s x).1.length<=1/\(∀ r ∈ (aQ s x).1,r.kind=3->1<=r.b) /\
  (stepsF s (aQ s x).1)=({ s with term:=max s.term x.term,vote:=if (aQ s x).2.1=true then x.frm+1 else if s.term<x.term then 0 else s.vote },0) /\
  ((aQ s x).2.1=true->s.term<=x.term/\(x.term=s.term->s.vote=0\/s.vote=x.frm+1))/\(x.term<=s.term->(aQ s x).2.1=false->(aQ s x).1=[])/\(x.term<=s.term->s.vote≠0->(aQ s x).1=[]):=by
 have o:=fK i;unfold aQ at h ⊢;split at h
 ·cases h
 rename_i j;rw [if_neg j];split at h
 ·rename_i a;rw [if_pos a];have:=(nW (s:=s) (t:=x.term) aI aI).1;refine ⟨fY,lu,?_,fun e=>(by cases e),fun e _=>(by unfold aB; rw [if_pos e]),fun e _=>(by unfold aB; rw [if_pos e])⟩;dsimp only;rw [this]; simp
 rename_i a;rw [if_neg a];have c:s.term<=x.term/\Fh s x=true:=by
  rw [not_or,not_or] at a;exact ⟨aI,by simpa using a.1.2⟩
 have f:x.term=s.term->s.vote=0\/s.vote=x.frm+1:=fun e=>by
  have:=c.2;simp only [Fh,Bool.or_eq_true,decide_eq_true_eq] at this;omega
 split
 ·rename_i g;refine ⟨aa,fun _ m=>(by cases m),?_,fun _=>⟨c.1,f⟩,fun _ _=>rfl,fun _ _=>rfl⟩;dsimp only;rw [stepsF,if_pos rfl,show max s.term x.term=s.term by omega,<- g.2]
 rename_i g;refine ⟨aa,aaL am,?_,fun _=>⟨c.1,f⟩,fun _ e=>(by cases e),fun p q=>?_⟩
 ·dsimp only;rw [xk aI aI aI aI aI,if_pos rfl,show max s.term x.term=x.term by omega]
 grind
theorem GJ (h:NInv n L) (i:n.d.down=false) (a:ForMe n x) (o:n.c.role≠0->x.term<=n.c.st.term):∃ L',StepR n L (cS n x).n (cS n x).l L':=by
 unfold cS;split
 ·exact ⟨L,.refl h⟩
 rename_i p;obtain ⟨B,m,q,C,D,s⟩:=ac0 (adv.1 p) a.may;split
 ·rename_i j;exact kJ h i aI m j
 rename_i j;have y:=oa h i aI m (adv.1 j);have f:=y.st;rw [q] at f;have u:=h.up i;refine ⟨_,(lT h i y (fun g=>?_) (by rw [f]) (by rw [f]) (by rw [f]; exact h.ok.com.2.2) (fun _=>by rw [f]; exact Nat.le_refl _)).tell fun z v=>?_⟩
 ·have F:=u.vote g;have e:=y.no (s (o g) (by have:=h.ok.me; omega));grind
 rw [abL.1 v];have w:=fK a.may;have A:=qh a.may;refine ⟨y.dn,rfl,⟨by have:=a.to; show x.frm≠n.c.me; omega,w.1,a.frm⟩,rfl,rfl,fun e=>absurd (show (2:Int)=1 from e) am,fun _ e=>?_,fun e=>absurd (show (2:Int)=3 from e) am⟩;have e:(aQ n.c.st x).2.1=true:=e;show (n.save (aQ n.c.st x).1).c.st.vote=x.frm+1;grind
theorem FE:∀ {m:List Entry} {k:Int},m.all eU=true->∀ r ∈ fi k m,r.kind=3->1<=r.b
 | y :: m,k,h,r,hr,e=>by
  rw [aik,Bool.and_eq_true,wi] at h;rcases ado.1 hr with rfl | hr
  ·exact h.1.1
  exact FE h.2 r hr e
theorem gk {s:Stable} (h:(aE s x).2.2.2=0):(mayL x=0/\x.kind=3/\x.a+x.l.length<=64)/\((x.term<s.term/\aE s x=([],false,0,0))\/(s.term<=x.term/\cX s.log x.a=x.b/\aE s x=(jF s x,true,x.a+x.l.length,0))\/(s.term<=x.term/\¬ cX s.log x.a=x.b/\aE s x=(aB s x.term,false,0,0))):=by
 unfold aE at h ⊢;split at h
 ·cases h
 grind
theorem wW {s:Stable} (h:mayL x=0):(jF s x).length<=6:=by
 have e:=fK h;have f:=fY (s:=s) (t:=x.term);have g:∀ (m:List Entry) (k:Int),(fi k m).length=m.length:=fun m=>by
  induction m with
  | nil=>intro _; rfl
  | cons y m c=>intro k; rw [fi,List.length_cons,List.length_cons,c]
 have i:(bl s.log x.a x.l).2.length<=x.l.length:=by
  unfold bl;grind
 unfold jF;grind
theorem Xh {s:Stable} (h:mayL x=0):∀ r ∈ jF s x,r.kind=3->1<=r.b:=fun r hr e=>by
 rcases abx.1 hr with hr | hr
 ·rcases abx.1 hr with hr | hr
  ·exact lu r hr e
  grind
 refine FE ?_ r hr e;have:=CH h;unfold bl;grind
theorem xO {s:Stable} (c:mayL x=0) (q:x.a.toNat<=s.log.length) (f:(jF s x).any (fun r=>decide (r.kind=4) && decide (r.a<=k))=false) (u:0<=k) (v:k<=s.log.length):(dW s x).take k.toNat=s.log.take k.toNat/\k<=((dW s x).length:Int):=by
 have w:=fK c;have g:=nF (h:=s.log.drop x.a.toNat) (a:=x.l);rw [List.length_drop] at g;unfold dW;split
 ·grind
 rename_i i;have h2:k.toNat<=x.a.toNat+fo s x\/s.log.length<=x.a.toNat+fo s x:=by
  by_cases j:(s.log.drop x.a.toNat).length<=fo s x
  ·grind
  left;have e:bl s.log x.a x.l=(x.a+fo s x+1,x.l.drop (fo s x)):=by rw [bl,if_neg aI]; exact (if_neg i).trans (if_neg j)
  have m:Record.mk 4 (x.a+fo s x+1) 0 [] ∈ jF s x:=by
   unfold jF;rw [e];dsimp only;rw [if_neg aI];simp
  have o:=List.any_eq_false.1 f _ m;simp only [decide_true,Bool.true_and,decide_eq_true_eq] at o;omega
 have p:k.toNat<=(s.log.take (x.a.toNat+fo s x)).length:=by rw [List.length_take]; omega
 refine ⟨?_,by rw [List.length_append]; omega⟩;rw [ag4 p,alC];rcases h2 with h2 | h2
 ·grind
 grind
theorem yr {s:Stable} (h:(saveF d s l).2.2=0):(saveF d s l).2.1=(stepsF s l).1/\(stepsF s l).2=0:=by
 unfold saveF at h ⊢;split at h
 ·cases h
 rename_i e;split at h
 ·grind
 rename_i a;have a:=adv.1 a;split at h
 ·rename_i c;obtain rfl:=abb c;exact ⟨rfl,rfl⟩
 grind
def tf (h:NdOK n) (q:dr n.c x=true) (s:x.kind=3) (g:(aE n.c.st x).2.1=true) :
  (aE n.c.st x)=(jF n.c.st x,true,x.a+x.l.length,0)/\n.c.st.term<=x.term/\(stepsF n.c.st (jF n.c.st x))=({ n.c.st with term:=x.term,vote:=if n.c.st.term<x.term then 0 else n.c.st.vote,log:=dW n.c.st x },0) /\
  (dW n.c.st x).take n.c.commit.toNat=n.c.st.log.take n.c.commit.toNat/\n.c.commit<=((dW n.c.st x).length:Int)/\x.a+x.l.length<=((dW n.c.st x).length:Int)/\mayL x=0/\cX n.c.st.log x.a=x.b:=by
 obtain ⟨f,u⟩:=xJ q;obtain ⟨v,m⟩:=u s;have B:=fK f.may;obtain ⟨⟨_,_,i⟩,w⟩:=gk v;rcases w with ⟨_,e⟩ | ⟨o,j,e⟩ | ⟨_,_,e⟩
 ·rw [e] at g; cases g
 ·rw [e] at m;have y:=(Us f.may h.log i o j aI aI aI).1;have p:=AQ j (Ra f.may) aI;obtain ⟨z,A⟩:=xO f.may p m (by have:=h.com; omega) h.com.2.2;have C:=AG (x:=x) p;exact ⟨e,o,y,z,A,aI,f.may,j⟩
 rw [e] at g; cases g
def Ff (f:NdOK n) (h:dr n.c x=true) (i:x.kind=3) (j:n.aR (aE n.c.st x).1=0) (m:(aE n.c.st x).2.1=true) :
  (0<=(n.save (aE n.c.st x).1).c.applied/\max (n.save (aE n.c.st x).1).c.commit (min x.c (aE n.c.st x).2.2.1)<=((n.save (aE n.c.st x).1).c.st.log.length:Int))/\((n.save (aE n.c.st x).1).rp.length:Int)<=(n.save (aE n.c.st x).1).c.applied/\(n.save (aE n.c.st x).1).c.st.log.length<=10000:=by
 obtain ⟨e,v,o,w,y,z,_⟩:=tf f h i m;have g:(n.save (aE n.c.st x).1).c.st=(stepsF n.c.st (aE n.c.st x).1).1:=(yr j).1;have p:=oZ (l:=(aE n.c.st x).1) f.log f.term;rw [<- g] at p;have q:(n.save (aE n.c.st x).1).c.st.log=dW n.c.st x:=by
  rw [g,e];dsimp only;rw [o]
 have s:=f.com;have A:=f.rp;have u:(aE n.c.st x).2.2.1=x.a+x.l.length:=by rw [e]
 refine ⟨⟨s.1,?_⟩,?_,aI⟩
 ·show max n.c.commit (min x.c (aE n.c.st x).2.2.1)<=_;rw [q,u]; omega
 show ((n.rp.length:Nat):Int)<=n.c.applied;omega
theorem StepR.commit {n n':Nd} {L L':List Record} {c:Int} (h:StepR n L n' [] L') (g:n'.d.down=false) (i:n'.c.commit<=c) (s:c<=(n'.c.st.log.length:Int)):StepR n L ({ n' with c:={ n'.c with commit:=c } }:Nd).apply [] L' /\
  (({ n' with c:={ n'.c with commit:=c } }:Nd).apply.d=n'.d/\({ n' with c:={ n'.c with commit:=c } }:Nd).apply.c.me=n'.c.me/\({ n' with c:={ n'.c with commit:=c } }:Nd).apply.c.many=n'.c.many/\({ n' with c:={ n'.c with commit:=c } }:Nd).apply.c.st=n'.c.st/\({ n' with c:={ n'.c with commit:=c } }:Nd).apply.c.bin=n'.c.bin/\({ n' with c:={ n'.c with commit:=c } }:Nd).apply.c.role=n'.c.role):=by
 have e:=h.inv.up g;have a:=h.inv.ok;have u:NInv ({ n' with c:={ n'.c with commit:=c } }:Nd) L':=⟨⟨a.d,a.many,a.me,a.log,a.term,⟨a.com.1,aiY a.com.2.1 i,s⟩,a.len,a.rp⟩,h.inv.d,h.inv.le,fun _=>⟨e.st,e.bin,e.role,e.vote,e.nx,e.pl⟩⟩;obtain ⟨v,j,w,H,I,J,K⟩:=CS (k:=(c - n'.c.applied).toNat) u g;have y:({ n' with c:={ n'.c with commit:=c } }:Nd).apply=({ n' with c:={ n'.c with commit:=c } }:Nd).dx (c - n'.c.applied).toNat:=rfl;rw [y];generalize ({ n' with c:={ n'.c with commit:=c } }:Nd).dx (c - n'.c.applied).toNat=q at *;have f:q.c.me=n'.c.me/\q.c.many=n'.c.many/\q.c.st=n'.c.st/\q.c.bin=n'.c.bin/\q.c.role=n'.c.role/\q.c.commit=c:=by rw [w]; exact ⟨rfl,rfl,rfl,rfl,rfl,rfl⟩
 obtain ⟨f,m,o,p,z,A⟩:=f;refine ⟨⟨v,h.pre,by rw [f,m]; exact h.me,by rw [j]; exact h.len,fun _ B=>(by cases B),fun C N=>?_⟩,j,f,m,o,p,z⟩;obtain ⟨D,F,G⟩:=h.mono C g;rw [o,p,A];exact ⟨aiY D i,F,G⟩
def Co (h:NInv n L) (G:n.d.down=false) (N:dr n.c x=true) (O:x.kind=3):∃ L',StepR n L (cc n x).n (cc n x).l L':=by
 obtain ⟨o,T⟩:=xJ N;obtain ⟨H,h4⟩:=T O;have hb:=fK o.may;have U:=qh o.may;have hi:=h.up G;have I:x.frm≠n.c.me/\0<=x.frm/\x.frm<n.c.many:=⟨by have:=o.to; omega,aI,o.frm⟩;have f:(aE n.c.st x).1.length<=6:=by
  rcases (gk H).2 with ⟨_,e⟩ | ⟨_,_,e⟩ | ⟨_,_,e⟩ <;> rw [e]
  ·simp
  ·exact wW o.may
  have:=fY (s:=n.c.st) (t:=x.term); dsimp only; omega
 have u:∀ r ∈ (aE n.c.st x).1,r.kind=3->1<=r.b:=by
  rcases (gk H).2 with ⟨_,e⟩ | ⟨_,_,e⟩ | ⟨_,_,e⟩ <;> rw [e]
  ·intro r V; cases V
  ·exact Xh o.may
  exact lu
 unfold cc;rw [if_neg aI];split
 ·rename_i v;exact kJ h G f u v
 rename_i v;have v:=adv.1 v;have y:=oa h G f u v;generalize P:(aE n.c.st x).1=l at *;have J:((n.save l).c.st.floor=n.c.st.floor)/\(n.save l).c.st.term=max n.c.st.term x.term/\(n.save l).c.st.vote=(if n.c.st.term<x.term then 0 else n.c.st.vote)/\(n.save l).c.st.log.take n.c.commit.toNat=n.c.st.log.take n.c.commit.toNat/\n.c.commit<=((n.save l).c.st.log.length:Int)/\((aE n.c.st x).2.1=true->n.c.st.term<=x.term/\(aE n.c.st x).2.2.1<=((n.save l).c.st.log.length:Int))/\((aE n.c.st x).2.1=false->(n.save l).c.st.log=n.c.st.log):=by
  have a:=y.st;rw [<- P] at a ⊢;rcases (gk H).2 with ⟨p,e⟩ | ⟨e0,_,e⟩ | ⟨_,_,e⟩
  ·rw [e] at a ⊢;rw [a];exact ⟨rfl,by show n.c.st.term=_; omega,by rw [if_neg aI]; rfl,rfl,h.ok.com.2.2,fun q=>(by cases q),fun _=>rfl⟩
  ·have w:(aE n.c.st x).2.1=true:=by rw [e]
   obtain ⟨_,p,g,A,B,C,_⟩:=tf h.ok N O w;rw [e] at a ⊢;dsimp only at a ⊢;rw [a,g];exact ⟨rfl,by dsimp only; omega,rfl,A,B,fun _=>⟨p,C⟩,fun q=>(by cases q)⟩
  have g:=(nW (s:=n.c.st) (t:=x.term) aI aI).1;rw [e] at a ⊢;dsimp only at a ⊢;rw [a,g];exact ⟨rfl,rfl,rfl,rfl,h.ok.com.2.2,fun q=>(by cases q),fun _=>rfl⟩
 obtain ⟨W,s2,s3,X,Y,Z,s7⟩:=J;dsimp only;have i:∀ {m:Nd} {z:Letter},m.d=(n.save l).d->m.c.me=n.c.me->m.c.many=n.c.many->m.c.st=(n.save l).c.st->m.c.bin=n.c.bin->z.kind=4->z.frm=n.c.me->z.to=x.frm->z.term=(n.save l).c.st.term->z.bin=n.c.bin->LetI m z:=fun {m z} p g A B C D K k k4 k5=>
  ⟨by rw [p]; exact y.dn,by rw [g,K],by rw [g,A,k]; exact I,by rw [B,k4],by rw [C,k5],fun e=>absurd (D.symm.trans e) am,fun e=>absurd (D.symm.trans e) am,fun e=>absurd (D.symm.trans e) am⟩
 by_cases Q:x.term=(n.save l).c.st.term
 ·rw [if_pos Q];have S:StepR n L (n.save l).follow [] (L++l):=(lT h.follow G ⟨y.d,y.dn,y.st,y.sts,y.le,y.len,y.ok,y.lt,fun e=>congrArg Nd.follow (y.no e)⟩ (fun j=>absurd rfl j) W X Y (fun j=>absurd (show (0:Int)=2 from j) am)).lQ;by_cases w:(aE n.c.st x).2.1=true
  ·rw [if_pos w];have h6:=(Z w).2;obtain ⟨D,K⟩:=S.commit y.dn (c:=max n.c.commit (min x.c (aE n.c.st x).2.2.1)) (by show n.c.commit<=_; omega) (by show _<=((n.save l).c.st.log.length:Int); omega);obtain ⟨p,g,A,B,C,e6⟩:=K;refine ⟨L++l,D.tell fun z F=>?_⟩;rw [abL.1 F];exact i p g A B C rfl rfl rfl rfl rfl
  rw [if_neg w];refine ⟨L++l,S.tell fun z F=>?_⟩;rw [abL.1 F];exact i rfl rfl rfl rfl rfl rfl rfl rfl rfl rfl
 rw [if_neg Q];have h0:x.term<n.c.st.term:=by omega
 have e:aE n.c.st x=([],false,0,0):=by
  rcases (gk H).2 with ⟨_,e⟩ | ⟨_,_,_⟩ | ⟨_,_,_⟩
  ·exact e
  ·omega
  omega
 have el:l=[]:=by rw [<- P,e]
 rw [e];dsimp only;rw [if_neg am];have r:StepR n L (n.save l) [] L:=by rw [y.no el]; exact StepR.refl h
 refine ⟨L,r.tell fun z F=>?_⟩;rw [abL.1 F];exact i rfl rfl rfl rfl rfl rfl rfl rfl rfl rfl
theorem AL:∀ {n:Nat} {s:Stable} {b:List UInt8},s.log.length<=64->0<=s.term/\s.term<=1048576->((playB n s b).1.log.length<=64/\0<=(playB n s b).1.term/\(playB n s b).1.term<=1048576)/\0<=(playB n s b).2/\(playB n s b).2<=(b.length:Int)
 | 0,_,_,h,k=>⟨⟨h,k⟩,agO _,Int.natCast_nonneg _⟩
 | n+1,s,b,h,k=>by
  unfold playB;split
  ·grind
  rename_i a;split
  ·grind
  split
  ·grind
  rename_i c;have j:=db (adv.1 a);obtain ⟨e,f⟩:=jj (adv.1 c);obtain ⟨g,i⟩:=qu e f h k;obtain ⟨m,o,p⟩:=AL (n:=n) (b:=b.drop (az b).2.1.toNat) g i;grind
def nh (b:List UInt8):((replayF b).1.log.length<=64/\0<=(replayF b).1.term/\(replayF b).1.term<=1048576)/\0<=(replayF b).2/\(replayF b).2<=(b.length:Int):=
 AL aa ⟨am,am⟩
def Zw (h:d.OK):d.up.OK:=h
def acs (h:d.OK) (a:d.down=false) (c:0<=k) (g:k<=(d.b.length:Int)):(d.cut k).OK/\d.lh k=0/\d.cut k=⟨d.b.take k.toNat,k,false,d.doomed,d.keep⟩:=by
 have f:¬ (d.down=true\/k<0\/(d.b.length:Int)<k):=by rw [a]; rintro (h | h | h) <;> first | cases h | omega
 have e:d.cut k=⟨d.b.take k.toNat,k,false,d.doomed,d.keep⟩:=by rw [Dsk.cut,if_neg f,a]
 refine ⟨?_,?_,e⟩
 ·rw [e];refine ⟨c,?_,?_⟩ <;> dsimp only <;> rw [List.length_take]
  ·omega
  have:=h.2.2; omega
 rw [Dsk.lh,if_neg (by rw [a]; decide),if_neg aI]
theorem sE (h:d.OK):(d.ck k).OK:=by
 obtain ⟨a,c,e⟩:=h;refine ⟨?_,?_,?_⟩ <;> simp only [Dsk.ck,Dsk.at_]
 ·omega
 ·grind
 rw [List.length_take]; omega
def Vo (h:d.OK):d.sync.OK:=by
 unfold Dsk.sync;split
 ·exact h
 split
 ·exact sE h
 exact ⟨Int.natCast_nonneg _,agO _,h.2.2⟩
def aeQ {x:List UInt8} (h:d.OK):(d.app x).OK:=by
 obtain ⟨a,c,e⟩:=h;unfold Dsk.app;split
 ·exact ⟨a,c,e⟩
 refine ⟨a,?_,?_⟩ <;> dsimp only <;> rw [List.length_append] <;> omega
def re {s:Stable} (h:d.OK):(saveF d s l).1.OK:=by
 unfold saveF;repeat' split
 all_goals first | exact h | exact Vo (aeQ h)
abbrev Nd.fr (n:Nd) (b:Int):Nd:=⟨⟨n.c.me,n.c.many,b,(replayF n.d.b).1,0,0,0,State.mk 1 1 0 0 [] [] []⟩,(if n.d.down=true then n.d.up else n.d).cut (replayF n.d.b).2,[],[],[],[],[]⟩
section
variable {n:Nd} {b:Int}
def agk (h:n.d.down=false):aL n b=⟨n,[],31⟩:=if_pos h
variable (h:n.d.down=true)
include h
def OG:n.fresh b=n.fr b:=by
 rw [Nd.fresh,Nd.fr,if_pos h]
def af2 (a:¬ bW b (max (replayF n.d.b).1.floor 1)=0):aL n b=⟨n,[],bW b (max (replayF n.d.b).1.floor 1)⟩:=by rw [aL,if_neg (by rw [h]; decide),if_pos a]
def rV (a:n.d.OK):((if n.d.down=true then n.d.up else n.d).cut (replayF n.d.b).2).OK/\(if n.d.down=true then n.d.up else n.d).lh (replayF n.d.b).2=0/\(if n.d.down=true then n.d.up else n.d).cut (replayF n.d.b).2=⟨n.d.b.take (replayF n.d.b).2.toNat,(replayF n.d.b).2,false,false,0⟩:=by
 rw [if_pos h];have:=nh n.d.b;exact acs (d:=n.d.up) (Zw a) rfl this.2.1 this.2.2
variable (h1:bW b (max (replayF n.d.b).1.floor 1)=0)
include h1
theorem Xk (a:(replayF n.d.b).1.floor<b) (c:(n.fr b).aR [⟨1,b,0,[]⟩]=0):aL n b=⟨(n.fr b).save [⟨1,b,0,[]⟩],[],0⟩:=by
 rw [aL,if_neg (by rw [h]; decide),if_neg aI,OG h];grind
theorem aav (a:(replayF n.d.b).1.floor<b) (c:¬ (n.fr b).aR [⟨1,b,0,[]⟩]=0):aL n b=⟨{ (n.fr b).save [⟨1,b,0,[]⟩] with d:=((n.fr b).save [⟨1,b,0,[]⟩]).d.ck 0 },[],(n.fr b).aR [⟨1,b,0,[]⟩]⟩:=by
 rw [aL,if_neg (by rw [h]; decide),if_neg aI,OG h];grind
theorem Vy (a:b<=(replayF n.d.b).1.floor):aL n b=⟨n.fr b,[],0⟩:=by
 rw [aL,if_neg (by rw [h]; decide),if_neg aI,OG h];grind
def aiZ:(aL n b).n.rp=[]/\(aL n b).n.vs=[]/\(aL n b).n.bn=[]/\(aL n b).n.nx=[]/\(aL n b).n.mt=[]:=by
 by_cases a:(replayF n.d.b).1.floor<b
 ·by_cases c:(n.fr b).aR [⟨1,b,0,[]⟩]=0
  ·rw [Xk h h1 a c]; exact ⟨rfl,rfl,rfl,rfl,rfl⟩
  rw [aav h h1 a c]; exact ⟨rfl,rfl,rfl,rfl,rfl⟩
 rw [Vy h h1 aI]; exact ⟨rfl,rfl,rfl,rfl,rfl⟩
end
end Go.Proofs.YticbaadnibdbkaaGreat
namespace Go.Proofs.YticbaadnibdbkaaGreat
open Go.Shelf Go.Proofs
def vf:Go.Shelf.Ren:=⟨fun | 125=>283 | 128=>326 | 129=>327 | n=>n,fun | 46=>192 | 3=>3 | 51=>193 | 53=>173 | 4=>4 | 5=>5 | 9=>9 | n=>n,fun | n=>n⟩
def IL:Lays.n125 Tryz.prog vf:={
 mixed:=bP
 f125:=Tryz.func283.trans (congrArg some bP)
 f128:=Tryz.func326.trans (congrArg some bP)
 f129:=Tryz.func327.trans (congrArg some bP)
 t3:=Tryz.underlying3
 a3:=Tryz.isAgg3
 z3:=Tryz.sizeOf3
 v3:=Tryz.zeroValue3
 t4:=Tryz.underlying4
 a4:=Tryz.isAgg4
 z4:=Tryz.sizeOf4
 v4:=Tryz.zeroValue4
 t5:=Tryz.underlying5
 a5:=Tryz.isAgg5
 z5:=Tryz.sizeOf5
 v5:=Tryz.zeroValue5
 t9:=Tryz.underlying9
 a9:=Tryz.isAgg9
 z9:=Tryz.sizeOf9
 v9:=Tryz.zeroValue9
 t46:=Tryz.underlying192
 a46:=Tryz.isAgg192
 z46:=Tryz.sizeOf192
 v46:=Tryz.zeroValue192
 t51:=Tryz.underlying193
 a51:=Tryz.isAgg193
 z51:=Tryz.sizeOf193
 v51:=Tryz.zeroValue193
 t53:=Tryz.underlying173
 a53:=Tryz.isAgg173
 z53:=Tryz.sizeOf173
 v53:=Tryz.zeroValue173 }
def iA:Go.Shelf.Ren:=⟨fun | 6=>265 | 15=>283 | 14=>282 | 28=>326 | 29=>327 | 20=>318 | 21=>319 | 22=>320 | 23=>321 | 24=>322 | 25=>323 | 26=>324 | 27=>325 | 46=>350 | 47=>351 | 48=>352 | 49=>353 | 50=>354 | 57=>364 | n=>n,fun | 22=>33 | 24=>3 | 25=>217 | 3=>3 | 39=>192 | 0=>0 | 53=>193 | 55=>173 | 4=>4 | 46=>318 | 45=>317 | 50=>322 | 5=>5 | 9=>9 | 66=>340 | 70=>344 | 76=>353 | 77=>112 | n=>n,fun | n=>n⟩
def uh:Go.Proofs.SlLaysF.n6 Tryz.prog iA:={
 mixed:=bP
 f6:=⟨Tryz.f265.name,am,Tryz.func265.trans (congrArg some bP)⟩
 f14:=⟨Tryz.f282.name,am,Tryz.func282.trans (congrArg some bP)⟩
 f15:=Tryz.func283.trans (congrArg some bP)
 f20:=⟨Tryz.f318.name,am,Tryz.func318.trans (congrArg some bP)⟩
 f21:=⟨Tryz.f319.name,am,Tryz.func319.trans (congrArg some bP)⟩
 f22:=⟨Tryz.f320.name,am,Tryz.func320.trans (congrArg some bP)⟩
 f23:=⟨Tryz.f321.name,am,Tryz.func321.trans (congrArg some bP)⟩
 f24:=⟨Tryz.f322.name,am,Tryz.func322.trans (congrArg some bP)⟩
 f25:=⟨Tryz.f323.name,am,Tryz.func323.trans (congrArg some bP)⟩
 f26:=⟨Tryz.f324.name,am,Tryz.func324.trans (congrArg some bP)⟩
 f27:=⟨Tryz.f325.name,am,Tryz.func325.trans (congrArg some bP)⟩
 f28:=Tryz.func326.trans (congrArg some bP)
 f29:=Tryz.func327.trans (congrArg some bP)
 f46:=⟨Tryz.f350.name,am,Tryz.func350.trans (congrArg some bP)⟩
 f47:=Tryz.func351.trans (congrArg some bP)
 f48:=Tryz.func352.trans (congrArg some bP)
 f49:=⟨Tryz.f353.name,am,Tryz.func353.trans (congrArg some bP)⟩
 f50:=⟨Tryz.f354.name,am,Tryz.func354.trans (congrArg some bP)⟩
 f57:=⟨Tryz.f364.name,am,Tryz.func364.trans (congrArg some bP)⟩
 t0:=Tryz.underlying0
 a0:=Tryz.isAgg0
 z0:=Tryz.sizeOf0
 v0:=Tryz.zeroValue0
 t3:=Tryz.underlying3
 a3:=Tryz.isAgg3
 z3:=Tryz.sizeOf3
 v3:=Tryz.zeroValue3
 t4:=Tryz.underlying4
 a4:=Tryz.isAgg4
 z4:=Tryz.sizeOf4
 v4:=Tryz.zeroValue4
 t5:=Tryz.underlying5
 a5:=Tryz.isAgg5
 z5:=Tryz.sizeOf5
 v5:=Tryz.zeroValue5
 t9:=Tryz.underlying9
 a9:=Tryz.isAgg9
 z9:=Tryz.sizeOf9
 v9:=Tryz.zeroValue9
 t22:=Tryz.underlying33
 a22:=Tryz.isAgg33
 z22:=Tryz.sizeOf33
 v22:=Tryz.zeroValue33
 a24:=Tryz.isAgg3
 z24:=Tryz.sizeOf3
 t25:=Tryz.underlying217
 a25:=Tryz.isAgg217
 z25:=Tryz.sizeOf217
 v25:=Tryz.zeroValue217
 t39:=Tryz.underlying192
 a39:=Tryz.isAgg192
 z39:=Tryz.sizeOf192
 v39:=Tryz.zeroValue192
 t45:=Tryz.underlying317
 a45:=Tryz.isAgg317
 z45:=Tryz.sizeOf317
 v45:=Tryz.zeroValue317
 t46:=Tryz.underlying318
 a46:=Tryz.isAgg318
 z46:=Tryz.sizeOf318
 v46:=Tryz.zeroValue318
 t50:=Tryz.underlying322
 a50:=Tryz.isAgg322
 z50:=Tryz.sizeOf322
 v50:=Tryz.zeroValue322
 t53:=Tryz.underlying193
 a53:=Tryz.isAgg193
 z53:=Tryz.sizeOf193
 v53:=Tryz.zeroValue193
 t55:=Tryz.underlying173
 a55:=Tryz.isAgg173
 z55:=Tryz.sizeOf173
 v55:=Tryz.zeroValue173
 t66:=Tryz.underlying340
 a66:=Tryz.isAgg340
 z66:=Tryz.sizeOf340
 v66:=Tryz.zeroValue340
 t70:=Tryz.underlying344
 a70:=Tryz.isAgg344
 z70:=Tryz.sizeOf344
 v70:=Tryz.zeroValue344
 t76:=Tryz.underlying353
 a76:=Tryz.isAgg353
 z76:=Tryz.sizeOf353
 v76:=Tryz.zeroValue353
 t77:=Tryz.underlying112
 a77:=Tryz.isAgg112
 z77:=Tryz.sizeOf112
 v77:=Tryz.zeroValue112 }
end Go.Proofs.YticbaadnibdbkaaGreat
namespace Go.Proofs.YticbaadnibdbkaaGreat
open Go.RowKit Go.Proofs Go.Shelf Go.Sort
def mG (a b:Int):Int:=if b<a then -1 else if a<b then 1 else 0
theorem oR (a b:Int):ltOf mG a b=decide (b<a):=by
 unfold ltOf mG;grind
def CE:SWO (ltOf mG):=⟨fun x=>by rw [oR]; simp,fun x y z a b=>by rw [oR] at *; simp at *; omega,fun x y z a b=>by rw [oR] at *; simp at *; omega⟩
def oz (l:List Int):List Int:=l.mergeSort (fun a b=>decide (b<=a))
def pB (l:List Int):(oz l).length=l.length:=(List.mergeSort_perm l _).length_eq
theorem Cw {d a:Array Int} (h:PermIn 0 d.size d a) (b:SortedIn (ltOf mG) 0 d.size a):a.toList=oz d.toList:=by
 rw [sorted_unique_holds CE (fun x y c b=>by rw [oR] at *; simp at *; omega) d a h b,oz];congr 1;funext x y;rw [oR];grind
def Qj (x y:Int) (W:World):Calls Tryz.prog 266 #[.int .i64 x,.int .i64 y] W fun e c=>e = .returned (.int .i64 (mG x y))/\∃ q,c = W.drewN q:=by
 by_cases a:y<x
 ·have b:¬ x<y:=by omega
  go_wp2
  go_ret
  exact ⟨by simp [mG,a],0,rfl⟩
 by_cases b:x<y
 ·go_wp2
  go_ret
  exact ⟨by simp [mG,a,b],0,rfl⟩
 go_wp2
 go_ret
 refine ⟨?_,0,rfl⟩;rw [show mG x y=0 from by unfold mG; rw [if_neg aI,if_neg aI]]; rfl
theorem nt {c:Cx}:∀ {l:List Int} {a:List Value},Pds c (l.flatMap (cellsOf .int)) a->a=l.map (Value.int .i64)/\∀ n ∈ l,I64 n
 | [],_,h=>by cases h; exact ⟨rfl,aa⟩
 | x :: l,_,h=>by
  have b:Pds c (.int x :: l.flatMap (cellsOf .int)) _:=h;cases b with | cons d f=>?_
  cases d with | int g=>?_
  obtain ⟨e,k⟩:=nt f;grind
variable {sp:List Value}
theorem Ly {l a:List Int} (h:a.length=l.length):putCells (Value.int .i64) 0 a.toArray (List.toArray (l.map (Value.int .i64)++sp))=List.toArray (a.map (Value.int .i64)++sp):=by
 apply Array.ext_getElem?;unfold putCells;grind
theorem Lt {w:World} {a:List Int} {g c:Nat} (s:a.length<=12) (o:w.heap[g]? = some (.cells (List.toArray (a.map (Value.int .i64)++sp)) 3 (0,0))) :
  Calls Tryz.prog 265 #[.slice (some ⟨g,0,none⟩) a.length c,.func (.func 266) #[] #[]] w fun e d=>e = .returned (.tuple #[])/\Kp [g] w d /\ d.heap[g]? = some (.cells (List.toArray ((oz a).map (Value.int .i64)++sp)) 3 (0,0)):=by
 have t:∀ args w,(callFunc 266 args).run Tryz.prog w = .ok (.enter 266 args) w:=enters_of Tryz.func266 bP rfl;have h:∀ (n:Nat) (W:World),n<=12->Calls Tryz.prog (iA.f 15) #[.int .u64 n] W fun e d=>(∃ l:Int,e = .returned (.int .i64 l))/\d = W:=fun n W u=>
  (Any.bits_Len IL n W aI aI).mono fun _ _ ⟨p,m⟩=>⟨⟨_,p⟩,m⟩
 have q:Holds (Value.int .i64) w g 0 a.toArray:=fun j C=>by
  rw [adz,Lib.frozen_of_heap o,Lib.cell_of_heap o];grind
 have v:=Any.slices_SortFunc_small_sorted uh (Value.int .i64) (fun _=>rfl) mG CE 266 #[] g 0 c a.toArray w t (fun _ _ _ _ x y=>Qj x y _) q (by simpa using s) h;refine v.mono fun e d ⟨p,i,n,z,A,m⟩=>?_;have k:=Cw z A;have r:i.toList.length=a.length:=by rw [k]; exact pB _
 refine ⟨p,?_,?_⟩
 ·rw [m];refine ⟨rfl,rfl,rfl,?_,fun b _ u=>?_⟩
  ·simp_all
  show (w.heap.modify g (onCells (putCells (Value.int .i64) 0 i)))[b]? = _;grind
 rw [m];show (w.heap.modify g (onCells (putCells (Value.int .i64) 0 i)))[g]? = _;rw [Array.getElem?_modify,if_pos rfl,o];simp only [Option.map_some,onCells];have B:i = i.toList.toArray:=rfl;rw [B,Ly r,k]
end Go.Proofs.YticbaadnibdbkaaGreat
namespace Go.Proofs.YticbaadnibdbkaaGreat
open Go.RowKit
abbrev c16:Code:=Ze Tryz.f171
abbrev c60:Code:=Ze Tryz.f258
abbrev pR0:Code:=pI c16
abbrev pR1:Code:=pI (gg c16)
abbrev pR2:Code:=pI (gg (gg c16))
abbrev pR3:Code:=pI (pI (gg (gg (gg c16))))
abbrev pRf:Code:=cdB (gg (pI (gg (gg (gg c16)))))
abbrev UT:Code:=gg (gg (gg (gg c16)))
abbrev La:Code:=ajA pRf
abbrev Pl:Code:=akw pRf
abbrev iR0:Code:=pI c60
abbrev iB:Code:=cdB (cdB (gg c60))
abbrev iR1:Code:=pI iB
abbrev iCo:Code:=pI (gg iB)
abbrev iBl:Code:=cdB (pI (gg (gg iB)))
abbrev iR2:Code:=pI iBl
abbrev iR3:Code:=pI (gg iBl)
abbrev Il:Code:=pI (gg (gg iBl))
abbrev aaf:Code:=gg (gg (gg iBl))
abbrev iR5:Code:=gg (gg (gg iB))
def hK (s:State) (r:List Reply) (l:List Entry) (v:Int):AH:=[.box 46 ([.int ((s.version)),.int ((s.next)),.int ((s.keep)),.int ((s.quota)),.own 7,.own 8,.own 9]),.box 46 ([.int ((0)),.int ((0)),.int ((0)),.int ((0)),.em true,.em true,.em true]),.box 72 ([.em true]),.box 26 ([.int ((0))]),.box 72 ([.own 10]),.box 38 ([.fz (.nm .entry) ((l))]),.box 3 ([.int ((v))]),.row 137 (.nm .sess) ((s.sess)),.row 139 (.nm .opn) ((s.opens)),.row 172 (.nm .snap) ((s.snaps)),.row 78 (.nm .reply) ((r))]
def hE (s:State) (r:List Reply):AH:=[.row 137 (.nm .sess) ((s.sess)),.row 139 (.nm .opn) ((s.opens)),.row 172 (.nm .snap) ((s.snaps)),.row 78 (.nm .reply) ((r))]
def rE (s:State) (e:Int):List TV1:=[.agg [.int s.version,.int s.next,.int s.keep,.int s.quota,.own 0,.own 1,.own 2],.c (.own 3),.c (.int e)]
def frP:AFr:=[(3,one (.ptr 0 0)),(6,one (.ptr 1 0)),(7,one (.ptr 2 0)),(8,one (.ptr 3 0)),(9,one (.ptr 4 0)),(16,one (.fn 258 [] [(5,0),(6,0)]))]
def Ka (L:Nat):Option TV->Prop
 | some (.one (.c (.yl a)))=>a=L
 | _=>False
def YV (l:List Entry) (k:Nat):AFr:=[(1,one (.ptr 5 0)),(2,one (.ptr 6 0)),(9,one (.fz (.nm .entry) l)),(10,one (.int l.length)),(11,one (.int k))]
def NW (c:Command) (b:Bool) (e:Int):TV1:=.agg (cellsOf (.nm .command) ((c))++[.bool (.atom ((b))),.int ((e))])
def frY (l:List Entry) (k:Nat) (c:Command) (b:Bool) (e:Int):AFr:=(26,.one (NW c b e)) :: YV l k
def hT (c:Command) (b:Bool) (e:Int):AO:=.box 265 (cellsOf (.nm .command) ((c))++[.bool (.atom ((b))),.int ((e))])
def koN (a:Nat) (q:AFr × AH):Exit->AFr->AH->Prop
 | .normal,fr,K=>jn (Ec tyT a fr K q)
 | _,_,_=>False
def koY (L:Nat) (q:AFr × AH):Exit->AFr->AH->Prop
 | .normal,fr,K=>Ka L (lookA fr 0)/\jn (Ec tyT 11 fr K q)
 | _,_,_=>False
def akG (L:Nat) (s:State) (r:List Reply) (l:List Entry) (v:Int) (k:Nat) (fr:AFr) (K:AH):Prop:=
 ∃ x,l[k]? = some x/\Ka L (lookA fr 0)/\Ka L (lookA fr 22)/\jn (Ec tyT 11 fr K (frY l k (bg x v).c (bg x v).some (bg x v).e,hK s r l v))
def aj1 (L:Nat) (s:State) (r:List Reply) (l:List Entry) (v:Int) (k:Nat):Exit->AFr->AH->Prop
 | .normal,fr,K=>wpOps tyT fG (gR 0) (kr Il) (akG L s r l v k) 6 ((kr Il).take 5) fr K
 | _,_,_=>False
def aiR (L:Nat) (s:State) (r:List Reply) (l:List Entry) (v:Int) (k:Nat):Exit->AFr->AH->Prop
 | .exit j,fr,K=>j=0/\l.length<=k/\Ka L (lookA fr 0)/\jn (Ec tyT 11 fr K (YV l k,hK s r l v))
 | .normal,fr,K=>jg tyT fG (gR 0) 11 [] (.seq iR2 iR3) (aj1 L s r l v k) fr K
 | _,_,_=>False
def ad_ (L:Nat) (s:State) (r:List Reply) (l:List Entry) (v:Int) (k:Nat):Exit->AFr->AH->Prop
 | .normal,fr,K=>jg tyT fG (gR 0) 11 [] iCo (aiR L s r l v k) fr K
 | _,_,_=>False
def koD (L:Nat) (s:State) (r:List Reply) (l:List Entry) (v:Int) (k:Nat) (fr:AFr) (K:AH):Prop:=jg tyT fG (gR 0) 11 [] (.seq aaf iR5) (koY L (YV l (k+1),hK s r l v)) fr K
def koH (s:State) (r:List Reply) (l:List Entry) (v:Int) (x:Entry):Exit->AFr->AH->Prop
 | .normal,_,K=>(bg x v).e=0/\jn (afW tyT (hK s r l v) 11 (hK (im v s x) (r++[nk v s x]) l v) K)
 | .ret,_,K=>¬ (bg x v).e=0/\endE tyT [] 0 Tryz.f171 (rE s (bg x v).e) (hE s r) frP K
 | _,_,_=>False
def koI (s:State) (r:List Reply):Exit->AFr->AH->Prop
 | .ret,fr,K=>endE tyT [] 0 Tryz.f171 (rE s 0) (hE s r) fr K
 | _,_,_=>False
def ak1 (s:State) (l:List Entry) (v:Int):lf (JN [.agg (cellsOf (.nm .state) s),.c (.fz (.nm .entry) l),.c (.int v)]) (jg tyT fG (gR 0) 0 [] (.seq pR0 (.seq pR1 (.seq pR2 pR3))) (koN 0 (frP,hK s [] l v)) (tr 0 [.agg (cellsOf (.nm .state) s),.c (.fz (.nm .entry) l),.c (.int v)]) [])=((fun a=>eN s (l.length*32<=140737488355328->I64 v->I64 s.version->I64 s.next->I64 s.keep->I64 s.quota->s.version=s.version/\s.next=s.next/\s.keep=s.keep/\s.quota=s.quota/\a/\a/\a/\a/\a/\l=l/\v=v/\s.sess=s.sess/\s.opens=s.opens/\s.snaps=s.snaps /\ @Eq (List (den (Sh.nm NT.reply))) [] [])) ((0:Int)=0)):=bP
def akn (L:Nat) (s:State) (r:List Reply) (l:List Entry) (v:Int):jg tyT fG (gR 0) 11 [] iR0 (koY L (YV l 0,hK s r l v)) [(0,one (.yl L)),(1,one (.ptr 5 0)),(2,one (.ptr 6 0))] (hK s r l v)=((fun a=>L=L/\l=l/\(↑l.length:Int)=(↑l.length:Int)/\(0:Int)=(↑(0:Nat):Int)/\s.version=s.version/\s.next=s.next/\s.keep=s.keep/\s.quota=s.quota/\a/\a/\a/\a/\a/\l=l/\v=v/\s.sess=s.sess/\s.opens=s.opens/\s.snaps=s.snaps/\r=r) ((0:Int)=(0:Int))):=bP
def akc (L:Nat) (s:State) (r:List Reply) (l:List Entry) (v:Int) (k:Nat):jg tyT fG (gR 0) 11 [] iR1 (ad_ L s r l v k) ((0,one (.yl L)) :: YV l k) (hK s r l v)=((fun f=>(fun a=>(fun g=>((↑k:Int)<f->0<=(↑k:Int)/\(↑k:Int)<(↑l.length:Int)/\∀ (x:Entry),(fun d=>l[k]? = some x->I64 x.term->x.b.length*1<=140737488355328->bB d.c (I64 d.e->∃ x,l[k]? = some x/\L=L/\L=L/\bt d.c (bg x v).c (d.some=(bg x v).some/\d.e=(bg x v).e/\g))) (bg x v))/\(f<=(↑k:Int)->(0:Nat)=0/\l.length<=k/\L=L/\g)) (l=l/\f=f/\(↑k:Int)=(↑k:Int)/\s.version=s.version/\s.next=s.next/\s.keep=s.keep/\s.quota=s.quota/\a/\a/\a/\a/\a/\l=l/\v=v/\s.sess=s.sess/\s.opens=s.opens/\s.snaps=s.snaps/\r=r)) ((0:Int)=0)) (↑l.length:Int)):=bP
def ajl (L:Nat) (s:State) (r:List Reply) (l:List Entry) (v:Int) (k:Nat) (c:Command) (b:Bool) (d:Int):wpOps tyT fG (gR 0) (kr Il) (koD L s r l v k) 2 ((kr Il).drop 6) ((27,one (.bool (.lit true))) :: (0,one (.yl L)) :: frY l k c b d) (hK s r l v)=((fun a=>I64 ((↑k:Int)+1)/\L=L/\l=l/\(↑l.length:Int)=(↑l.length:Int)/\(↑k:Int)+1=(↑(k+1):Int)/\s.version=s.version/\s.next=s.next/\s.keep=s.keep/\s.quota=s.quota/\a/\a/\a/\a/\a/\l=l/\v=v/\s.sess=s.sess/\s.opens=s.opens/\s.snaps=s.snaps/\r=r) ((0:Int)=0)):=bP
def aku (s:State) (r:List Reply) (l:List Entry) (v:Int) (c:Command) (b:Bool) (d:Int):jg tyT fG (gR 0) 11 [] La (koN 11 ((10,one (.ptr 11 0)) :: frP,hK s r l v++[hT c b d])) ((17,.one (NW c b d)) :: frP) (hK s r l v)=((fun a=>s.version=s.version/\s.next=s.next/\s.keep=s.keep/\s.quota=s.quota/\a/\a/\a/\a/\a/\l=l/\v=v/\s.sess=s.sess/\s.opens=s.opens/\s.snaps=s.snaps/\r=r/\bt c c (b=b/\d=d)) ((0:Int)=0)):=bP
def aiQ (s:State) (r:List Reply) (l:List Entry) (v:Int) (x:Entry):jg tyT fG (gR 0) 12 [] Pl (koH s r l v x) ((10,one (.ptr 11 0)) :: frP) (hK s r l v++[hT (bg x v).c (bg x v).some (bg x v).e])=((fun g=>(fun a=>(fun f=>(fun h=>(fun d=>(fun i=>(fun b=>(¬h->¬h/\s.version=s.version/\s.next=s.next/\s.keep=s.keep/\s.quota=s.quota/\g.e=g.e/\s.sess=s.sess/\s.opens=s.opens/\s.snaps=s.snaps/\r=r)/\(h->(g.some=true->I64 b.version->I64 b.next->I64 b.keep->I64 b.quota->I64 i.snd.code->I64 i.snd.n->(r.length+[i.snd].length)*16<=140737488355328/\h/\b.version=a.version/\b.next=a.next/\b.keep=a.keep/\b.quota=a.quota/\d/\d/\d/\d/\d/\l=l/\v=v/\b.sess=a.sess/\b.opens=a.opens/\b.snaps=a.snaps/\r++[i.snd]=r++[nk v s x])/\(g.some=false->(r.length+[Reply.mk f f].length)*16<=140737488355328/\h/\s.version=a.version/\s.next=a.next/\s.keep=a.keep/\s.quota=a.quota/\d/\d/\d/\d/\d/\l=l/\v=v/\s.sess=a.sess/\s.opens=a.opens/\s.snaps=a.snaps/\r++[Reply.mk f f]=r++[nk v s x]))) i.fst) (rz s g.c)) (f=f)) (g.e=f)) (0:Int)) (im v s x)) (bg x v)):=bP
def akt (s:State) (r:List Reply) (l:List Entry) (v:Int):jg tyT fG (gR 0) 11 [] UT (koI s r) frP (hK s r l v)=(s.version=s.version/\s.next=s.next/\s.keep=s.keep/\s.quota=s.quota/\(0:Int)=0/\s.sess=s.sess/\s.opens=s.opens/\s.snaps=s.snaps/\r=r):=bP
def agY:bH:=fG
def VG:aw Tryz.prog (ak tyT) agY:=rb
variable {w w0:World} {K:Exit->AFr->AH->Prop} {H:AH} {F:Fr} {ρ0:List RE} {Q:Exit->Act->World->Prop} {k0 n:Nat} {G:Gl}
def GW {c:Code} {fr:AFr} (a:G.shp=ak tyT) (b:ρ0.length<=k0) (d:eG n c=true) (h:jg tyT fG (gR 0) k0 [] c K fr H)
  (f:St G (gR 0) ρ0 w0 fr H F w) (hK:∀ e fr H F w,K e fr H->St G (gR 0) ρ0 w0 fr H F w->WX Q n e F w):WC Tryz.prog Q n c F w:=
 yo (by rw [a]; exact dL) (by rw [a]; exact rb) (nE dL rb kj G n (gR 0) ρ0 w0 a (fun i h=>by simp [gR,Nat.ble] at h)) b c Q K fr H F w d h f hK
def aed {m:Nat} {l a:List Oper} {K:AFr->AH->Prop} {fr:AFr} (b:G.shp=ak tyT) (c:kD n a=true) (h:wpOps tyT fG (gR 0) l K m a fr H)
  (d:St G (gR 0) ρ0 w0 fr H F w) (hK:∀ fr H F w,K fr H->St G (gR 0) ρ0 w0 fr H F w->WX Q n .normal F w):WO Tryz.prog Q n l a F w:=
 lL (by rw [b]; exact dL) (by rw [b]; exact rb) hK m a fr H F w c h d
abbrev yV (L:Nat):Value:=.func (.yield L) #[] #[]
variable {ρ:List RE} {t:Nat}
theorem lN {c:Cx} {fr:AFr} {L:Nat} (b:FrR c ρ fr F) (h:Ka L (lookA fr t)):look F t=some (yV L):=by
 unfold Ka at h;split at h
 ·rename_i a d;subst h;obtain ⟨v,e,f⟩:=eL b d;rw [e,f]
 grind
theorem yi {a:Fr} {v:Value} (h:look F t=some v) (k:∀ i u,look a i=some u->look F i=some u):∀ i u,look ((t,v) :: a) i=some u->look F i=some u:=fun i u b=>by
 rw [aV] at b;grind
def FrR.BT {c:Cx} {fr:AFr} {a:TV1} {v:Value} (h:dk c ρ a v) (k:FrR c ρ fr F):FrR c ρ ((t,.one a) :: fr) ((t,v) :: F):=.cons ⟨rfl,h⟩ k
variable {b:Nat}
def Rep.jQ (h:Rep G ρ H w) (a:G.Z b):¬ live ρ b:=fun ⟨i,r,c,d⟩=>(h.bnd i r b c d).2.2 a
def fj {o:Obj} (h:w.heap[b]? = some o):b<w.heap.size:=(ahh.1 h).1
structure PX where
 G:Gl
 D:Nat
 L:Nat
 fn:Nat
 tm:Array Value
 FP:Fr
 s:State
 l:List Entry
 v:Int
 hD:G.B0<=D
 hL:G.B0<=L
def PX.g (X:PX):Gl:=GZ X.G X.D X.L
def PX.rc (X:PX) (st:LoopState) (a:Option Code):Loop:={ state:=st,pending:=a,fn:=X.fn,tmps:=X.tm,params:=#[17],assign:=La,body:=Pl,defers:=X.D }
def PX.hk (X:PX) (k:Nat):AH:=hK (pS X.v X.s (X.l.take k)) (pR X.v X.s (X.l.take k)) X.l X.v
abbrev PX.Z (X:PX):Nat->Prop:=fun b=>b=X.D\/b=X.L
def PX.hB (X:PX):∀ b,X.Z b->X.g.B0<=b:=fun b a=>by
 rcases a with rfl | rfl
 ·exact X.hD
 exact X.hL
structure Mid (X:PX) (k:Nat) (ρ:List RE) (W:World):Prop where
 rep:Rep X.g ρ (X.hk k) W
 fr:FrR (cx X.g ρ W) ρ frP X.FP
 ok:okPl X.v (X.l.take k)
 loop:W.heap[X.L]? = some (.loop (X.rc .ready none))
 dfr:W.heap[X.D]? = some (.deferred (some []))
structure Stopd (X:PX) (ρ:List RE) (W:World):Prop where
 rep:∃ H,Rep X.g ρ H W/\endE tyT [] 0 Tryz.f171 (rE (plS X.v X.s X.l) (pE X.v X.l)) (hE (plS X.v X.s X.l) (plR X.v X.s X.l)) frP H
 fr:FrR (cx X.g ρ W) ρ frP X.FP
 loop:W.heap[X.L]? = some (.loop (X.rc .done (some .ret)))
 dfr:W.heap[X.D]? = some (.deferred (some []))
def En:HS frP=true:=by decide
section
variable {X:PX} {k:Nat} {ρ ρ':List RE} {W W':World}
def Mid.step {e:Lv} (h:Mid X k ρ W) (a:Stp e ρ W ρ' W') (f:Rep X.g ρ' (X.hk k) W'):Mid X k ρ' W' /\ Adv X.Z ρ W ρ' W':=by
 have d:Adv X.Z ρ W ρ' W':=.xS a.ext a.bx;have c:=d.le (G:=X.g) (fun b i=>.inr i) h.rep.lo X.hB;exact ⟨⟨f,h.fr.eZ En c a.bx,h.ok,(a.ext.old _ (fj h.loop) (h.rep.jQ (.inr (.inr rfl)))).2.trans h.loop,(a.ext.old _ (fj h.dfr) (h.rep.jQ (.inr (.inl rfl)))).2.trans h.dfr⟩,d⟩
section
variable {s:State} {r:List Reply} {l:List Entry} {v:Int} {x:Entry}
def aj5 (h:(bg x v).some=true):im v s x=(rz s (bg x v).c).1:=by unfold im; rw [if_pos h]
def ah3 (h:(bg x v).some=false):im v s x=s:=by unfold im; rw [if_neg (by rw [h]; decide)]
def ai4 (h:(bg x v).some=true):nk v s x=(rz s (bg x v).c).2:=by unfold nk; rw [if_pos h]
def ajv (h:(bg x v).some=false):nk v s x=⟨0,0⟩:=by unfold nk; rw [if_neg (by rw [h]; decide)]
theorem aaM (a:(r.length+1)*16<=140737488355328):jg tyT fG (gR 0) 12 [] Pl (koH s r l v x) ((10,one (.ptr 11 0)) :: frP) (hK s r l v++[hT (bg x v).c (bg x v).some (bg x v).e]):=by
 rw [aiQ];repeat' (first | with_reducible apply a_ | with_reducible refine aY ?_ | intro)
 all_goals first | with_reducible rfl | with_reducible assumption | contradiction | (simp only [List.length_cons]; omega) | (rw [aj5 ab]; done) | (rw [ah3 ab]; done) | (rw [ai4 ab]; done) | (rw [ajv ab]; done)
theorem abk {c:Command} {b:Bool} {er:Int}:jg tyT fG (gR 0) 11 [] La (koN 11 ((10,one (.ptr 11 0)) :: frP,hK s r l v++[hT c b er])) ((17,.one (NW c b er)) :: frP) (hK s r l v):=by
 rw [aku];grind
end
variable {u:Value}
def KF (hG:X.G.shp=ak tyT) (hsz:X.l.length*32<=140737488355328) (hM:M 40 X.FP { tmps:=X.tm,defers:=[] }) (S:X.D≠X.L) (h:Mid X k ρ W) {x:Entry} (Y:X.l[k]? = some x) 
  (hu:dk (cx X.g ρ W) ρ (NW (bg x X.v).c (bg x X.v).some (bg x X.v).e) u) (ro:Option Nat) (m:Nat) :
  RoundIn (gN ro) m Tryz.prog X.L X.fn (X.tm.setIfInBounds 17 u) La Pl W fun e w'=>∃ b,e = .returned b/\((b = .bool true/\∃ ρ',Mid X (k+1) ρ' w' /\ Adv X.Z ρ W ρ' w')\/(b = .bool false/\∃ ρ',Stopd X ρ' w' /\ Adv X.Z ρ W ρ' w')):=by
 refine Lp ?_;have A:X.g.shp=ak tyT:=hG;have hM1:M 40 ((17,u) :: X.FP) { tmps:=X.tm.setIfInBounds 17 u,defers:=[] }:=hM.put (d:=17) (v:=u) am;have q:ρ.length=11:=h.rep.obj.length.symm;have hkl:k<X.l.length:=(aad.1 Y).1;refine GW A (ahf q) (c:=La) (n:=40) bP (abk (s:=pS X.v X.s (X.l.take k)) (r:=pR X.v X.s (X.l.take k)) (l:=X.l) (v:=X.v) (c:=(bg x X.v).c) (b:=(bg x X.v).some) (er:=(bg x X.v).e)) (⟨ρ,Stp.refl _ _ _,h.rep,FrR.BT hu h.fr⟩) (fun e fr H F N hK hs=>?_) _ hM1;cases e with
 | normal=>
  obtain ⟨F1,⟨f,B,t,hf1⟩,hlk⟩:=gz (P:=Tryz.prog) (by rw [A]; exact dL) (ahf q) hs hK;intro a ha;have w:N.heap[X.L]? = some (.loop (X.rc .ready none)):=(B.ext.old _ (fj h.loop) (h.rep.jQ (.inr (.inr rfl)))).2.trans h.loop;have hd1:N.heap[X.D]? = some (.deferred (some [])):=(B.ext.old _ (fj h.dfr) (h.rep.jQ (.inr (.inl rfl)))).2.trans h.dfr;refine ⟨_,run_beginRound (P:=Tryz.prog) w rfl,?_,ha.1⟩;have z:Adv X.Z ρ W f (N.putObj X.L (.loop { X.rc .ready none with state:=.busy })):=(Adv.xS B.ext B.bx).trans (.put _ (.inr rfl));have j:Rep X.g f (X.hk k++[hT (bg x X.v).c (bg x X.v).some (bg x X.v).e]) (N.putObj X.L (.loop { X.rc .ready none with state:=.busy })):=t.KQ _ (.inr (.inr rfl)) X.hL;have C:(N.putObj X.L (.loop { X.rc .ready none with state:=.busy })).heap[X.L]? = some (.loop { X.rc .ready none with state:=.busy }):=World.putObj_heap_same (fj w);have I:(N.putObj X.L (.loop { X.rc .ready none with state:=.busy })).heap[X.D]? = some (.deferred (some [])):=(ahc S).trans hd1;have T:FrR (cx X.g f (N.putObj X.L (.loop { X.rc .ready none with state:=.busy }))) f ((10,one (.ptr 11 0)) :: frP) F1:=hf1.carry ((Adv.put (Z:=X.Z) _ (.inr rfl)).le (fun b O=>.inr O) t.lo X.hB) (kB.refl _);revert z j C I T;generalize N.putObj X.L (.loop { X.rc .ready none with state:=.busy })=w2;intro z j C I T;have U:f.length=12:=j.obj.length.symm;refine GW A (ahf U) (c:=Pl) (n:=40) bP (aaM (s:=pS X.v X.s (X.l.take k)) (r:=pR X.v X.s (X.l.take k)) (l:=X.l) (v:=X.v) (x:=x) (by rw [DY,List.length_take]; omega)) (⟨f,Stp.refl _ _ _,j,T⟩) (fun e fr H F K hK hs=>?_) _ (ha.sub hlk);obtain ⟨Q,p,hr3,_⟩:=hs;have J:K.heap[X.L]? = _:=(p.ext.old _ (fj C) (j.jQ (.inr (.inr rfl)))).2.trans C;have hd3:K.heap[X.D]? = _:=(p.ext.old _ (fj I) (j.jQ (.inr (.inl rfl)))).2.trans I;cases e with
  | normal=>
   obtain ⟨he,o⟩:=hK;obtain ⟨ρ',hr',y,hb'⟩:=Qg (P:=Tryz.prog) (ρ0:=f) (w0:=w2) (by rw [A]; exact dL) hr3 p.ext p.bx (fun i g hi hg=>by
    have hn:=Xy (b:=false) j hg;have:i=0\/i=1\/i=2\/i=3\/i=4\/i=5\/i=6\/i=7\/i=8\/i=9\/i=10:=by omega
    rcases this with rfl | rfl | rfl | rfl | rfl | rfl | rfl | rfl | rfl | rfl | rfl <;> exact hn) o
   refine fun _ _=>⟨_,_,run_endRound (P:=Tryz.prog) none J,_,rfl,.inl ⟨rfl,ρ',?_⟩⟩;have V:Adv X.Z ρ W ρ' (K.putObj X.L (.loop (X.rc .ready none))):=by
    have A2:Adv X.Z ρ W ρ' K:=⟨y.os.trans z.os,y.tape.trans z.tape,y.output.trans z.output,Nat.le_trans z.size y.size,fun b O hl=>by
     obtain ⟨h1,h2⟩:=z.old b O hl;obtain ⟨h3,h4⟩:=y.old b (ac2 O z.size) h1;exact ⟨h3,fun hz=>h4.trans (h2 hz)⟩,fun i g hg=>hb' i g (by rw [<- q]; exact (aad.1 hg).1) (z.bx i g hg)⟩
    exact A2.trans (.put _ (.inr rfl))
   refine ⟨⟨?_,h.fr.eZ En (V.le (fun b O=>.inr O) h.rep.lo X.hB) V.bx,HC h.ok Y he,World.putObj_heap_same (fj J),(ahc S).trans hd3⟩,V⟩;have:=hr'.KQ (l:=X.L) (.loop (X.rc .ready none)) (.inr (.inr rfl)) X.hL;rw [Yh Y,ZB Y] at this;exact this
  | ret=>
   obtain ⟨he,o⟩:=hK;refine fun _ _=>⟨_,_,run_endRound (P:=Tryz.prog) (some .ret) J,_,rfl,.inr ⟨rfl,Q,?_⟩⟩;have V:Adv X.Z ρ W Q (K.putObj X.L (.loop (X.rc .done (some .ret)))):=(z.trans (.xS p.ext p.bx)).trans (.put _ (.inr rfl));obtain ⟨p1,p2,p3⟩:=We (s:=X.s) h.ok Y he;rw [p1,p2,p3] at o;exact ⟨⟨⟨_,hr3.KQ _ (.inr (.inr rfl)) X.hL,o⟩,h.fr.eZ En (V.le (fun b O=>.inr O) h.rep.lo X.hB) V.bx,World.putObj_heap_same (fj J),(ahc S).trans hd3⟩,V⟩
  | _=>exact hK.elim
 | _=>exact hK.elim
def abJ:Tryz.f258.body=some (.seq iR0 (.block 0 (.loop (.seq iR1 (.seq iCo (.seq (.block 1 (.seq iR2 (.seq iR3 (.seq Il aaf)))) iR5)))))):=bP
def aax:Il = .region 4 (kr Il).toArray false:=bP
def VI:aaf = .cond (.tmp 28) .ret .skip:=bP
def Zq (k:Nat):Oper:=(kr Il).getD k ⟨none,.move (.tmp 0),0,"",#[],none⟩
def ahK:Array TypeId:=match (Zq 5).op with
 | .call c=>c.argTypes
 | _=>#[]
def ty6:TypeId:=match (Zq 6).op with
 | .unOp _ t _=>t
 | _=>0
def aij:kr Il=(kr Il).take 5++(⟨some 27,.call ⟨.value (.tmp 22),#[.tmp 26],ahK⟩,(Zq 5).type,(Zq 5).pos,(Zq 5).after,none⟩ :: (kr Il).drop 6):=bP
def ajI:(kr Il).drop 6=[⟨some 28,.unOp .not ty6 (.tmp 27),(Zq 6).type,(Zq 6).pos,(Zq 6).after,none⟩]:=bP
variable {P:Program}
def Er {L:Nat} {c:Loop} {e:Array TypeId} {m:TypeId} (f:look F 22=some (yV L)) (h:look F 26=some u) (o:w.heap[L]? = some (.loop c)) (j:c.params = #[17]) (a:Act) (d:Option Tmp) (i:String) (p:Array Edge) (g:Option (Nat × Bool)) (l:M n F a) :
  (execOp a.eval ⟨d,.call ⟨.value (.tmp 22),#[.tmp 26],e⟩,m,i,p,g⟩).run P w = .ok (.round L c.fn (c.tmps.setIfInBounds 17 u) c.assign c.body) w:=by
 have q:a.eval (.tmp 22)=yV L:=l.ev (x:=.tmp 22) f;have r:a.eval (.tmp 26)=u:=l.ev (x:=.tmp 26) h;have s:=run_yield (P:=P) (args:=#[u]) o (by rw [j]; rfl);simp [execOp,resolve,q,r,Deferred.ofValue,invoke,s,j]
theorem Wf {a:Fr} {v:Value} (k:∀ i u,look a i=some u->look F i=some u):∀ i u,look ((t,v) :: a) i=some u->look ((t,v) :: F) i=some u:=fun i u c=>by
 rw [aV] at c ⊢;grind
section
variable {s:State} {r:List Reply} {l:List Entry} {v:Int} {L:Nat}
theorem aa8:jg tyT fG (gR 0) 11 [] iR0 (koY L (YV l 0,hK s r l v)) [(0,one (.yl L)),(1,one (.ptr 5 0)),(2,one (.ptr 6 0))] (hK s r l v):=by
 rw [akn];grind
theorem abX:jg tyT fG (gR 0) 11 [] iR1 (ad_ L s r l v k) ((0,one (.yl L)) :: YV l k) (hK s r l v):=by
 rw [akc];grind
def aaC {c:Command} {b:Bool} {a:Int} (d:k<4611686018427387904):wpOps tyT fG (gR 0) (kr Il) (koD L s r l v k) 2 ((kr Il).drop 6) ((27,one (.bool (.lit true))) :: (0,one (.yl L)) :: frY l k c b a) (hK s r l v):=by
 rw [ajl];repeat' (first | with_reducible apply a_ | with_reducible refine aY ?_ | intro)
 all_goals first | with_reducible rfl | omega | (refine bw ?_ ?_ <;> omega) | rfl
end
def adr (y:Code) (k0:Nat) (K:Exit->AFr->AH->Prop):Exit->AFr->AH->Prop
 | .normal,fr,H=>jg tyT fG (gR 0) k0 [] y K fr H
 | e,fr,H=>K e fr H
def nJ {x y:Code} {fr:AFr} (h:jg tyT fG (gR 0) k0 [] (.seq x y) K fr H):jg tyT fG (gR 0) k0 [] x (adr y k0 K) fr H:=by
 have e:adr y k0 K=fun e fr H=>(match e with | .normal=>jg tyT fG (gR 0) k0 [] y K fr H | e=>K e fr H):=by funext e fr H; cases e <;> rfl
 rw [e]; exact h
def PX.Out (X:PX) (ρ:List RE) (W:World) (_:Value) (a:World):Prop:=∃ ρ',Adv X.Z ρ W ρ' a /\ ((∃ k,X.l.length<=k/\Mid X k ρ' a)\/Stopd X ρ' a)
def WO.of_eq {l r a:List Oper} (e:r=a) (h:WO P Q n l a F w):WO P Q n l r F w:=e ▸ h
def Sa (hG:X.G.shp=ak tyT) (hsz:X.l.length*32<=140737488355328) (hM:M 40 X.FP { tmps:=X.tm,defers:=[] }) (hDL:X.D≠X.L) (h:Mid X 0 ρ W) {p8 p9:Value} (h8:ek ρ (5,0) p8) (h9:ek ρ (6,0) p9) :
  jS Tryz.prog 258 #[yV X.L,p8,p9] W (X.Out ρ W):=by
 have o:X.g.shp=ak tyT:=hG;have S:ρ.length=11:=h.rep.obj.length.symm;refine jS.enter (args:=[yV X.L,p8,p9]) (n:=30) Tryz.func258 abJ rfl rfl rfl ?_;refine WC.seq (GW o (ahf S) bP aa8 (⟨ρ,Stp.refl _ _ _,h.rep,FrR.BT (a:=.c (.yl X.L)) rfl (FrR.BT (a:=.c (.ptr 5 0)) h8 (FrR.BT (a:=.c (.ptr 6 0)) h9 .nil))⟩) fun e fr H F w hK q=>?_);cases e with
 | normal=>
  obtain ⟨hy,T⟩:=hK;have y:look F 0=some (yV X.L):=by obtain ⟨_,_,_,U⟩:=q; exact lN U hy
  obtain ⟨F1,⟨ρ1,hs1,hr1,hf1⟩,hlk⟩:=gz (P:=Tryz.prog) (by rw [o]; exact dL) (ahf S) q T;refine WX.next (WC.block fun a z=>?_)
  refine sV (fun a w k=>∃ ρ' F',M 30 F' a/\Mid X k ρ' w/\FrR (cx X.g ρ' w) ρ' ((0,one (.yl X.L)) :: YV X.l k) F' /\ k<=X.l.length/\Adv X.Z ρ W ρ' w) (fun k=>X.l.length - k) 0 ⟨ρ1,(0,yV X.L) :: F1,z.sub (yi y hlk),(h.step hs1 hr1).1,FrR.BT (a:=.c (.yl X.L)) rfl hf1,ahj _,(h.step hs1 hr1).2⟩ fun k a w hD=>?_;obtain ⟨ρ',F',hM',s,hfr,hk,A⟩:=hD;have p:ρ'.length=11:=s.rep.obj.length.symm;refine (WC.seq (GW o (ahf p) bP (abX (L:=X.L) (k:=k)) (⟨ρ',Stp.refl _ _ _,s.rep,hfr⟩) fun e fr H F w2 hK q=>?_)) a hM';cases e with
  | normal=>
   refine WX.next (WC.seq (GW o (ahf p) bP hK q fun e fr H F w2 hK q=>?_))
   cases e with
   | exit j=>
    obtain ⟨rfl,hle,hy,T⟩:=hK;obtain ⟨F2,⟨ρ2,V,I,Y⟩,B⟩:=gz (P:=Tryz.prog) (by rw [o]; exact dL) (ahf p) q T;obtain ⟨J,N⟩:=s.step V I;have K:X.Out ρ W (.tuple #[]) w2:=⟨ρ2,A.trans N,.inl ⟨k,hle,J⟩⟩;have hh:=WX.ZX (id:=0) (WX.aaF (WX.aga (n:=30) (fr:=F) (P:=Tryz.prog) (fn:=Tryz.f258) (φ:=X.Out ρ W) rfl K));exact fun a z=>hh a z
   | normal=>
    refine WX.next (WC.seq (WC.block (WC.seq (GW o (ahf p) bP (nJ hK) q fun e fr H F w2 hK q=>?_))))
    cases e with
    | normal=>
     refine WX.next (WC.seq (GW o (ahf p) bP hK q fun e fr H F w2 hK q=>?_))
     cases e with
     | normal=>
      refine WX.next (WC.seq ?_)
      rw [aax];refine WC.region ?_;refine WO.of_eq aij (WO.app (aed o bP hK q fun fr H F w3 hK q=>?_));intro a z;obtain ⟨x,hx,hy,hy22,T⟩:=hK;have y:look F 0=some (yV X.L):=by obtain ⟨_,_,_,U⟩:=q; exact lN U hy
      have h22:look F 22=some (yV X.L):=by obtain ⟨_,_,_,U⟩:=q; exact lN U hy22
      obtain ⟨F2,⟨ρ2,V,I,Y⟩,B⟩:=gz (P:=Tryz.prog) (by rw [o]; exact dL) (ahf p) q T;obtain ⟨J,N⟩:=s.step V I;obtain ⟨u,hu26,hu⟩:=eL (i:=26) (tv:=.one (NW (bg x X.v).c (bg x X.v).some (bg x X.v).e)) Y rfl;have hkl:k<X.l.length:=(aad.1 hx).1;refine WO.yield (L:=X.L) (f:=X.fn) (tmps:=X.tm.setIfInBounds 17 u) (assign:=La) (body:=Pl) (fun a d pos af g z=>Er h22 (B _ _ hu26) J.loop rfl a d pos af g z) rfl (fun ro m=>KF hG hsz hM hDL J hx hu ro m) (fun b w4 hb=>?_) a z;rcases hb with ⟨rfl,O,Q,C⟩ | ⟨rfl,O,hst4,C⟩
      ·intro a z;have hf4:=FrR.BT (t:=0) (a:=.c (.yl X.L)) (v:=yV X.L) rfl (Y.eZ rfl (C.le (fun b hb=>.inr hb) I.lo X.hB) C.bx);have r:O.length=11:=Q.rep.obj.length.symm;refine (aed o bP (aaC (L:=X.L) (k:=k) aI) (⟨O,Stp.refl _ _ _,Q.rep,FrR.BT (t:=27) (a:=.c (.bool (.lit true))) (Pd.bool (e:=.lit true)) hf4⟩) fun fr H F w5 hK q=>?_) a (z.sub (Wf (yi y B)));refine WX.next (GW o (ahf r) bP (nJ hK) q fun e fr H F w6 hK q=>?_)
       cases e with
       | normal=>
        refine WX.II (WX.next (GW o (ahf r) bP hK q fun e fr H F w7 hK q=>?_));cases e with
        | normal=>
         obtain ⟨hy,T⟩:=hK;have y:look F 0=some (yV X.L):=by obtain ⟨_,_,_,U⟩:=q; exact lN U hy
         obtain ⟨F7,⟨ρ7,hs7,hr7,hf7⟩,hlk7⟩:=gz (P:=Tryz.prog) (by rw [o]; exact dL) (ahf r) q T;obtain ⟨hm7,ha7⟩:=Q.step hs7 hr7;exact fun a z=>⟨k+1,⟨ρ7,(0,yV X.L) :: F7,z.sub (yi y hlk7),hm7,FrR.BT (a:=.c (.yl X.L)) rfl hf7,hkl,((A.trans N).trans C).trans ha7⟩,aI⟩
        | _=>exact hK.elim
       | _=>exact hK.elim
      have K:X.Out ρ W (.tuple #[]) w4:=⟨O,(A.trans N).trans C,.inr hst4⟩;refine WO.of_eq ajI (WO.v (R.not (b:=false) rfl) rfl (WO.nil (WX.next ?_)));rw [VI];exact WC.Ih rfl (WC.ret (WX.aga (P:=Tryz.prog) (fn:=Tryz.f258) (φ:=X.Out ρ W) rfl K))
     | _=>exact hK.elim
    | _=>exact hK.elim
   | _=>exact hK.elim
  | _=>exact hK.elim
 | _=>exact hK.elim
end
def acC:Tryz.f171.body=some (.seq pR0 (.seq pR1 (.seq pR2 (.seq (.seq pR3 (.block 0 (.rangeFunc (.tmp 16) #[17] La Pl))) UT)))):=bP
def ac5 {args:List Value} (e:args.length<=n):M n (wF 0 args) { tmps:=args.toArray++Array.replicate (n - args.toArray.size) undef,defers:=[] }:=by
 refine ⟨rfl,?_,fun i v c=>?_⟩
 ·simp; omega
 rw [sW] at c;obtain ⟨_,a⟩:=uw args 0 i v c;rw [alF] at a;have d:i<args.length:=(aad.1 a).1;have f:args[i]=v:=by rw [List.getElem?_eq_getElem d] at a; exact adC a
 simp [Array.getD,d,f];omega
def Gq (G:Gl) (w0:World) (s:State) (l:List Entry) (v:Int) (u:Value) (c:World):Prop:=
 ∃ d,u=AZ d/\∃ a,Rep G a (hE (plS v s l) (plR v s l)) c /\ Ext [] w0 a c /\ All2 (dk (cx G a c) a) (rE (plS v s l) (pE v l)) d/\Kp [] w0 c
section
variable {X:PX} {ρ1 ρ':List RE} {w0 W1 w4:World} {H:AH} {a:Act}
def RT {fr:AFr} (O:X.G.shp=ak tyT) (hz:∀ x,X.G.Z x->x<w0.heap.size) (Q:w0.heap.size<=X.D) (T:X.D<X.L) (S:Rep X.g ρ' H w4) (U:FrR (cx X.g ρ' w4) ρ' fr F) (V:M 40 F a)
  (c:endE tyT [] 0 Tryz.f171 (rE (plS X.v X.s X.l) (pE X.v X.l)) (hE (plS X.v X.s X.l) (plR X.v X.s X.l)) fr H) (W:w4.heap[X.D]? = some (.deferred (some []))) (hE:Ext [] w0 ρ1 W1) (j:Adv X.Z ρ1 W1 ρ' w4) :
  ∃ y,(Instr.takeDeferred X.D).run Tryz.prog w4 = .ok [] y /\ ∃ u,(results Tryz.f171 a.tmps).run Tryz.prog y = .ok u y /\ Gq X.G w0 X.s X.l X.v u y:=by
 refine ⟨_,run_takeDeferred (P:=Tryz.prog) W,?_⟩;have z:=S.KQ (l:=X.D) (.deferred none) (.inr (.inl rfl)) X.hD;have k:(w4.putObj X.D (.deferred none)).heap.size=w4.heap.size:=by simp
 have m:w0.heap.size<=w4.heap.size:=Nat.le_trans hE.size j.size;obtain ⟨e,A⟩:=z.leave (fun x Y=>ac2 (hz x Y) (by rw [k]; exact m));have o:(cx X.g ρ' w4).le (cx X.G ρ' (w4.putObj X.D (.deferred none))):=((Adv.put (Z:=X.Z) (ρ:=ρ') (w:=w4) (.deferred none) (.inl rfl)).le (G:=X.g) (fun b f=>.inr f) S.lo X.hB).trans A;have B:=U.carry o (kB.refl _);have d:Ext [] w0 ρ' (w4.putObj X.D (.deferred none)):=⟨j.os.trans hE.os,j.tape.trans hE.tape,j.output.trans hE.output,by rw [k]; exact m,fun b f C=>by
  obtain ⟨I,J⟩:=hE.old b f C;obtain ⟨n,t⟩:=j.old b (ac2 f hE.size) I;have N:b≠X.D:=by omega
  exact ⟨n,(ahc N).trans ((t (fun hz=>by rcases hz with hz | hz <;> omega)).trans J)⟩⟩
 unfold endE ab7 at c;split at c
 ·rename_i l C;obtain ⟨K,I,J⟩:=kI (by rw [O]; exact dL) e B V C;replace c:=eH.1 c;refine ⟨_,J,K,rfl,_,ot (P:=Tryz.prog) (by rw [O]; exact dL) e rfl (bM.1 fun p q=>c p (ady _ (ady _ q))) fun p q=>c p (adA _ q),ov d,oD e rfl I fun p q=>c p (ady _ (adA _ q)),?_⟩;exact ⟨d.os,d.tape,d.output,d.size,fun b f _=>(d.old b f (fun ⟨i,r,h,_⟩=>by simp at h)).2⟩
 exact (show False from c).elim
end
variable {l:List Entry}
theorem abH {s:State} {r:List Reply} {v:Int}:jg tyT fG (gR 0) 11 [] UT (koI s r) frP (hK s r l v):=by
 rw [akt];grind
def Wq.go {l:List Prop} {R:Prop} (k:∀ p ∈ l,p) (h:Wq (lf l R)):Wq R:=⟨eA.1 h.h k⟩
def Wq.seq {x y:Code} {k0:Nat} {K:Exit->AFr->AH->Prop} {fr:AFr} {H:AH} (h:Wq (jg tyT fG (gR 0) k0 [] (.seq x y) K fr H)):Wq (jg tyT fG (gR 0) k0 [] x (adr y k0 K) fr H):=⟨nJ h.h⟩
def ahM {c:Code} {fr:AFr} (a:G.shp=ak tyT) (d:ρ0.length<=k0) (f:eG n c=true) (h:Wq (jg tyT fG (gR 0) k0 [] c K fr H))
  (g:St G (gR 0) ρ0 w0 fr H F w) (hK:∀ e fr H F w,K e fr H->St G (gR 0) ρ0 w0 fr H F w->WX Q n e F w):WC Tryz.prog Q n c F w:=GW a d f h.h g hK
theorem acM {s:State} {l:List Entry} {v:Int}:Wq (lf (JN [.agg (cellsOf (.nm .state) s),.c (.fz (.nm .entry) l),.c (.int v)]) (jg tyT fG (gR 0) 0 [] (.seq pR0 (.seq pR1 (.seq pR2 pR3))) (koN 0 (frP,hK s [] l v)) (tr 0 [.agg (cellsOf (.nm .state) s),.c (.fz (.nm .entry) l),.c (.int v)]) [])):=by
 refine ⟨?_⟩;rw [ak1];grind
def ZG {s:State} {v:Int} (h:∀ p ∈ JN [.agg (cellsOf (.nm .state) s),.c (.fz (.nm .entry) l),.c (.int v)],p):Wq (jg tyT fG (gR 0) 0 [] (.seq pR0 (.seq pR1 (.seq pR2 pR3))) (koN 0 (frP,hK s [] l v)) (tr 0 [.agg (cellsOf (.nm .state) s),.c (.fz (.nm .entry) l),.c (.int v)]) []):=by
 have a:=@acM s l v;revert a h;intro h a;exact Wq.go h a
def MJ {vs:List Value} {s:State} {v:Int} (hG:G.shp=ak tyT) (hR:Rep G ρ [] w) (V:All2 (dk (cx G ρ w) ρ) [.agg (cellsOf (.nm .state) s),.c (.fz (.nm .entry) l),.c (.int v)] vs) :
  jS Tryz.prog 171 vs.toArray w (Gq G w s l v):=by
 have hok:=Tx.pC V;have hsz:l.length*32<=140737488355328:=by
  have:l.length*Sh.bytes (.nm .entry)<=140737488355328:=hok _ (by simp [JN,TV1.ok,AV.ok]);exact this
 have hρ:ρ=[]:=abb hR.obj.length.symm;subst hρ;have hl3:vs.length=3:=V.length.symm;refine (callsIn_wide (n:=0)).1 (callsIn_of_wp_marks (F:=gN none) (n:=0) Tryz.func171 acC trivial ?_);have hM0:=ac5 (n:=40) (args:=vs) aI;have h0:([]:List RE).length<=0:=Nat.le_refl 0;refine wpIn_seq (kF.in0 rfl ((ahM (n:=40) hG h0 bP (Wq.seq (ZG hok)) (⟨[],Stp.refl _ _ _,hR,nX V⟩) fun e fr H F d hK J=>?_) _ hM0));cases e with
 | normal=>
  intro a q;refine wpIn_seq (kF.in0 q.1 ((GW (n:=40) hG h0 bP (nJ hK) J fun e fr H F d hK J=>?_) _ q));cases e with
  | normal=>
   intro a q;refine wpIn_seq (kF.in0 q.1 ((GW (n:=40) hG h0 bP (nJ hK) J fun e fr H F d hK J=>?_) _ q));cases e with
   | normal=>
    intro a q;refine wpIn_seq (wpIn_seq (kF.in0 q.1 ((GW (n:=40) hG h0 bP hK J fun e fr H F d hK J=>?_) _ q)));cases e with
    | normal=>
     obtain ⟨F1,⟨o,hs1,W,hf1⟩,hlk⟩:=gz (P:=Tryz.prog) (by rw [hG]; exact dL) h0 J hK;intro a ha0;have q:=ha0.sub hlk;refine wpIn_block (wpIn_rangeFunc fun fn hfn=>?_);have hae:a={ tmps:=a.tmps,defers:=[] }:=by rw [<- q.1]
     obtain ⟨vg,hg1,hg2⟩:=eL (i:=16) (tv:=one (.fn 258 [] [(5,0),(6,0)])) hf1 rfl;obtain ⟨bs,us,Y,t,rfl⟩:=hg2;cases Y;cases t with | cons h8 t=>
     cases t with | cons h9 t=>
     cases t;rename_i p8 p9;have hg:a.eval (.tmp 16) = .func (.func 258) #[] #[p8,p9]:=q.ev (x:=.tmp 16) hg1;obtain ⟨X,B⟩:∃ X:PX,X=⟨G,d.heap.size,d.heap.size+1,fn,a.tmps,F1,s,l,v,W.b0,Nat.le_succ_of_le W.b0⟩:=⟨_,rfl⟩;have p:X.D=d.heap.size:=by rw [B]
     have y:X.L=d.heap.size+1:=by rw [B]
     obtain ⟨hre,hle,hk⟩:=W.enter (.deferred (some [])) (.loop (X.rc .ready none));have hsz2:((d.alloc (.deferred (some []))).alloc (.loop (X.rc .ready none))).heap.size=d.heap.size+1+1:=by simp
     have hmid:Mid X 0 o ((d.alloc (.deferred (some []))).alloc (.loop (X.rc .ready none))):=by
      refine ⟨?_,?_,fun x hx=>by simp at hx,?_,?_⟩
      ·have:Rep (GZ G d.heap.size (d.heap.size+1)) o (Go.Proofs.YticbaadnibdbkaaGreat.hK s [] l v) ((d.alloc (.deferred (some []))).alloc (.loop (X.rc .ready none))):=hre;rw [B] at this ⊢; exact this
      ·have:=hf1.carry hle (kB.refl _);rw [B] at this ⊢; exact this
      ·rw [y];have:=World.alloc_heap_new (d.alloc (.deferred (some []))) (.loop (X.rc .ready none));rwa [World.size_alloc] at this
      rw [p];exact (Below.heap_alloc _ _ _ aa).trans (World.alloc_heap_new d _)
     have K:X.G.shp=ak tyT:=by rw [B]; exact hG
     have hGgX:X.g.shp=ak tyT:=K;have hlX:X.l=l:=by rw [B]
     have hMX:M 40 X.FP { tmps:=X.tm,defers:=[] }:=by rw [B]; rw [hae] at q; exact q
     have hMa:M 40 X.FP a:=by rw [B]; exact q
     have h8':ek o (5,0) p8:=h8;have h9':ek o (6,0) p9:=h9;have hit:=Sa K (by rw [hlX]; exact hsz) hMX (by rw [p,y]; omega) hmid h8' h9';have hE1:Ext [] w o ((d.alloc (.deferred (some []))).alloc (.loop (X.rc .ready none))):=hs1.ext.trans (Ext.kp hk);have T:∀ {N:List RE} {U:World} {H:AH} {b:Act} {fr:AFr} {F:Fr},Rep X.g N H U->FrR (cx X.g N U) N fr F->M 40 F b->endE tyT [] 0 Tryz.f171 (rE (plS X.v X.s X.l) (pE X.v X.l)) (hE (plS X.v X.s X.l) (plR X.v X.s X.l)) fr H->U.heap[X.D]? = some (.deferred (some [])) ->
       Adv X.Z o ((d.alloc (.deferred (some []))).alloc (.loop (X.rc .ready none))) N U->bodyPostM (gN none) 0 Tryz.prog Tryz.f171 (fun e w'=>∃ u,e = .returned u/\Gq G w s l v u w') .ret (iZ b [{ target:=.collected X.D,args:=#[] }]) U:=fun hR4 hf4 hMb j hd4 hA4=>by
      obtain ⟨w',ht,u,t,ho⟩:=RT (w0:=w) K (by rw [B]; exact hR.z) (by rw [p]; exact hs1.ext.size) (by rw [p,y]; omega) hR4 hf4 hMb j hd4 hE1 hA4;rw [B] at ho;exact ⟨aa,.inl ⟨_,w',rfl,ht,u,t,u,rfl,ho⟩⟩
     refine ⟨d.heap.size+1,[{ target:=.collected d.heap.size,args:=#[] }],(d.alloc (.deferred (some []))).alloc (.loop { state:=.ready,pending:=none,fn:=fn,tmps:=a.tmps,params:=#[17],assign:=La,body:=Pl,defers:=d.heap.size }),{ target:=.fn (.func 258) #[p8,p9],args:=#[yV (d.heap.size+1)] },(d.alloc (.deferred (some []))).alloc (.loop { state:=.ready,pending:=none,fn:=fn,tmps:=a.tmps,params:=#[17],assign:=La,body:=Pl,defers:=d.heap.size }),258,#[yV (d.heap.size+1)] ++ #[p8,p9],(d.alloc (.deferred (some []))).alloc (.loop { state:=.ready,pending:=none,fn:=fn,tmps:=a.tmps,params:=#[17],assign:=La,body:=Pl,defers:=d.heap.size }),run_enterLoop_outer _ _ _ _ _,?_,fun _ _=>trivial,?_,fun h=>(by cases h),?_⟩
     ·simp only [resolve,hg];simp [go_sem]
     ·simp [invoke,go_sem]
     have hrc:({ state:=.ready,pending:=none,fn:=fn,tmps:=a.tmps,params:=#[17],assign:=La,body:=Pl,defers:=d.heap.size }:Loop)=X.rc .ready none:=by rw [B]; rfl
     rw [hrc,<- y];refine Q_ (alJ hit fun e O ⟨v0,he,f,hA2,hc⟩=>?_);subst he;rcases hc with ⟨k,hk,Q⟩ | hst
     ·refine ⟨none,_,run_endLoop (P:=Tryz.prog) Q.loop (by simp [PX.rc]),?_⟩;obtain ⟨p1,p2,p3⟩:=aa7 (s:=X.s) Q.ok hk;have S:=Q.rep.KQ (l:=X.L) (.loop { X.rc .ready none with state:=.exhausted }) (.inr (.inr rfl)) X.hL;have A2:Adv X.Z o _ f (O.putObj X.L (.loop { X.rc .ready none with state:=.exhausted })):=hA2.trans (.put _ (.inr rfl));have C:FrR (cx X.g f (O.putObj X.L (.loop { X.rc .ready none with state:=.exhausted }))) f frP X.FP:=Q.fr.carry ((Adv.put (Z:=X.Z) (ρ:=f) (w:=O) _ (.inr rfl)).le (G:=X.g) (fun b Y=>.inr Y) Q.rep.lo X.hB) (kB.refl _);have A:(O.putObj X.L (.loop { X.rc .ready none with state:=.exhausted })).heap[X.D]? = some (.deferred (some [])):=(ahc (by rw [p,y]; omega)).trans Q.dfr;have hlen2:f.length=11:=Q.rep.obj.length.symm;revert S A2 C A;generalize O.putObj X.L (.loop { X.rc .ready none with state:=.exhausted })=U;intro S A2 C A;have hwc:WC Tryz.prog (fun e b w5=>e = .ret/\bodyPostM (gN none) 0 Tryz.prog Tryz.f171 (fun e w'=>∃ u,e = .returned u/\Gq G w s l v u w') .ret (iZ b [{ target:=.collected X.D,args:=#[] }]) w5) 40 UT X.FP U:=by
       refine GW hGgX (ahf hlen2) bP (abH (s:=pS X.v X.s (X.l.take k)) (r:=pR X.v X.s (X.l.take k)) (l:=X.l) (v:=X.v)) (⟨f,Stp.refl _ _ _,S,C⟩) fun e fr H F w5 hK J=>?_;cases e with
       | ret=>
        obtain ⟨ρ5,hs5,hr5,hf5⟩:=J;have hd5:w5.heap[X.D]? = some (.deferred (some [])):=(hs5.ext.old _ (fj A) (S.jQ (.inr (.inl rfl)))).2.trans A;have j:endE tyT [] 0 Tryz.f171 (rE (pS X.v X.s (X.l.take k)) 0) (hE (pS X.v X.s (X.l.take k)) (pR X.v X.s (X.l.take k))) fr H:=hK;rw [p1,p2,p3] at j;exact fun b Y=>⟨rfl,T hr5 hf5 Y j hd5 (A2.trans (.xS hs5.ext hs5.bx))⟩
       | _=>exact hK.elim
      have hwi:=Ov (m:=0) (hwc a hMa none [{ target:=.collected X.D,args:=#[] }]);rw [p] at hwi;have I:({ a with defers:=[{ target:=.collected d.heap.size,args:=#[] }]++a.defers }:Act)=iZ a [{ target:=.collected d.heap.size,args:=#[] }]:=by rw [q.1]; rfl
      show Exit.inBlock 0 _ .normal _ U;rw [I];refine wpIn_mono hwi fun e b w5 ⟨b0,hb0,hbe,hbr,hpost⟩=>?_;subst hbr; subst hbe;exact hpost
     refine ⟨some .ret,_,run_endLoop (P:=Tryz.prog) hst.loop (by simp [PX.rc]),?_⟩;obtain ⟨H,hR,j⟩:=hst.rep;have A2:Adv X.Z o _ f (O.putObj X.L (.loop { X.rc .done (some .ret) with state:=.exhausted })):=hA2.trans (.put _ (.inr rfl));have C:FrR (cx X.g f (O.putObj X.L (.loop { X.rc .done (some .ret) with state:=.exhausted }))) f frP X.FP:=hst.fr.carry ((Adv.put (Z:=X.Z) (ρ:=f) (w:=O) _ (.inr rfl)).le (G:=X.g) (fun b Y=>.inr Y) hR.lo X.hB) (kB.refl _);have A:(O.putObj X.L (.loop { X.rc .done (some .ret) with state:=.exhausted })).heap[X.D]? = some (.deferred (some [])):=(ahc (by rw [p,y]; omega)).trans hst.dfr;have hp:=T (hR.KQ _ (.inr (.inr rfl)) X.hL) C hMa j A A2;have I:({ a with defers:=[{ target:=.collected d.heap.size,args:=#[] }]++a.defers }:Act)=iZ a [{ target:=.collected d.heap.size,args:=#[] }]:=by rw [q.1]; rfl
     rw [p] at hp;show Code.ret.wpIn _ _ _ _ _ _;rw [I];exact wpIn_ret hp
    | _=>exact hK.elim
   | _=>exact hK.elim
  | _=>exact hK.elim
 | _=>exact hK.elim
def MU (s:State) (l:List Entry) (v:Int):Sat Tryz.prog (ak tyT) 171 [.agg (cellsOf (.nm .state) s),.c (.fz (.nm .entry) l),.c (.int v)] [] ⟨[],rE (plS v s l) (pE v l),some (hE (plS v s l) (plR v s l)),true⟩:=by
 refine ⟨⟨_,Tryz.func171,am,by kernel_rfl⟩,fun G ρ w y k j a=>?_⟩;have d:ρ=[]:=abb j.obj.length.symm;subst d;refine (MJ k j a).mono fun u z ⟨m,e,f,o,p,q,x⟩=>⟨m,e,f,o,p,fun i g h=>by simp at h,q,fun _=>⟨x,fun i r h=>by simp at h⟩⟩
