/- What leads to the law, part 6. Conditions: each lemma's own. -/
import Derived.Shelf.Lay
import Derived.Shelf.SlSortCmp.Small
import Derived.Shelf.Small.Bits
import Derived.Sort.LotA
import Derived.Test.YticbaadnibdbkaaGreatNTM5
set_option linter.unusedVariables false
set_option linter.unusedSimpArgs false
set_option maxHeartbeats 2000000
set_option linter.defProp false
noncomputable section
namespace Go.Proofs.YticbaadnibdbkaaGreat
open Go.RowKit
def afZ:=@Nat.le_of_eq
variable {k:Nat} {l:List Field}
def aeJ (a:k<=l.length) (b:0<(k:Int)):l[k - 1]? = some (l.getD ((k:Int) - 1).toNat (ak (.nm .field))):=by
 rw [show ((k:Int) - 1).toNat=k - 1 by omega,List.getD_eq_getElem?_getD,List.getElem?_eq_getElem aL]; rfl
variable {x:Field}
def Wu (h:(k:Int)<=0\/fY (l.getD ((k:Int) - 1).toNat (ak (.nm .field))) x=true) (a:k<=l.length):xR l k x:=by
 by_cases b:0<(k:Int)
 ·exact .inr ⟨_,aeJ a b,h.resolve_left aL⟩
 exact .inl aL
def aeQ {v:Int}:(((bQ.take k).filter (fun s=>decide (s.since<=v))).length+1)*32<=140737488355328:=by
 have:=LR (v:=v) (k:=k); omega
def acy {v:Int} (a:1<=v) (b:v<=3) (c:8<=(k:Int)):(bQ.take k).filter (fun s=>decide (s.since<=v))=aV v:=KG aL (by show 8<=k; omega)
def ahF {v:Int}:dZ (l.take 0) v=[]:=rfl
def ag1 {v:Int}:eU (l.take 0) v=[]:=rfl
def ahZ {v:Int} (a:l[k]? = some x) (h:x.num<=v):dZ (l.take k) v++[x]=dZ (l.take (k+1)) v:=RG a h
def ah4 {v:Int} (a:l[k]? = some x) (h:¬ x.num<=v):dZ (l.take k) v=dZ (l.take (k+1)) v:=aa0 a h
def ajg {v:Int} (a:l[k]? = some x) (h:¬ x.num<=v):eU (l.take k) v++[x]=eU (l.take (k+1)) v:=Um a h
def ahv {v:Int} (a:l[k]? = some x) (h:x.num<=v):eU (l.take k) v=eU (l.take (k+1)) v:=aaw a h
def ahp {v:Int} (a:l.length<=k):dZ (l.take k) v=dZ l v:=HV a
def agn {v:Int} (a:l.length<=k):eU (l.take k) v=eU l v:=PA a
attribute [local irreducible] dZ eU
def YF (l:List Field):List (Nat × LI):=[(3,{ σ:=Nat,F:=fun k=>([(0,one (.fz (.nm .field) (l))),(3,one (.int (iJ (l.take k):Nat))),(6,one (.fz (.nm .field) (l))),(7,one (.int (l).length)),(8,one (.int k))],[]),J:=fun k=>k<=l.length/\ew none l=ew (fq l k) (l.drop k)/\iJ (l.take k)<=k*16404,μ:=fun k=>(l).length - k })]
def Zi (q:Int) (v:Int):List (Nat × LI):=[(5,{ σ:=Nat,F:=fun k=>([(1,one (.int (v))),(5,one (.own 0)),(15,one (.fz (.nm .spec) bQ)),(16,one (.int 8)),(17,one (.int k))],[.row 255 (.nm .spec) (((bQ.take k).filter (fun (s:Spec)=>decide (s.since<=v))))]),J:=fun k=>k<=8,μ:=fun k=>8 - k })]
def TC (l:List Field) (v:Int):List (Nat × LI):=[(2,{ σ:=Nat,F:=fun k=>([(1,one (.int (v))),(4,one (.own 0)),(5,one (.own 1)),(8,one (.fz (.nm .field) (l))),(9,one (.int (l).length)),(10,one (.int k))],[.row 219 (.nm .field) ((dZ (l.take k) v)),.row 219 (.nm .field) ((eU (l.take k) v))]),J:=fun k=>k<=l.length,μ:=fun k=>(l).length - k })]
def aad (l:List Field):List (Nat × LI):=[(3,{ σ:=Nat,F:=fun k=>([(2,one (.ptr 0 0)),(3,one (.ptr 1 0)),(6,one (.fz (.nm .field) (l))),(7,one (.int (l).length)),(8,one (.int k))],[.box 35 (cellsOf (.nm .command) (cN)),.box 35 (cellsOf (.nm .command) ((c_ (l.take k))))]),J:=fun k=>k<=l.length,μ:=fun k=>(l).length - k })]
def Ht:Kn:=aN (ae (kC (aY 0 0)) (ae (kC (aY 1 0)) aq)) (aE (dF 50 (aA (cL .u8) dy)) (aE (dF 3 (aA cI dy)) ax)) fun _ ((b,_),(s,_),_)=>⟨[0<=s,s<=(b.length:Int),b.length*1<=140737488355328],[.c (.u64 ((U64.mk (aj (b.drop s.toNat)).1)).n),.c (.int (((aj (b.drop s.toNat)).2.2)))],some ([.box 50 ([.fz .u8 ((b))]),.box 3 ([.int ((s+((aj (b.drop s.toNat)).2.1:Nat)))])]),false⟩
def Vr:CK 356 Ht:=ah fun _ ((b,_),(s,_),_) c=>by
 have d:=cd c;have e:=cd (eY c);have f:=cd (eY (eY c));refine bt jR [] Tryz.func356 (?_:(fun a=>0<=s/\s<=(↑b.length:Int)/\(a.fst<18446744073709551616->I64 (↑a.snd.fst:Int)->I64 a.snd.snd->I64 (s+(↑a.snd.fst:Int))/\a.fst=(aj (List.drop s.toNat b)).fst/\a.snd.snd=(aj (List.drop s.toNat b)).snd.snd/\b=b/\s+(↑a.snd.fst:Int)=s+(↑(aj (List.drop s.toNat b)).snd.fst:Int))) (aj (List.drop s.toNat b)));(repeat' with_reducible first|apply bh|refine bg ?_|intro)
 all_goals (first | exact br | (have:=(oA b s.toNat).1; refine bZ ?_ ?_ <;> omega))
def Bh:Kn:=aN (ae (kC (cL .u8)) aq) ax fun (b,_) _=>⟨[],[.agg (cellsOf (.nm .field) (iD b))],none,false⟩
def Ld:CK 330 Bh:=ah fun (b,_) _ _=>by
 refine aw jR [] Tryz.func330 (?_:(fun a=>(fun c=>(fun d=>b.length*1<=140737488355328->I64 a.num->I64 a.wire->I64 (↑a.k:Int)->I64 a.e->0<=(↑a.k:Int)/\(↑a.k:Int)<=(↑b.length:Int)/\(c.fst<18446744073709551616->I64 (↑c.snd.fst:Int)->I64 c.snd.snd->(a.wire=0->a.num=(iD b).num/\a.wire=(iD b).wire/\c.fst=(iD b).n.n/\(iD b).b=[])/\(¬a.wire=0->I64 d/\0<=d/\d<=(↑b.length:Int)/\(List.drop d.toNat b).length*1<=140737488355328/\a.num=(iD b).num/\a.wire=(iD b).wire/\0=(iD b).n.n/\List.drop d.toNat b=(iD b).b))) ((↑a.k:Int)+(↑c.snd.fst:Int))) (aj (List.drop a.k b))) (aS b));(repeat' with_reducible first|apply bh|refine bg ?_|intro)
 all_goals (first | exact br | exact (congrArg Field.num (Em ab)) | exact (congrArg Field.wire (Em ab)) | exact (congrArg (fun f=>f.n.n) (Em ab)) | exact (congrArg Field.b (Em ab)).symm | exact (congrArg Field.num (Gt ab)) | exact (congrArg Field.wire (Gt ab)) | exact (congrArg (fun f=>f.n.n) (Gt ab)) | exact (congrArg Field.b (Gt ab)) | (have g:=qJ b; have h:=oA b (aS b).k; first | omega | (refine bZ ?_ ?_ <;> omega) | (rw [List.length_drop]; omega)))
def Hc:Kn:=aN (ae (kC (cL (.nm .field))) aq) ax fun (l,_) _=>⟨[],[.c (.int ((cR l)))],none,false⟩
theorem RM:CK 221 Hc:=ah fun (l,_) _ _=>by
 refine aw jR (YF l) Tryz.func221 (?_:(fun (m:den (Sh.nm NT.field))=>(fun (c:Nat)=>(fun (d:Int)=>(fun (g:Int)=>l.length*48<=140737488355328->∃ (h:Nat),(l=l/\d=(↑(iJ (List.take h l)):Int)/\l=l/\(↑l.length:Int)=(↑c:Int)/\d=(↑h:Int))/\(h<=c/\ew none l=ew (fq l h) (List.drop h l)/\iJ (List.take h l)<=h*16404)/\∀ (s:Nat),(fun (j:Int)=>(fun (a:Int)=>(fun (i:den (Sh.nm NT.field))=>s<=c/\ew none l=ew (fq l s) (List.drop s l)/\iJ (List.take s l)<=s*16404->(a<(↑c:Int)->d<=a/\a<(↑l.length:Int)/\∀ (x:Field),l[s]? = some x->I64 x.num->I64 x.wire->x.n.n<18446744073709551616->x.b.length*1<=140737488355328->(eF x=false->g=cR l)/\(eF x=true->(d<a->I64 (a - g))/\(d<a->d<=a - g/\a - g<(↑l.length:Int))/\((d<a->I64 i.num/\I64 i.wire/\i.n.n<18446744073709551616/\i.b.length*1<=140737488355328)->(d<a/\fY i x=false->5=cR l)/\(a<=d\/fY i x=true->(16384<(↑x.b.length:Int)->4=cR l)/\((↑x.b.length:Int)<=16384->x.b.length<=16384/\I64 (j+(↑(cC x).length:Int))/\I64 (a+g)/\∃ (e:Nat),(l=l/\j+(↑(cC x).length:Int)=(↑(iJ (List.take e l)):Int)/\l=l/\(↑c:Int)=(↑c:Int)/\a+g=(↑e:Int))/\(e <= c/\ew none l=ew (fq l e) (List.drop e l)/\iJ (List.take e l)<=e * 16404)/\c - e < c - s)))))/\((↑c:Int)<=a->(16384<j->4=cR l)/\(j<=16384->d=cR l))) (l.getD (a - g).toNat m)) (↑s:Int)) (↑(iJ (List.take s l)):Int)) 1) 0) l.length) (ak (Sh.nm NT.field)));iterate 3 ((all_goals (repeat' with_reducible first|apply bh|refine bg ?_|intro)); (all_goals try (first | exact br | exact rfl | exact (Nat.le_refl 0) | exact (abu ab ab ab) | exact (aap ab ab ab aL (aeJ aL ab) ab) | exact (YM ab ab ab (Wu ap aL) ab) | exact (Mz ab ab ab (Wu ap aL) aL) | exact (KH ab aL ab) | exact (OM ab aL aL) | (have o:=ri (f:=‹Field›) aL ab; have p:=Kw (show l[_]? = some ‹Field› by with_reducible assumption); first | omega | (refine bZ ?_ ?_ <;> omega)))); all_goals try first | refine ⟨‹Nat› + 1,?_⟩ | refine ⟨0,?_⟩)
def Ex:Kn:=aN (ae (kC cI) (ae (kC cI) aq)) ax fun (q,v,_) _=>⟨[q=1],[.c (.fz (.nm .spec) ((aV v)))],none,false⟩
theorem Rk:CK 220 Ex:=ah fun (q,v,_) _ h=>by
 have i:=cd h;refine aw jR (Zi q v) Tryz.func220 (?_:(fun (c:Int)=>(fun (d:Int)=>(fun (b:Nat)=>I64 q->I64 v->(v<d\/3<v->aV v=[])/\(d<=v/\v<=3->q=d/\(bQ.length*32<=140737488355328->∃ (g:Nat),(v=v/\bQ=bQ/\(↑bQ.length:Int)=c/\0=(↑g:Int)/\List.filter (fun (s:Spec)=>decide (s.since<=v)) (List.take g bQ)=[])/\g<=b/\∀ (s:Nat),(fun (e:Int)=>(fun (f:List (den (Sh.nm NT.spec)))=>s<=b->((↑s:Int)<c->0<=(↑s:Int)/\(↑s:Int)<(↑bQ.length:Int)/\∀ (x:Spec),bQ[s]? = some x->mF x ((x.since<=v->(f.length+[x].length)*32<=140737488355328/\I64 e/\∃ (a:Nat),(v=v/\bQ=bQ/\c=c/\e=(↑a:Int)/\f++[x]=List.filter (fun (s:Spec)=>decide (s.since<=v)) (List.take a bQ))/\a <= b/\b - a < b - s)/\(v<x.since->I64 e/\∃ (a:Nat),(v=v/\bQ=bQ/\c=c/\e=(↑a:Int)/\f=List.filter (fun (s:Spec)=>decide (s.since<=v)) (List.take a bQ))/\a <= b/\b - a < b - s)))/\(c<=(↑s:Int)->f=aV v)) (List.filter (fun (s:Spec)=>decide (s.since<=v)) (List.take s bQ))) ((↑s:Int)+d)))) 8) 1) 8);iterate 3 ((all_goals (repeat' with_reducible first|apply bh|refine bg ?_|intro)); (all_goals try (first | exact br | exact rfl | exact (Jb ab).symm | exact (Oc ab ab) | exact (Vy ab aL) | exact aeQ | exact (acy aL aL aL) | (have j:bQ.length=8:=rfl; omega))); all_goals try first | refine ⟨‹Nat› + 1,?_⟩ | refine ⟨0,?_⟩)
def Cs:Kn:=aN (ae (kC (cL (.nm .field))) (ae (kC cI) aq)) ax fun (l,v,_) _=>⟨[],[.c (.fz (.nm .field) ((dZ l v))),.c (.fz (.nm .field) ((eU l v)))],none,false⟩
theorem Pc:CK 288 Cs:=ah fun (l,v,_) _ _=>by
 refine aw jR (TC l v) Tryz.func288 (?_:(fun (c:Nat)=>(fun (e:Int)=>l.length*48<=140737488355328->I64 v->∃ (f:Nat),(v=v/\l=l/\(↑l.length:Int)=e/\0=(↑f:Int)/\dZ (List.take f l) v=[]/\eU (List.take f l) v=[])/\f<=c/\∀ (s:Nat),(fun (d:List Field)=>(fun (g:Int)=>s<=c->((↑s:Int)<e->0<=(↑s:Int)/\(↑s:Int)<(↑l.length:Int)/\∀ (x:Field),(fun (h:Prop)=>l[s]? = some x->I64 x.num->I64 x.wire->x.n.n<18446744073709551616->h->h->(x.num<=v->((dZ d v).length+[x].length)*48<=140737488355328/\I64 g/\∃ (a:Nat),(v=v/\l=l/\e=e/\g=(↑a:Int)/\dZ d v++[x]=dZ (List.take a l) v/\eU d v=eU (List.take a l) v)/\a <= c/\c - a < c - s)/\(v<x.num->((eU d v).length+[x].length)*48<=140737488355328/\I64 g/\∃ (a:Nat),(v=v/\l=l/\e=e/\g=(↑a:Int)/\dZ d v=dZ (List.take a l) v/\eU d v++[x]=eU (List.take a l) v)/\a <= c/\c - a < c - s)) (x.b.length*1<=140737488355328))/\(e<=(↑s:Int)->dZ d v=dZ l v/\eU d v=eU l v)) ((↑s:Int)+1)) (List.take s l)) (↑c:Int)) l.length);iterate 3 ((all_goals (repeat' with_reducible first|apply bh|refine bg ?_|intro)); (all_goals try (first | exact br | exact ahF | exact ag1 | exact (ahZ ab ab) | exact (ah4 ab aL) | exact (ajg ab aL) | exact (ahv ab ab) | exact (ahp aL) | exact (agn aL) | (have i:=SC (l.take ‹Nat›) v; have j:=Gy (l.take ‹Nat›) v; rw [List.length_take] at i j; simp only [List.length_cons,List.length_nil]; omega))); all_goals try first | refine ⟨‹Nat› + 1,?_⟩ | refine ⟨0,?_⟩)
def FT:Kn:=aN (ae (kC (cL (.nm .field))) aq) ax fun (l,_) _=>⟨[∀ f ∈ l,f.b.length<=16384],[.agg (cellsOf (.nm .command) (c_ l))],none,false⟩
theorem SK:CK 289 FT:=ah fun (l,_) _ y=>by
 have z:=cd y;refine aw jR (aad l) Tryz.func289 (?_:(fun (o:Prop)=>(fun (j:Int)=>(fun (v:Int)=>(fun (e:Nat)=>(fun (q:Prop)=>l.length*48<=140737488355328->∃ (w:Nat),(fun (u:Command)=>(o/\(↑l.length:Int)=(↑e:Int)/\j=(↑w:Int)/\j=cN.kind/\j=cN.client/\j=cN.seq/\j=cN.set/\j=cN.id/\j=cN.n/\cN.chunks=[]/\Str.mk []=cN.text/\j=u.kind/\j=u.client/\j=u.seq/\j=u.set/\j=u.id/\j=u.n/\u.chunks=[]/\Str.mk []=u.text)/\w<=e/\∀ (s:Nat),(fun (r:Nat)=>(fun (p:Int)=>(fun (t:Prop)=>(fun (d:Command)=>(fun (f:Str)=>(fun (g:Int)=>(fun (h:List Int)=>(fun (i:Int)=>s<=e->((↑s:Int)<(↑e:Int)->j<=(↑s:Int)/\(↑s:Int)<(↑l.length:Int)/\∀ (x:Field),(fun (m:Int)=>(fun (c:Int)=>l[s]? = some x->I64 c->I64 x.wire->x.n.n<18446744073709551616->x.b.length*1<=140737488355328->(c=v->t/\∃ (a:Nat),(o/\q/\p=(↑a:Int)/\bq cN cN (aR (Command.mk m i d.seq d.set d.id d.n h f) (c_ (List.take a l))))/\a <= e/\e - a < r)/\(¬c=v->(c=2->t/\∃ (a:Nat),(o/\q/\p=(↑a:Int)/\bq cN cN (aR (Command.mk g m d.seq d.set d.id d.n h f) (c_ (List.take a l))))/\a <= e/\e - a < r)/\(¬c=2->(c=3->t/\∃ (a:Nat),(o/\q/\p=(↑a:Int)/\bq cN cN (aR (Command.mk g i m d.set d.id d.n h f) (c_ (List.take a l))))/\a <= e/\e - a < r)/\(¬c=3->(c=4->t/\∃ (a:Nat),(o/\q/\p=(↑a:Int)/\bq cN cN (aR (Command.mk g i d.seq m d.id d.n h f) (c_ (List.take a l))))/\a <= e/\e - a < r)/\(¬c=4->(c=5->t/\∃ (a:Nat),(o/\q/\p=(↑a:Int)/\bq cN cN (aR (Command.mk g i d.seq d.set m d.n h f) (c_ (List.take a l))))/\a <= e/\e - a < r)/\(¬c=5->(c=6->t/\∃ (a:Nat),(o/\q/\p=(↑a:Int)/\bq cN cN (aR (Command.mk g i d.seq d.set d.id m h f) (c_ (List.take a l))))/\a <= e/\e - a < r)/\(¬c=6->(c=7->x.b.length<=100000/\((ll x.b).length*8<=140737488355328->I64 (pM x.b)->t/\∃ (a:Nat),(o/\q/\p=(↑a:Int)/\bq cN cN (aR (Command.mk g i d.seq d.set d.id d.n (ll x.b) f) (c_ (List.take a l))))/\a <= e/\e - a < r))/\(¬c=7->(c=8->t/\∃ (a:Nat),(o/\q/\p=(↑a:Int)/\bq cN cN (aR (Command.mk g i d.seq d.set d.id d.n h (Str.mk x.b)) (c_ (List.take a l))))/\a <= e/\e - a < r)/\(¬c=8->t/\∃ (a:Nat),(o/\q/\p=(↑a:Int)/\bq cN cN (aR d (c_ (List.take a l))))/\a <= e/\e - a < r))))))))) x.num) (fa x.n.n))/\((↑e:Int)<=(↑s:Int)->aR d (c_ l))) d.client) d.chunks) d.kind) d.text) (c_ (List.take s l))) (I64 p)) ((↑s:Int)+v)) (e - s)) (c_ (List.take w l))) ((↑e:Int)=(↑e:Int))) l.length) 1) 0) (l=l));iterate 3 ((all_goals (repeat' with_reducible first|apply bh|refine bg ?_|intro)); (all_goals try (first | exact br | exact rfl | (have:=z _ (afu ab); omega) | (rw [dK ab,<- afR ab] <;> first | rfl | exact (dY ab).symm) | (rw [dK ab,<- ai7 ab] <;> first | rfl | exact (dY ab).symm) | (rw [dK ab,<- ahj ab] <;> first | rfl | exact (dY ab).symm) | (rw [dK ab,<- aiA ab] <;> first | rfl | exact (dY ab).symm) | (rw [dK ab,<- ajH ab] <;> first | rfl | exact (dY ab).symm) | (rw [dK ab,<- ahl ab] <;> first | rfl | exact (dY ab).symm) | (rw [dK ab,<- ajM ab] <;> first | rfl | exact (dY ab).symm) | (rw [dK ab,<- ahV ab] <;> first | rfl | exact (dY ab).symm) | (rw [dK ab,<- ajh aL] <;> first | rfl | exact (dY ab).symm) | (rw [List.take_of_length_le aL]))); all_goals try first | refine ⟨‹Nat› + 1,?_⟩ | refine ⟨0,?_⟩)
def adY:bM:=(aP 289 FT (aP 288 Cs (aP 220 Ex (aP 221 Hc (aP 330 Bh (aP 356 Ht acz))))))
def nq:aB Tryz.prog (al tyT) adY:=(ag SK (ag Pc (ag Rk (ag RM (ag Ld (ag Vr jR))))))
def FW:Kn:=aN (ae (kC cI) (ae (kC cI) (ae (kC (aY 0 0)) aq))) (aE (dF 177 (aA (cEm true) dy)) ax) fun (k,n,_,_) ((_,_),_)=>⟨[0<=n],[],some ([.box 177 ([.own 1]),.row 219 (.nm .field) ((ql k n))]),false⟩
def Ta:CK 223 FW:=ah fun (k,n,_,_) ((_,_),_) a=>by
 have b:=cd a;refine bt nq [] Tryz.func223 (?_:I64 k->I64 n->(¬n=0->0<=n/\[Field.mk k 0 (U64.mk n.toNat) []].length*48<=140737488355328/\[Field.mk k 0 (U64.mk n.toNat) []]=ql k n)/\(n=0->ql k n=[]));(repeat' with_reducible first|apply bh|refine bg ?_|intro)
 all_goals (first | exact br | exact (AM ab) | exact (Aj ab) | exact (BM ab) | exact (Af aL) | exact (AM (xs:=[]) ab) | exact (Aj (xs:=[]) ab).symm | exact (BM (xs:=[]) ab) | exact (Af (xs:=[]) aL).symm | (simp only [List.length_cons,List.length_nil]; omega) | decide)
def FG:Kn:=aN (ae (kC cI) (ae (kC cI) (ae (kC (aY 0 0)) aq))) (aE (dF 177 (aA (fb 1) dy)) (aE (e_ 219 (.nm .field)) ax)) fun (k,n,_,_) ((_,_),a,_)=>⟨[0<=n,a.length<=1000],[],some ([.box 177 ([.own 1]),.row 219 (.nm .field) ((a++ql k n))]),false⟩
def Vn:CK 223 FG:=ah fun (k,n,_,_) ((_,_),xs,_) a=>by
 have b:=cd a;have c:=cd (eY a);refine bt nq [] Tryz.func223 (?_:I64 k->I64 n->(¬n=0->0<=n/\(xs.length+[Field.mk k 0 (U64.mk n.toNat) []].length)*48<=140737488355328/\xs++[Field.mk k 0 (U64.mk n.toNat) []]=xs++ql k n)/\(n=0->xs=xs++ql k n));(repeat' with_reducible first|apply bh|refine bg ?_|intro)
 all_goals (first | exact br | exact (AM ab) | exact (Aj ab) | exact (BM ab) | exact (Af aL) | exact (AM (xs:=[]) ab) | exact (Aj (xs:=[]) ab).symm | exact (BM (xs:=[]) ab) | exact (Af (xs:=[]) aL).symm | (simp only [List.length_cons,List.length_nil]; omega) | decide)
def EZ:Kn:=aN (ae (kC cI) (ae (kC (cL .u8)) (ae (kC (aY 0 0)) aq))) (aE (dF 177 (aA (cEm true) dy)) ax) fun (k,b,_,_) ((_,_),_)=>⟨[],[],some ([.box 177 ([.own 1]),.row 219 (.nm .field) ((Cw k b))]),false⟩
def Vm:CK 224 EZ:=ah fun (k,b,_,_) ((_,_),_) _=>by
 refine bt nq [] Tryz.func224 (?_:I64 k->b.length*1<=140737488355328->(0<(↑b.length:Int)->[Field.mk k 2 (U64.mk 0) b].length*48<=140737488355328/\[Field.mk k 2 (U64.mk 0) b]=Cw k b)/\((↑b.length:Int)<=0->Cw k b=[]));(repeat' with_reducible first|apply bh|refine bg ?_|intro)
 all_goals (first | exact br | exact (AM ab) | exact (Aj ab) | exact (BM ab) | exact (Af aL) | exact (AM (xs:=[]) ab) | exact (Aj (xs:=[]) ab).symm | exact (BM (xs:=[]) ab) | exact (Af (xs:=[]) aL).symm | (simp only [List.length_cons,List.length_nil]; omega) | decide)
def GW:Kn:=aN (ae (kC cI) (ae (kC (cL .u8)) (ae (kC (aY 0 0)) aq))) (aE (dF 177 (aA (fb 1) dy)) (aE (e_ 219 (.nm .field)) ax)) fun (k,b,_,_) ((_,_),a,_)=>⟨[a.length<=1000],[],some ([.box 177 ([.own 1]),.row 219 (.nm .field) ((a++Cw k b))]),false⟩
def RP:CK 224 GW:=ah fun (k,b,_,_) ((_,_),xs,_) a=>by
 have c:=cd a;refine bt nq [] Tryz.func224 (?_:I64 k->b.length*1<=140737488355328->(0<(↑b.length:Int)->(xs.length+[Field.mk k 2 (U64.mk 0) b].length)*48<=140737488355328/\xs++[Field.mk k 2 (U64.mk 0) b]=xs++Cw k b)/\((↑b.length:Int)<=0->xs=xs++Cw k b));(repeat' with_reducible first|apply bh|refine bg ?_|intro)
 all_goals (first | exact br | exact (AM ab) | exact (Aj ab) | exact (BM ab) | exact (Af aL) | exact (AM (xs:=[]) ab) | exact (Aj (xs:=[]) ab).symm | exact (BM (xs:=[]) ab) | exact (Af (xs:=[]) aL).symm | (simp only [List.length_cons,List.length_nil]; omega) | decide)
def VP:bM:=(aP 224 GW (aP 224 EZ (aP 223 FG (aP 223 FW adY))))
def zQ:aB Tryz.prog (al tyT) VP:=(ag RP (ag Vm (ag Vn (ag Ta nq))))
def uM:Kn:=aN (ae (kT (.nm .command)) (ae (kC cI) aq)) ax fun (c,v,_) _=>⟨[0<=c.kind,0<=c.client,0<=c.seq,0<=c.set,0<=c.id,0<=c.n],[.c (.own 0)],some ([.row 219 (.nm .field) ((dN c v))]),true⟩
def IV:CK 163 uM:=ah fun (c,v,_) _ d=>by
 have s:=cd d;have m:=cd (eY d);have o:=cd (eY (eY d));have p:=cd (eY (eY (eY d)));have q:=cd (eY (eY (eY (eY d))));have r:=cd (eY (eY (eY (eY (eY d)))));refine dw zQ [] Tryz.func163 (?_:(fun e=>(fun j=>(fun a=>(fun g=>(fun h=>(fun i=>(fun f=>bC c (I64 v->e<=c.kind/\e<=c.client/\(ql 1 c.kind).length<=a/\e<=c.seq/\j.length<=a/\e<=c.set/\i.length<=a/\e<=c.id/\(i++ql 4 c.set).length<=a/\e<=c.n/\f.length<=a/\((eQ c.chunks).length*1<=140737488355328->I64 (fL c.chunks)->(f++g).length<=a/\(3<=v->(f++g++h).length<=a/\f++g++h++Cw 8 c.text.b=dN c v)/\(v<3->f++g++h=dN c v)))) (i++ql 4 c.set++ql 5 c.id)) (j++ql 3 c.seq)) (Cw 7 (eQ c.chunks))) (ql 6 c.n)) (1000:Nat)) (ql 1 c.kind++ql 2 c.client)) (0:Int));(repeat' with_reducible first|apply bh|refine bg ?_|intro)
 all_goals (first | exact br | (rw [dN,if_pos aL]; rfl) | (rw [dN,if_neg aL]; rfl) | (have m:=gH 1 c.kind; have o:=gH 2 c.client; have p:=gH 3 c.seq; have q:=gH 4 c.set; have r:=gH 5 c.id; have t:=gH 6 c.n; have u:=Dt 7 (eQ c.chunks); (try simp only [List.length_append]); omega))
def Wt:bM:=(aP 163 uM VP)
def nK:aB Tryz.prog (al tyT) Wt:=(ag IV zQ)
variable {b:List UInt8}
def ady (h:(aS b).e=0) (a:(aj (b.drop (aS b).k)).2.2=0) (c:¬ (aS b).wire=0) (f:(aj (b.drop (aS b).k)).1<=16384) (d:((b.length:Nat):Int) - (((aS b).k:Int)+((aj (b.drop (aS b).k)).2.1:Nat))<fa (aj (b.drop (aS b).k)).1):(0:Int)=((bk b).1:Nat)/\2=(bk b).2:=by
 rw [oa aL] at d;rw [ai5 h a c aL aL]; exact ⟨rfl,rfl⟩
def ad_ (h:(aS b).e=0) (a:(aj (b.drop (aS b).k)).2.2=0) (c:¬ (aS b).wire=0) (f:(aj (b.drop (aS b).k)).1<=16384) (d:fa (aj (b.drop (aS b).k)).1<=((b.length:Nat):Int) - (((aS b).k:Int)+((aj (b.drop (aS b).k)).2.1:Nat))):((aS b).k:Int)+((aj (b.drop (aS b).k)).2.1:Nat)+fa (aj (b.drop (aS b).k)).1=((bk b).1:Nat)/\0=(bk b).2:=by
 rw [oa aL] at d ⊢;rw [agt h a c aL aL]; exact ⟨rfl,rfl⟩
def afr (l:List Field):List (Nat × LI):=[(6,{ σ:=Nat,F:=fun k=>([(5,one (.own 0)),(13,one (.fz (.nm .field) (l))),(14,one (.int (l).length)),(15,one (.int k))],[.row 5 .u8 ((((l.take k).map cC).flatten))]),J:=fun k=>k<=l.length,μ:=fun k=>l.length - k })]
def acB (q:Int) (v:Int):List (Nat × LI):=[(3,{ σ:=Nat,F:=fun k=>([(5,one (.int (((aV v).take k).foldl (fun t s=>max t s.num) 0))),(10,one (.fz (.nm .spec) (aV v))),(11,one (.int (aV v).length)),(12,one (.int k))],[]),J:=fun k=>k<=(aV v).length,μ:=fun k=>(aV v).length - k })]
def Ez:Kn:=aN (ae (kC (cL .u8)) aq) ax fun (b,_) _=>⟨[],[.c (.int ((((bk b).1:Nat)))),.c (.int (((bk b).2)))],none,false⟩
def TQ:CK 329 Ez:=ah fun (b,_) _ _=>by
 refine aw nK [] Tryz.func329 (?_:(fun h=>(fun n=>(fun c=>(fun f=>(fun d=>(fun i=>(fun j=>(fun a=>(fun g=>n->I64 c.num->I64 c.wire->I64 j->I64 c.e->(¬c.e=d->i/\c.e=f)/\(c.e=d->d<=j/\j<=h/\n/\(a.fst<(18446744073709551616:Nat)->I64 a.snd.snd->(¬a.snd.snd=d->i/\a.snd.snd=f)/\(a.snd.snd=d->(c.wire=d->g=(↑(bk b).fst:Int)/\d=f)/\(¬c.wire=d->((↑(16384:Nat):Int)<(↑a.fst:Int)->i/\(4:Int)=f)/\((↑a.fst:Int)<=(↑(16384:Nat):Int)->I64 (h - g)/\(h - g<fa a.fst->i/\(2:Int)=f)/\(fa a.fst<=h - g->I64 (g+fa a.fst)/\g+fa a.fst=(↑(bk b).fst:Int)/\d=f))))))) (j+(↑a.snd.fst:Int))) (aj (List.drop c.k b))) (↑c.k:Int)) (d=(↑(bk b).fst:Int))) (0:Int)) (bk b).snd) (aS b)) (b.length*(1:Nat)<=(140737488355328:Nat))) (↑b.length:Int));(repeat' with_reducible first|apply bh|refine bg ?_|intro)
 all_goals (first | exact br | (rw [ajK ab] <;> rfl) | (rw [ajz ab ab] <;> rfl) | (rw [ajn ab ab ab] <;> rfl) | (rw [aie ab ab ab aL] <;> rfl) | exact (ady ab ab ab aL ab).1 | exact (ady ab ab ab aL ab).2 | exact (ad_ ab ab ab aL ab).1 | exact (ad_ ab ab ab aL ab).2 | (have o:=qJ b; have p:=oA b (aS b).k; first | omega | (refine bZ ?_ ?_ <;> omega)) | (have o:=qJ b; have p:=oA b (aS b).k; have q:=oa (m:=(aj (b.drop (aS b).k)).1) aL; first | omega | (refine bZ ?_ ?_ <;> omega)))
def Kl:Kn:=aN (ae (kC (cL (.nm .field))) aq) ax fun (l,_) _=>⟨[],[.c (.own 0),.c (.int ((cR l)))],some ([.row 5 .u8 ((mn l))]),true⟩
theorem YY:CK 162 Kl:=ah fun (l,_) _ _=>by
 refine dw nK (afr l) Tryz.func162 (?_:(fun (a:Nat)=>l.length*48<=140737488355328->I64 (cR l)->(¬cR l=0->cR l=cR l/\mn l=[])/\(cR l=0->∃ (d:Nat),(l=l/\(↑l.length:Int)=(↑a:Int)/\0=(↑d:Int)/\(List.map cC (List.take d l)).flatten=[])/\d<=a/\∀ (s:Nat),(fun (e:List UInt8)=>s<=a->((↑s:Int)<(↑a:Int)->0<=(↑s:Int)/\(↑s:Int)<(↑l.length:Int)/\∀ (x:Field),l[s]? = some x->I64 x.num->I64 x.wire->x.n.n<18446744073709551616->x.b.length*1<=140737488355328->x.b.length<=16384/\(e.length+(cC x).length)*1<=140737488355328/\I64 ((↑s:Int)+1)/\∃ (c:Nat),(l=l/\(↑a:Int)=(↑a:Int)/\(↑s:Int)+1=(↑c:Int)/\e++cC x=(List.map cC (List.take c l)).flatten)/\c <= a/\a - c < a - s)/\((↑a:Int)<=(↑s:Int)->0=cR l/\e=mn l)) (List.map cC (List.take s l)).flatten)) l.length);iterate 3 ((all_goals (repeat' with_reducible first|apply bh|refine bg ?_|intro)); (all_goals try (first | exact br | exact rfl | exact (YN ab).symm | exact (Eq.symm ab) | exact (Ij ab) | exact (xV ab (afu ab)) | exact (TF ab aL) | (have g:=Mv (k:=‹Nat›) (show cR l=0 by with_reducible assumption); have h:=ri (f:=‹Field›) (xV (show cR l=0 by with_reducible assumption) (afu ab)) ab; omega))); all_goals try first | refine ⟨‹Nat› + 1,?_⟩ | refine ⟨0,?_⟩)
def On:Kn:=aN (ae (kC cI) (ae (kC cI) aq)) ax fun (q,v,_) _=>⟨[q=1],[.c (.int ((cX v)))],none,false⟩
theorem abU:CK 161 On:=ah fun (q,v,_) _ h=>by
 have i:=cd h;refine aw nK (acB q v) Tryz.func161 (?_:(fun (d:Int)=>(fun (a:List Spec)=>(fun (c:Nat)=>I64 q->I64 v->q=1/\(a.length*32<=140737488355328->∃ (f:Nat),(d=List.foldl (fun (t:Int) (s:Spec)=>max t s.num) d (List.take f a)/\a=a/\(↑a.length:Int)=(↑c:Int)/\d=(↑f:Int))/\f<=c/\∀ (s:Nat),(fun (g:Int)=>s<=c->((↑s:Int)<(↑c:Int)->d<=(↑s:Int)/\(↑s:Int)<(↑a.length:Int)/\∀ (x:Spec),a[s]? = some x->mF x (I64 ((↑s:Int)+1)/\∃ (e:Nat),(max g x.num=List.foldl (fun (t:Int) (s:Spec)=>max t s.num) d (List.take e a)/\a=a/\(↑c:Int)=(↑c:Int)/\(↑s:Int)+1=(↑e:Int))/\e <= c/\c - e < c - s))/\((↑c:Int)<=(↑s:Int)->g=cX v)) (List.foldl (fun (t:Int) (s:Spec)=>max t s.num) d (List.take s a)))) a.length) (aV v)) 0);iterate 3 ((all_goals (repeat' with_reducible first|apply bh|refine bg ?_|intro)); (all_goals try (first | exact br | exact rfl | exact (OD ab) | (rw [cX,List.take_of_length_le aL]))); all_goals try first | refine ⟨‹Nat› + 1,?_⟩ | refine ⟨0,?_⟩)
def acO:bM:=(aP 161 On (aP 162 Kl (aP 329 Ez Wt)))
def qH:aB Tryz.prog (al tyT) acO:=(ag abU (ag YY (ag TQ nK)))
structure Wq (p:Prop):Prop where
 h:p
def fI (l:List Field):Int->Option Int:=fun q=>if iO l q=0 then none else some ((iO l q:Nat):Int)
def BP (a:List Field) (v:Int) (k:Nat):Prop:=∀ j y,j<k->a[j]? = some y->¬ y.num<=cX v
variable {xs:List Field} {f:Field}
def abP (h:(xs.length:Int)=0):true=ga xs f:=by
 unfold ga; rw [List.getElem?_eq_none aL]
def YH (h:¬ (xs.length:Int)=0):fY (xs.getD ((xs.length:Int) - 1).toNat (ak (.nm .field))) f=ga xs f:=by
 unfold ga;rw [show ((xs.length:Int) - 1).toNat=xs.length - 1 by omega,List.getD_eq_getElem?_getD,List.getElem?_eq_getElem aL]; rfl
theorem IS (l:List Field) (q:Int):(fI l q).getD (ak .int)=((iO l q:Nat):Int):=by
 unfold fI;by_cases h:iO l q=0
 ·rw [if_pos h,h]; rfl
 grind
def abw:(fun _=>none)=fI (l.take 0):=rfl
def ZB (h:l.length<=k):fI (l.take k)=fI l:=by rw [List.take_of_length_le h]
def US (c:l[k]? = some x):(fun j=>if j=x.num then some ((fI (l.take k) x.num).getD (ak .int)+1) else fI (l.take k) j)=fI (l.take (k+1)):=by
 funext j;have h:=Qy c j;by_cases a:j=x.num
 ·rw [if_pos a] at h ⊢;rw [IS]; unfold fI; rw [h,if_neg aL]; rfl
 rw [if_neg a] at h ⊢;unfold fI; rw [h]
def gdX (a:l[k]? = some x):x=l.getD k (ak (.nm .field)):=by rw [List.getD_eq_getElem?_getD,a]; rfl
def gdY (h:k<l.length):l[k]? = some (l.getD k (ak (.nm .field))):=by
 rw [List.getD_eq_getElem?_getD,List.getElem?_eq_getElem h]; rfl
variable {m:Nat} {ss:List Spec}
def aih {y:Spec} (h:Wq (LX ss x ((iO l x.num:Nat):Int) m)) (c:ss[m]? = some y) (a:¬ y.num=x.num\/Ku x y ((fI l x.num).getD (ak .int))=true):Wq (LX ss x ((iO l x.num:Nat):Int) (m+1)):=
 ⟨Kg h.h c fun e=>by rw [IS] at a; exact a.resolve_left (fun h=>h e)⟩
def ahB (h:Wq (ui l ss k)) (a:k<l.length) (c:Wq (LX ss (l.getD k (ak (.nm .field))) ((iO (l.take (k+1)) (l.getD k (ak (.nm .field))).num:Nat):Int) m)) (d:(ss.length:Int)<=(m:Int)):Wq (ui l ss (k+1)):=
 ⟨Pb h.h (gdY a) c.h aL rfl⟩
def aiR (h:Wq (ui l ss k)) (a:l.length<=k):Wq (ui l ss l.length):=⟨fun j x c=>h.h j x aL⟩
def air {v:Int} {y:Spec} (c:(aV v)[m]? = some y) (d:y.need=true) (a:(fI l y.num).getD (ak .int)=0):¬ Cr l v:=Rv c ⟨d,by rw [IS] at a; exact a⟩ rfl
theorem aid {y:Spec} (h:Wq (JS l ss m)) (a:ss[m]? = some y) (hn:y.need=false\/¬ (fI l y.num).getD (ak .int)=0):Wq (JS l ss (m+1)):=
 ⟨NQ h.h a fun c=>by
  rw [IS] at hn;rcases hn with hn | hn
  ·grind
  omega⟩
def agh {v:Int} (a:Wq (ui l (aV v) l.length)) (c:Wq (JS l (aV v) k)) (d:(aV v).length<=k):Cr l v:=Uk a.h (Nat.le_refl _) c.h d
variable {rest:List Field}
def afb {v:Int}:BP rest v 0:=fun j y h=>by omega
def acE {v:Int} (h:Wq (BP rest v k)) (a:rest[k]? = some x) (c:¬ x.num<=cX v):Wq (BP rest v (k+1)):=⟨JM h.h a c⟩
def pb1 {c:Command} {v:Int} (h:cD v=false):dP c rest v=1:=ai8 (by show (!(cD v))=true; rw [h]; rfl)
def pb2 {c:Command} {v:Int} (h:cD v=true) (a:gz c v=false) (d:¬ bL c v=0):dP c rest v=bL c v:=ag5 (by show (!(cD v))=false; rw [h]; rfl) a d
def pb3 {c:Command} {v:Int} (h:cD v=true) (a:gz c v=true\/bL c v=0) (d:rest[k]? = some x) (e:x.num<=cX v):dP c rest v=6:=ag7 (by show (!(cD v))=false; rw [h]; rfl) a d e
def pb0 {c:Command} {v:Int} (h:cD v=true) (a:gz c v=true\/bL c v=0) (d:Wq (BP rest v k)) (e:rest.length<=k):dP c rest v=0:=agW (by show (!(cD v))=false; rw [h]; rfl) a d.h e
def Rn (q:Int) (v:Int) (l:List Field):List (Nat × LI):=[(9,{ σ:=Nat,F:=fun k=>([(7,one (.fz (.nm .spec) (aV v))),(9,one (.mq 0)),(28,one (.fz (.nm .field) (l))),(29,one (.int (l).length)),(30,one (.int k))],[.mapo .int (fI (l.take k))]),J:=fun k=>k<=l.length/\Wq (ui l (aV v) k),μ:=fun k=>(l).length - k }),(13,{ σ:=Nat × Nat,F:=fun q=>([(7,one (.fz (.nm .spec) (aV v))),(9,one (.mq 0)),(11,one (.ptr 1 0)),(28,one (.fz (.nm .field) (l))),(29,one (.int (l).length)),(30,one (.int q.1)),(39,one (.fz (.nm .spec) (aV v))),(40,one (.int (aV v).length)),(41,one (.int q.2))],[.mapo .int (fI (l.take (q.1+1))),.box 219 (cellsOf (.nm .field) ((l.getD q.1 (ak (.nm .field)))))]),J:=fun q=>q.1<l.length/\q.2<=(aV v).length/\Wq (ui l (aV v) q.1)/\Wq (LX (aV v) (l.getD q.1 (ak (.nm .field))) ((iO (l.take (q.1+1)) (l.getD q.1 (ak (.nm .field))).num:Nat):Int) q.2),μ:=fun q=>(aV v).length - q.2,R:=some fun a q=>q.1=a.1 }),(20,{ σ:=Nat,F:=fun k=>([(9,one (.mq 0)),(62,one (.fz (.nm .spec) (aV v))),(63,one (.int (aV v).length)),(64,one (.int k))],[.mapo .int (fI l)]),J:=fun k=>k<=(aV v).length/\Wq (ui l (aV v) l.length)/\Wq (JS l (aV v) k),μ:=fun k=>(aV v).length - k })]
def acS (c:Command) (rest:List Field) (v:Int):List (Nat × LI):=[(9,{ σ:=Nat,F:=fun k=>([(1,one (.fz (.nm .field) (rest))),(2,one (.int (v))),(3,one (.ptr 0 0)),(9,one (.int (cX v))),(27,one (.fz (.nm .field) (rest))),(28,one (.int (rest).length)),(29,one (.int k))],[.box 35 (cellsOf (.nm .command) (c))]),J:=fun k=>k<=rest.length/\Wq (BP rest v k),μ:=fun k=>rest.length - k })]
def Fi:Kn:=aN (ae (kT (.nm .field)) (ae (kC (aY 0 0)) aq)) (aE (dF 177 (aA (fb 1) dy)) (aE (e_ 219 (.nm .field)) ax)) fun (f,_,_) ((_,_),xs,_)=>⟨[xs.length<=20000],[.c (.bool (.atom ((ga xs f))))],none,false⟩
def Va:CK 328 Fi:=ah fun (f,_,_) ((_,_),xs,_) e=>by
 have g:=cd e;refine aw qH [] Tryz.func328 (?_:(fun c=>(fun d=>(fun a=>I64 f.num->I64 f.wire->f.n.n<18446744073709551616->f.b.length*1<=140737488355328->(c=0->true=ga xs f)/\(¬c=0->I64 d/\(0<=d/\d<c)/\(I64 a.num->I64 a.wire->a.n.n<18446744073709551616->a.b.length*1<=140737488355328->fY a f=ga xs f))) (xs.getD d.toNat (ak (Sh.nm NT.field)))) (c - 1)) (↑xs.length:Int));(repeat' with_reducible first|apply bh|refine bg ?_|intro)
 all_goals (first | exact br | exact (abP ab) | exact (YH ab))
def yJ:Kn:=aN (ae (kC cI) (ae (kC cI) (ae (kC (cL (.nm .field))) aq))) ax fun (q,v,l,_) _=>⟨[q=1],[.c (.int ((gG l v)))],none,false⟩
theorem OV:CK 287 yJ:=ah fun (q,v,l,_) _ J=>by
 have K:=cd J;refine aw qH (Rn q v l) Tryz.func287 (?_:(fun (C:Nat)=>(fun (y:Int)=>(fun (t:Int)=>(fun (u:Nat)=>(fun (z:Int)=>(fun (I:den (Sh.nm NT.field))=>(fun (c:List Spec)=>(fun (B:Prop)=>(fun (D:Int)=>(fun (w:Nat)=>(fun (e:Int)=>I64 q->I64 v->l.length*48<=140737488355328->q=y/\(c.length*32<=140737488355328->(D=t->y=gG l v)/\(¬D=t->I64 (cR l)->(¬cR l=t->cR l=gG l v)/\(cR l=t->∃ (i:Nat),(B/\l=l/\(↑l.length:Int)=z/\t=(↑i:Int)/\(fun (_:Int)=>none)=fI (List.take i l))/\(i<=u/\Wq (ui l c i))/\∀ (s:Nat),s<=u/\Wq (ui l c s)->((↑s:Int)<z->t<=(↑s:Int)/\(↑s:Int)<(↑l.length:Int)/\∀ (x:Field),(fun (F:Int)=>l[s]? = some x->I64 x.num->I64 x.wire->x.n.n<18446744073709551616->x.b.length*C<=140737488355328->I64 F/\∃ (i:Nat × Nat),(fun (g:Nat)=>(fun (o:Field)=>(B/\l=l/\z=z/\(↑s:Int)=(↑g:Int)/\B/\D=e/\t=(↑i.snd:Int)/\(fun (j:Int)=>if j=x.num then some F else fI (List.take s l) j)=fI (List.take (g+C) l)/\x.num=o.num/\x.wire=o.wire/\x.n.n=o.n.n/\x.b=o.b)/\(g<u/\i.snd<=w/\Wq (ui l c g)/\Wq (LX c o (↑(iO (List.take (g+C) l) o.num):Int) i.snd))/\g=g/\∀ (a:Nat × Nat),(fun (p:Int)=>(fun (A:List Field)=>(fun (h:Field)=>a.fst<u/\a.snd<=w/\Wq (ui l c a.fst)/\Wq (LX c h (↑(iO A h.num):Int) a.snd)->a.fst=g->(p<e->t<=p/\p<D/\∀ (x:Spec),(fun (G:Bool)=>c[a.snd]? = some x->mF x ((x.num=h.num/\G=false->6=gG l v)/\(¬x.num=h.num\/G=true->I64 (p+y)/\∃ (d:Nat × Nat),(fun (r:Field)=>(B/\l=l/\z=z/\(↑a.fst:Int)=(↑d.fst:Int)/\B/\e=e/\p+y=(↑d.snd:Int)/\fI A=fI (List.take (d.fst+C) l)/\h.num=r.num/\h.wire=r.wire/\h.n.n=r.n.n/\h.b=r.b)/\(d.fst<u/\d.snd<=w/\Wq (ui l c d.fst)/\Wq (LX c r (↑(iO (List.take (d.fst+C) l) r.num):Int) d.snd))/\d.fst=g/\w - d.snd<w - a.snd) (l.getD d.fst I)))) (Ku h x ((fI A h.num).getD (ak Sh.int))))/\(e<=p->I64 ((↑a.fst:Int)+y)/\∃ (d:Nat),(B/\l=l/\z=z/\(↑a.fst:Int)+y=(↑d:Int)/\fI A=fI (List.take d l))/\(d <= u/\Wq (ui l c d))/\u - d < u - s)) (l.getD a.fst I)) (List.take (a.fst+C) l)) (↑a.snd:Int)) (l.getD g I)) i.fst) ((fI (List.take s l) x.num).getD (ak Sh.int)+y))/\(z<=(↑s:Int)->∃ (i:Nat),(B/\D=e/\t=(↑i:Int)/\fI (List.take s l)=fI l)/\(i<=w/\Wq (ui l c u)/\Wq (JS l c i))/\∀ (s:Nat),s<=w/\Wq (ui l c u)/\Wq (JS l c s)->((↑s:Int)<e->t<=(↑s:Int)/\(↑s:Int)<D/\∀ (x:Spec),(fun (H:Prop)=>c[s]? = some x->mF x ((x.need=true/\H->6=gG l v)/\(x.need=false\/¬H->I64 ((↑s:Int)+y)/\∃ (d:Nat),(B/\e=e/\(↑s:Int)+y=(↑d:Int)/\fI l=fI l)/\(d <= w/\Wq (ui l c u)/\Wq (JS l c d))/\w - d < w - s))) ((fI l x.num).getD (ak Sh.int)=t))/\(e<=(↑s:Int)->t=gG l v)))))) (↑w:Int)) c.length) (↑c.length:Int)) (c=c)) (aV v)) (ak (Sh.nm NT.field))) (↑u:Int)) l.length) 0) 1) 1);(repeat' with_reducible first|apply bh|refine bg ?_|intro)
 all_goals try (refine ⟨0,?_⟩; (repeat' with_reducible first|apply bh|refine bg ?_|intro))
 all_goals try (refine ⟨(‹Nat›,0),?_⟩; (repeat' with_reducible first|apply bh|refine bg ?_|intro))
 all_goals try (refine ⟨(‹Nat × Nat›.1,‹Nat × Nat›.2+1),?_⟩; (repeat' with_reducible first|apply bh|refine bg ?_|intro))
 all_goals try (refine ⟨‹Nat × Nat›.1+1,?_⟩; (repeat' with_reducible first|apply bh|refine bg ?_|intro))
 all_goals try (refine ⟨0,?_⟩; (repeat' with_reducible first|apply bh|refine bg ?_|intro))
 all_goals try (refine ⟨‹Nat› + 1,?_⟩; (repeat' with_reducible first|apply bh|refine bg ?_|intro))
 all_goals (first | exact br | exact rfl | exact (agz aL) | exact (ag8 aL ab) | exact abw | exact ⟨aeq⟩ | exact ⟨aco⟩ | exact ⟨adh⟩ | exact (US ab) | exact (congrArg Field.num (gdX ab)) | exact (congrArg Field.wire (gdX ab)) | exact (congrArg (fun f=>f.n.n) (gdX ab)) | exact (congrArg Field.b (gdX ab)) | exact (ad1 aL ab (Tj (gdY ab) ab (And.intro ab ab) (IS _ _))) | exact (aih ab ab ap) | exact (ahB ab ab ab ab) | exact (aiR ab aL) | exact (ZB aL) | exact (ad1 aL ab (air ab ab ab)) | exact (aid ab ab ap) | exact (aiP aL ab (agh ab ab aL)) | (have L:=Rx (l:=l) (k:=‹Nat›) ‹Field›.num; have N:=IS (l.take ‹Nat›) ‹Field›.num; refine bZ ?_ ?_ <;> omega))
def KO:Kn:=aN (ae (kT (.nm .command)) (ae (kC (cL (.nm .field))) (ae (kC cI) aq))) ax fun (c,rest,v,_) _=>⟨[rest.length<=20000],[.c (.own 0),.c (.int ((fy c rest v)))],some ([.row 5 .u8 ((gF c rest v))]),true⟩
theorem abt:CK 93 KO:=ah fun (c,rest,v,_) _ p=>by
 have q:=cd p;refine dw qH (acS c rest v) Tryz.func93 (?_:(fun (e:Int)=>(fun (i:Prop)=>(fun (a:Int)=>(fun (d:Nat)=>(fun (o:Prop)=>bC c (rest.length*48<=140737488355328->I64 v->(cD v=false->1=e/\i)/\(cD v=true->(gz c v=false->I64 (bL c v)->(¬bL c v=a->bL c v=e/\i)/\(bL c v=a->o))/\(gz c v=true->o)))) ((1:Int)=1/\(I64 (cX v)->∃ (j:Nat),(rest=rest/\v=v/\cX v=cX v/\rest=rest/\(↑rest.length:Int)=(↑d:Int)/\a=(↑j:Int)/\aR c c)/\(j<=d/\Wq (BP rest v j))/\∀ (s:Nat),s<=d/\Wq (BP rest v s)->((↑s:Int)<(↑d:Int)->a<=(↑s:Int)/\(↑s:Int)<(↑rest.length:Int)/\∀ (x:Field),rest[s]? = some x->I64 x.num->I64 x.wire->x.n.n<18446744073709551616->x.b.length*1<=140737488355328->(x.num<=cX v->6=e/\i)/\(cX v<x.num->I64 ((↑s:Int)+1)/\∃ (g:Nat),(rest=rest/\v=v/\cX v=cX v/\rest=rest/\(↑d:Int)=(↑d:Int)/\(↑s:Int)+1=(↑g:Int)/\aR c c)/\(g <= d/\Wq (BP rest v g))/\d - g < d - s))/\((↑d:Int)<=(↑s:Int)->a<=c.kind/\a<=c.client/\a<=c.seq/\a<=c.set/\a<=c.id/\a<=c.n/\((dN c v).length+rest.length)*48<=140737488355328/\(I64 (cR (dN c v++rest))->cR (dN c v++rest)=e/\mn (dN c v++rest)=gF c rest v))))) rest.length) 0) (gF c rest v=[])) (fy c rest v));iterate 3 ((all_goals (repeat' with_reducible first|apply bh|refine bg ?_|intro)); (all_goals try (first | exact br | exact rfl | exact ⟨afb⟩ | exact (acE ab ab aL) | exact (DN (pb1 ab) am) | exact (Ea (pb1 ab) am).symm | exact (DN (pb2 ab ab ab) ab) | exact (Ea (pb2 ab ab ab) ab).symm | exact (DN (pb3 ab (by first | exact .inl ab | exact .inr ab) ab ab) am) | exact (Ea (pb3 ab (by first | exact .inl ab | exact .inr ab) ab ab) am).symm | exact (aeM (pb0 ab (by first | exact .inl ab | exact .inr ab) ab aL)) | exact (ae0 (pb0 ab (by first | exact .inl ab | exact .inr ab) ab aL)) | (have h:0<=c.kind/\0<=c.client/\0<=c.seq/\0<=c.set/\0<=c.id/\0<=c.n:=(by first | exact aau ab | exact Zl ab); omega) | (have h:=CQ c v; omega))); all_goals try first | refine ⟨‹Nat› + 1,?_⟩ | refine ⟨0,?_⟩)
def aew:bM:=(aP 93 KO (aP 287 yJ (aP 328 Fi acO)))
def Hq:aB Tryz.prog (al tyT) aew:=(ag abt (ag OV (ag Va qH)))
def TJ (b:List UInt8) (s:Nat × List Field):Nat × List Field:=(s.1+(bk (b.drop s.1)).1,s.2++[iD ((b.drop s.1).take (((s.1:Int)+((bk (b.drop s.1)).1:Nat)).toNat - s.1))])
def VQ {s:Nat × List Field}:(TJ b s).2=s.2++[iD ((b.drop s.1).take (bk (b.drop s.1)).1)]:=by
 unfold TJ; rw [show ((s.1:Int)+((bk (b.drop s.1)).1:Nat)).toNat - s.1=(bk (b.drop s.1)).1 by omega]
def tlB (h:16384<(b.length:Int)):bJ b=([],4):=aaJ aL
def tlS {s:Nat × List Field} (h:Wq (jv b s.1 s.2)) (c:(s.1:Int)<(b.length:Int)) (a:¬ (bk (b.drop s.1)).2=0):bJ b=([],(bk (b.drop s.1)).2):=Uf h.h aL a
theorem tlL {s:Nat × List Field} (h:Wq (jv b s.1 s.2)) (a:(s.1:Int)<(b.length:Int)) (c:(bk (b.drop s.1)).2=0) (d:ga s.2 (iD ((b.drop s.1).take (((s.1:Int)+((bk (b.drop s.1)).1:Nat)).toNat - s.1)))=false):bJ b=([],5):=by
 obtain ⟨f,_,e⟩:=PE h.h (show s.1<b.length by omega);grind
def tlN {s:Nat × List Field} (h:Wq (jv b s.1 s.2)) (d:(s.1:Int)<(b.length:Int)) (a:(bk (b.drop s.1)).2=0) (c:ga s.2 (iD ((b.drop s.1).take (((s.1:Int)+((bk (b.drop s.1)).1:Nat)).toNat - s.1)))=true):Wq (jv b (TJ b s).1 (TJ b s).2):=by
 rw [show ((s.1:Int)+((bk (b.drop s.1)).1:Nat)).toNat - s.1=(bk (b.drop s.1)).1 by omega] at c;obtain ⟨f,g,e⟩:=PE h.h (show s.1<b.length by omega);have i:=nv a;rw [VQ];refine ⟨f,by show b.length - (s.1+(bk (b.drop s.1)).1)<=f; omega,?_⟩;rw [e,if_pos a,c,if_pos rfl,ahG]; rfl
def tlE {s:Nat × List Field} (h:Wq (jv b s.1 s.2)) (a:(b.length:Int)<=(s.1:Int)):bJ b=(s.2,0):=ZW h.h aL
def nx1 {s:Nat × List Field} (a:s.1<=b.length):(TJ b s).1<=b.length:=by
 have:=Au (b.drop s.1); rw [List.length_drop] at this; show s.1+_<=_; omega
def nx2 {s:Nat × List Field} (c:s.2.length<=s.1) (a:(bk (b.drop s.1)).2=0):(TJ b s).2.length<=(TJ b s).1:=by
 have d:=nv a;rw [VQ,List.length_append]; simp only [List.length_cons,List.length_nil]; show _<=s.1+_; omega
def nx3 {s:Nat × List Field} (c:(s.1:Int)<(b.length:Int)) (a:(bk (b.drop s.1)).2=0):b.length - (TJ b s).1<b.length - s.1:=by
 have d:=nv a; show b.length - (s.1+_)<_; omega
def Ym (b:List UInt8):List (Nat × LI):=[(6,{ σ:=Nat × List Field,F:=fun s=>([(0,one (.fz .u8 (b))),(4,one (.ptr 0 0)),(5,one (.fn 328 [] [(0,0)])),(6,one (.int s.1))],[.box 177 ([.own 1]),.row 219 (.nm .field) ((s.2))]),J:=fun s=>Wq (jv b s.1 s.2)/\s.1<=b.length/\s.2.length<=s.1,μ:=fun s=>b.length - s.1 })]
def Ev:Kn:=aN (ae (kC (cL .u8)) aq) ax fun (b,_) _=>⟨[],[.c (.fz (.nm .field) (((bJ b).1))),.c (.int (((bJ b).2)))],none,false⟩
theorem SI:CK 286 Ev:=ah fun (b,_) _ _=>by
 refine aw Hq (Ym b) Tryz.func286 (?_:(fun (p:Prop)=>(fun (g:Int)=>(fun (i:Int)=>b.length*1<=140737488355328->(16384<i->p/\4=(bJ b).snd)/\(i<=16384->∃ (d:Nat × List Field),(b=b/\g=(↑d.fst:Int)/\d.snd=[])/\(Wq (jv b d.fst d.snd)/\d.fst<=b.length/\d.snd.length<=d.fst)/\∀ (s:Nat × List Field),(fun (e:Int)=>(fun (j:Nat × Int)=>(fun (o:Int)=>(fun (a:Field)=>Wq (jv b s.fst s.snd)/\s.fst<=b.length/\s.snd.length<=s.fst->(e<i->g<=e/\e<=i/\(I64 (↑j.fst:Int)->I64 j.snd->(¬j.snd=g->p/\j.snd=(bJ b).snd)/\(j.snd=g->I64 o/\g<=e/\e<=o/\o<=i/\(I64 a.num->I64 a.wire->a.n.n<18446744073709551616->a.b.length*1<=140737488355328->s.snd.length<=20000/\(ga s.snd a=false->p/\5=(bJ b).snd)/\(ga s.snd a=true->(s.snd.length+[a].length)*48<=140737488355328/\I64 o/\∃ (c:Nat × List Field),(b=b/\o=(↑c.fst:Int)/\s.snd++[a]=c.snd)/\(Wq (jv b c.fst c.snd)/\c.fst<=b.length/\c.snd.length<=c.fst)/\b.length - c.fst<b.length - s.fst)))))/\(i<=e->s.snd=(bJ b).fst/\g=(bJ b).snd)) (iD (List.take (o.toNat - s.fst) (List.drop s.fst b)))) (e+(↑j.fst:Int))) (bk (List.drop s.fst b))) (↑s.fst:Int))) (↑b.length:Int)) 0) ((bJ b).fst=[]));iterate 3 ((all_goals (repeat' with_reducible first|apply bh|refine bg ?_|intro)); (all_goals try (first | exact br | exact rfl | exact ⟨Mw aL⟩ | (rw [tlB ab] <;> rfl) | (rw [tlS ab ab ab] <;> rfl) | (rw [tlL ab ab ab ab] <;> rfl) | (rw [tlE ab ab] <;> rfl) | exact (tlN ab ab ab ab) | exact (nx1 ab) | exact (nx2 ab ab) | exact (nx3 ab ab) | (have h:=Au (b.drop ‹Nat × List Field›.1); rw [List.length_drop] at h; first | omega | (refine bZ ?_ ?_ <;> omega)) | (simp only [List.length_cons,List.length_nil]; omega))); all_goals try first | refine ⟨TJ b ‹Nat × List Field›,?_⟩ | refine ⟨(0,[]),?_⟩)
def ads:bM:=(aP 286 Ev aew)
def Hh:aB Tryz.prog (al tyT) ads:=(ag SI Hq)
def tin {v:Int} (h:cD v=true):1<=v/\v<=3:=by
 unfold cD at h; simpa using h
def tqe {v:Int} (a:(bJ b).2=0) (c:gG (bJ b).1 v=0):mM b v=0:=by rw [mM,if_pos a,c]
def tq1 {v:Int} (h:cD v=false):cG b v=⟨cN,[],1⟩:=ag2 (fun a=>by unfold cD at h; simp only [a,decide_true,Bool.and_self] at h; cases h)
def tq2 {v:Int} (h:cD v=true) (a:(bJ b).2=0) (c:¬ gG (bJ b).1 v=0):cG b v=⟨cN,[],gG (bJ b).1 v⟩:=by
 have e:mM b v=gG (bJ b).1 v:=by rw [mM,if_pos a]
 rw [afh (tin h) (by rw [e]; exact c),e]
def tq3 {v:Int} (h:cD v=true) (a:¬ (bJ b).2=0):cG b v=⟨cN,[],(bJ b).2⟩:=by
 have e:mM b v=(bJ b).2:=by rw [mM,if_neg a]
 rw [afh (tin h) (by rw [e]; exact a),e]
def tq4 {v:Int} (h:cD v=true) (a:(bJ b).2=0) (c:gG (bJ b).1 v=0) (d:¬ fy (c_ (dZ (bJ b).1 (cX v))) (eU (bJ b).1 (cX v)) v=0\/decide (gF (c_ (dZ (bJ b).1 (cX v))) (eU (bJ b).1 (cX v)) v=b)=false):cG b v=⟨cN,[],6⟩:=
 ah8 (tin h) (tqe a c) (d.imp_right fun h=>by simpa using h)
def tq5 {v:Int} (h:cD v=true) (a:(bJ b).2=0) (c:gG (bJ b).1 v=0) (d:fy (c_ (dZ (bJ b).1 (cX v))) (eU (bJ b).1 (cX v)) v=0) (e:decide (gF (c_ (dZ (bJ b).1 (cX v))) (eU (bJ b).1 (cX v)) v=b)=true):cG b v=⟨c_ (dZ (bJ b).1 (cX v)),eU (bJ b).1 (cX v),0⟩:=
 ajA (tin h) (tqe a c) ⟨d,acR e⟩
def EI:Kn:=aN (ae (kC (cL .u8)) (ae (kC cI) aq)) ax fun (b,v,_) _=>⟨[],[.agg (cellsOf (.nm .command) ((cG b v).c)),.c (.fz (.nm .field) (((cG b v).r))),.c (.int (((cG b v).e)))],none,false⟩
def Ts:CK 275 EI:=ah fun (b,v,_) _ _=>by
 refine aw Hh [] Tryz.func275 (?_:(fun u=>(fun w=>(fun g=>(fun h=>(fun s=>(fun t=>(fun a=>(fun d=>(fun i=>(fun j=>(fun o=>(fun p=>(fun q=>(fun y=>(fun z=>b.length*1<=140737488355328->I64 v->(cD v=false->o/\p/\j/\i/\a=d.id/\a=d.n/\q/\y/\g.r=[]/\1=g.e)/\(cD v=true->h.length*48<=140737488355328->I64 u->(u=a->(1:Int)=1/\(I64 (gG h v)->(¬gG h v=a->o/\p/\j/\i/\a=d.id/\a=d.n/\q/\y/\g.r=[]/\gG h v=g.e)/\(gG h v=a->z)))/\(¬u=a->(¬u=a->o/\p/\j/\i/\a=d.id/\a=d.n/\q/\y/\g.r=[]/\u=g.e)/\(u=a->z)))) ((1:Int)=1/\(I64 w->(dZ h w).length*48<=140737488355328->s.length*48<=140737488355328->(∀ (f:Field),List.Mem f (dZ h w)->f.b.length<=16384)/\bC t (s.length<=20000/\(I64 (fy t s v)->(¬fy t s v=a\/decide (gF t s v=b)=false->o/\p/\j/\i/\a=d.id/\a=d.n/\q/\y/\g.r=[]/\6=g.e)/\(fy t s v=a/\decide (gF t s v=b)=true->bq t d (s=g.r/\a=g.e))))))) (Str.mk []=d.text)) (d.chunks=[])) (a=d.client)) (a=d.kind)) (a=d.seq)) (a=d.set)) g.c) (0:Int)) (c_ (dZ h w))) (eU h w)) (bJ b).fst) (cG b v)) (cX v)) (bJ b).snd);(repeat' with_reducible first|apply bh|refine bg ?_|intro)
 all_goals (first | exact br | (rw [tq1 ab] <;> rfl) | (rw [tq2 ab ab ab] <;> rfl) | (rw [tq3 ab ab] <;> rfl) | (rw [tq4 ab ab ab ap] <;> rfl) | (rw [tq5 ab ab ab ab ab] <;> rfl) | exact (Yu (tqe ab ab) _ ap) | (have A:=Gy (bJ b).1 (cX v); have B:=Tm b; omega))
def adb:bM:=(aP 275 EI ads)
def VA:aB Tryz.prog (al tyT) adb:=(ag Ts Hh)
def acr:bM:=adb
def SA:aB Tryz.prog (al tyT) acr:=VA
def afk:bM:=acr
def Rm:aB Tryz.prog (al tyT) afk:=SA
def acT:bM:=afk
def Ti:aB Tryz.prog (al tyT) acT:=Rm
def aeR:bM:=acT
def Sa:aB Tryz.prog (al tyT) aeR:=Ti
def ada:bM:=aeR
def Vp:aB Tryz.prog (al tyT) ada:=Sa
def acq:bM:=ada
def UG:aB Tryz.prog (al tyT) acq:=Vp
def agG {v:Int} (h:cm v 1 3=false):cG b v=⟨cN,[],1⟩:=tq1 h
def acY:bM:=acq
def yu:aB Tryz.prog (al tyT) acY:=UG
def eA (c:Command) (term v:Int):Entry × Int:=if bL c v=0 then (if fy c [] v=0 then (⟨term,gF c [] v⟩,0) else (⟨0,[]⟩,fy c [] v)) else (⟨0,[]⟩,bL c v)
structure RdM where
 c:Command
 some:Bool
 e:Int
def bc (x:Entry) (v:Int):RdM:=
 if x.b.length=0 then (if v<1\/3<v then ⟨cN,false,1⟩ else ⟨cN,false,0⟩)
 else if ¬ (cG x.b v).e=0 then ⟨cN,false,(cG x.b v).e⟩
 else if cz (cG x.b v).c.kind=0\/v<cz (cG x.b v).c.kind then ⟨cN,false,10⟩
 else ⟨(cG x.b v).c,true,0⟩
variable {term:Int}
def en1 {c:Command} {v:Int} (h:¬ bL c v=0):eA c term v=(⟨0,[]⟩,bL c v):=by unfold eA; rw [if_neg h]
def en2 {c:Command} {v:Int} (h:bL c v=0) (a:¬ fy c [] v=0):eA c term v=(⟨0,[]⟩,fy c [] v):=by unfold eA; rw [if_pos h,if_neg a]
def en3 {c:Command} {v:Int} (h:bL c v=0) (a:fy c [] v=0):eA c term v=(⟨term,gF c [] v⟩,0):=by unfold eA; rw [if_pos h,if_pos a]
section
variable {x:Entry} {v:Int}
def rdA (h:((x.b.length:Nat):Int)=0) (a:v<1\/3<v):bc x v=⟨cN,false,1⟩:=by unfold bc; rw [if_pos aL,if_pos a]
def rdB (h:((x.b.length:Nat):Int)=0) (a:1<=v) (c:v<=3):bc x v=⟨cN,false,0⟩:=by unfold bc; rw [if_pos aL,if_neg aL]
def rdC (h:¬ ((x.b.length:Nat):Int)=0) (a:¬ (cG x.b v).e=0):bc x v=⟨cN,false,(cG x.b v).e⟩:=by unfold bc; rw [if_neg aL,if_pos a]
def rdD (h:¬ ((x.b.length:Nat):Int)=0) (a:(cG x.b v).e=0) (d:cz (cG x.b v).c.kind=0\/v<cz (cG x.b v).c.kind):bc x v=⟨cN,false,10⟩:=by unfold bc; rw [if_neg aL,if_neg (by rw [a]; simp),if_pos d]
def rdE (h:¬ ((x.b.length:Nat):Int)=0) (a:(cG x.b v).e=0) (d:¬ cz (cG x.b v).c.kind=0) (g:cz (cG x.b v).c.kind<=v):bc x v=⟨(cG x.b v).c,true,0⟩:=by unfold bc; rw [if_neg aL,if_neg (by rw [a]; simp),if_neg aL]
def rdF (h2:v<1\/3<v):bc x v=⟨cN,false,1⟩:=by
 by_cases h:((x.b.length:Nat):Int)=0
 ·exact rdA h h2
 have e:cG x.b v=⟨cN,[],1⟩:=agG (by unfold cm; rcases h2 with h2 | h2 <;> simp <;> omega);rw [rdC h (by rw [e]; decide),e]
end
def PS:Kn:=aN (ae (kT (.nm .command)) (ae (kC cI) (ae (kC cI) aq))) ax fun (c,term,v,_) _=>⟨[],[.agg (cellsOf (.nm .entry) ((eA c term v).1)),.c (.int (((eA c term v).2)))],none,false⟩
def Ya:CK 54 PS:=ah fun (c,term,v,_) _ _=>by
 refine aw yu [] Tryz.func54 (?_:(fun (e:Int)=>(fun (d:Int)=>(fun (a:Entry × Int)=>bC c (I64 term->I64 v->I64 (bL c v)->(¬bL c v=d->d=a.fst.term/\a.fst.b=[]/\bL c v=a.snd)/\(bL c v=d->(0:Nat)<=(20000:Nat)/\(I64 e->(¬e=d->d=a.fst.term/\a.fst.b=[]/\e=a.snd)/\(e=d->term=a.fst.term/\gF c [] v=a.fst.b/\d=a.snd))))) (eA c term v)) (0:Int)) (fy c [] v));(repeat' with_reducible first|apply bh|refine bg ?_|intro)
 all_goals (first | exact br | (rw [en1 ab] <;> rfl) | (rw [en2 ab ab] <;> rfl) | (rw [en3 ab ab] <;> rfl))
def AW:Kn:=aN (ae (kT (.nm .entry)) (ae (kC cI) aq)) ax fun (x,v,_) _=>⟨[],[.agg (cellsOf (.nm .command) ((bc x v).c)),.c (.bool (.atom (((bc x v).some)))),.c (.int (((bc x v).e)))],none,false⟩
def Ps:CK 259 AW:=ah fun (x,v,_) _ _=>by
 refine aw yu [] Tryz.func259 (?_:(fun i=>(fun p=>(fun j=>(fun o=>(fun a=>(fun d=>(fun g=>(fun h=>(fun q=>(fun s=>(fun t=>(fun u=>I64 x.term->x.b.length*1<=140737488355328->I64 v->((↑x.b.length:Int)=a->(v<1\/3<v->q/\s/\h/\g/\a=d.id/\a=d.n/\t/\u/\p/\1=i.e)/\(1<=v/\v<=3->q/\s/\h/\g/\a=d.id/\a=d.n/\t/\u/\p/\a=i.e))/\(¬(↑x.b.length:Int)=a->bC j.c (j.r.length*48<=140737488355328->I64 j.e->(¬j.e=a->q/\s/\h/\g/\a=d.id/\a=d.n/\t/\u/\p/\j.e=i.e)/\(j.e=a->I64 o->(o=a\/v<o->q/\s/\h/\g/\a=d.id/\a=d.n/\t/\u/\p/\10=i.e)/\(¬o=a/\o<=v->bq j.c d (true=i.some/\a=i.e)))))) (Str.mk []=d.text)) (d.chunks=[])) (a=d.client)) (a=d.kind)) (a=d.seq)) (a=d.set)) i.c) (0:Int)) (cz j.c.kind)) (cG x.b v)) (false=i.some)) (bc x v));(repeat' with_reducible first|apply bh|refine bg ?_|intro)
 all_goals (first | exact br | (rw [rdF ap] <;> rfl) | (rw [rdB ab ab ab] <;> rfl) | (rw [rdC ab ab] <;> rfl) | (rw [rdD ab ab ap] <;> rfl) | (rw [rdE ab ab ab ab] <;> rfl))
def ad5:bM:=(aP 259 AW (aP 54 PS acY))
def F_:aB Tryz.prog (al tyT) ad5:=(ag Ps (ag Ya yu))
def ir (v:Int) (s:State) (x:Entry):State:=if (bc x v).some=true then (re s (bc x v).c).1 else s
def mT (v:Int) (s:State) (x:Entry):Reply:=if (bc x v).some=true then (re s (bc x v).c).2 else ⟨0,0⟩
def pS (v:Int) (s:State) (l:List Entry):State:=l.foldl (ir v) s
def pR (v:Int):State->List Entry->List Reply
 | _,[]=>[]
 | s,x :: l=>mT v s x :: pR v (ir v s x) l
def pN (v:Int):List Entry->Nat
 | []=>0
 | x :: l=>if (bc x v).e=0 then pN v l+1 else 0
def pE (v:Int):List Entry->Int
 | []=>0
 | x :: l=>if (bc x v).e=0 then pE v l else (bc x v).e
def plS (v:Int) (s:State) (l:List Entry):State:=pS v s (l.take (pN v l))
def plR (v:Int) (s:State) (l:List Entry):List Reply:=pR v s (l.take (pN v l))
section
variable {v:Int} {s:State} {l:List Entry} {x:Entry} {k:Nat}
def Xo (a:l[k]? = some x):ir v (pS v s (l.take k)) x=pS v s (l.take (k+1)):=by
 rw [ai a]; unfold pS; rw [List.foldl_append]; rfl
theorem GS:∀ {l:List Entry} {s:State},pR v s (l++[x])=pR v s l++[mT v (pS v s l) x]
 | [],_=>rfl
 | y :: l,s=>by
  show mT v s y :: pR v (ir v s y) (l++[x])=mT v s y :: (pR v (ir v s y) l++[mT v (pS v (ir v s y) l) x]);rw [GS]
def Wi (a:l[k]? = some x):pR v s (l.take k)++[mT v (pS v s (l.take k)) x]=pR v s (l.take (k+1)):=by
 rw [ai a,GS]
theorem DE:∀ {l:List Entry} {s:State},(pR v s l).length=l.length
 | [],_=>rfl
 | y :: l,s=>by
  show (pR v (ir v s y) l).length+1=l.length+1;rw [DE]
def okPl (v:Int) (l:List Entry):Prop:=∀ x ∈ l,(bc x v).e=0
theorem Gi (h:okPl v (l.take k)) (a:l[k]? = some x) (c:(bc x v).e=0):okPl v (l.take (k+1)):=by
 rw [ai a];intro y hy;rcases ab8.1 hy with hy | hy
 ·exact h y hy
 grind
theorem Kk:∀ {l:List Entry},okPl v l->pN v l=l.length/\pE v l=0
 | [],_=>⟨rfl,rfl⟩
 | y :: l,h=>by
  obtain ⟨c,d⟩:=Kk (l:=l) fun z a=>h z (ab9 _ a);have e:=h y acW;unfold pN pE;grind
theorem Gn:∀ {l:List Entry} {k:Nat},okPl v (l.take k)->l[k]? = some x->¬ (bc x v).e=0->pN v l=k/\pE v l=(bc x v).e
 | [],k,_,a,_=>by simp at a
 | y :: l,0,_,a,c=>by
  simp at a; subst a;unfold pN pE;grind
 | y :: l,k+1,h,a,c=>by
  have d:=h y aa;obtain ⟨g,i⟩:=Gn (l:=l) (k:=k) (fun z j=>h z (by rw [agy]; exact ab9 _ j)) (by simpa using a) c;unfold pN pE;rw [if_pos d,if_pos d,g,i]; exact ⟨rfl,rfl⟩
def TR (h:okPl v (l.take k)) (a:l[k]? = some x) (c:¬ (bc x v).e=0):pS v s (l.take k)=plS v s l/\pR v s (l.take k)=plR v s l/\(bc x v).e=pE v l:=by
 obtain ⟨d,g⟩:=Gn h a c;unfold plS plR; rw [d,g]; exact ⟨rfl,rfl,rfl⟩
def YS (h:okPl v (l.take k)) (a:l.length<=k):pS v s (l.take k)=plS v s l/\pR v s (l.take k)=plR v s l/\0=pE v l:=by
 rw [List.take_of_length_le a] at h ⊢;obtain ⟨c,d⟩:=Kk h;unfold plS plR; rw [c,d,List.take_length]; exact ⟨rfl,rfl,rfl⟩
end
def oT:Code->Code
 | .seq x _=>x
 | c=>c
def gb:Code->Code
 | .seq _ y=>y
 | c=>c
def cdB:Code->Code
 | .block _ c=>c
 | .loop c=>c
 | c=>c
def agV:Code->Code
 | .rangeFunc _ _ a _=>a
 | c=>c
def af4:Code->Code
 | .rangeFunc _ _ _ b=>b
 | c=>c
def kn:Code->List Oper
 | .region _ a _=>a.toList
 | _=>[]
def XT (f:Func):Code:=f.body.getD .skip
def NK:Kn:=aN (ae (kC (cL (.nm .entry))) (ae (kC cI) aq)) ax fun (l,v,_) _=>⟨[],[.c (.fn 258 [] [(0,0),(1,0)])],some ([.box 38 ([.fz (.nm .entry) ((l))]),.box 3 ([.int ((v))])]),true⟩
theorem YJ:CK 226 NK:=ah fun (l,v,_) _ _=>by
 refine dw F_ [] Tryz.func226 (?_:l.length*32<=140737488355328->I64 v->l=l/\v=v);grind
def fJ:bM:=(aP 226 NK ad5)
def qF:aB Tryz.prog (al tyT) fJ:=(ag YJ F_)
end Go.Proofs.YticbaadnibdbkaaGreat
namespace Go.Proofs.YticbaadnibdbkaaGreat
open Go.RowKit
open Go.MapKept (IsKey run_checkKey run_findKey run_setObj_map heap_set heap_alloc)
def VG (k:Int):List (Int × Value)->Bool
 | []=>false
 | p :: r=>decide (k=p.1) || VG k r
def ZE (w:World) (g:Nat) (L:List (Int × Value)):Prop:=
 ∃ a,w.heap[g]? = some (.map a L.length)/\a.toList.map (fun e=>(e.key,e.val))=L.map (fun p=>(Value.int .i64 p.1,p.2))
theorem wo {k:Int}:∀ {l:List MapEntry} {L:List (Int × Value)} {i:Nat},l.map (fun e=>(e.key,e.val))=L.map (fun p=>(Value.int .i64 p.1,p.2))->VG k L=false->Instr.findNow (.int .i64) (.int .i64 k) l i=some none
 | [],[],i,_,_=>rfl
 | e :: l,p :: L,i,h,a=>by
  simp only [afP,List.cons.injEq,aj4] at h;obtain ⟨⟨b,f⟩,c⟩:=h;simp only [VG,Bool.or_eq_false_iff] at a;have d:(k == p.1)=false:=by simpa using a.1
  simp [Instr.findNow,b,Instr.sameNow,d,wo (i:=i+1) c a.2]
section
variable {P:Program} {Q:Exit->Act->World->Prop} {n:Nat} {l rest:List Oper} {fr:Fr} {w:World} {x y z':Operand} {t ty kt et:TypeId} {pos:String} {af:Array Edge} {g:Nat} {L:List (Int × Value)} {k:Int}
def WO.insert {v:Value} (p:ev fr x=some (.map (some g))) (q:ev fr y=some (.int .i64 k)) (r:ev fr z' = some v) (h:ZE w g L) (b:VG k L=false) (u:P.underlying t=some (.map kt et)) (j:P.underlying kt=some (.int .i64))
  (z:∀ w',ZE w' g (L++[(k,v)])->Kp [g] w w' -> WO P Q n l rest fr w') :
  WO P Q n l (⟨none,.insert t x y z',ty,pos,af,none⟩ :: rest) fr w:=by
 obtain ⟨a,c,m⟩:=h;have A:=wo (k:=k) (i:=0) m b;have d:IsKey (.int .i64) (.int .i64 k):=rfl;have o:=heap_set (o':=.map (a.push { key:=.int .i64 k,val:=v,born:=L.length }) (L.length+1)) c;refine WO.s (w':={ w with heap:=w.heap.setIfInBounds g (.map (a.push { key:=.int .i64 k,val:=v,born:=L.length }) (L.length+1)) }) (fun B _ _ _ _ f=>?_) (z _ ⟨_,by simpa using o.1,by simp [m]⟩ ⟨rfl,rfl,rfl,aa,fun i C b=>o.2 i (by simpa using b)⟩);have e:(Instr.mapUpdate t (.map (some g)) (.int .i64 k) v).run P w = .ok () { w with heap:=w.heap.setIfInBounds g (.map (a.push { key:=.int .i64 k,val:=v,born:=L.length }) (L.length+1)) }:=by
  unfold Instr.mapUpdate;simp only [Sem.run_bind,run_underlying u];simp only [Sem.run_bind,MapKept.run_getObj_map c,Result.andThen,run_checkKey j d,run_findKey j A,run_setObj_map _ c]
 simp [execOp,f.ev p,f.ev q,f.ev r,e]
end
def bO:List (Int × List KC):=[(1,[.i 1,.i 3,.b false,.i 0,.i 0,.f 214]),(2,[.i 0,.i 1048576,.b true,.i 5,.i 0,.f 215]),(3,[.i 1,.i 64,.b true,.i 1048576,.i 200,.f 216]),(4,[.i 1,.i 64,.b false,.i 0,.i 0,.f 217])]
def Zt:List (Int × Value):=bO.map fun p=>(p.1,.agg (p.2.map KC.val).toArray)
theorem tY {k:Int}:∀ {a:List MapEntry} {l:List (Int × List KC)},a.map (fun e=>(e.key,e.val))=(l.map fun p=>(p.1,Value.agg (p.2.map KC.val).toArray)).map (fun p=>(Value.int .i64 p.1,p.2))->getM k a=(dQ l k).map fun b=>.agg (b.map KC.val).toArray
 | [],[],_=>rfl
 | e :: l,p :: L,h=>by
  simp only [afP,List.cons.injEq,aj4] at h;obtain ⟨⟨c,f⟩,d⟩:=h;simp only [getM,dQ,c,oS];by_cases h:k=p.1
  ·grind
  rw [if_neg (by simpa using fun e=>h e.symm),if_neg h]; exact tY d
set_option maxRecDepth 100000 in
def HJ {w:World}:jN Tryz.prog 148 #[] w fun r e=>r = .map (some w.heap.size)/\Kp [] w e /\ ZE e w.heap.size Zt:=by
 refine jN.enter (args:=[]) Tryz.func148 rfl Tryz.ntmps148 rfl rfl ?_;refine WC.seq (WC.region (WO.v (R.assign rfl) rfl (WO.nil (WX.next ?_))));have c:=Tryz.underlying202;have d:=Tryz.underlying3;refine WC.seq (WC.region (WO.v R.tg rfl ?_));refine WO.v (R.px (cells:=(((bO.getD 0 (0,[])).2).map KC.val).toArray) rfl bK) rfl (WO.insert (L:=[]) rfl rfl rfl ⟨#[],ahH w _,rfl⟩ rfl c d fun t j l=>?_);refine WO.v (R.px (cells:=(((bO.getD 1 (0,[])).2).map KC.val).toArray) rfl bK) rfl (WO.insert rfl rfl rfl j rfl c d fun u m n=>?_);refine WO.v (R.px (cells:=(((bO.getD 2 (0,[])).2).map KC.val).toArray) rfl bK) rfl (WO.insert rfl rfl rfl m rfl c d fun x o p=>?_);refine WO.v (R.px (cells:=(((bO.getD 3 (0,[])).2).map KC.val).toArray) rfl bK) rfl (WO.insert rfl rfl rfl o rfl c d fun y q s=>?_);refine WO.v (R.move rfl) rfl (WO.v (R.assign rfl) rfl (WO.nil (WX.next ?_)));have a:∀ {f g:World},Kp [] w f->Kp [w.heap.size] f g->Kp [] w g:=fun h k=>⟨k.os.trans h.os,k.tape.trans h.tape,k.output.trans h.output,Nat.le_trans h.size k.size,fun b i _=>(k.block b (aca i h.size) (by simp; omega)).trans (h.block b i aa)⟩;exact WC.ret (WX.Cn Tryz.results148 rfl ⟨rfl,a (a (a (a (Kp.alloc w _) l) n) p) s,q⟩)
theorem Jp:Sat Tryz.prog (al tyT) 148 [] [] ⟨[],[.c (.xx (.km bO) [])],none,false⟩:=by
 refine ⟨⟨_,Tryz.func148,am,by kernel_rfl⟩,fun G q w s t f b=>?_⟩;cases b;refine HJ.mono fun r u ⟨h,j,a,g,l⟩=>⟨[r],rfl,j,.cons ?_ .nil⟩;subst h;have d:=(af2.1 g).1;refine ⟨[],.nil,rfl,w.heap.size,a,_,rfl,⟨d,fun ⟨i,r,m,n⟩=>by have:=(f.bnd i r _ m n).2.1; omega,fun o=>by have:=f.z _ o; omega⟩,g,fun e p=>?_,fun k=>tY l⟩;have:(e.key,e.val) ∈ a.toList.map (fun e=>(e.key,e.val)):=ai0.2 ⟨e,p,rfl⟩;grind
end Go.Proofs.YticbaadnibdbkaaGreat
namespace Go.Proofs.YticbaadnibdbkaaGreat
open Go.RowKit
def NH (q:Nat × Nat) (x:UInt8):Nat × Nat:=((q.1+x.toNat) % 65521,(q.2+(q.1+x.toNat) % 65521) % 65521)
def ig (q:Nat × Nat) (l:List UInt8):Nat × Nat:=l.foldl NH q
def dU (s:Nat) (l:List UInt8):Nat:=65536*(ig (s % 65536 % 65521,s / 65536 % 65521) l).2+(ig (s % 65536 % 65521,s / 65536 % 65521) l).1
def Sf {q:Nat × Nat} (a:q.1<65521) (b:q.2<65521):∀ l:List UInt8,(ig q l).1<65521/\(ig q l).2<65521:=fun l=>by
 induction l generalizing q with
 | nil=>exact ⟨a,b⟩
 | cons x l c=>exact c (q:=NH q x) (agr _ am) (agr _ am)
def qS {s:Nat} (l:List UInt8):(ig (s % 65536 % 65521,s / 65536 % 65521) l).1<65521/\(ig (s % 65536 % 65521,s / 65536 % 65521) l).2<65521:=Sf (agr _ am) (agr _ am) l
def JU {s:Nat} (l:List UInt8):dU s l<4294967296:=by
 have:=qS (s:=s) l;unfold dU; omega
def Fe (l:List UInt8):Nat:=l.foldl (fun w x=>(w*256) % 4294967296 ||| x.toNat) 0
abbrev ey (b:List UInt8):Int:=Wc (((b.getD 0 (ak .u8):UInt8).toNat:Int)*2 ^ 8) ((b.getD 1 (ak .u8):UInt8).toNat:Int)
def bj (b:List UInt8):List UInt8 × Int × Int:=
 if b.length<2 then ([],0,2) else if ey b=0\/4096<ey b then ([],0,3) else if (b.length:Int)<2+ey b+4 then ([],0,2)
 else if dU 1 (b.take (2+ey b).toNat)=Fe ((b.drop (2+ey b).toNat).take 4) then ((b.drop 2).take ((2+ey b).toNat - 2),2+ey b+4,0) else ([],0,3)
def jq (x:List UInt8):List UInt8:=[UInt8.ofNat (x.length / 256),UInt8.ofNat x.length]++x
def yj (s:Nat):List UInt8:=[UInt8.ofNat (s / 2 ^ 24),UInt8.ofNat (s / 2 ^ 16),UInt8.ofNat (s / 2 ^ 8),UInt8.ofNat s]
def fi (x:List UInt8):List UInt8:=jq x++yj (dU 1 (jq x))
def pf (x:List UInt8):List UInt8 × Int:=if x.length=0\/4096<x.length then ([],4) else (fi x,0)
theorem zZ {a b:Nat} (c:b<256):a*256 ||| b=a*256+b:=by
 have:=Nat.two_pow_add_eq_or_of_lt (i:=8) (b:=b) c a;grind
theorem ofNat_toNat (n:Nat):(UInt8.ofNat n).toNat=n % 256:=UInt8.toNat_ofNat'
def Sn {s:Nat} (h:s<4294967296):Fe (yj s)=s:=by
 simp only [Fe,yj,List.foldl_cons,List.foldl_nil,ofNat_toNat];rw [show (0*256) % 4294967296=0*256 from rfl,zZ (a:=0) (agr _ am),aj2,aft];have b:s / 2 ^ 24 % 256=s / 16777216:=by omega
 rw [b,Nat.mod_eq_of_lt (a:=s / 16777216*256) aL,zZ (agr _ am),Nat.mod_eq_of_lt (a:=(s / 16777216*256+s / 2 ^ 16 % 256)*256) aL,zZ (agr _ am),Nat.mod_eq_of_lt (a:=((s / 16777216*256+s / 2 ^ 16 % 256)*256+s / 2 ^ 8 % 256)*256) aL,zZ (agr _ am)];omega
variable {r x:List UInt8}
def Ce (h:x.length<=4096):ey (fi x++r)=x.length:=by
 have e:fi x++r=UInt8.ofNat (x.length / 256) :: UInt8.ofNat x.length :: (x++(yj (dU 1 (jq x))++r)):=by simp [fi,jq]
 have a:((UInt8.ofNat (x.length / 256)).toNat:Int)*2 ^ 8=((x.length / 256*256:Nat):Int):=by rw [ofNat_toNat]; omega
 rw [e,ey,List.getD_cons_zero,List.getD_cons_succ,List.getD_cons_zero,a,Wc,afE,afE,ofNat_toNat,zZ (agr _ am)];omega
def mY:(fi x).length=x.length+6:=by simp [fi,jq,yj]
def HB (a:x≠[]) (h:x.length<=4096):bj (fi x++r)=(x,(x.length:Int)+6,0):=by
 have d:0<x.length:=List.length_pos_iff.2 a;have e:(fi x++r).length=x.length+6+r.length:=by rw [List.length_append,mY]
 have b:(2+(x.length:Int)).toNat=(jq x).length:=by simp [jq]; omega
 have c:fi x++r=jq x++(yj (dU 1 (jq x))++r):=by simp [fi]
 unfold bj;rw [Ce h,if_neg aL,if_neg aL,if_neg aL,b,c,List.take_left,List.drop_left,show List.take 4 (yj (dU 1 (jq x))++r)=yj (dU 1 (jq x)) from List.take_left' rfl,Sn (JU _),if_pos rfl];refine Prod.ext ?_ (Prod.ext (by dsimp only; omega) rfl);simp [jq]
variable {k:Nat}
theorem AD (h:x.length<=4096) (a:k<x.length+6):(bj ((fi x).take k)).2.2≠0:=by
 by_cases b:k<2
 ·unfold bj; rw [if_pos (by rw [List.length_take]; omega)]; decide
 have e:ey ((fi x).take k)=x.length:=by
  have:=Ce (r:=[]) h;grind
 unfold bj;grind
def Rl (b:List UInt8):0<=ey b:=Int.natCast_nonneg _
abbrev kz:List KC:=[.i 0,.i 0,.b false,.i 0,.i 0,.nf]
def WA (k:Int):List KC:=(dQ bO k).getD kz
def recOk (r:Record):Bool:=(dQ bO r.kind).isSome && decide (((WA r.kind).getD 0 .nf).int<=r.a) && decide (r.a<=((WA r.kind).getD 1 .nf).int) && decide (0<=r.b) && decide (r.b<=((WA r.kind).getD 3 .nf).int) && decide ((r.x.length:Int)<=((WA r.kind).getD 4 .nf).int)
def uG (k:Int):Bool:=((WA k).getD 2 .nf).bool
def dD (r:Record):List UInt8:=([UInt8.ofNat r.kind.toNat]++cY r.a.toNat)++(if uG r.kind=true then cY r.b.toNat else [])++r.x
def aO (r:Record):List UInt8 × Int:=if recOk r=true then (dD r,0) else ([],1)
abbrev uE:Record:=⟨0,0,0,[]⟩
def bG (b:List UInt8):Record × Bool:=
 if b.length=0 then (uE,false) else if (aj (b.drop 1)).2.2≠0 then (uE,false)
 else if uG ((b.getD 0 (ak .u8):UInt8).toNat:Int)=true then
  if (aj ((b.drop 1).drop (aj (b.drop 1)).2.1)).2.2≠0 then (uE,false)
  else (⟨((b.getD 0 (ak .u8):UInt8).toNat:Int),fa (aj (b.drop 1)).1,fa (aj ((b.drop 1).drop (aj (b.drop 1)).2.1)).1,((b.drop 1).drop (aj (b.drop 1)).2.1).drop (aj ((b.drop 1).drop (aj (b.drop 1)).2.1)).2.1⟩,true)
 else (⟨((b.getD 0 (ak .u8):UInt8).toNat:Int),fa (aj (b.drop 1)).1,0,(b.drop 1).drop (aj (b.drop 1)).2.1⟩,true)
def bW (b:List UInt8):Record × Int:=if (bG b).2=false then (uE,3) else if (aO (bG b).1).2≠0\/(aO (bG b).1).1≠b then (uE,3) else ((bG b).1,0)
def dM (s:Stable) (r:Record):Option Stable:=if r.a<s.floor then none else some { s with floor:=r.a }
def fx (s:Stable) (r:Record):Option Stable:=if r.a<s.term\/(r.a=s.term/\¬ s.vote=0)/\¬ s.vote=r.b then none else some { s with term:=r.a,vote:=r.b }
def dz (s:Stable) (r:Record):Option Stable:=if ¬ r.a=(s.log.length:Int)+1 then none else some { s with log:=s.log++[⟨r.b,r.x⟩] }
def fO (s:Stable) (r:Record):Option Stable:=if (s.log.length:Int)<r.a then none else some { s with log:=s.log.take (r.a - 1).toNat }
def fE (s:Stable) (r:Record):Option Stable:=if r.kind=1 then dM s r else if r.kind=2 then fx s r else if r.kind=3 then dz s r else fO s r
def aQ (s:Stable) (r:Record):Stable × Int:=if recOk r=false then (s,1) else match fE s r with
 | some t=>(t,0)
 | none=>(s,5)
def playB:Nat->Stable->List UInt8->Stable × Int
 | 0,s,_=>(s,0)
 | n+1,s,b=>if (bj b).2.2≠0 then (s,0) else if (bW (bj b).1).2≠0 then (s,0) else if (aQ s (bW (bj b).1).1).2≠0 then (s,0)
  else ((playB n (aQ s (bW (bj b).1).1).1 (b.drop (bj b).2.1.toNat)).1,(bj b).2.1+(playB n (aQ s (bW (bj b).1).1).1 (b.drop (bj b).2.1.toNat)).2)
abbrev sta0:Stable:=⟨0,0,0,[]⟩
def replayF (b:List UInt8):Stable × Int:=playB (b.length+1) sta0 b
theorem YR {k:Int} (h:(dQ bO k).isSome=true):k=1\/k=2\/k=3\/k=4:=by
 simp only [bO,dQ] at h;grind
variable {r:Record}
theorem bI:recOk r=true↔(r.kind=1/\1<=r.a/\r.a<=3/\r.b=0/\r.x=[])\/(r.kind=2/\0<=r.a/\r.a<=1048576/\0<=r.b/\r.b<=5/\r.x=[])\/(r.kind=3/\1<=r.a/\r.a<=64/\0<=r.b/\r.b<=1048576/\r.x.length<=200)\/(r.kind=4/\1<=r.a/\r.a<=64/\r.b=0/\r.x=[]):=by
 have e:∀ l:List UInt8,((l.length:Int)<=0)↔l=[]:=fun l=>by
  simp_all
 constructor
 ·intro h;simp only [recOk,Bool.and_eq_true] at h;obtain ⟨⟨⟨⟨⟨i,c⟩,d⟩,j⟩,f⟩,g⟩:=h;rcases YR i with hk | hk | hk | hk <;> rw [hk] at c d f g <;> simp [WA,bO,dQ,KC.int] at c d f g
  ·grind
  ·grind
  ·grind
  grind
 rintro (⟨hk,h⟩ | ⟨hk,h⟩ | ⟨hk,h⟩ | ⟨hk,h⟩) <;> simp only [recOk,WA,bO,dQ,hk] <;> simp [KC.int] <;> simp_all <;> omega
theorem ji (h:recOk r=true):1<=(dD r).length/\(dD r).length<=221:=by
 have c:=cV (n:=r.a.toNat) (by rcases bI.1 h with h | h | h | h <;> omega);have d:=cV (n:=r.b.toNat) (by rcases bI.1 h with h | h | h | h <;> omega);have e:r.x.length<=200:=by rcases bI.1 h with h | h | h | h <;> first | omega | simp [h]
 simp only [dD];grind
variable {n:Nat}
def tc (h:n<9223372036854775808):fa n=n:=by
 rw [fa,if_pos h]
theorem IP (h:recOk r=true):bG (dD r)=(r,true):=by
 have d:=bI.1 h;have m:0<=r.a/\r.a<=1048576:=by rcases d with h | h | h | h <;> omega
 have o:0<=r.b/\r.b<=1048576:=by rcases d with h | h | h | h <;> omega
 have e:1<=r.kind/\r.kind<=4:=by rcases d with h | h | h | h <;> omega
 have f:dD r=UInt8.ofNat r.kind.toNat :: (cY r.a.toNat++((if uG r.kind=true then cY r.b.toNat else [])++r.x)):=by simp [dD]
 have g:((UInt8.ofNat r.kind.toNat).toNat:Int)=r.kind:=by rw [ofNat_toNat]; omega
 have i:=uQ (n:=r.a.toNat) aL ((if uG r.kind=true then cY r.b.toNat else [])++r.x);have j:fa r.a.toNat=r.a:=by rw [tc aL]; omega
 have l:fa r.b.toNat=r.b:=by rw [tc aL]; omega
 unfold bG;rw [f,if_neg aa,List.drop_one,List.tail_cons,i,List.getD_cons_zero,g];dsimp only;rw [if_neg am,j,List.drop_left];by_cases c:uG r.kind=true
 ·rw [if_pos c,if_pos c,uQ aL];dsimp only;rw [if_neg am,l,List.drop_left]
 rw [if_neg c,if_neg c,aiv];have:r.b=0:=by
  rcases d with h | h | h | h
  ·grind
  ·exact absurd (by rw [h.1]; rfl) c
  ·exact absurd (by rw [h.1]; rfl) c
  exact h.2.2.2.1
 cases r; simp_all
theorem NO (h:recOk r=true):bW (dD r)=(r,0):=by
 unfold bW;rw [IP h];simp [aO,h]
def jJ (r:Record):List UInt8:=fi (dD r)
def encL (l:List Record):List UInt8:=l.flatMap jJ
def stepsF:Stable->List Record->Stable × Int
 | s,[]=>(s,0)
 | s,r :: l=>if (aQ s r).2=0 then stepsF (aQ s r).1 l else (s,(aQ s r).2)
theorem rJ {s:Stable} (h:(aQ s r).2=0):recOk r=true:=by
 unfold aQ at h;grind
variable {b:List UInt8}
theorem ic (h:(bj b).2.2=0):7<=(bj b).2.1/\(bj b).2.1<=b.length:=by
 have a:0<=ey b:=Int.natCast_nonneg _;revert h;unfold bj;grind
theorem mW:∀ {n m:Nat} {s:Stable} {b:List UInt8},b.length<n->b.length<m->playB n s b=playB m s b
 | n+1,m+1,s,b,c,d=>by
  simp only [playB];by_cases a:(bj b).2.2=0
  ·have e:=ic a;have f:(b.drop (bj b).2.1.toNat).length<b.length:=by rw [List.length_drop]; omega
   rw [mW (n:=n) (m:=m) aL aL]
  grind
theorem k_ (r:Record):(jJ r).length=(dD r).length+6:=mY
theorem CW {s:Stable} {t:List UInt8} (h:(aQ s r).2=0):playB (n+1) s (jJ r++t)=((playB n (aQ s r).1 t).1,(jJ r).length+(playB n (aQ s r).1 t).2):=by
 have a:=rJ h;have c:=ji a;have d:bj (jJ r++t)=(dD r,((dD r).length:Int)+6,0):=HB (by intro e; rw [e] at c; simp at c) aL;have f:(jJ r++t).drop (((dD r).length:Int)+6).toNat=t:=by
  rw [show (((dD r).length:Int)+6).toNat=(jJ r).length by rw [k_]; omega];grind
 simp only [playB,d,NO a,h,f,k_];simp
def mE {s:Stable} (h:(bj b).2.2≠0):playB n s b=(s,0):=by
 cases n
 ·rfl
 rw [playB,if_pos h]
def IC:(bj []).2.2≠0:=by decide
theorem vW:∀ {l:List Record} {n k:Nat} {s:Stable},(stepsF s l).2=0->(encL l).length<n->∃ j,j<=l.length/\playB n s ((encL l).take k)=((stepsF s (l.take j)).1,((encL (l.take j)).length:Int))/\(stepsF s (l.take j)).2=0/\(encL (l.take j)).length<=k/\(∀ i,i<=l.length->(encL (l.take i)).length<=k->i<=j)
 | [],n,k,s,_,_=>⟨0,Nat.le_refl _,by simp only [encL,List.flatMap_nil,List.take_nil]; rw [mE IC]; rfl,rfl,by simp [encL],fun i d _=>d⟩
 | r :: l,0,_,_,_,e=>by omega
 | r :: l,n+1,k,s,h,e=>by
  have c:(aQ s r).2=0:=by
   unfold stepsF at h;split at h
   ·assumption
   rename_i g; exact absurd h g
  have m:(stepsF (aQ s r).1 l).2=0:=by
   unfold stepsF at h;rwa [if_pos c] at h
  have o:=rJ c;have w:=ji o;have p:encL (r :: l)=jJ r++encL l:=by simp [encL]
  rw [p] at e ⊢;rw [List.length_append] at e;by_cases q:k<(jJ r).length
  ·refine ⟨0,ahu _,?_,rfl,by simp [encL],fun i d a=>?_⟩
   ·have f:(jJ r++encL l).take k=(jJ r).take k:=afG aL;rw [f,mE (b:=(jJ r).take k) (AD (x:=dD r) aL (by rw [k_] at q; omega))];rfl
   cases i with
   | zero=>exact Nat.le_refl _
   | succ i=>
    rw [agy] at a;simp only [encL,List.flatMap_cons,List.length_append] at a;omega
  obtain ⟨j,g,t,u,y,v⟩:=vW (l:=l) (n:=n) (k:=k - (jJ r).length) m (by have:=k_ r; omega);have f:(jJ r++encL l).take k=jJ r++(encL l).take (k - (jJ r).length):=by
   rw [List.take_append,List.take_of_length_le aL]
  refine ⟨j+1,by simp; omega,?_,?_,?_,fun i d a=>?_⟩
  ·rw [f,CW c,t,agy,stepsF,if_pos c];simp [encL]
  ·rw [agy,stepsF,if_pos c]; exact u
  ·rw [agy];simp only [encL,List.flatMap_cons,List.length_append];have:(encL (l.take j)).length=(List.flatMap jJ (l.take j)).length:=rfl;omega
  cases i with
  | zero=>omega
  | succ i=>
   rw [agy] at a;simp only [encL,List.flatMap_cons,List.length_append] at a;have:=v i (by simpa using d) (by simp only [encL]; omega);omega
theorem dS:∀ {l m:List Record} {s:Stable},(stepsF s l).2=0->stepsF s (l++m)=stepsF (stepsF s l).1 m
 | [],_,_,_=>rfl
 | r :: l,m,s,h=>by
  rw [List.cons_append,stepsF];simp only [stepsF] at h ⊢;split
  ·rename_i a;rw [if_pos a] at h;rw [dS h]
  grind
def sC (l m:List Record):encL (l++m)=encL l++encL m:=by simp [encL]
structure Dsk where
 b:List UInt8
 synced:Int
 down:Bool
 doomed:Bool
 keep:Int
deriving DecidableEq
def Dsk.OK (d:Dsk):Prop:=0<=d.synced/\d.synced<=d.b.length/\d.b.length<=65536
def Dsk.at_ (d:Dsk) (k:Int):Int:=d.synced+min (max k 0) (d.b.length - d.synced)
def Dsk.cF (d:Dsk) (k:Int):Dsk:=⟨d.b.take (d.at_ k).toNat,d.at_ k,true,false,0⟩
def Dsk.up (d:Dsk):Dsk:=⟨d.b,d.synced,false,false,0⟩
def Dsk.cut (d:Dsk) (n:Int):Dsk:=if d.down=true\/n<0\/(d.b.length:Int)<n then d else ⟨d.b.take n.toNat,n,d.down,d.doomed,d.keep⟩
def Dsk.kV (d:Dsk) (n:Int):Int:=if d.down=true then 30 else if n<0\/(d.b.length:Int)<n then 1 else 0
def Dsk.app (d:Dsk) (x:List UInt8):Dsk:=if d.down=true\/65536 - (d.b.length:Int)<x.length then d else ⟨d.b++x,d.synced,d.down,d.doomed,d.keep⟩
def Dsk.jT (d:Dsk) (x:List UInt8):Int:=if d.down=true then 30 else if 65536 - (d.b.length:Int)<x.length then 20 else 0
def Dsk.sync (d:Dsk):Dsk:=if d.down=true then d else if d.doomed=true then d.cF d.keep else ⟨d.b,d.b.length,d.down,d.doomed,d.keep⟩
def Dsk.fH (d:Dsk):Int:=if d.down=true\/d.doomed=true then 30 else 0
def saveF (d:Dsk) (s:Stable) (l:List Record):Dsk × Stable × Int:=
 if l.all recOk=false then (d,s,1) else if (stepsF s l).2≠0 then (d,s,(stepsF s l).2) else if l.length=0 then (d,s,0)
 else if d.jT (encL l)≠0 then (d,s,d.jT (encL l)) else if (d.app (encL l)).fH≠0 then ((d.app (encL l)).sync,s,(d.app (encL l)).fH)
 else ((d.app (encL l)).sync,(stepsF s l).1,0)
def iH (l:List Entry):Int:=(l.getD (l.length - 1) ⟨0,[]⟩).term
def cf (l:List Entry) (k:Int):Int:=if k=0 then 0 else if k<0\/(l.length:Int)<k then -1 else (l.getD (k - 1).toNat ⟨0,[]⟩).term
def jf (l:List Entry) (n t:Int):Bool:=decide (iH l<t) || decide (t=iH l) && decide ((l.length:Int)<=n)
def ez:List Entry->List Entry->Nat
 | x :: h,y :: a=>if x.term=y.term then ez h a+1 else 0
 | _,_=>0
def a_ (l:List Entry) (k:Int) (m:List Entry):Int × List Entry:=
 if k<0\/(l.length:Int)<k then (0,[]) else if m.length<=ez (l.drop k.toNat) m then (0,[]) else if (l.drop k.toNat).length<=ez (l.drop k.toNat) m then (0,m.drop (ez (l.drop k.toNat) m)) else (k+ez (l.drop k.toNat) m+1,m.drop (ez (l.drop k.toNat) m))
def ek (l:List Entry) (k m:Int):List Entry:=if (k<0\/(l.length:Int)<k)\/m<1 then [] else (l.drop k.toNat).take (min m ((l.drop k.toNat).length:Int)).toNat
def gJ (l:List Int):Int:=if l.length=0 then 0 else (l.mergeSort (fun a b=>decide (b<=a))).getD (l.length / 2) 0
theorem lX:∀ {h a:List Entry},ez h a<=h.length/\ez h a<=a.length
 | [],_=>⟨Nat.le_refl _,ahu _⟩
 | _ :: _,[]=>⟨ahu _,Nat.le_refl _⟩
 | x :: h,y :: a=>by
  have:=lX (h:=h) (a:=a);simp only [ez];grind
theorem oM:∀ {h a:List Entry} {j:Nat} {x y:Entry},j<=ez h a->h[j]? = some x->a[j]? = some y->(x.term=y.term↔j+1<=ez h a)
 | u :: h,v :: a,0,x,y,_,c,d=>by
  simp at c d;simp only [ez];grind
 | u :: h,v :: a,j+1,x,y,f,c,d=>by
  simp only [ah_] at c d;simp only [ez] at f ⊢;split at f
  ·rename_i e;rw [if_pos e];rw [oM aL c d]; omega
  omega
def dJ (n m:Int) (b:Bool):Bool:=cm n 0 (if b=true then m else 0)
def mJ (x:Letter):Bool:=(decide (x.kind=1) || decide (x.kind=2) || decide (x.kind=3) || decide (x.kind=4)) && cm x.frm 0 4 && cm x.to 0 4 && !decide (x.frm=x.to) && cm x.term 1 1048576 && cm x.bin 1 3 &&
 dJ x.a 64 (decide (x.kind=1) || decide (x.kind=3) || decide (x.kind=4)) && dJ x.b 1048576 (decide (x.kind=1) || decide (x.kind=3)) && dJ x.c 64 (decide (x.kind=3)) && (!x.ok || decide (x.kind=2) || decide (x.kind=4)) && dJ (x.l.length:Int) 4 (decide (x.kind=3))
def dk (y:Entry):Bool:=cm y.term 1 1048576 && decide ((y.b.length:Int)<=200)
def mayL (x:Letter):Int:=if mJ x=true/\x.l.all dk=true then 0 else 1
def az (s:Stable) (t:Int):List Record:=if t<=s.term then [] else [⟨2,t,0,[]⟩]
def aU (s:Stable) (me:Int):List Record × Int:=if me<0\/5<=me then ([],1) else if 1048576<=s.term then ([],4) else ([⟨2,s.term+1,me+1,[]⟩],0)
def tw (s:Stable) (x:Letter):Bool:=decide (s.term<x.term) || decide (s.vote=0) || decide (s.vote=x.frm+1)
def aC (s:Stable) (x:Letter):List Record × Bool × Int:=
 if ¬ mayL x=0\/¬ x.kind=1 then ([],false,1) else if (x.term<s.term\/tw s x=false)\/jf s.log x.a x.b=false then (az s x.term,false,0)
 else if x.term=s.term/\s.vote=x.frm+1 then ([],true,0) else ([⟨2,x.term,x.frm+1,[]⟩],true,0)
def mz (l:List Bool):Bool:=decide ((l.length:Int).tdiv 2<(l.countP id:Nat))
abbrev cH:Letter:=⟨0,0,0,0,0,0,0,0,false,[]⟩
def mh (s:Stable) (r:Route):Letter:=⟨3,r.frm,r.to,s.term,r.next - 1,cf s.log (r.next - 1),r.commit,r.bin,false,ek s.log (r.next - 1) 4⟩
def fT (s:Stable) (r:Route):Letter × Int:=if r.next<1\/(s.log.length:Int)+1<r.next then (cH,1) else if ¬ mayL (mh s r)=0 then (cH,mayL (mh s r)) else (mh s r,0)
def eW:Int->List Entry->List Record
 | _,[]=>[]
 | n,y :: l=>⟨3,n,y.term,y.b⟩ :: eW (n+1) l
def gA (s:Stable) (x:Letter):List Record:=
 az s x.term++(if (a_ s.log x.a x.l).1=0 then [] else [⟨4,(a_ s.log x.a x.l).1,0,[]⟩])++eW (x.a+x.l.length - (a_ s.log x.a x.l).2.length+1) (a_ s.log x.a x.l).2
def ay (s:Stable) (x:Letter):List Record × Bool × Int × Int:=
 if (¬ mayL x=0\/¬ x.kind=3)\/64<x.a+x.l.length then ([],false,0,1) else if x.term<s.term then ([],false,0,0)
 else if cf s.log x.a=x.b then (gA s x,true,x.a+x.l.length,0) else (az s x.term,false,0,0)
def jo (n:Int) (x:Letter):Int:=if x.ok=true then x.a+1 else if 1<n then min (n - 1) (x.a+1) else 1
def iN (s:Stable) (l:List Int) (k:Int):Int:=if k<min (gJ l) s.log.length/\cf s.log (min (gJ l) s.log.length)=s.term then min (gJ l) s.log.length else k
variable {x:Letter}
theorem eu (h:mayL x=0):0<=x.frm/\x.frm<=4/\0<=x.to/\x.to<=4/\1<=x.term/\x.term<=1048576/\1<=x.bin/\x.bin<=3/\0<=x.a/\x.a<=64/\0<=x.c/\x.c<=64/\x.l.length<=4/\1<=x.kind/\x.kind<=4:=by
 unfold mayL at h;split at h
 ·rename_i d;simp only [mJ,cm,dJ] at d;grind
 cases h
theorem ub:∀ {l:List Record},l.all recOk=true->(encL l).length<=227*l.length
 | [],_=>Nat.le_refl _
 | r :: l,h=>by
  simp only [List.all_cons,Bool.and_eq_true] at h;have a:=ji h.1;have c:=ub h.2;have e:encL (r :: l)=jJ r++encL l:=by simp [encL]
  rw [e,List.length_append,k_,List.length_cons]; omega
structure NdC where
 me:Int
 many:Int
 bin:Int
 st:Stable
 role:Int
 commit:Int
 applied:Int
 s:State
def Yj (k:Nat) (n:NdC):List AV:=[.int n.me,.int n.many,.ptr (k+1) 0,.int n.bin]++(cellsOf (.nm .stable) n.st++([.int n.role,.int n.commit,.int n.applied]++cellsOf (.nm .state) n.s))
def lNd {a:Type} (k:Nat) (R:PL a):PL (NdC × a):=PL.Zf (aA cI (aA cI (aA (aY (k+1) 0) (aA cI (lSt (.nm .stable) (aA cI (aA cI (aA cI (lSt (.nm .state) R))))))))) (fun q=>(⟨q.1,q.2.1,q.2.2.2.1,q.2.2.2.2.1,q.2.2.2.2.2.1,q.2.2.2.2.2.2.1,q.2.2.2.2.2.2.2.1,q.2.2.2.2.2.2.2.2.1⟩,q.2.2.2.2.2.2.2.2.2)) (fun q=>(q.1.me,q.1.many,(),q.1.bin,q.1.st,q.1.role,q.1.commit,q.1.applied,q.1.s,q.2))
structure Nd where
 c:NdC
 d:Dsk
 rp:List Reply
 vs:List Bool
 bn:List Int
 nx:List Int
 mt:List Int
def ndO (k:Nat) (n:Nd):AH:=[.box 103 (Yj k n.c++[.own (k+3),.own (k+4),.own (k+5),.own (k+6),.own (k+7)]),.box 147 [.own (k+2),.int n.d.synced,.bool (.atom n.d.down),.bool (.atom n.d.doomed),.int n.d.keep],.row 5 .u8 n.d.b,.row 78 (.nm .reply) n.rp,.row 4 .bool n.vs,.row 3 .int n.bn,.row 3 .int n.nx,.row 3 .int n.mt]
def aec {a:Type} (k:Nat) (R:PH a):PH (Nd × a):=PH.Zf (aE (dF 103 (lNd k (aA (fb (k+3)) (aA (fb (k+4)) (aA (fb (k+5)) (aA (fb (k+6)) (aA (fb (k+7)) dy))))))) (aE (dF 147 (aA (fb (k+2)) (aA cI (aA cB (aA cB (aA cI dy)))))) (aE (e_ 5 .u8) (aE (e_ 78 (.nm .reply)) (aE (e_ 4 .bool) (aE (e_ 3 .int) (aE (e_ 3 .int) (aE (e_ 3 .int) R))))))))
 (fun q=>(⟨q.1.1,⟨q.2.2.1,q.2.1.2.1,q.2.1.2.2.1,q.2.1.2.2.2.1,q.2.1.2.2.2.2.1⟩,q.2.2.2.1,q.2.2.2.2.1,q.2.2.2.2.2.1,q.2.2.2.2.2.2.1,q.2.2.2.2.2.2.2.1⟩,q.2.2.2.2.2.2.2.2))
 (fun q=>((q.1.c,(),(),(),(),(),()),((),q.1.d.synced,q.1.d.down,q.1.d.doomed,q.1.d.keep,()),q.1.d.b,q.1.rp,q.1.vs,q.1.bn,q.1.nx,q.1.mt,q.2))
def mC (n:Nd):AH:=ndO 0 n
def sU:PH Nd:=PH.Zf (aec 0 ax) (·.1) (fun n=>(n,()))
structure NdR where
 n:Nd
 l:List Letter
 e:Int
abbrev Nd.save (n:Nd) (l:List Record):Nd:={ n with d:=(saveF n.d n.c.st l).1,c:={ n.c with st:=(saveF n.d n.c.st l).2.1 } }
abbrev Nd.aJ (n:Nd) (l:List Record):Int:=(saveF n.d n.c.st l).2.2
def jO (n:NdC) (k:Nat):List Int:=((List.range k).map fun i:Nat=>(i:Int)).filter (fun i=>decide (i≠n.me))
def cM (n:NdC):List Int:=jO n n.many.toNat
def nQ (n:NdC) (kd a:Int):Letter:=⟨kd,n.me,a,n.st.term,0,0,0,n.bin,false,[]⟩
def iW (n:Nd) (a:Int):Letter × Int:=fT n.c.st ⟨n.c.me,a,n.nx.getD a.toNat 0,n.c.commit,n.c.bin⟩
def cc (n:Nd):List Int->List Letter × Int
 | []=>([],0)
 | to :: l=>if (iW n to).2=0 then (if (cc n l).2=0 then ((iW n to).1 :: (cc n l).1,0) else ([],(cc n l).2)) else ([],(iW n to).2)
def bN (n:Nd):List Letter × Int:=if n.d.down=true then ([],30) else if n.c.role=2 then cc n (cM n.c) else ([],33)
def Nd.bw:Nat->Nd->Nd
 | 0,n=>n
 | k+1,n=>if n.c.applied<n.c.commit then
   (if pE n.c.bin ((n.c.st.log.drop n.c.applied.toNat).take 1)=0 then Nd.bw k { n with c:={ n.c with s:=plS n.c.bin n.c.s ((n.c.st.log.drop n.c.applied.toNat).take 1),applied:=n.c.applied+1 },rp:=n.rp++plR n.c.bin n.c.s ((n.c.st.log.drop n.c.applied.toNat).take 1) } else n)
  else n
def Nd.apply (n:Nd):Nd:=n.bw (n.c.commit - n.c.applied).toNat
def Nd.eD (n:Nd):Nd:={ n with c:={ n.c with role:=1 },vs:=(List.replicate n.c.many.toNat false).set n.c.me.toNat true,bn:=(List.replicate n.c.many.toNat (0:Int)).set n.c.me.toNat n.c.bin,nx:=List.replicate n.c.many.toNat 0,mt:=List.replicate n.c.many.toNat 0 }
def gw (n:NdC):List Letter:=(cM n).map fun c=>{ nQ n 1 c with a:=n.st.log.length,b:=iH n.st.log }
def bm (n:Nd):NdR:=if n.d.down=true then ⟨n,[],30⟩ else if n.c.role=2 then ⟨n,[],0⟩ else if ¬ (aU n.c.st n.c.me).2=0 then ⟨n,[],(aU n.c.st n.c.me).2⟩
 else if ¬ n.aJ (aU n.c.st n.c.me).1=0 then ⟨n.save (aU n.c.st n.c.me).1,[],n.aJ (aU n.c.st n.c.me).1⟩ else ⟨(n.save (aU n.c.st n.c.me).1).eD,gw (n.save (aU n.c.st n.c.me).1).eD.c,0⟩
def cq (n:NdC) (x:Letter):Bool:=if (¬ mayL x=0\/¬ x.to=n.me)\/n.many<=x.frm then false else if ¬ x.kind=3 then true else if ¬ (ay n.st x).2.2.2=0 then false
 else !(ay n.st x).1.any (fun r=>decide (r.kind=4) && decide (r.a<=n.commit))
def ba (n:Nd) (x:Letter):NdR:=if ¬ (aC n.c.st x).2.2=0 then ⟨n,[],(aC n.c.st x).2.2⟩ else if ¬ n.aJ (aC n.c.st x).1=0 then ⟨n.save (aC n.c.st x).1,[],n.aJ (aC n.c.st x).1⟩
 else ⟨n.save (aC n.c.st x).1,[{ nQ (n.save (aC n.c.st x).1).c 2 x.frm with ok:=(aC n.c.st x).2.1 }],0⟩
def Nd.follow (n:Nd):Nd:={ n with c:={ n.c with role:=0 } }
def aM (n:Nd) (x:Letter):NdR:=if ¬ (ay n.c.st x).2.2.2=0 then ⟨n,[],(ay n.c.st x).2.2.2⟩ else if ¬ n.aJ (ay n.c.st x).1=0 then ⟨n.save (ay n.c.st x).1,[],n.aJ (ay n.c.st x).1⟩
 else let m:=n.save (ay n.c.st x).1
  let f:=if x.term=m.c.st.term then m.follow else m
  if (ay n.c.st x).2.1=true then (let g:=({ f with c:={ f.c with commit:=max f.c.commit (min x.c (ay n.c.st x).2.2.1) } }:Nd).apply; ⟨g,[{ nQ f.c 4 x.frm with ok:=true,a:=(ay n.c.st x).2.2.1 }],0⟩)
  else ⟨f,[{ nQ f.c 4 x.frm with a:=if x.term=f.c.st.term then min 64 (f.c.st.log.length:Int) else 0 }],0⟩
def dj (n:Nd):NdR:=
 let m:Nd:={ n with c:={ n.c with role:=2 },nx:=List.replicate n.nx.length ((n.c.st.log.length:Int)+1),mt:=List.replicate n.mt.length 0 }
 if (n.c.st.log.length:Int)+1<=64 then (let l:=[⟨3,(n.c.st.log.length:Int)+1,n.c.st.term,[]⟩]; if m.aJ l=0 then ⟨m.save l,(bN (m.save l)).1,(bN (m.save l)).2⟩ else ⟨m.save l,[],m.aJ l⟩)
 else ⟨m,(bN m).1,(bN m).2⟩
def Nd.qz (n:Nd) (x:Letter):Nd:=
 let e:Int:=n.c.st.log.length
 let nx:=n.nx.set x.frm.toNat (min (jo (n.nx.getD x.frm.toNat 0) x) (e+1))
 let mt:=if x.ok=true then n.mt.set x.frm.toNat (max (n.mt.getD x.frm.toNat 0) (min x.a e)) else n.mt
 { n with nx:=nx,mt:=mt,c:={ n.c with commit:=iN n.c.st (mt.set n.c.me.toNat e) n.c.commit } }
def eJ (n:Nd) (x:Letter):NdR:=
 let m:=(n.qz x).apply
 if (n.c.st.log.length:Int)<m.nx.getD x.frm.toNat 0 then ⟨m,[],0⟩ else if (iW m x.frm).2=0 then ⟨m,[(iW m x.frm).1],0⟩ else ⟨m,[],(iW m x.frm).2⟩
def answeredF (n:Nd) (x:Letter):NdR:=
 let l:=az n.c.st x.term
 if ¬ n.aJ l=0 then ⟨n.save l,[],n.aJ l⟩ else
 let m:=n.save l
 if ¬ x.term=m.c.st.term\/m.c.role=0 then ⟨m,[],0⟩ else
 let a:Nd:={ m with bn:=m.bn.set x.frm.toNat x.bin }
 if (x.kind=2/\x.ok=true)/\m.c.role=1 then (let d:Nd:={ a with vs:=a.vs.set x.frm.toNat true }; if mz d.vs=true then dj d else ⟨d,[],0⟩)
 else if x.kind=4/\m.c.role=2 then eJ a x else ⟨a,[],0⟩
def au (n:Nd) (x:Letter):NdR:=if n.d.down=true then ⟨n,[],30⟩ else if cq n.c x=false then ⟨n,[],1⟩ else
 let m:=if n.c.st.term<x.term then n.follow else n
 if x.kind=1 then ba m x else if x.kind=3 then aM m x else answeredF m x
def Nd.fresh (n:Nd) (b:Int):Nd:={ c:=⟨n.c.me,n.c.many,b,(replayF n.d.b).1,0,0,0,State.mk 1 1 0 0 [] [] []⟩,d:=n.d.up.cut (replayF n.d.b).2,rp:=[],vs:=[],bn:=[],nx:=[],mt:=[] }
def aX (n:Nd) (b:Int):NdR:=if n.d.down=false then ⟨n,[],31⟩ else if ¬ b_ b (max (replayF n.d.b).1.floor 1)=0 then ⟨n,[],b_ b (max (replayF n.d.b).1.floor 1)⟩
 else let m:=n.fresh b
  if m.c.st.floor<b then (let l:=[⟨1,b,0,[]⟩]; if m.aJ l=0 then ⟨m.save l,[],0⟩ else ⟨{ m.save l with d:=(m.save l).d.cF 0 },[],m.aJ l⟩) else ⟨m,[],0⟩
structure NdC3 where
 n:Nd
 a:Int
 b:Int
 e:Int
def cS (n:Nd) (c:Command):NdC3:=if n.d.down=true then ⟨n,0,0,30⟩ else if ¬ n.c.role=2 then ⟨n,0,0,33⟩ else if ¬ bL c n.c.s.version=0 then ⟨n,0,0,bL c n.c.s.version⟩
 else if c.kind=8/\¬ c.n=n.c.s.version+1 then ⟨n,0,0,1⟩ else if c.kind=8/\kU n.c.s.version n.bn=false then ⟨n,0,0,34⟩
 else if 64<(n.c.st.log.length:Int)+1 then ⟨n,0,0,20⟩ else if ¬ (eA c n.c.st.term n.c.s.version).2=0 then ⟨n,0,0,(eA c n.c.st.term n.c.s.version).2⟩
 else let l:=[⟨3,(n.c.st.log.length:Int)+1,(eA c n.c.st.term n.c.s.version).1.term,(eA c n.c.st.term n.c.s.version).1.b⟩]
  if n.aJ l=0 then ⟨n.save l,(n.c.st.log.length:Int)+1,n.c.st.term,0⟩ else ⟨n.save l,0,0,n.aJ l⟩
abbrev bV (a b:Nd):Prop:=a.c.me=b.c.me/\a.c.many=b.c.many/\a.c.bin=b.c.bin/\a.c.st.floor=b.c.st.floor/\a.c.st.term=b.c.st.term/\a.c.st.vote=b.c.st.vote/\a.c.st.log=b.c.st.log/\a.c.role=b.c.role/\a.c.commit=b.c.commit/\a.c.applied=b.c.applied/\a.c.s.version=b.c.s.version/\a.c.s.next=b.c.s.next/\a.c.s.keep=b.c.s.keep/\a.c.s.quota=b.c.s.quota/\a.c.s.sess=b.c.s.sess/\a.c.s.opens=b.c.s.opens/\a.c.s.snaps=b.c.s.snaps/\a.d.synced=b.d.synced/\a.d.down=b.d.down/\a.d.doomed=b.d.doomed/\a.d.keep=b.d.keep/\a.d.b=b.d.b/\a.rp=b.rp/\a.vs=b.vs/\a.bn=b.bn/\a.nx=b.nx/\a.mt=b.mt
abbrev Qu (a b:Nd) (p:Prop):Prop:=a.c.me=b.c.me/\a.c.many=b.c.many/\a.c.bin=b.c.bin/\a.c.st.floor=b.c.st.floor/\a.c.st.term=b.c.st.term/\a.c.st.vote=b.c.st.vote/\a.c.st.log=b.c.st.log/\a.c.role=b.c.role/\a.c.commit=b.c.commit/\a.c.applied=b.c.applied/\a.c.s.version=b.c.s.version/\a.c.s.next=b.c.s.next/\a.c.s.keep=b.c.s.keep/\a.c.s.quota=b.c.s.quota/\a.c.s.sess=b.c.s.sess/\a.c.s.opens=b.c.s.opens/\a.c.s.snaps=b.c.s.snaps/\a.d.synced=b.d.synced/\a.d.down=b.d.down/\a.d.doomed=b.d.doomed/\a.d.keep=b.d.keep/\a.d.b=b.d.b/\a.rp=b.rp/\a.vs=b.vs/\a.bn=b.bn/\a.nx=b.nx/\a.mt=b.mt/\p
structure DkI (d:Dsk) (L:List Record):Prop where
 st:(stepsF sta0 L).2=0
 rep:replayF d.b=((stepsF sta0 L).1,((encL L).length:Int))
 pre:∃ t,d.b=encL L++t
 syn:d.synced=d.b.length
 up:d.down=false->d.b=encL L
variable {L:List Record}
def pW (h:(stepsF sta0 L).2=0):∃ j,j<=L.length/\replayF ((encL L).take k)=((stepsF sta0 (L.take j)).1,((encL (L.take j)).length:Int))/\(stepsF sta0 (L.take j)).2=0/\(encL (L.take j)).length<=k/\∀ i,i<=L.length->(encL (L.take i)).length<=k->i<=j:=by
 obtain ⟨j,a,c,d⟩:=vW (n:=(encL L).length+1) (k:=k) h aL;refine ⟨j,a,?_,d⟩;rw [replayF,<- c];exact mW aL (by rw [List.length_take]; omega)
theorem tz (h:(stepsF sta0 L).2=0):replayF (encL L)=((stepsF sta0 L).1,((encL L).length:Int)):=by
 obtain ⟨j,c,d,e,f,a⟩:=pW (k:=(encL L).length) h;have:=a L.length aL (by rw [List.take_length]; omega);grind
variable {l:List Record}
def DkI.aiy {a:Dsk} (m:(stepsF sta0 (L++l)).2=0) (o:(encL L).length<=k) (c:a.b=(encL (L++l)).take k) (p:a.synced=a.b.length) (q:a.down=true):∃ i,i<=l.length/\DkI a (L++l.take i):=by
 obtain ⟨j,s,d,f,g,t⟩:=pW (k:=k) m;have v:=t L.length aa (by rw [List.take_left]; exact o);have e:(L++l).take j=L++l.take (j - L.length):=by rw [List.take_append,List.take_of_length_le aL]
 rw [e] at d f g;rw [List.length_append] at s;refine ⟨j - L.length,aL,f,by rw [c]; exact d,?_,p,fun h=>by rw [q] at h; cases h⟩;refine ⟨(encL (l.drop (j - L.length))).take (k - (encL (L++l.take (j - L.length))).length),?_⟩;have u:encL (L++l)=encL (L++l.take (j - L.length))++encL (l.drop (j - L.length)):=by
  rw [<- sC,List.append_assoc,List.take_append_drop]
 rw [c,u,List.take_append,List.take_of_length_le g]
def DkI.enc {e:Bool} {c f:Int} (d:(stepsF sta0 L).2=0) (a:b=encL L) (g:c=b.length) {h:Bool}:DkI ⟨b,c,h,e,f⟩ L:=
 ⟨d,by rw [a]; exact tz d,⟨[],by rw [afy]; exact a⟩,g,fun _=>a⟩
def yH {i:Nat}:L <+: L++l.take i:=⟨_,rfl⟩
structure SaveR (d:Dsk) (s:Stable) (l L:List Record):Prop where
 ok:(saveF d s l).2.2=0->(saveF d s l).1.down=false/\DkI (saveF d s l).1 (L++l)/\(saveF d s l).2.1=(stepsF s l).1/\(stepsF s l).2=0/\l.all recOk=true/\(saveF d s l).1.doomed=d.doomed/\(saveF d s l).1.keep=d.keep/\(l=[]->saveF d s l=(d,s,0))
 no:(saveF d s l).2.2≠0->(saveF d s l).2.1=s/\l≠[]/\(((saveF d s l).1=d/\(saveF d s l).2.2≠30)\/(d.doomed=true/\(saveF d s l).2.2=30/\(saveF d s l).1.down=true/\(saveF d s l).1.doomed=false/\∃ i,i<=l.length/\DkI (saveF d s l).1 (L++l.take i)))
 len:(saveF d s l).1.b.length<=d.b.length+(encL l).length
 le:d.b.length<=65536->(saveF d s l).1.b.length<=65536
theorem rK:∀ {l:List Record} {s:Stable},(stepsF s l).2=0\/(stepsF s l).2=1\/(stepsF s l).2=5
 | [],_=>.inl rfl
 | r :: l,s=>by
  rw [stepsF];split
  ·exact rK
  dsimp only;unfold aQ;grind
def xo {d:Dsk} {s:Stable} (h:DkI d L) (m:d.down=false) (A:s=(stepsF sta0 L).1):SaveR d s l L:=by
 have w:=h.up m;have D:=h.syn;by_cases g:l.all recOk=false
 ·have a:l≠[]:=by rintro rfl; cases g
  constructor <;> rw [saveF,if_pos g]
  ·intro e; cases e
  ·exact fun _=>⟨rfl,a,.inl ⟨rfl,(by decide:(1:Int)≠30)⟩⟩
  ·dsimp only; omega
  exact id
 by_cases i:(stepsF s l).2≠0
 ·have a:l≠[]:=by rintro rfl; exact i rfl
  constructor <;> rw [saveF,if_neg g,if_pos i]
  ·intro e; exact absurd e i
  ·exact fun _=>⟨rfl,a,.inl ⟨rfl,by rcases rK (l:=l) (s:=s) with e | e | e <;> rw [e] <;> decide⟩⟩
  ·dsimp only; omega
  exact id
 have p:(stepsF s l).2=0:=adJ.1 i;have v:l.all recOk=true:=by simpa using g
 by_cases o:l.length=0
 ·obtain rfl:=ab_ o;constructor <;> rw [saveF,if_neg g,if_neg i,if_pos o]
  ·exact fun _=>⟨m,by rw [afy]; exact h,rfl,rfl,rfl,rfl,rfl,fun _=>rfl⟩
  ·intro e; exact absurd rfl e
  ·dsimp only; omega
  exact id
 have a:l≠[]:=by rintro rfl; exact o rfl
 by_cases c:d.jT (encL l)≠0
 ·have B:d.jT (encL l)=20:=by
   unfold Dsk.jT at c ⊢;rw [m] at c ⊢;simp only [Bool.false_eq_true,if_false] at c ⊢;split at c
   ·rename_i q; rw [if_pos q]
   exact absurd rfl c
  constructor <;> rw [saveF,if_neg g,if_neg i,if_neg o,if_pos c]
  ·intro e; exact absurd e c
  ·exact fun _=>⟨rfl,a,.inl ⟨rfl,by dsimp only; rw [B]; decide⟩⟩
  ·dsimp only; omega
  exact id
 have C:¬ 65536 - (d.b.length:Int)<(encL l).length:=by
  intro q;unfold Dsk.jT at c;rw [m,if_neg am,if_pos q] at c;exact c am
 have j:d.app (encL l)=⟨d.b++encL l,d.synced,false,d.doomed,d.keep⟩:=by
  rw [Dsk.app,if_neg (by rw [m]; simpa using C),m]
 have y:d.b++encL l=encL (L++l):=by rw [w,sC]
 have z:(stepsF sta0 (L++l)).2=0:=by rw [dS h.st,<- A]; exact p
 by_cases t:d.doomed=true
 ·have u:(d.app (encL l)).fH=30:=by rw [j,Dsk.fH,if_pos (.inr t)]
  have f:(d.app (encL l)).sync=(d.app (encL l)).cF d.keep:=by rw [j,Dsk.sync,if_neg Bool.false_ne_true,if_pos t]
  constructor <;> rw [saveF,if_neg g,if_neg i,if_neg o,if_neg c,if_pos (by rw [u]; decide)]
  ·intro e; rw [u] at e; cases e
  ·refine fun _=>⟨rfl,a,.inr ⟨t,u,by rw [f]; rfl,by rw [f]; rfl,?_⟩⟩;dsimp only;rw [f,j];refine DkI.aiy (k:=((⟨d.b++encL l,d.synced,false,d.doomed,d.keep⟩:Dsk).at_ d.keep).toNat) z ?_ (by show List.take _ (d.b++encL l)=_; rw [y]) ?_ rfl
   ·rw [<- w];simp only [Dsk.at_,List.length_append]; omega
   simp only [Dsk.cF,Dsk.at_,List.length_take,List.length_append]; omega
  ·rw [f,j];simp only [Dsk.cF,List.length_take,List.length_append]; omega
  intro _;rw [f,j];simp only [Dsk.cF,List.length_take,List.length_append]; omega
 have u:(d.app (encL l)).fH=0:=by rw [j,Dsk.fH,if_neg (by simpa using t)]
 have f:(d.app (encL l)).sync=⟨d.b++encL l,(d.b++encL l).length,false,d.doomed,d.keep⟩:=by rw [j,Dsk.sync,if_neg Bool.false_ne_true,if_neg t]
 constructor <;> rw [saveF,if_neg g,if_neg i,if_neg o,if_neg c,if_neg (by rw [u]; decide)]
 ·refine fun _=>⟨by rw [f],?_,rfl,p,v,by rw [f],by rw [f],fun e=>absurd e a⟩;dsimp only;rw [f];exact DkI.enc z y rfl
 ·intro e; exact absurd rfl e
 ·rw [f]; dsimp only; rw [List.length_append]; omega
 intro _; rw [f]; dsimp only; rw [List.length_append]; omega
def agB (h:r.kind=1/\1<=r.a/\r.a<=3/\r.b=0/\r.x=[]):recOk r=true:=bI.2 (.inl h)
def ae6 (h:r.kind=2/\0<=r.a/\r.a<=1048576/\0<=r.b/\r.b<=5/\r.x=[]):recOk r=true:=bI.2 (.inr (.inl h))
def agT (h:r.kind=3/\1<=r.a/\r.a<=64/\0<=r.b/\r.b<=1048576/\r.x.length<=200):recOk r=true:=bI.2 (.inr (.inr (.inl h)))
def agN (h:r.kind=4/\1<=r.a/\r.a<=64/\r.b=0/\r.x=[]):recOk r=true:=bI.2 (.inr (.inr (.inr h)))
def nA {s t:Stable} (h:recOk r=true) (e:fE s r=some t):aQ s r=(t,0):=by
 rw [aQ,if_neg (by rw [h]; decide),e]
def jE {s:Stable} (h:(aQ s r).2=0):stepsF s [r]=((aQ s r).1,0):=by
 rw [stepsF,if_pos h,stepsF]
variable {t:Int}
theorem xr {s:Stable} {v:Int} (a:0<=t) (c:t<=1048576) (d:0<=v) (f:v<=5) (h:s.term<t\/(s.term=t/\(s.vote=0\/s.vote=v))):stepsF s [⟨2,t,v,[]⟩]=({ s with term:=t,vote:=v },0):=by
 have e:aQ s ⟨2,t,v,[]⟩=({ s with term:=t,vote:=v },0):=by
  refine nA (ae6 ⟨rfl,a,c,d,f,rfl⟩) ?_;rw [fE,if_neg (show ¬ (2:Int)=1 by decide),if_pos rfl,fx,if_neg];grind
 rw [jE (by rw [e]),e]
def hU {s:Stable} (a:0<=t) (c:t<=1048576):stepsF s (az s t)=({ s with term:=max s.term t,vote:=if s.term<t then 0 else s.vote },0)/\(az s t).all recOk=true:=by
 unfold az;split
 ·rename_i h;rw [show max s.term t=s.term by omega,if_neg aL];exact ⟨rfl,rfl⟩
 rename_i h;rw [xr a c aL aL (.inl aL),show max s.term t=t by omega,if_pos aL];refine ⟨rfl,?_⟩;rw [List.all_cons,ae6 ⟨rfl,a,c,by dsimp only; omega,by dsimp only; omega,rfl⟩]; rfl
def lO {y:Entry}:dk y=true↔1<=y.term/\y.term<=1048576/\y.b.length<=200:=by
 simp only [dk,cm,Bool.and_eq_true,decide_eq_true_eq]; omega
theorem yp:∀ {m:List Entry} {s:Stable},m.all dk=true->s.log.length+m.length<=64->stepsF s (eW ((s.log.length:Int)+1) m)=({ s with log:=s.log++m },0)/\(eW ((s.log.length:Int)+1) m).all recOk=true
 | [],s,_,_=>⟨by rw [eW,stepsF,afy],rfl⟩
 | y :: m,s,h,f=>by
  rw [List.all_cons,Bool.and_eq_true,lO] at h;rw [List.length_cons] at f;have a:recOk ⟨3,(s.log.length:Int)+1,y.term,y.b⟩=true:=agT ⟨rfl,by dsimp only; omega,by dsimp only; omega,by dsimp only; omega,by dsimp only; omega,by dsimp only; omega⟩;have e:aQ s ⟨3,(s.log.length:Int)+1,y.term,y.b⟩=({ s with log:=s.log++[y] },0):=by
   refine nA a ?_;rw [fE,if_neg (show ¬ (3:Int)=1 by decide),if_neg (show ¬ (3:Int)=2 by decide),if_pos rfl,dz,if_neg (by dsimp only; omega)]
  obtain ⟨c,d⟩:=yp (m:=m) (s:={ s with log:=s.log++[y] }) h.2 (by dsimp only; rw [List.length_append,ajV]; omega);have g:(((s.log++[y]).length:Nat):Int)+1=(s.log.length:Int)+1+1:=by rw [List.length_append,ajV]; omega
  rw [g] at c d;refine ⟨?_,?_⟩
  ·rw [eW,stepsF,if_pos (by rw [e]),e,c]; simp
  rw [eW,List.all_cons,a,d]; rfl
theorem BF (h:mayL x=0):x.l.all dk=true:=by
 unfold mayL at h;grind
theorem CF (h:mayL x=0):0<=x.b:=by
 unfold mayL at h;split at h
 ·rename_i a;simp only [mJ,cm,dJ] at a;grind
 cases h
def d_ (s:Stable) (x:Letter):Nat:=ez (s.log.drop x.a.toNat) x.l
def cu (s:Stable) (x:Letter):List Entry:=if x.l.length<=d_ s x then s.log else s.log.take (x.a.toNat+d_ s x)++x.l.drop (d_ s x)
theorem rM {l:List Entry} {k:Int} (h:cf l k=t) (a:0<=t) (c:0<=k):k.toNat<=l.length:=by
 unfold cf at h;grind
theorem qb {s:Stable} (c:x.a.toNat<=s.log.length):x.a.toNat+x.l.length<=(cu s x).length/\(cu s x).length<=max s.log.length (x.a.toNat+x.l.length):=by
 have h:=lX (h:=s.log.drop x.a.toNat) (a:=x.l);unfold cu d_;grind
def qj {m:List Entry} (h:m.all dk=true):(m.drop k).all dk=true:=
 List.all_eq_true.2 fun y a=>List.all_eq_true.1 h y (ajl a)
theorem xc {s:Stable} (h:mayL x=0) (H:s.log.length<=64) (y:x.a+x.l.length<=64) (I:s.term<=x.term) (z:cf s.log x.a=x.b) (A:0<=x.a) (B:1<=x.term) (j:x.term<=1048576) :
  stepsF s (gA s x)=({ s with term:=x.term,vote:=if s.term<x.term then 0 else s.vote,log:=cu s x },0)/\(gA s x).all recOk=true:=by
 have C:=CF h;have D:=rM z C A;have p:=BF h;obtain ⟨c,q⟩:=hU (s:=s) (t:=x.term) aL j;have c:stepsF s (az s x.term)=({ s with term:=x.term,vote:=if s.term<x.term then 0 else s.vote },0):=by rw [c,show max s.term x.term=x.term by omega]
 have F:=lX (h:=s.log.drop x.a.toNat) (a:=x.l);rw [List.length_drop] at F;unfold gA;by_cases d:x.l.length<=d_ s x
 ·have e:a_ s.log x.a x.l=(0,[]):=by rw [a_,if_neg aL]; exact if_pos d
  rw [e,if_pos rfl,eW,afy,afy,cu,if_pos d];grind
 by_cases f:(s.log.drop x.a.toNat).length<=d_ s x
 ·have G:d_ s x=s.log.length - x.a.toNat:=by rw [List.length_drop] at f; unfold d_ at f ⊢; omega
  have e:a_ s.log x.a x.l=(0,x.l.drop (d_ s x)):=by rw [a_,if_neg aL]; exact (if_neg d).trans (if_pos f)
  have o:x.a+(x.l.length:Int) - ((x.l.drop (d_ s x)).length:Int)+1=(s.log.length:Int)+1:=by rw [List.length_drop]; omega
  rw [e,if_pos rfl,afy];dsimp only;rw [o];obtain ⟨g,i⟩:=yp (m:=x.l.drop (d_ s x)) (s:={ s with term:=x.term,vote:=if s.term<x.term then 0 else s.vote }) (qj p) (by dsimp only; rw [List.length_drop]; omega);dsimp only at g i;refine ⟨?_,by rw [List.all_append,q,i]; rfl⟩;rw [dS (by rw [c]),c];dsimp only;rw [g,cu,if_neg d,List.take_of_length_le (l:=s.log) aL]
 have G:x.a.toNat+d_ s x<s.log.length:=by rw [List.length_drop] at f; omega
 have e:a_ s.log x.a x.l=(x.a+d_ s x+1,x.l.drop (d_ s x)):=by rw [a_,if_neg aL]; exact (if_neg d).trans (if_neg f)
 have u:recOk ⟨4,x.a+d_ s x+1,0,[]⟩=true:=agN ⟨rfl,by dsimp only; omega,by dsimp only; omega,rfl,rfl⟩;have v:aQ { s with term:=x.term,vote:=if s.term<x.term then 0 else s.vote } ⟨4,x.a+d_ s x+1,0,[]⟩=({ s with term:=x.term,vote:=if s.term<x.term then 0 else s.vote,log:=s.log.take (x.a.toNat+d_ s x) },0):=by
  refine nA u ?_;rw [fE,if_neg (show ¬ (4:Int)=1 by decide),if_neg (show ¬ (4:Int)=2 by decide),if_neg (show ¬ (4:Int)=3 by decide),fO,if_neg (by dsimp only; omega)];dsimp only;rw [show (x.a+(d_ s x:Int)+1 - 1).toNat=x.a.toNat+d_ s x by omega]
 have o:x.a+(x.l.length:Int) - ((x.l.drop (d_ s x)).length:Int)+1=(((s.log.take (x.a.toNat+d_ s x)).length:Nat):Int)+1:=by rw [List.length_drop,List.length_take]; omega
 rw [e];dsimp only;rw [if_neg aL,o];obtain ⟨g,i⟩:=yp (m:=x.l.drop (d_ s x)) (s:={ s with term:=x.term,vote:=if s.term<x.term then 0 else s.vote,log:=s.log.take (x.a.toNat+d_ s x) }) (qj p) (by dsimp only; rw [List.length_drop,List.length_take]; omega);dsimp only at g i;refine ⟨?_,by rw [List.all_append,List.all_append,q,i]; simp [u]⟩;have w:stepsF s (az s x.term++[⟨4,x.a+d_ s x+1,0,[]⟩])=({ s with term:=x.term,vote:=if s.term<x.term then 0 else s.vote,log:=s.log.take (x.a.toNat+d_ s x) },0):=by
  rw [dS (by rw [c]),c,jE (by dsimp only; rw [v])];dsimp only;rw [v]
 rw [dS (by rw [w]),w];dsimp only;rw [g,cu,if_neg d]
structure NdOK (n:Nd):Prop where
 d:n.d.OK
 many:3<=n.c.many/\n.c.many<=5
 me:0<=n.c.me/\n.c.me<n.c.many
 log:n.c.st.log.length<=64
 term:0<=n.c.st.term/\n.c.st.term<=1048576
 com:0<=n.c.applied/\n.c.applied<=n.c.commit/\n.c.commit<=n.c.st.log.length
 len:n.c.role=0\/((n.vs.length:Int)=n.c.many/\(n.bn.length:Int)=n.c.many/\(n.nx.length:Int)=n.c.many/\(n.mt.length:Int)=n.c.many)
 rp:(n.rp.length:Int)=n.c.applied
abbrev fr0:State:=State.mk 1 1 0 0 [] [] []
structure UpI (n:Nd) (L:List Record):Prop where
 st:n.c.st=(stepsF sta0 L).1
 bin:1<=n.c.bin/\n.c.bin<=3/\n.c.st.floor=n.c.bin
 role:0<=n.c.role/\n.c.role<=2
 vote:n.c.role≠0->n.c.st.vote=n.c.me+1/\1<=n.c.st.term
 nx:n.c.role=2->∀ i:Nat,(i:Int)<n.c.many->1<=n.nx.getD i 0/\n.nx.getD i 0<=n.c.st.log.length+1
 pl:okPl n.c.bin (n.c.st.log.take n.c.applied.toNat)/\n.c.s=pS n.c.bin fr0 (n.c.st.log.take n.c.applied.toNat)/\n.rp=pR n.c.bin fr0 (n.c.st.log.take n.c.applied.toNat)
structure NInv (n:Nd) (L:List Record):Prop where
 ok:NdOK n
 d:DkI n.d L
 le:∀ r ∈ L,r.kind=3->1<=r.b
 up:n.d.down=false->UpI n L
structure LetI (n:Nd) (x:Letter):Prop where
 up:n.d.down=false
 frm:x.frm=n.c.me
 to:x.to≠n.c.me/\0<=x.to/\x.to<n.c.many
 term:x.term=n.c.st.term
 bin:x.bin=n.c.bin
 ask:x.kind=1->n.c.st.vote=n.c.me+1
 vote:x.kind=2->x.ok=true->n.c.st.vote=x.to+1
 copy:x.kind=3->n.c.role=2
structure StepR (n:Nd) (L:List Record) (n':Nd) (l:List Letter) (L':List Record):Prop where
 inv:NInv n' L'
 pre:L <+: L'
 me:n'.c.me=n.c.me/\n'.c.many=n.c.many
 len:n'.d.b.length<=n.d.b.length+1400
 lets:∀ x ∈ l,LetI n' x
 mono:n.d.down=false->n'.d.down=false->n.c.commit<=n'.c.commit/\n'.c.st.log.take n.c.commit.toNat=n.c.st.log.take n.c.commit.toNat/\n'.c.bin=n.c.bin
variable {n:Nd}
def StepR.refl (h:NInv n L):StepR n L n [] L:=
 ⟨h,List.prefix_refl _,⟨rfl,rfl⟩,aL,fun _ a=>(by cases a),fun _ _=>⟨afI _,rfl,rfl⟩⟩
theorem rA {d:Dsk} {s:Stable} (h:SaveR d s l L) (c:l.length<=6):(saveF d s l).1.b.length<=d.b.length+1400:=by
 cases a:l.all recOk
 ·have e:saveF d s l=(d,s,1):=by rw [saveF,if_pos a]
  grind
 have:=h.len;have:=ub a;omega
def Nt (n:Nd) (l:List Record):(n.save l).c={ n.c with st:=(saveF n.d n.c.st l).2.1 }:=rfl
def PN (n:Nd) (l:List Record):(n.save l).d=(saveF n.d n.c.st l).1:=rfl
theorem qm {s t:Stable} (a:recOk r=true) (h:fE s r=some t) (c:s.log.length<=64) (d:0<=s.term/\s.term<=1048576):t.log.length<=64/\0<=t.term/\t.term<=1048576:=by
 have e:=bI.1 a;unfold fE at h;split at h
 ·unfold dM at h;grind
 split at h
 ·unfold fx at h;grind
 split at h
 ·unfold dz at h;grind
 unfold fO at h;grind
theorem lP {s:Stable} (h:(aQ s r).2=0):recOk r=true/\fE s r=some (aQ s r).1:=by
 have a:=rJ h;unfold aQ at h ⊢;grind
theorem nO:∀ {l:List Record} {s:Stable},s.log.length<=64->0<=s.term/\s.term<=1048576->(stepsF s l).1.log.length<=64/\0<=(stepsF s l).1.term/\(stepsF s l).1.term<=1048576
 | [],_,a,c=>⟨a,c⟩
 | r :: l,s,a,c=>by
  rw [stepsF];split
  ·rename_i h;obtain ⟨d,e⟩:=lP h;obtain ⟨f,g⟩:=qm d e a c;exact nO f g
  grind
theorem z_ {d:Dsk} {s:Stable} (h:SaveR d s l L) (c:d.OK):(saveF d s l).1.OK:=by
 by_cases e:(saveF d s l).2.2=0
 ·have a:=(h.ok e).2.1.syn;exact ⟨aL,aL,h.le c.2.2⟩
 rcases (h.no e).2.2 with ⟨a,_⟩ | ⟨_,_,_,_,i,_,a⟩
 ·grind
 have f:=a.syn;exact ⟨aL,aL,h.le c.2.2⟩
theorem lD (h:NInv n L) (q:n.d.down=false) (u:l.length<=6) (B:∀ r ∈ l,r.kind=3->1<=r.b) (v:n.aJ l≠0):∃ w,StepR n L (n.save l) [] w:=by
 have j:=h.up q;have m:=xo (l:=l) h.d q j.st;have f:=rA m u;have g:=z_ m h.ok.d;obtain ⟨s,C,o⟩:=m.no v;have a:(n.save l).c=n.c:=by rw [Nt,s]
 have p:NdOK (n.save l):=⟨g,by rw [a]; exact h.ok.many,by rw [a]; exact h.ok.me,by rw [a]; exact h.ok.log,by rw [a]; exact h.ok.term,by rw [a]; exact h.ok.com,by rw [a]; exact h.ok.len,by rw [a]; exact h.ok.rp⟩;rcases o with ⟨o,_⟩ | ⟨_,_,y,_,i,_,z⟩
 ·have e:n.save l=n:=by
   unfold Nd.save; rw [s,o]
  rw [e]; exact ⟨L,StepR.refl h⟩
 refine ⟨L++l.take i,⟨p,z,fun r hr=>?_,fun g=>?_⟩,yH,by rw [a]; exact ⟨rfl,rfl⟩,f,fun _ A=>(by cases A),fun _ g=>?_⟩
 ·rcases ab8.1 hr with hr | hr
  ·exact h.le r hr
  grind
 ·grind
 rw [PN,y] at g; cases g
structure SaveY (n:Nd) (L l:List Record):Prop where
 d:DkI (n.save l).d (L++l)
 dn:(n.save l).d.down=false
 st:(n.save l).c.st=(stepsF n.c.st l).1
 sts:(n.save l).c.st=(stepsF sta0 (L++l)).1
 le:∀ r ∈ L++l,r.kind=3->1<=r.b
 len:(n.save l).d.b.length<=n.d.b.length+1400
 ok:(n.save l).d.OK
 lt:(n.save l).c.st.log.length<=64/\0<=(n.save l).c.st.term/\(n.save l).c.st.term<=1048576
 no:l=[]->n.save l=n
theorem gL (h:NInv n L) (i:n.d.down=false) (j:l.length<=6) (u:∀ r ∈ l,r.kind=3->1<=r.b) (m:n.aJ l=0):SaveY n L l:=by
 have a:=h.up i;have f:=xo (l:=l) h.d i a.st;obtain ⟨o,p,q,v,w,y,z,s⟩:=f.ok m;have g:(n.save l).c.st=(stepsF n.c.st l).1:=q;refine ⟨p,o,g,?_,fun r hr=>?_,rA f j,z_ f h.ok.d,?_,fun e=>?_⟩
 ·rw [g,dS h.d.st,a.st]
 ·rcases ab8.1 hr with hr | hr
  ·exact h.le r hr
  grind
 ·rw [g]; exact nO h.ok.log h.ok.term
 unfold Nd.save; rw [s e]
theorem Ty {c:Type} {a b:List c} {j:Nat} (h:a.take k=b.take k) (d:j<=k):a.take j=b.take j:=by
 have e:a.take j=(a.take k).take j:=by rw [ajP,afJ d]
 grind
theorem lN (h:NInv n L) (f:n.d.down=false) (y:SaveY n L l) (g:n.c.role≠0->(n.save l).c.st.vote=n.c.me+1/\1<=(n.save l).c.st.term) (j:(n.save l).c.st.floor=n.c.st.floor)
  (e:(n.save l).c.st.log.take n.c.commit.toNat=n.c.st.log.take n.c.commit.toNat) (m:n.c.commit<=((n.save l).c.st.log.length:Int)) (v:n.c.role=2->n.c.st.log.length<=(n.save l).c.st.log.length):StepR n L (n.save l) [] (L++l):=by
 have a:=h.up f;have o:(n.save l).c.st.log.take n.c.applied.toNat=n.c.st.log.take n.c.applied.toNat:=Ty e (by have:=h.ok.com; omega);refine ⟨⟨⟨y.ok,h.ok.many,h.ok.me,y.lt.1,y.lt.2,⟨h.ok.com.1,h.ok.com.2.1,m⟩,h.ok.len,h.ok.rp⟩,y.d,y.le,fun _=>⟨y.sts,⟨a.bin.1,a.bin.2.1,j.trans a.bin.2.2⟩,a.role,g,fun p i q=>?_,?_⟩⟩,List.prefix_append _ _,⟨rfl,rfl⟩,y.len,fun _ u=>(by cases u),fun _ _=>⟨afI _,e,rfl⟩⟩
 ·have w:=a.nx p i q;grind
 show okPl n.c.bin ((n.save l).c.st.log.take n.c.applied.toNat)/\n.c.s=pS n.c.bin fr0 ((n.save l).c.st.log.take n.c.applied.toNat)/\n.rp=pR n.c.bin fr0 ((n.save l).c.st.log.take n.c.applied.toNat);rw [o]; exact a.pl
def NInv.follow {n:Nd} {L:List Record} (h:NInv n L):NInv n.follow L:=
 ⟨⟨h.ok.d,h.ok.many,h.ok.me,h.ok.log,h.ok.term,h.ok.com,.inl rfl,h.ok.rp⟩,h.d,h.le,fun e=>by
  have a:=h.up e;exact ⟨a.st,a.bin,⟨afI 0,(by decide:(0:Int)<=2)⟩,fun c=>absurd rfl c,fun c=>absurd (show (0:Int)=2 from c) am,a.pl⟩⟩
variable {L':List Record} {n':Nd}
def StepR.lT {l:List Letter} (h:StepR n.follow L n' l L'):StepR n L n' l L':=⟨h.inv,h.pre,h.me,h.len,h.lets,h.mono⟩
theorem ya {n:NdC} {i:Int} (h:i ∈ cM n):i≠n.me/\0<=i/\i<n.many:=by
 unfold cM jO at h;grind
variable {to:Int}
theorem aaW (h:(iW n to).2=0):(iW n to).1=mh n.c.st ⟨n.c.me,to,n.nx.getD to.toNat 0,n.c.commit,n.c.bin⟩:=by
 unfold iW fT at h ⊢;grind
def Ee (a:n.d.down=false) (f:n.c.role=2) (h:(iW n to).2=0) (g:to≠n.c.me/\0<=to/\to<n.c.many):LetI n (iW n to).1:=by
 rw [aaW h];exact ⟨a,rfl,g,rfl,rfl,fun e=>absurd (show (3:Int)=1 from e) am,fun e=>absurd (show (3:Int)=2 from e) am,fun _=>f⟩
theorem zb {n:Nd}:∀ {l:List Int} {x:Letter},x ∈ (cc n l).1->∃ to ∈ l,(iW n to).2=0/\x=(iW n to).1
 | t :: l,x,h=>by
  unfold cc at h;split at h
  ·rename_i a;split at h
   ·rcases acb.1 h with rfl | h
    ·grind
    obtain ⟨u,c,k⟩:=zb h;grind
   cases h
  cases h
def ph (a:x ∈ (bN n).1):LetI n x:=by
 unfold bN at a;split at a
 ·cases a
 rename_i c;split at a
 ·rename_i d;obtain ⟨to,e,f,rfl⟩:=zb a;exact Ee (by simpa using c) d f (ya e)
 cases a
def StepR.tell {l:List Letter} (h:StepR n L n' [] L') (a:∀ x ∈ l,LetI n' x):StepR n L n' l L':=⟨h.inv,h.pre,h.me,h.len,a,h.mono⟩
def Dq (a:n.d.down=false) (f:n.c.st.vote=n.c.me+1) (g:x ∈ gw n.c):LetI n x:=by
 obtain ⟨to,h,rfl⟩:=ai0.1 g;exact ⟨a,rfl,ya h,rfl,rfl,fun _=>f,fun e=>absurd (show (1:Int)=2 from e) am,fun e=>absurd (show (1:Int)=3 from e) am⟩
def Na {s:Stable} {m:Int} (h:(aU s m).2=0) (d:0<=m) (e:0<=s.term):aU s m=([⟨2,s.term+1,m+1,[]⟩],0)/\stepsF s [⟨2,s.term+1,m+1,[]⟩]=({ s with term:=s.term+1,vote:=m+1 },0):=by
 unfold aU at h ⊢;split at h
 ·cases h
 rename_i a;split at h
 ·cases h
 rename_i c;rw [if_neg a,if_neg c];exact ⟨rfl,xr aL aL aL aL (.inl aL)⟩
variable {k:Int}
def XY {a b:Int} (c:k≠3):∀ r ∈ [Record.mk k a b []],r.kind=3->1<=r.b:=fun r d e=>by
 rw [ab7.1 d] at e; exact absurd e c
def Jh (h:NInv n L):∃ L',StepR n L (bm n).n (bm n).l L':=by
 unfold bm;split
 ·exact ⟨L,.refl h⟩
 rename_i j;have f:n.d.down=false:=by simpa using j
 split
 ·exact ⟨L,.refl h⟩
 rename_i i;split
 ·exact ⟨L,.refl h⟩
 rename_i m;obtain ⟨o,p⟩:=Na (adJ.1 m) h.ok.me.1 h.ok.term.1;rw [o];dsimp only;split
 ·rename_i g;exact lD h f aa (XY am) g
 rename_i g;have y:=gL h f aa (XY am) (adJ.1 g);have e:=h.up f;have a:=y.st;rw [p] at a;generalize v:[Record.mk 2 (n.c.st.term+1) (n.c.me+1) []]=l at *;have w:=h.ok.me;have q:=h.ok.many;refine ⟨L++l,⟨⟨⟨y.ok,h.ok.many,h.ok.me,y.lt.1,y.lt.2,?_,?_,h.ok.rp⟩,y.d,y.le,fun _=>⟨y.sts,⟨e.bin.1,e.bin.2.1,?_⟩,⟨(by decide:(0:Int)<=1),(by decide:(1:Int)<=2)⟩,fun _=>?_,fun i=>absurd (show (1:Int)=2 from i) am,?_⟩⟩,List.prefix_append _ _,⟨rfl,rfl⟩,y.len,fun x u=>Dq y.dn ?_ u,fun _ _=>⟨afI _,?_,rfl⟩⟩⟩
 ·show 0<=n.c.applied/\n.c.applied<=n.c.commit/\n.c.commit<=((n.save l).c.st.log.length:Int);rw [a]; exact h.ok.com
 ·refine .inr ⟨?_,?_,?_,?_⟩
  ·show ((((List.replicate n.c.many.toNat false).set n.c.me.toNat true).length:Nat):Int)=n.c.many;rw [afx,afF]; omega
  ·show ((((List.replicate n.c.many.toNat (0:Int)).set n.c.me.toNat n.c.bin).length:Nat):Int)=n.c.many;rw [afx,afF]; omega
  ·show (((List.replicate n.c.many.toNat (0:Int)).length:Nat):Int)=n.c.many;rw [afF]; omega
  show (((List.replicate n.c.many.toNat (0:Int)).length:Nat):Int)=n.c.many;rw [afF]; omega
 ·show (n.save l).c.st.floor=n.c.bin;rw [a]; exact e.bin.2.2
 ·show (n.save l).c.st.vote=n.c.me+1/\1<=(n.save l).c.st.term;rw [a]; exact ⟨rfl,by have:=h.ok.term.1; dsimp only; omega⟩
 ·show okPl n.c.bin ((n.save l).c.st.log.take n.c.applied.toNat)/\n.c.s=pS n.c.bin fr0 ((n.save l).c.st.log.take n.c.applied.toNat)/\n.rp=pR n.c.bin fr0 ((n.save l).c.st.log.take n.c.applied.toNat);rw [a]; exact e.pl
 ·show (n.save l).c.st.vote=n.c.me+1;rw [a]
 show (n.save l).c.st.log.take n.c.commit.toNat=_;rw [a]
theorem zL:∀ {k:Nat} {n:Nd} {L:List Record},NInv n L->n.d.down=false->NInv (n.bw k) L/\(n.bw k).d=n.d/\(n.bw k).c={ n.c with s:=(n.bw k).c.s,applied:=(n.bw k).c.applied }/\(n.bw k).vs=n.vs/\(n.bw k).bn=n.bn/\(n.bw k).nx=n.nx/\(n.bw k).mt=n.mt
 | 0,n,L,h,_=>⟨h,rfl,rfl,rfl,rfl,rfl,rfl⟩
 | k+1,n,L,h,o=>by
  unfold Nd.bw;split
  ·rename_i J;split
   ·rename_i f;have a:=h.up o;have q:=h.ok.com;obtain ⟨x,g⟩:∃ x,n.c.st.log[n.c.applied.toNat]? = some x:=⟨_,List.getElem?_eq_getElem aL⟩;have e:(n.c.st.log.drop n.c.applied.toNat).take 1=[x]:=by
     obtain ⟨i,j⟩:=abp.1 g;rw [afH i,j]; rfl
    rw [e] at f ⊢;have m:(bc x n.c.bin).e=0:=by
     unfold pE at f;split at f
     ·assumption
     exact f
    have u:plS n.c.bin n.c.s [x]=ir n.c.bin n.c.s x:=by
     unfold plS pN pN;rw [if_pos m]; rfl
    have v:plR n.c.bin n.c.s [x]=[mT n.c.bin n.c.s x]:=by
     unfold plR pN pN;rw [if_pos m]; rfl
    have w:(n.c.applied+1).toNat=n.c.applied.toNat+1:=by omega
    obtain ⟨y,p,z⟩:=a.pl;rw [u,v];have A:NInv { n with c:={ n.c with s:=ir n.c.bin n.c.s x,applied:=n.c.applied+1 },rp:=n.rp++[mT n.c.bin n.c.s x] } L:=by
     refine ⟨⟨h.ok.d,h.ok.many,h.ok.me,h.ok.log,h.ok.term,⟨by dsimp only; omega,by dsimp only; omega,q.2.2⟩,h.ok.len,?_⟩,h.d,h.le,fun _=>⟨a.st,a.bin,a.role,a.vote,a.nx,?_⟩⟩
     ·dsimp only;rw [List.length_append,ajV];have:=h.ok.rp; omega
     dsimp only;rw [w];refine ⟨Gi y g m,?_,?_⟩
     ·rw [p]; exact Xo g
     rw [z,p]; exact Wi g
    obtain ⟨B,C,D,F,G,H,I⟩:=zL (k:=k) A o;exact ⟨B,C,D,F,G,H,I⟩
   grind
  grind
theorem iI {s:Stable}:∀ r ∈ az s t,r.kind=3->1<=r.b:=fun r a e=>by
 unfold az at a;grind
def eO {s:Stable}:(az s t).length<=1:=by
 unfold az;split <;> simp
theorem lM (h:mayL x=0):x.frm≠x.to:=by
 unfold mayL at h;split at h
 ·rename_i a;simp only [mJ] at a;grind
 cases h
structure ForMe (n:Nd) (x:Letter):Prop where
 may:mayL x=0
 to:x.to=n.c.me
 frm:x.frm<n.c.many
theorem oI (h:cq n.c x=true):ForMe n x/\(x.kind=3->(ay n.c.st x).2.2.2=0/\(ay n.c.st x).1.any (fun r=>decide (r.kind=4) && decide (r.a<=n.c.commit))=false):=by
 unfold cq at h;split at h
 ·cases h
 rename_i d;refine ⟨⟨aL,aL,aL⟩,fun e=>?_⟩;grind
theorem Pm {s:Stable} (h:(aC s x).2.2=0) (g:mayL x=0):(aC s x).1.length<=1/\(∀ r ∈ (aC s x).1,r.kind=3->1<=r.b) /\
  (stepsF s (aC s x).1)=({ s with term:=max s.term x.term,vote:=if (aC s x).2.1=true then x.frm+1 else if s.term<x.term then 0 else s.vote },0) /\
  ((aC s x).2.1=true->s.term<=x.term/\(x.term=s.term->s.vote=0\/s.vote=x.frm+1))/\(x.term<=s.term->(aC s x).2.1=false->(aC s x).1=[])/\(x.term<=s.term->s.vote≠0->(aC s x).1=[]):=by
 have m:=eu g;unfold aC at h ⊢;split at h
 ·cases h
 rename_i i;rw [if_neg i];split at h
 ·rename_i a;rw [if_pos a];have:=(hU (s:=s) (t:=x.term) aL aL).1;refine ⟨eO,iI,?_,fun e=>(by cases e),fun e _=>(by unfold az; rw [if_pos e]),fun e _=>(by unfold az; rw [if_pos e])⟩;dsimp only;rw [this]; simp
 rename_i a;rw [if_neg a];have c:s.term<=x.term/\tw s x=true:=by
  rw [not_or,not_or] at a;exact ⟨aL,by simpa using a.1.2⟩
 have d:x.term=s.term->s.vote=0\/s.vote=x.frm+1:=fun e=>by
  have:=c.2;simp only [tw,Bool.or_eq_true,decide_eq_true_eq] at this;omega
 split
 ·rename_i f;refine ⟨aa,fun _ j=>(by cases j),?_,fun _=>⟨c.1,d⟩,fun _ _=>rfl,fun _ _=>rfl⟩;dsimp only;rw [stepsF,if_pos rfl,show max s.term x.term=s.term by omega,<- f.2]
 rename_i f;refine ⟨aa,XY am,?_,fun _=>⟨c.1,d⟩,fun _ e=>(by cases e),fun o p=>?_⟩
 ·dsimp only;rw [xr aL aL aL aL aL,if_pos rfl,show max s.term x.term=x.term by omega]
 grind
theorem Et (h:NInv n L) (i:n.d.down=false) (a:ForMe n x) (o:n.c.role≠0->x.term<=n.c.st.term):∃ L',StepR n L (ba n x).n (ba n x).l L':=by
 unfold ba;split
 ·exact ⟨L,.refl h⟩
 rename_i p;obtain ⟨B,m,q,C,D,s⟩:=Pm (adJ.1 p) a.may;split
 ·rename_i j;exact lD h i aL m j
 rename_i j;have y:=gL h i aL m (adJ.1 j);have f:=y.st;rw [q] at f;have u:=h.up i;refine ⟨_,(lN h i y (fun g=>?_) (by rw [f]) (by rw [f]) (by rw [f]; exact h.ok.com.2.2) (fun _=>by rw [f]; exact Nat.le_refl _)).tell fun z v=>?_⟩
 ·have F:=u.vote g;have e:=y.no (s (o g) (by have:=h.ok.me; omega));grind
 rw [ab7.1 v];have w:=eu a.may;have A:=lM a.may;refine ⟨y.dn,rfl,⟨by have:=a.to; show x.frm≠n.c.me; omega,w.1,a.frm⟩,rfl,rfl,fun e=>absurd (show (2:Int)=1 from e) am,fun _ e=>?_,fun e=>absurd (show (2:Int)=3 from e) am⟩;have e:(aC n.c.st x).2.1=true:=e;show (n.save (aC n.c.st x).1).c.st.vote=x.frm+1;grind
theorem FI:∀ {m:List Entry} {k:Int},m.all dk=true->∀ r ∈ eW k m,r.kind=3->1<=r.b
 | y :: m,k,h,r,hr,e=>by
  rw [List.all_cons,Bool.and_eq_true,lO] at h;rcases acb.1 hr with rfl | hr
  ·exact h.1.1
  exact FI h.2 r hr e
theorem cZ {s:Stable} (h:(ay s x).2.2.2=0):(mayL x=0/\x.kind=3/\x.a+x.l.length<=64)/\((x.term<s.term/\ay s x=([],false,0,0))\/(s.term<=x.term/\cf s.log x.a=x.b/\ay s x=(gA s x,true,x.a+x.l.length,0))\/(s.term<=x.term/\¬ cf s.log x.a=x.b/\ay s x=(az s x.term,false,0,0))):=by
 unfold ay at h ⊢;split at h
 ·cases h
 grind
theorem pA {s:Stable} (h:mayL x=0):(gA s x).length<=6:=by
 have d:=eu h;have e:=eO (s:=s) (t:=x.term);have f:∀ (m:List Entry) (k:Int),(eW k m).length=m.length:=fun m=>by
  induction m with
  | nil=>intro _; rfl
  | cons y m c=>intro k; rw [eW,List.length_cons,List.length_cons,c]
 have g:(a_ s.log x.a x.l).2.length<=x.l.length:=by
  unfold a_;grind
 unfold gA;grind
theorem Fo {s:Stable} (h:mayL x=0):∀ r ∈ gA s x,r.kind=3->1<=r.b:=fun r hr e=>by
 rcases ab8.1 hr with hr | hr
 ·rcases ab8.1 hr with hr | hr
  ·exact iI r hr e
  grind
 refine FI ?_ r hr e;have:=BF h;unfold a_;grind
theorem xZ {s:Stable} (c:mayL x=0) (p:x.a.toNat<=s.log.length) (d:(gA s x).any (fun r=>decide (r.kind=4) && decide (r.a<=k))=false) (q:0<=k) (u:k<=s.log.length):(cu s x).take k.toNat=s.log.take k.toNat/\k<=((cu s x).length:Int):=by
 have v:=eu c;have f:=lX (h:=s.log.drop x.a.toNat) (a:=x.l);rw [List.length_drop] at f;unfold cu;split
 ·grind
 rename_i g;have h2:k.toNat<=x.a.toNat+d_ s x\/s.log.length<=x.a.toNat+d_ s x:=by
  by_cases i:(s.log.drop x.a.toNat).length<=d_ s x
  ·grind
  left;have e:a_ s.log x.a x.l=(x.a+d_ s x+1,x.l.drop (d_ s x)):=by rw [a_,if_neg aL]; exact (if_neg g).trans (if_neg i)
  have j:Record.mk 4 (x.a+d_ s x+1) 0 [] ∈ gA s x:=by
   unfold gA;rw [e];dsimp only;rw [if_neg aL];simp
  have m:=List.any_eq_false.1 d _ j;simp only [decide_true,Bool.true_and,decide_eq_true_eq] at m;omega
 have o:k.toNat<=(s.log.take (x.a.toNat+d_ s x)).length:=by rw [List.length_take]; omega
 refine ⟨?_,by rw [List.length_append]; omega⟩;rw [afG o,ajP];rcases h2 with h2 | h2
 ·grind
 grind
theorem xH {d:Dsk} {s:Stable} (h:(saveF d s l).2.2=0):(saveF d s l).2.1=(stepsF s l).1/\(stepsF s l).2=0:=by
 unfold saveF at h ⊢;split at h
 ·cases h
 rename_i e;split at h
 ·grind
 rename_i a;have a:=adJ.1 a;split at h
 ·rename_i c;obtain rfl:=ab_ c;exact ⟨rfl,rfl⟩
 grind
def sY (g:NdOK n) (p:cq n.c x=true) (q:x.kind=3) (f:(ay n.c.st x).2.1=true) :
  (ay n.c.st x)=(gA n.c.st x,true,x.a+x.l.length,0)/\n.c.st.term<=x.term/\(stepsF n.c.st (gA n.c.st x))=({ n.c.st with term:=x.term,vote:=if n.c.st.term<x.term then 0 else n.c.st.vote,log:=cu n.c.st x },0) /\
  (cu n.c.st x).take n.c.commit.toNat=n.c.st.log.take n.c.commit.toNat/\n.c.commit<=((cu n.c.st x).length:Int)/\x.a+x.l.length<=((cu n.c.st x).length:Int)/\mayL x=0/\cf n.c.st.log x.a=x.b:=by
 obtain ⟨d,s⟩:=oI p;obtain ⟨u,j⟩:=s q;have A:=eu d.may;obtain ⟨⟨_,_,h⟩,v⟩:=cZ u;rcases v with ⟨_,e⟩ | ⟨m,i,e⟩ | ⟨_,_,e⟩
 ·rw [e] at f; cases f
 ·rw [e] at j;have w:=(xc d.may g.log h m i aL aL aL).1;have o:=rM i (CF d.may) aL;obtain ⟨y,z⟩:=xZ d.may o j (by have:=g.com; omega) g.com.2.2;have B:=qb (x:=x) o;exact ⟨e,m,w,y,z,aL,d.may,i⟩
 rw [e] at f; cases f
def Ef (d:NdOK n) (g:cq n.c x=true) (h:x.kind=3) (i:n.aJ (ay n.c.st x).1=0) (j:(ay n.c.st x).2.1=true) :
  (0<=(n.save (ay n.c.st x).1).c.applied/\max (n.save (ay n.c.st x).1).c.commit (min x.c (ay n.c.st x).2.2.1)<=((n.save (ay n.c.st x).1).c.st.log.length:Int))/\((n.save (ay n.c.st x).1).rp.length:Int)<=(n.save (ay n.c.st x).1).c.applied/\(n.save (ay n.c.st x).1).c.st.log.length<=10000:=by
 obtain ⟨e,u,m,v,w,y,_⟩:=sY d g h j;have f:(n.save (ay n.c.st x).1).c.st=(stepsF n.c.st (ay n.c.st x).1).1:=(xH i).1;have o:=nO (l:=(ay n.c.st x).1) d.log d.term;rw [<- f] at o;have p:(n.save (ay n.c.st x).1).c.st.log=cu n.c.st x:=by
  rw [f,e];dsimp only;rw [m]
 have q:=d.com;have z:=d.rp;have s:(ay n.c.st x).2.2.1=x.a+x.l.length:=by rw [e]
 refine ⟨⟨q.1,?_⟩,?_,aL⟩
 ·show max n.c.commit (min x.c (ay n.c.st x).2.2.1)<=_;rw [p,s]; omega
 show ((n.rp.length:Nat):Int)<=n.c.applied;omega
theorem StepR.commit {n n':Nd} {L L':List Record} {c:Int} (h:StepR n L n' [] L') (g:n'.d.down=false) (i:n'.c.commit<=c) (s:c<=(n'.c.st.log.length:Int)):StepR n L ({ n' with c:={ n'.c with commit:=c } }:Nd).apply [] L' /\
  (({ n' with c:={ n'.c with commit:=c } }:Nd).apply.d=n'.d/\({ n' with c:={ n'.c with commit:=c } }:Nd).apply.c.me=n'.c.me/\({ n' with c:={ n'.c with commit:=c } }:Nd).apply.c.many=n'.c.many/\({ n' with c:={ n'.c with commit:=c } }:Nd).apply.c.st=n'.c.st/\({ n' with c:={ n'.c with commit:=c } }:Nd).apply.c.bin=n'.c.bin/\({ n' with c:={ n'.c with commit:=c } }:Nd).apply.c.role=n'.c.role):=by
 have e:=h.inv.up g;have a:=h.inv.ok;have u:NInv ({ n' with c:={ n'.c with commit:=c } }:Nd) L':=⟨⟨a.d,a.many,a.me,a.log,a.term,⟨a.com.1,ajT a.com.2.1 i,s⟩,a.len,a.rp⟩,h.inv.d,h.inv.le,fun _=>⟨e.st,e.bin,e.role,e.vote,e.nx,e.pl⟩⟩;obtain ⟨v,j,w,H,I,J,K⟩:=zL (k:=(c - n'.c.applied).toNat) u g;have y:({ n' with c:={ n'.c with commit:=c } }:Nd).apply=({ n' with c:={ n'.c with commit:=c } }:Nd).bw (c - n'.c.applied).toNat:=rfl;rw [y];generalize ({ n' with c:={ n'.c with commit:=c } }:Nd).bw (c - n'.c.applied).toNat=q at *;have f:q.c.me=n'.c.me/\q.c.many=n'.c.many/\q.c.st=n'.c.st/\q.c.bin=n'.c.bin/\q.c.role=n'.c.role/\q.c.commit=c:=by rw [w]; exact ⟨rfl,rfl,rfl,rfl,rfl,rfl⟩
 obtain ⟨f,m,o,p,z,A⟩:=f;refine ⟨⟨v,h.pre,by rw [f,m]; exact h.me,by rw [j]; exact h.len,fun _ B=>(by cases B),fun C N=>?_⟩,j,f,m,o,p,z⟩;obtain ⟨D,F,G⟩:=h.mono C g;rw [o,p,A];exact ⟨ajT D i,F,G⟩
def BY (h:NInv n L) (G:n.d.down=false) (N:cq n.c x=true) (O:x.kind=3):∃ L',StepR n L (aM n x).n (aM n x).l L':=by
 obtain ⟨o,T⟩:=oI N;obtain ⟨H,h4⟩:=T O;have hb:=eu o.may;have U:=lM o.may;have hi:=h.up G;have I:x.frm≠n.c.me/\0<=x.frm/\x.frm<n.c.many:=⟨by have:=o.to; omega,aL,o.frm⟩;have f:(ay n.c.st x).1.length<=6:=by
  rcases (cZ H).2 with ⟨_,e⟩ | ⟨_,_,e⟩ | ⟨_,_,e⟩ <;> rw [e]
  ·simp
  ·exact pA o.may
  have:=eO (s:=n.c.st) (t:=x.term); dsimp only; omega
 have u:∀ r ∈ (ay n.c.st x).1,r.kind=3->1<=r.b:=by
  rcases (cZ H).2 with ⟨_,e⟩ | ⟨_,_,e⟩ | ⟨_,_,e⟩ <;> rw [e]
  ·intro r V; cases V
  ·exact Fo o.may
  exact iI
 unfold aM;rw [if_neg aL];split
 ·rename_i v;exact lD h G f u v
 rename_i v;have v:=adJ.1 v;have y:=gL h G f u v;generalize P:(ay n.c.st x).1=l at *;have J:((n.save l).c.st.floor=n.c.st.floor)/\(n.save l).c.st.term=max n.c.st.term x.term/\(n.save l).c.st.vote=(if n.c.st.term<x.term then 0 else n.c.st.vote)/\(n.save l).c.st.log.take n.c.commit.toNat=n.c.st.log.take n.c.commit.toNat/\n.c.commit<=((n.save l).c.st.log.length:Int)/\((ay n.c.st x).2.1=true->n.c.st.term<=x.term/\(ay n.c.st x).2.2.1<=((n.save l).c.st.log.length:Int))/\((ay n.c.st x).2.1=false->(n.save l).c.st.log=n.c.st.log):=by
  have a:=y.st;rw [<- P] at a ⊢;rcases (cZ H).2 with ⟨p,e⟩ | ⟨e0,_,e⟩ | ⟨_,_,e⟩
  ·rw [e] at a ⊢;rw [a];exact ⟨rfl,by show n.c.st.term=_; omega,by rw [if_neg aL]; rfl,rfl,h.ok.com.2.2,fun q=>(by cases q),fun _=>rfl⟩
  ·have w:(ay n.c.st x).2.1=true:=by rw [e]
   obtain ⟨_,p,g,A,B,C,_⟩:=sY h.ok N O w;rw [e] at a ⊢;dsimp only at a ⊢;rw [a,g];exact ⟨rfl,by dsimp only; omega,rfl,A,B,fun _=>⟨p,C⟩,fun q=>(by cases q)⟩
  have g:=(hU (s:=n.c.st) (t:=x.term) aL aL).1;rw [e] at a ⊢;dsimp only at a ⊢;rw [a,g];exact ⟨rfl,rfl,rfl,rfl,h.ok.com.2.2,fun q=>(by cases q),fun _=>rfl⟩
 obtain ⟨W,s2,s3,X,Y,Z,s7⟩:=J;dsimp only;have i:∀ {m:Nd} {z:Letter},m.d=(n.save l).d->m.c.me=n.c.me->m.c.many=n.c.many->m.c.st=(n.save l).c.st->m.c.bin=n.c.bin->z.kind=4->z.frm=n.c.me->z.to=x.frm->z.term=(n.save l).c.st.term->z.bin=n.c.bin->LetI m z:=fun {m z} p g A B C D K k k4 k5=>
  ⟨by rw [p]; exact y.dn,by rw [g,K],by rw [g,A,k]; exact I,by rw [B,k4],by rw [C,k5],fun e=>absurd (D.symm.trans e) am,fun e=>absurd (D.symm.trans e) am,fun e=>absurd (D.symm.trans e) am⟩
 by_cases Q:x.term=(n.save l).c.st.term
 ·rw [if_pos Q];have S:StepR n L (n.save l).follow [] (L++l):=(lN h.follow G ⟨y.d,y.dn,y.st,y.sts,y.le,y.len,y.ok,y.lt,fun e=>congrArg Nd.follow (y.no e)⟩ (fun j=>absurd rfl j) W X Y (fun j=>absurd (show (0:Int)=2 from j) am)).lT;by_cases w:(ay n.c.st x).2.1=true
  ·rw [if_pos w];have h6:=(Z w).2;obtain ⟨D,K⟩:=S.commit y.dn (c:=max n.c.commit (min x.c (ay n.c.st x).2.2.1)) (by show n.c.commit<=_; omega) (by show _<=((n.save l).c.st.log.length:Int); omega);obtain ⟨p,g,A,B,C,e6⟩:=K;refine ⟨L++l,D.tell fun z F=>?_⟩;rw [ab7.1 F];exact i p g A B C rfl rfl rfl rfl rfl
  rw [if_neg w];refine ⟨L++l,S.tell fun z F=>?_⟩;rw [ab7.1 F];exact i rfl rfl rfl rfl rfl rfl rfl rfl rfl rfl
 rw [if_neg Q];have h0:x.term<n.c.st.term:=by omega
 have e:ay n.c.st x=([],false,0,0):=by
  rcases (cZ H).2 with ⟨_,e⟩ | ⟨_,_,_⟩ | ⟨_,_,_⟩
  ·exact e
  ·omega
  omega
 have el:l=[]:=by rw [<- P,e]
 rw [e];dsimp only;rw [if_neg am];have r:StepR n L (n.save l) [] L:=by rw [y.no el]; exact StepR.refl h
 refine ⟨L,r.tell fun z F=>?_⟩;rw [ab7.1 F];exact i rfl rfl rfl rfl rfl rfl rfl rfl rfl rfl
theorem BZ:∀ {n:Nat} {s:Stable} {b:List UInt8},s.log.length<=64->0<=s.term/\s.term<=1048576->((playB n s b).1.log.length<=64/\0<=(playB n s b).1.term/\(playB n s b).1.term<=1048576)/\0<=(playB n s b).2/\(playB n s b).2<=(b.length:Int)
 | 0,_,_,h,k=>⟨⟨h,k⟩,afI _,Int.natCast_nonneg _⟩
 | n+1,s,b,h,k=>by
  unfold playB;split
  ·grind
  rename_i a;split
  ·grind
  split
  ·grind
  rename_i c;have i:=ic (adJ.1 a);obtain ⟨d,e⟩:=lP (adJ.1 c);obtain ⟨f,g⟩:=qm d e h k;obtain ⟨j,m,o⟩:=BZ (n:=n) (b:=b.drop (bj b).2.1.toNat) f g;grind
def mN (b:List UInt8):((replayF b).1.log.length<=64/\0<=(replayF b).1.term/\(replayF b).1.term<=1048576)/\0<=(replayF b).2/\(replayF b).2<=(b.length:Int):=
 BZ aa ⟨am,am⟩
def Wz {d:Dsk} (h:d.OK):d.up.OK:=h
def Zx {d:Dsk} (h:d.OK) (a:d.down=false) (c:0<=k) (g:k<=(d.b.length:Int)):(d.cut k).OK/\d.kV k=0/\d.cut k=⟨d.b.take k.toNat,k,false,d.doomed,d.keep⟩:=by
 have f:¬ (d.down=true\/k<0\/(d.b.length:Int)<k):=by rw [a]; rintro (h | h | h) <;> first | cases h | omega
 have e:d.cut k=⟨d.b.take k.toNat,k,false,d.doomed,d.keep⟩:=by rw [Dsk.cut,if_neg f,a]
 refine ⟨?_,?_,e⟩
 ·rw [e];refine ⟨c,?_,?_⟩ <;> dsimp only <;> rw [List.length_take]
  ·omega
  have:=h.2.2; omega
 rw [Dsk.kV,if_neg (by rw [a]; decide),if_neg aL]
theorem tf {d:Dsk} (h:d.OK):(d.cF k).OK:=by
 obtain ⟨a,c,e⟩:=h;refine ⟨?_,?_,?_⟩ <;> simp only [Dsk.cF,Dsk.at_]
 ·omega
 ·grind
 rw [List.length_take]; omega
def Ro {d:Dsk} (h:d.OK):d.sync.OK:=by
 unfold Dsk.sync;split
 ·exact h
 split
 ·exact tf h
 exact ⟨Int.natCast_nonneg _,afI _,h.2.2⟩
def adz {d:Dsk} {x:List UInt8} (h:d.OK):(d.app x).OK:=by
 obtain ⟨a,c,e⟩:=h;unfold Dsk.app;split
 ·exact ⟨a,c,e⟩
 refine ⟨a,?_,?_⟩ <;> dsimp only <;> rw [List.length_append] <;> omega
def ra {d:Dsk} {s:Stable} (h:d.OK):(saveF d s l).1.OK:=by
 unfold saveF;repeat' split
 all_goals first | exact h | exact Ro (adz h)
abbrev Nd.fr (n:Nd) (b:Int):Nd:=⟨⟨n.c.me,n.c.many,b,(replayF n.d.b).1,0,0,0,State.mk 1 1 0 0 [] [] []⟩,(if n.d.down=true then n.d.up else n.d).cut (replayF n.d.b).2,[],[],[],[],[]⟩
section
variable {n:Nd} {b:Int}
def aef (h:n.d.down=false):aX n b=⟨n,[],31⟩:=if_pos h
variable (h:n.d.down=true)
include h
def Km:n.fresh b=n.fr b:=by
 rw [Nd.fresh,Nd.fr,if_pos h]
def afp (a:¬ b_ b (max (replayF n.d.b).1.floor 1)=0):aX n b=⟨n,[],b_ b (max (replayF n.d.b).1.floor 1)⟩:=by rw [aX,if_neg (by rw [h]; decide),if_pos a]
def xM (a:n.d.OK):((if n.d.down=true then n.d.up else n.d).cut (replayF n.d.b).2).OK/\(if n.d.down=true then n.d.up else n.d).kV (replayF n.d.b).2=0/\(if n.d.down=true then n.d.up else n.d).cut (replayF n.d.b).2=⟨n.d.b.take (replayF n.d.b).2.toNat,(replayF n.d.b).2,false,false,0⟩:=by
 rw [if_pos h];have:=mN n.d.b;exact Zx (d:=n.d.up) (Wz a) rfl this.2.1 this.2.2
variable (h1:b_ b (max (replayF n.d.b).1.floor 1)=0)
include h1
theorem abx (a:(replayF n.d.b).1.floor<b) (c:(n.fr b).aJ [⟨1,b,0,[]⟩]=0):aX n b=⟨(n.fr b).save [⟨1,b,0,[]⟩],[],0⟩:=by
 rw [aX,if_neg (by rw [h]; decide),if_neg aL,Km h];grind
theorem Zz (a:(replayF n.d.b).1.floor<b) (c:¬ (n.fr b).aJ [⟨1,b,0,[]⟩]=0):aX n b=⟨{ (n.fr b).save [⟨1,b,0,[]⟩] with d:=((n.fr b).save [⟨1,b,0,[]⟩]).d.cF 0 },[],(n.fr b).aJ [⟨1,b,0,[]⟩]⟩:=by
 rw [aX,if_neg (by rw [h]; decide),if_neg aL,Km h];grind
theorem ab2 (a:b<=(replayF n.d.b).1.floor):aX n b=⟨n.fr b,[],0⟩:=by
 rw [aX,if_neg (by rw [h]; decide),if_neg aL,Km h];grind
def ajx:(aX n b).n.rp=[]/\(aX n b).n.vs=[]/\(aX n b).n.bn=[]/\(aX n b).n.nx=[]/\(aX n b).n.mt=[]:=by
 by_cases a:(replayF n.d.b).1.floor<b
 ·by_cases c:(n.fr b).aJ [⟨1,b,0,[]⟩]=0
  ·rw [abx h h1 a c]; exact ⟨rfl,rfl,rfl,rfl,rfl⟩
  rw [Zz h h1 a c]; exact ⟨rfl,rfl,rfl,rfl,rfl⟩
 rw [ab2 h h1 aL]; exact ⟨rfl,rfl,rfl,rfl,rfl⟩
end
end Go.Proofs.YticbaadnibdbkaaGreat
namespace Go.Proofs.YticbaadnibdbkaaGreat
open Go.Shelf Go.Proofs
def uu:Go.Shelf.Ren:=⟨fun | 125=>283 | 128=>326 | 129=>327 | n=>n,fun | 46=>192 | 3=>3 | 51=>193 | 53=>173 | 4=>4 | 5=>5 | 9=>9 | n=>n,fun | n=>n⟩
def Iw:Lays.n125 Tryz.prog uu:={
 mixed:=bK
 f125:=Tryz.func283.trans (congrArg some bK)
 f128:=Tryz.func326.trans (congrArg some bK)
 f129:=Tryz.func327.trans (congrArg some bK)
 t3:=Tryz.underlying3
 a3:=Tryz.isAgg3
 z3:=Tryz.sizeOf3
 v3:=Tryz.zeroValue3
 t4:=Tryz.underlying4
 a4:=Tryz.isAgg4
 z4:=Tryz.sizeOf4
 v4:=Tryz.zeroValue4
 t5:=Tryz.underlying5
 a5:=Tryz.isAgg5
 z5:=Tryz.sizeOf5
 v5:=Tryz.zeroValue5
 t9:=Tryz.underlying9
 a9:=Tryz.isAgg9
 z9:=Tryz.sizeOf9
 v9:=Tryz.zeroValue9
 t46:=Tryz.underlying192
 a46:=Tryz.isAgg192
 z46:=Tryz.sizeOf192
 v46:=Tryz.zeroValue192
 t51:=Tryz.underlying193
 a51:=Tryz.isAgg193
 z51:=Tryz.sizeOf193
 v51:=Tryz.zeroValue193
 t53:=Tryz.underlying173
 a53:=Tryz.isAgg173
 z53:=Tryz.sizeOf173
 v53:=Tryz.zeroValue173 }
def im:Go.Shelf.Ren:=⟨fun | 6=>265 | 15=>283 | 14=>282 | 28=>326 | 29=>327 | 20=>318 | 21=>319 | 22=>320 | 23=>321 | 24=>322 | 25=>323 | 26=>324 | 27=>325 | 46=>350 | 47=>351 | 48=>352 | 49=>353 | 50=>354 | 57=>364 | n=>n,fun | 22=>33 | 24=>3 | 25=>217 | 3=>3 | 39=>192 | 0=>0 | 53=>193 | 55=>173 | 4=>4 | 46=>318 | 45=>317 | 50=>322 | 5=>5 | 9=>9 | 66=>340 | 70=>344 | 76=>353 | 77=>112 | n=>n,fun | n=>n⟩
def tO:Go.Proofs.SlLaysF.n6 Tryz.prog im:={
 mixed:=bK
 f6:=⟨Tryz.f265.name,am,Tryz.func265.trans (congrArg some bK)⟩
 f14:=⟨Tryz.f282.name,am,Tryz.func282.trans (congrArg some bK)⟩
 f15:=Tryz.func283.trans (congrArg some bK)
 f20:=⟨Tryz.f318.name,am,Tryz.func318.trans (congrArg some bK)⟩
 f21:=⟨Tryz.f319.name,am,Tryz.func319.trans (congrArg some bK)⟩
 f22:=⟨Tryz.f320.name,am,Tryz.func320.trans (congrArg some bK)⟩
 f23:=⟨Tryz.f321.name,am,Tryz.func321.trans (congrArg some bK)⟩
 f24:=⟨Tryz.f322.name,am,Tryz.func322.trans (congrArg some bK)⟩
 f25:=⟨Tryz.f323.name,am,Tryz.func323.trans (congrArg some bK)⟩
 f26:=⟨Tryz.f324.name,am,Tryz.func324.trans (congrArg some bK)⟩
 f27:=⟨Tryz.f325.name,am,Tryz.func325.trans (congrArg some bK)⟩
 f28:=Tryz.func326.trans (congrArg some bK)
 f29:=Tryz.func327.trans (congrArg some bK)
 f46:=⟨Tryz.f350.name,am,Tryz.func350.trans (congrArg some bK)⟩
 f47:=Tryz.func351.trans (congrArg some bK)
 f48:=Tryz.func352.trans (congrArg some bK)
 f49:=⟨Tryz.f353.name,am,Tryz.func353.trans (congrArg some bK)⟩
 f50:=⟨Tryz.f354.name,am,Tryz.func354.trans (congrArg some bK)⟩
 f57:=⟨Tryz.f364.name,am,Tryz.func364.trans (congrArg some bK)⟩
 t0:=Tryz.underlying0
 a0:=Tryz.isAgg0
 z0:=Tryz.sizeOf0
 v0:=Tryz.zeroValue0
 t3:=Tryz.underlying3
 a3:=Tryz.isAgg3
 z3:=Tryz.sizeOf3
 v3:=Tryz.zeroValue3
 t4:=Tryz.underlying4
 a4:=Tryz.isAgg4
 z4:=Tryz.sizeOf4
 v4:=Tryz.zeroValue4
 t5:=Tryz.underlying5
 a5:=Tryz.isAgg5
 z5:=Tryz.sizeOf5
 v5:=Tryz.zeroValue5
 t9:=Tryz.underlying9
 a9:=Tryz.isAgg9
 z9:=Tryz.sizeOf9
 v9:=Tryz.zeroValue9
 t22:=Tryz.underlying33
 a22:=Tryz.isAgg33
 z22:=Tryz.sizeOf33
 v22:=Tryz.zeroValue33
 a24:=Tryz.isAgg3
 z24:=Tryz.sizeOf3
 t25:=Tryz.underlying217
 a25:=Tryz.isAgg217
 z25:=Tryz.sizeOf217
 v25:=Tryz.zeroValue217
 t39:=Tryz.underlying192
 a39:=Tryz.isAgg192
 z39:=Tryz.sizeOf192
 v39:=Tryz.zeroValue192
 t45:=Tryz.underlying317
 a45:=Tryz.isAgg317
 z45:=Tryz.sizeOf317
 v45:=Tryz.zeroValue317
 t46:=Tryz.underlying318
 a46:=Tryz.isAgg318
 z46:=Tryz.sizeOf318
 v46:=Tryz.zeroValue318
 t50:=Tryz.underlying322
 a50:=Tryz.isAgg322
 z50:=Tryz.sizeOf322
 v50:=Tryz.zeroValue322
 t53:=Tryz.underlying193
 a53:=Tryz.isAgg193
 z53:=Tryz.sizeOf193
 v53:=Tryz.zeroValue193
 t55:=Tryz.underlying173
 a55:=Tryz.isAgg173
 z55:=Tryz.sizeOf173
 v55:=Tryz.zeroValue173
 t66:=Tryz.underlying340
 a66:=Tryz.isAgg340
 z66:=Tryz.sizeOf340
 v66:=Tryz.zeroValue340
 t70:=Tryz.underlying344
 a70:=Tryz.isAgg344
 z70:=Tryz.sizeOf344
 v70:=Tryz.zeroValue344
 t76:=Tryz.underlying353
 a76:=Tryz.isAgg353
 z76:=Tryz.sizeOf353
 v76:=Tryz.zeroValue353
 t77:=Tryz.underlying112
 a77:=Tryz.isAgg112
 z77:=Tryz.sizeOf112
 v77:=Tryz.zeroValue112 }
end Go.Proofs.YticbaadnibdbkaaGreat
namespace Go.Proofs.YticbaadnibdbkaaGreat
open Go.RowKit Go.Proofs Go.Shelf Go.Sort
def my (a b:Int):Int:=if b<a then -1 else if a<b then 1 else 0
theorem nR (a b:Int):ltOf my a b=decide (b<a):=by
 unfold ltOf my;grind
def zm:SWO (ltOf my):=⟨fun x=>by rw [nR]; simp,fun x y z a b=>by rw [nR] at *; simp at *; omega,fun x y z a b=>by rw [nR] at *; simp at *; omega⟩
def ng (l:List Int):List Int:=l.mergeSort (fun a b=>decide (b<=a))
def oZ (l:List Int):(ng l).length=l.length:=(List.mergeSort_perm l _).length_eq
theorem zS {d a:Array Int} (h:PermIn 0 d.size d a) (b:SortedIn (ltOf my) 0 d.size a):a.toList=ng d.toList:=by
 rw [sorted_unique_holds zm (fun x y c b=>by rw [nR] at *; simp at *; omega) d a h b,ng];congr 1;funext x y;rw [nR];grind
def Kq (x y:Int) (W:World):Calls Tryz.prog 266 #[.int .i64 x,.int .i64 y] W fun e c=>e = .returned (.int .i64 (my x y))/\∃ q,c = W.drewN q:=by
 by_cases a:y<x
 ·have b:¬ x<y:=by omega
  go_wp2
  go_ret
  exact ⟨by simp [my,a],0,rfl⟩
 by_cases b:x<y
 ·go_wp2
  go_ret
  exact ⟨by simp [my,a,b],0,rfl⟩
 go_wp2
 go_ret
 refine ⟨?_,0,rfl⟩;rw [show my x y=0 from by unfold my; rw [if_neg aL,if_neg aL]]; rfl
theorem m_ {c:Cx}:∀ {l:List Int} {a:List Value},Pds c (l.flatMap (cellsOf .int)) a->a=l.map (Value.int .i64)/\∀ n ∈ l,I64 n
 | [],_,h=>by cases h; exact ⟨rfl,aa⟩
 | x :: l,_,h=>by
  have b:Pds c (.int x :: l.flatMap (cellsOf .int)) _:=h;cases b with | cons d f=>?_
  cases d with | int g=>?_
  obtain ⟨e,k⟩:=m_ f;grind
variable {sp:List Value}
theorem Nk {l a:List Int} (h:a.length=l.length):putCells (Value.int .i64) 0 a.toArray (List.toArray (l.map (Value.int .i64)++sp))=List.toArray (a.map (Value.int .i64)++sp):=by
 apply Array.ext_getElem?;unfold putCells;grind
theorem ML {w:World} {a:List Int} {g c:Nat} (s:a.length<=12) (o:w.heap[g]? = some (.cells (List.toArray (a.map (Value.int .i64)++sp)) 3 (0,0))) :
  Calls Tryz.prog 265 #[.slice (some ⟨g,0,none⟩) a.length c,.func (.func 266) #[] #[]] w fun e d=>e = .returned (.tuple #[])/\Kp [g] w d /\ d.heap[g]? = some (.cells (List.toArray ((ng a).map (Value.int .i64)++sp)) 3 (0,0)):=by
 have t:∀ args w,(callFunc 266 args).run Tryz.prog w = .ok (.enter 266 args) w:=enters_of Tryz.func266 bK rfl;have h:∀ (n:Nat) (W:World),n<=12->Calls Tryz.prog (im.f 15) #[.int .u64 n] W fun e d=>(∃ l:Int,e = .returned (.int .i64 l))/\d = W:=fun n W u=>
  (Any.bits_Len Iw n W aL aL).mono fun _ _ ⟨p,m⟩=>⟨⟨_,p⟩,m⟩
 have q:Holds (Value.int .i64) w g 0 a.toArray:=fun j C=>by
  rw [aft,Lib.frozen_of_heap o,Lib.cell_of_heap o];grind
 have v:=Any.slices_SortFunc_small_sorted tO (Value.int .i64) (fun _=>rfl) my zm 266 #[] g 0 c a.toArray w t (fun _ _ _ _ x y=>Kq x y _) q (by simpa using s) h;refine v.mono fun e d ⟨p,i,n,z,A,m⟩=>?_;have k:=zS z A;have r:i.toList.length=a.length:=by rw [k]; exact oZ _
 refine ⟨p,?_,?_⟩
 ·rw [m];refine ⟨rfl,rfl,rfl,?_,fun b _ u=>?_⟩
  ·simp_all
  show (w.heap.modify g (onCells (putCells (Value.int .i64) 0 i)))[b]? = _;grind
 rw [m];show (w.heap.modify g (onCells (putCells (Value.int .i64) 0 i)))[g]? = _;rw [Array.getElem?_modify,if_pos rfl,o];simp only [Option.map_some,onCells];have B:i = i.toList.toArray:=rfl;rw [B,Nk r,k]
end Go.Proofs.YticbaadnibdbkaaGreat
namespace Go.Proofs.YticbaadnibdbkaaGreat
open Go.RowKit
abbrev c16:Code:=XT Tryz.f171
abbrev c60:Code:=XT Tryz.f258
abbrev pR0:Code:=oT c16
abbrev pR1:Code:=oT (gb c16)
abbrev pR2:Code:=oT (gb (gb c16))
abbrev pR3:Code:=oT (oT (gb (gb (gb c16))))
abbrev pRf:Code:=cdB (gb (oT (gb (gb (gb c16)))))
abbrev TE:Code:=gb (gb (gb (gb c16)))
abbrev Po:Code:=agV pRf
abbrev PF:Code:=af4 pRf
abbrev iR0:Code:=oT c60
abbrev iB:Code:=cdB (cdB (gb c60))
abbrev iR1:Code:=oT iB
abbrev iCo:Code:=oT (gb iB)
abbrev iBl:Code:=cdB (oT (gb (gb iB)))
abbrev iR2:Code:=oT iBl
abbrev iR3:Code:=oT (gb iBl)
abbrev Hd:Code:=oT (gb (gb iBl))
abbrev YX:Code:=gb (gb (gb iBl))
abbrev iR5:Code:=gb (gb (gb iB))
def hK (s:State) (r:List Reply) (l:List Entry) (v:Int):AH:=[.box 46 ([.int ((s.version)),.int ((s.next)),.int ((s.keep)),.int ((s.quota)),.own 7,.own 8,.own 9]),.box 46 ([.int ((0)),.int ((0)),.int ((0)),.int ((0)),.em true,.em true,.em true]),.box 72 ([.em true]),.box 26 ([.int ((0))]),.box 72 ([.own 10]),.box 38 ([.fz (.nm .entry) ((l))]),.box 3 ([.int ((v))]),.row 137 (.nm .sess) ((s.sess)),.row 139 (.nm .opn) ((s.opens)),.row 172 (.nm .snap) ((s.snaps)),.row 78 (.nm .reply) ((r))]
def hE (s:State) (r:List Reply):AH:=[.row 137 (.nm .sess) ((s.sess)),.row 139 (.nm .opn) ((s.opens)),.row 172 (.nm .snap) ((s.snaps)),.row 78 (.nm .reply) ((r))]
def rE (s:State) (e:Int):List TV1:=[.agg [.int s.version,.int s.next,.int s.keep,.int s.quota,.own 0,.own 1,.own 2],.c (.own 3),.c (.int e)]
def frP:AFr:=[(3,one (.ptr 0 0)),(6,one (.ptr 1 0)),(7,one (.ptr 2 0)),(8,one (.ptr 3 0)),(9,one (.ptr 4 0)),(16,one (.fn 258 [] [(5,0),(6,0)]))]
def Ji (L:Nat):Option TV->Prop
 | some (.one (.c (.yl a)))=>a=L
 | _=>False
def WM (l:List Entry) (k:Nat):AFr:=[(1,one (.ptr 5 0)),(2,one (.ptr 6 0)),(9,one (.fz (.nm .entry) l)),(10,one (.int l.length)),(11,one (.int k))]
def Li (c:Command) (b:Bool) (e:Int):TV1:=.agg (cellsOf (.nm .command) ((c))++[.bool (.atom ((b))),.int ((e))])
def frY (l:List Entry) (k:Nat) (c:Command) (b:Bool) (e:Int):AFr:=(26,.one (Li c b e)) :: WM l k
def hT (c:Command) (b:Bool) (e:Int):AO:=.box 265 (cellsOf (.nm .command) ((c))++[.bool (.atom ((b))),.int ((e))])
def koN (a:Nat) (q:AFr × AH):Exit->AFr->AH->Prop
 | .normal,fr,K=>jz (DP tyT a fr K q)
 | _,_,_=>False
def koY (L:Nat) (q:AFr × AH):Exit->AFr->AH->Prop
 | .normal,fr,K=>Ji L (lookA fr 0)/\jz (DP tyT 11 fr K q)
 | _,_,_=>False
def ai_ (L:Nat) (s:State) (r:List Reply) (l:List Entry) (v:Int) (k:Nat) (fr:AFr) (K:AH):Prop:=
 ∃ x,l[k]? = some x/\Ji L (lookA fr 0)/\Ji L (lookA fr 22)/\jz (DP tyT 11 fr K (frY l k (bc x v).c (bc x v).some (bc x v).e,hK s r l v))
def ag4 (L:Nat) (s:State) (r:List Reply) (l:List Entry) (v:Int) (k:Nat):Exit->AFr->AH->Prop
 | .normal,fr,K=>wpOps tyT fJ (gM 0) (kn Hd) (ai_ L s r l v k) 6 ((kn Hd).take 5) fr K
 | _,_,_=>False
def ahS (L:Nat) (s:State) (r:List Reply) (l:List Entry) (v:Int) (k:Nat):Exit->AFr->AH->Prop
 | .exit j,fr,K=>j=0/\l.length<=k/\Ji L (lookA fr 0)/\jz (DP tyT 11 fr K (WM l k,hK s r l v))
 | .normal,fr,K=>jh tyT fJ (gM 0) 11 [] (.seq iR2 iR3) (ag4 L s r l v k) fr K
 | _,_,_=>False
def adt (L:Nat) (s:State) (r:List Reply) (l:List Entry) (v:Int) (k:Nat):Exit->AFr->AH->Prop
 | .normal,fr,K=>jh tyT fJ (gM 0) 11 [] iCo (ahS L s r l v k) fr K
 | _,_,_=>False
def koD (L:Nat) (s:State) (r:List Reply) (l:List Entry) (v:Int) (k:Nat) (fr:AFr) (K:AH):Prop:=jh tyT fJ (gM 0) 11 [] (.seq YX iR5) (koY L (WM l (k+1),hK s r l v)) fr K
def koH (s:State) (r:List Reply) (l:List Entry) (v:Int) (x:Entry):Exit->AFr->AH->Prop
 | .normal,_,K=>(bc x v).e=0/\jz (aeK tyT (hK s r l v) 11 (hK (ir v s x) (r++[mT v s x]) l v) K)
 | .ret,_,K=>¬ (bc x v).e=0/\endE tyT [] 0 Tryz.f171 (rE s (bc x v).e) (hE s r) frP K
 | _,_,_=>False
def koI (s:State) (r:List Reply):Exit->AFr->AH->Prop
 | .ret,fr,K=>endE tyT [] 0 Tryz.f171 (rE s 0) (hE s r) fr K
 | _,_,_=>False
def afW (s:State) (l:List Entry) (v:Int):lq (HY [.agg (cellsOf (.nm .state) s),.c (.fz (.nm .entry) l),.c (.int v)]) (jh tyT fJ (gM 0) 0 [] (.seq pR0 (.seq pR1 (.seq pR2 pR3))) (koN 0 (frP,hK s [] l v)) (sE 0 [.agg (cellsOf (.nm .state) s),.c (.fz (.nm .entry) l),.c (.int v)]) [])=((fun a=>eN s (l.length*32<=140737488355328->I64 v->I64 s.version->I64 s.next->I64 s.keep->I64 s.quota->s.version=s.version/\s.next=s.next/\s.keep=s.keep/\s.quota=s.quota/\a/\a/\a/\a/\a/\l=l/\v=v/\s.sess=s.sess/\s.opens=s.opens/\s.snaps=s.snaps /\ @Eq (List (den (Sh.nm NT.reply))) [] [])) ((0:Int)=0)):=bK
def agm (L:Nat) (s:State) (r:List Reply) (l:List Entry) (v:Int):jh tyT fJ (gM 0) 11 [] iR0 (koY L (WM l 0,hK s r l v)) [(0,one (.yl L)),(1,one (.ptr 5 0)),(2,one (.ptr 6 0))] (hK s r l v)=((fun a=>L=L/\l=l/\(↑l.length:Int)=(↑l.length:Int)/\(0:Int)=(↑(0:Nat):Int)/\s.version=s.version/\s.next=s.next/\s.keep=s.keep/\s.quota=s.quota/\a/\a/\a/\a/\a/\l=l/\v=v/\s.sess=s.sess/\s.opens=s.opens/\s.snaps=s.snaps/\r=r) ((0:Int)=(0:Int))):=bK
def agO (L:Nat) (s:State) (r:List Reply) (l:List Entry) (v:Int) (k:Nat):jh tyT fJ (gM 0) 11 [] iR1 (adt L s r l v k) ((0,one (.yl L)) :: WM l k) (hK s r l v)=((fun f=>(fun a=>(fun g=>((↑k:Int)<f->0<=(↑k:Int)/\(↑k:Int)<(↑l.length:Int)/\∀ (x:Entry),(fun d=>l[k]? = some x->I64 x.term->x.b.length*1<=140737488355328->bC d.c (I64 d.e->∃ x,l[k]? = some x/\L=L/\L=L/\bq d.c (bc x v).c (d.some=(bc x v).some/\d.e=(bc x v).e/\g))) (bc x v))/\(f<=(↑k:Int)->(0:Nat)=0/\l.length<=k/\L=L/\g)) (l=l/\f=f/\(↑k:Int)=(↑k:Int)/\s.version=s.version/\s.next=s.next/\s.keep=s.keep/\s.quota=s.quota/\a/\a/\a/\a/\a/\l=l/\v=v/\s.sess=s.sess/\s.opens=s.opens/\s.snaps=s.snaps/\r=r)) ((0:Int)=0)) (↑l.length:Int)):=bK
def ag6 (L:Nat) (s:State) (r:List Reply) (l:List Entry) (v:Int) (k:Nat) (c:Command) (b:Bool) (d:Int):wpOps tyT fJ (gM 0) (kn Hd) (koD L s r l v k) 2 ((kn Hd).drop 6) ((27,one (.bool (.lit true))) :: (0,one (.yl L)) :: frY l k c b d) (hK s r l v)=((fun a=>I64 ((↑k:Int)+1)/\L=L/\l=l/\(↑l.length:Int)=(↑l.length:Int)/\(↑k:Int)+1=(↑(k+1):Int)/\s.version=s.version/\s.next=s.next/\s.keep=s.keep/\s.quota=s.quota/\a/\a/\a/\a/\a/\l=l/\v=v/\s.sess=s.sess/\s.opens=s.opens/\s.snaps=s.snaps/\r=r) ((0:Int)=0)):=bK
def agq (s:State) (r:List Reply) (l:List Entry) (v:Int) (c:Command) (b:Bool) (d:Int):jh tyT fJ (gM 0) 11 [] Po (koN 11 ((10,one (.ptr 11 0)) :: frP,hK s r l v++[hT c b d])) ((17,.one (Li c b d)) :: frP) (hK s r l v)=((fun a=>s.version=s.version/\s.next=s.next/\s.keep=s.keep/\s.quota=s.quota/\a/\a/\a/\a/\a/\l=l/\v=v/\s.sess=s.sess/\s.opens=s.opens/\s.snaps=s.snaps/\r=r/\bq c c (b=b/\d=d)) ((0:Int)=0)):=bK
def ahD (s:State) (r:List Reply) (l:List Entry) (v:Int) (x:Entry):jh tyT fJ (gM 0) 12 [] PF (koH s r l v x) ((10,one (.ptr 11 0)) :: frP) (hK s r l v++[hT (bc x v).c (bc x v).some (bc x v).e])=((fun g=>(fun a=>(fun f=>(fun h=>(fun d=>(fun i=>(fun b=>(¬h->¬h/\s.version=s.version/\s.next=s.next/\s.keep=s.keep/\s.quota=s.quota/\g.e=g.e/\s.sess=s.sess/\s.opens=s.opens/\s.snaps=s.snaps/\r=r)/\(h->(g.some=true->I64 b.version->I64 b.next->I64 b.keep->I64 b.quota->I64 i.snd.code->I64 i.snd.n->(r.length+[i.snd].length)*16<=140737488355328/\h/\b.version=a.version/\b.next=a.next/\b.keep=a.keep/\b.quota=a.quota/\d/\d/\d/\d/\d/\l=l/\v=v/\b.sess=a.sess/\b.opens=a.opens/\b.snaps=a.snaps/\r++[i.snd]=r++[mT v s x])/\(g.some=false->(r.length+[Reply.mk f f].length)*16<=140737488355328/\h/\s.version=a.version/\s.next=a.next/\s.keep=a.keep/\s.quota=a.quota/\d/\d/\d/\d/\d/\l=l/\v=v/\s.sess=a.sess/\s.opens=a.opens/\s.snaps=a.snaps/\r++[Reply.mk f f]=r++[mT v s x]))) i.fst) (re s g.c)) (f=f)) (g.e=f)) (0:Int)) (ir v s x)) (bc x v)):=bK
def agY (s:State) (r:List Reply) (l:List Entry) (v:Int):jh tyT fJ (gM 0) 11 [] TE (koI s r) frP (hK s r l v)=(s.version=s.version/\s.next=s.next/\s.keep=s.keep/\s.quota=s.quota/\(0:Int)=0/\s.sess=s.sess/\s.opens=s.opens/\s.snaps=s.snaps/\r=r):=bK
def aed:bM:=fJ
def RB:aB Tryz.prog (al tyT) aed:=qF
variable {k0 n:Nat} {w w0:World} {Q:Exit->Act->World->Prop} {F:Fr} {G:Gl} {K:Exit->AFr->AH->Prop} {H:AH} {ρ0:List RE}
def Ek {c:Code} {fr:AFr} (a:G.shp=al tyT) (b:ρ0.length<=k0) (d:eK n c=true) (h:jh tyT fJ (gM 0) k0 [] c K fr H)
  (f:St G (gM 0) ρ0 w0 fr H F w) (hK:∀ e fr H F w,K e fr H->St G (gM 0) ρ0 w0 fr H F w->WX Q n e F w):WC Tryz.prog Q n c F w:=
 xK (by rw [a]; exact dB) (by rw [a]; exact qF) (nB dB qF jX G n (gM 0) ρ0 w0 a (fun i h=>by simp [gM,Nat.ble] at h)) b c Q K fr H F w d h f hK
def aeU {m:Nat} {l a:List Oper} {K:AFr->AH->Prop} {fr:AFr} (b:G.shp=al tyT) (c:ky n a=true) (h:wpOps tyT fJ (gM 0) l K m a fr H)
  (d:St G (gM 0) ρ0 w0 fr H F w) (hK:∀ fr H F w,K fr H->St G (gM 0) ρ0 w0 fr H F w->WX Q n .normal F w):WO Tryz.prog Q n l a F w:=
 lH (by rw [b]; exact dB) (by rw [b]; exact qF) hK m a fr H F w c h d
abbrev yV (L:Nat):Value:=.func (.yield L) #[] #[]
variable {t:Nat} {ρ:List RE}
theorem ma {c:Cx} {fr:AFr} {L:Nat} (b:FrR c ρ fr F) (h:Ji L (lookA fr t)):look F t=some (yV L):=by
 unfold Ji at h;split at h
 ·rename_i a d;subst h;obtain ⟨v,e,f⟩:=eM b d;rw [e,f]
 grind
theorem wS {a:Fr} {v:Value} (h:look F t=some v) (k:∀ i u,look a i=some u->look F i=some u):∀ i u,look ((t,v) :: a) i=some u->look F i=some u:=fun i u b=>by
 rw [aT] at b;grind
def FrR.Ct {c:Cx} {fr:AFr} {a:TV1} {v:Value} (h:db c ρ a v) (k:FrR c ρ fr F):FrR c ρ ((t,.one a) :: fr) ((t,v) :: F):=.cons ⟨rfl,h⟩ k
variable {b:Nat}
def Rep.j_ (h:Rep G ρ H w) (a:G.Z b):¬ live ρ b:=fun ⟨i,r,c,d⟩=>(h.bnd i r b c d).2.2 a
def fj {o:Obj} (h:w.heap[b]? = some o):b<w.heap.size:=(af2.1 h).1
structure PX where
 G:Gl
 D:Nat
 L:Nat
 fn:Nat
 tm:Array Value
 FP:Fr
 s:State
 l:List Entry
 v:Int
 hD:G.B0<=D
 hL:G.B0<=L
def PX.g (X:PX):Gl:=GZ X.G X.D X.L
def PX.rc (X:PX) (st:LoopState) (a:Option Code):Loop:={ state:=st,pending:=a,fn:=X.fn,tmps:=X.tm,params:=#[17],assign:=Po,body:=PF,defers:=X.D }
def PX.hk (X:PX) (k:Nat):AH:=hK (pS X.v X.s (X.l.take k)) (pR X.v X.s (X.l.take k)) X.l X.v
abbrev PX.Z (X:PX):Nat->Prop:=fun b=>b=X.D\/b=X.L
def PX.hB (X:PX):∀ b,X.Z b->X.g.B0<=b:=fun b a=>by
 rcases a with rfl | rfl
 ·exact X.hD
 exact X.hL
structure Mid (X:PX) (k:Nat) (ρ:List RE) (W:World):Prop where
 rep:Rep X.g ρ (X.hk k) W
 fr:FrR (cx X.g ρ W) ρ frP X.FP
 ok:okPl X.v (X.l.take k)
 loop:W.heap[X.L]? = some (.loop (X.rc .ready none))
 dfr:W.heap[X.D]? = some (.deferred (some []))
structure Stopd (X:PX) (ρ:List RE) (W:World):Prop where
 rep:∃ H,Rep X.g ρ H W/\endE tyT [] 0 Tryz.f171 (rE (plS X.v X.s X.l) (pE X.v X.l)) (hE (plS X.v X.s X.l) (plR X.v X.s X.l)) frP H
 fr:FrR (cx X.g ρ W) ρ frP X.FP
 loop:W.heap[X.L]? = some (.loop (X.rc .done (some .ret)))
 dfr:W.heap[X.D]? = some (.deferred (some []))
def CS:FM frP=true:=by decide
section
variable {X:PX} {k:Nat} {ρ ρ':List RE} {W W':World}
def Mid.step {e:Lv} (h:Mid X k ρ W) (a:Stp e ρ W ρ' W') (f:Rep X.g ρ' (X.hk k) W'):Mid X k ρ' W' /\ Adv X.Z ρ W ρ' W':=by
 have d:Adv X.Z ρ W ρ' W':=.wP a.ext a.bx;have c:=d.le (G:=X.g) (fun b i=>.inr i) h.rep.lo X.hB;exact ⟨⟨f,h.fr.eZ CS c a.bx,h.ok,(a.ext.old _ (fj h.loop) (h.rep.j_ (.inr (.inr rfl)))).2.trans h.loop,(a.ext.old _ (fj h.dfr) (h.rep.j_ (.inr (.inl rfl)))).2.trans h.dfr⟩,d⟩
section
variable {s:State} {r:List Reply} {l:List Entry} {v:Int} {x:Entry}
def ahc (h:(bc x v).some=true):ir v s x=(re s (bc x v).c).1:=by unfold ir; rw [if_pos h]
def ajB (h:(bc x v).some=false):ir v s x=s:=by unfold ir; rw [if_neg (by rw [h]; decide)]
def ag9 (h:(bc x v).some=true):mT v s x=(re s (bc x v).c).2:=by unfold mT; rw [if_pos h]
def aiS (h:(bc x v).some=false):mT v s x=⟨0,0⟩:=by unfold mT; rw [if_neg (by rw [h]; decide)]
theorem abB (a:(r.length+1)*16<=140737488355328):jh tyT fJ (gM 0) 12 [] PF (koH s r l v x) ((10,one (.ptr 11 0)) :: frP) (hK s r l v++[hT (bc x v).c (bc x v).some (bc x v).e]):=by
 rw [ahD];repeat' (first | with_reducible apply bh | with_reducible refine bg ?_ | intro)
 all_goals first | with_reducible rfl | with_reducible assumption | contradiction | (simp only [List.length_cons]; omega) | (rw [ahc ab]; done) | (rw [ajB ab]; done) | (rw [ag9 ab]; done) | (rw [aiS ab]; done)
theorem abz {c:Command} {b:Bool} {er:Int}:jh tyT fJ (gM 0) 11 [] Po (koN 11 ((10,one (.ptr 11 0)) :: frP,hK s r l v++[hT c b er])) ((17,.one (Li c b er)) :: frP) (hK s r l v):=by
 rw [agq];grind
end
variable {u:Value}
def IB (hG:X.G.shp=al tyT) (hsz:X.l.length*32<=140737488355328) (hM:M 40 X.FP { tmps:=X.tm,defers:=[] }) (S:X.D≠X.L) (h:Mid X k ρ W) {x:Entry} (Y:X.l[k]? = some x) 
  (hu:db (cx X.g ρ W) ρ (Li (bc x X.v).c (bc x X.v).some (bc x X.v).e) u) (ro:Option Nat) (m:Nat) :
  RoundIn (gP ro) m Tryz.prog X.L X.fn (X.tm.setIfInBounds 17 u) Po PF W fun e w'=>∃ b,e = .returned b/\((b = .bool true/\∃ ρ',Mid X (k+1) ρ' w' /\ Adv X.Z ρ W ρ' w')\/(b = .bool false/\∃ ρ',Stopd X ρ' w' /\ Adv X.Z ρ W ρ' w')):=by
 refine Qa ?_;have A:X.g.shp=al tyT:=hG;have hM1:M 40 ((17,u) :: X.FP) { tmps:=X.tm.setIfInBounds 17 u,defers:=[] }:=hM.put (d:=17) (v:=u) am;have q:ρ.length=11:=h.rep.obj.length.symm;have hkl:k<X.l.length:=(abp.1 Y).1;refine Ek A (afZ q) (c:=Po) (n:=40) bK (abz (s:=pS X.v X.s (X.l.take k)) (r:=pR X.v X.s (X.l.take k)) (l:=X.l) (v:=X.v) (c:=(bc x X.v).c) (b:=(bc x X.v).some) (er:=(bc x X.v).e)) (⟨ρ,Stp.refl _ _ _,h.rep,FrR.Ct hu h.fr⟩) (fun e fr H F N hK hs=>?_) _ hM1;cases e with
 | normal=>
  obtain ⟨F1,⟨f,B,t,hf1⟩,hlk⟩:=gC (P:=Tryz.prog) (by rw [A]; exact dB) (afZ q) hs hK;intro a ha;have w:N.heap[X.L]? = some (.loop (X.rc .ready none)):=(B.ext.old _ (fj h.loop) (h.rep.j_ (.inr (.inr rfl)))).2.trans h.loop;have hd1:N.heap[X.D]? = some (.deferred (some [])):=(B.ext.old _ (fj h.dfr) (h.rep.j_ (.inr (.inl rfl)))).2.trans h.dfr;refine ⟨_,run_beginRound (P:=Tryz.prog) w rfl,?_,ha.1⟩;have z:Adv X.Z ρ W f (N.putObj X.L (.loop { X.rc .ready none with state:=.busy })):=(Adv.wP B.ext B.bx).trans (.put _ (.inr rfl));have j:Rep X.g f (X.hk k++[hT (bc x X.v).c (bc x X.v).some (bc x X.v).e]) (N.putObj X.L (.loop { X.rc .ready none with state:=.busy })):=t.Jo _ (.inr (.inr rfl)) X.hL;have C:(N.putObj X.L (.loop { X.rc .ready none with state:=.busy })).heap[X.L]? = some (.loop { X.rc .ready none with state:=.busy }):=World.putObj_heap_same (fj w);have I:(N.putObj X.L (.loop { X.rc .ready none with state:=.busy })).heap[X.D]? = some (.deferred (some [])):=(afO S).trans hd1;have T:FrR (cx X.g f (N.putObj X.L (.loop { X.rc .ready none with state:=.busy }))) f ((10,one (.ptr 11 0)) :: frP) F1:=hf1.carry ((Adv.put (Z:=X.Z) _ (.inr rfl)).le (fun b O=>.inr O) t.lo X.hB) (kr.refl _);revert z j C I T;generalize N.putObj X.L (.loop { X.rc .ready none with state:=.busy })=w2;intro z j C I T;have U:f.length=12:=j.obj.length.symm;refine Ek A (afZ U) (c:=PF) (n:=40) bK (abB (s:=pS X.v X.s (X.l.take k)) (r:=pR X.v X.s (X.l.take k)) (l:=X.l) (v:=X.v) (x:=x) (by rw [DE,List.length_take]; omega)) (⟨f,Stp.refl _ _ _,j,T⟩) (fun e fr H F K hK hs=>?_) _ (ha.sub hlk);obtain ⟨Q,p,hr3,_⟩:=hs;have J:K.heap[X.L]? = _:=(p.ext.old _ (fj C) (j.j_ (.inr (.inr rfl)))).2.trans C;have hd3:K.heap[X.D]? = _:=(p.ext.old _ (fj I) (j.j_ (.inr (.inl rfl)))).2.trans I;cases e with
  | normal=>
   obtain ⟨he,o⟩:=hK;obtain ⟨ρ',hr',y,hb'⟩:=Kv (P:=Tryz.prog) (ρ0:=f) (w0:=w2) (by rw [A]; exact dB) hr3 p.ext p.bx (fun i g hi hg=>by
    have hn:=Xa (b:=false) j hg;have:i=0\/i=1\/i=2\/i=3\/i=4\/i=5\/i=6\/i=7\/i=8\/i=9\/i=10:=by omega
    rcases this with rfl | rfl | rfl | rfl | rfl | rfl | rfl | rfl | rfl | rfl | rfl <;> exact hn) o
   refine fun _ _=>⟨_,_,run_endRound (P:=Tryz.prog) none J,_,rfl,.inl ⟨rfl,ρ',?_⟩⟩;have V:Adv X.Z ρ W ρ' (K.putObj X.L (.loop (X.rc .ready none))):=by
    have A2:Adv X.Z ρ W ρ' K:=⟨y.os.trans z.os,y.tape.trans z.tape,y.output.trans z.output,Nat.le_trans z.size y.size,fun b O hl=>by
     obtain ⟨h1,h2⟩:=z.old b O hl;obtain ⟨h3,h4⟩:=y.old b (aca O z.size) h1;exact ⟨h3,fun hz=>h4.trans (h2 hz)⟩,fun i g hg=>hb' i g (by rw [<- q]; exact (abp.1 hg).1) (z.bx i g hg)⟩
    exact A2.trans (.put _ (.inr rfl))
   refine ⟨⟨?_,h.fr.eZ CS (V.le (fun b O=>.inr O) h.rep.lo X.hB) V.bx,Gi h.ok Y he,World.putObj_heap_same (fj J),(afO S).trans hd3⟩,V⟩;have:=hr'.Jo (l:=X.L) (.loop (X.rc .ready none)) (.inr (.inr rfl)) X.hL;rw [Xo Y,Wi Y] at this;exact this
  | ret=>
   obtain ⟨he,o⟩:=hK;refine fun _ _=>⟨_,_,run_endRound (P:=Tryz.prog) (some .ret) J,_,rfl,.inr ⟨rfl,Q,?_⟩⟩;have V:Adv X.Z ρ W Q (K.putObj X.L (.loop (X.rc .done (some .ret)))):=(z.trans (.wP p.ext p.bx)).trans (.put _ (.inr rfl));obtain ⟨p1,p2,p3⟩:=TR (s:=X.s) h.ok Y he;rw [p1,p2,p3] at o;exact ⟨⟨⟨_,hr3.Jo _ (.inr (.inr rfl)) X.hL,o⟩,h.fr.eZ CS (V.le (fun b O=>.inr O) h.rep.lo X.hB) V.bx,World.putObj_heap_same (fj J),(afO S).trans hd3⟩,V⟩
  | _=>exact hK.elim
 | _=>exact hK.elim
def YL:Tryz.f258.body=some (.seq iR0 (.block 0 (.loop (.seq iR1 (.seq iCo (.seq (.block 1 (.seq iR2 (.seq iR3 (.seq Hd YX)))) iR5)))))):=bK
def aaC:Hd = .region 4 (kn Hd).toArray false:=bK
def Vd:YX = .cond (.tmp 28) .ret .skip:=bK
def Ws (k:Nat):Oper:=(kn Hd).getD k ⟨none,.move (.tmp 0),0,"",#[],none⟩
def agb:Array TypeId:=match (Ws 5).op with
 | .call c=>c.argTypes
 | _=>#[]
def ty6:TypeId:=match (Ws 6).op with
 | .unOp _ t _=>t
 | _=>0
def ahC:kn Hd=(kn Hd).take 5++(⟨some 27,.call ⟨.value (.tmp 22),#[.tmp 26],agb⟩,(Ws 5).type,(Ws 5).pos,(Ws 5).after,none⟩ :: (kn Hd).drop 6):=bK
def aiH:(kn Hd).drop 6=[⟨some 28,.unOp .not ty6 (.tmp 27),(Ws 6).type,(Ws 6).pos,(Ws 6).after,none⟩]:=bK
variable {P:Program}
def CG {L:Nat} {c:Loop} {e:Array TypeId} {m:TypeId} (f:look F 22=some (yV L)) (h:look F 26=some u) (o:w.heap[L]? = some (.loop c)) (j:c.params = #[17]) (a:Act) (d:Option Tmp) (i:String) (p:Array Edge) (g:Option (Nat × Bool)) (l:M n F a) :
  (execOp a.eval ⟨d,.call ⟨.value (.tmp 22),#[.tmp 26],e⟩,m,i,p,g⟩).run P w = .ok (.round L c.fn (c.tmps.setIfInBounds 17 u) c.assign c.body) w:=by
 have q:a.eval (.tmp 22)=yV L:=l.ev (x:=.tmp 22) f;have r:a.eval (.tmp 26)=u:=l.ev (x:=.tmp 26) h;have s:=run_yield (P:=P) (args:=#[u]) o (by rw [j]; rfl);simp [execOp,resolve,q,r,Deferred.ofValue,invoke,s,j]
theorem Vh {a:Fr} {v:Value} (k:∀ i u,look a i=some u->look F i=some u):∀ i u,look ((t,v) :: a) i=some u->look ((t,v) :: F) i=some u:=fun i u c=>by
 rw [aT] at c ⊢;grind
section
variable {s:State} {r:List Reply} {l:List Entry} {v:Int} {L:Nat}
theorem aaH:jh tyT fJ (gM 0) 11 [] iR0 (koY L (WM l 0,hK s r l v)) [(0,one (.yl L)),(1,one (.ptr 5 0)),(2,one (.ptr 6 0))] (hK s r l v):=by
 rw [agm];grind
theorem aay:jh tyT fJ (gM 0) 11 [] iR1 (adt L s r l v k) ((0,one (.yl L)) :: WM l k) (hK s r l v):=by
 rw [agO];grind
def Zk {c:Command} {b:Bool} {a:Int} (d:k<4611686018427387904):wpOps tyT fJ (gM 0) (kn Hd) (koD L s r l v k) 2 ((kn Hd).drop 6) ((27,one (.bool (.lit true))) :: (0,one (.yl L)) :: frY l k c b a) (hK s r l v):=by
 rw [ag6];repeat' (first | with_reducible apply bh | with_reducible refine bg ?_ | intro)
 all_goals first | with_reducible rfl | omega | (refine bZ ?_ ?_ <;> omega) | rfl
end
def aaT (y:Code) (k0:Nat) (K:Exit->AFr->AH->Prop):Exit->AFr->AH->Prop
 | .normal,fr,H=>jh tyT fJ (gM 0) k0 [] y K fr H
 | e,fr,H=>K e fr H
def oE {x y:Code} {fr:AFr} (h:jh tyT fJ (gM 0) k0 [] (.seq x y) K fr H):jh tyT fJ (gM 0) k0 [] x (aaT y k0 K) fr H:=by
 have e:aaT y k0 K=fun e fr H=>(match e with | .normal=>jh tyT fJ (gM 0) k0 [] y K fr H | e=>K e fr H):=by funext e fr H; cases e <;> rfl
 rw [e]; exact h
def PX.Out (X:PX) (ρ:List RE) (W:World) (_:Value) (a:World):Prop:=∃ ρ',Adv X.Z ρ W ρ' a /\ ((∃ k,X.l.length<=k/\Mid X k ρ' a)\/Stopd X ρ' a)
def WO.of_eq {l r a:List Oper} (e:r=a) (h:WO P Q n l a F w):WO P Q n l r F w:=e ▸ h
def Ow (hG:X.G.shp=al tyT) (hsz:X.l.length*32<=140737488355328) (hM:M 40 X.FP { tmps:=X.tm,defers:=[] }) (hDL:X.D≠X.L) (h:Mid X 0 ρ W) {p8 p9:Value} (h8:ef ρ (5,0) p8) (h9:ef ρ (6,0) p9) :
  jN Tryz.prog 258 #[yV X.L,p8,p9] W (X.Out ρ W):=by
 have o:X.g.shp=al tyT:=hG;have S:ρ.length=11:=h.rep.obj.length.symm;refine jN.enter (args:=[yV X.L,p8,p9]) (n:=30) Tryz.func258 YL rfl rfl rfl ?_;refine WC.seq (Ek o (afZ S) bK aaH (⟨ρ,Stp.refl _ _ _,h.rep,FrR.Ct (a:=.c (.yl X.L)) rfl (FrR.Ct (a:=.c (.ptr 5 0)) h8 (FrR.Ct (a:=.c (.ptr 6 0)) h9 .nil))⟩) fun e fr H F w hK q=>?_);cases e with
 | normal=>
  obtain ⟨hy,T⟩:=hK;have y:look F 0=some (yV X.L):=by obtain ⟨_,_,_,U⟩:=q; exact ma U hy
  obtain ⟨F1,⟨ρ1,hs1,hr1,hf1⟩,hlk⟩:=gC (P:=Tryz.prog) (by rw [o]; exact dB) (afZ S) q T;refine WX.next (WC.block fun a z=>?_)
  refine tX (fun a w k=>∃ ρ' F',M 30 F' a/\Mid X k ρ' w/\FrR (cx X.g ρ' w) ρ' ((0,one (.yl X.L)) :: WM X.l k) F' /\ k<=X.l.length/\Adv X.Z ρ W ρ' w) (fun k=>X.l.length - k) 0 ⟨ρ1,(0,yV X.L) :: F1,z.sub (wS y hlk),(h.step hs1 hr1).1,FrR.Ct (a:=.c (.yl X.L)) rfl hf1,ahu _,(h.step hs1 hr1).2⟩ fun k a w hD=>?_;obtain ⟨ρ',F',hM',s,hfr,hk,A⟩:=hD;have p:ρ'.length=11:=s.rep.obj.length.symm;refine (WC.seq (Ek o (afZ p) bK (aay (L:=X.L) (k:=k)) (⟨ρ',Stp.refl _ _ _,s.rep,hfr⟩) fun e fr H F w2 hK q=>?_)) a hM';cases e with
  | normal=>
   refine WX.next (WC.seq (Ek o (afZ p) bK hK q fun e fr H F w2 hK q=>?_))
   cases e with
   | exit j=>
    obtain ⟨rfl,hle,hy,T⟩:=hK;obtain ⟨F2,⟨ρ2,V,I,Y⟩,B⟩:=gC (P:=Tryz.prog) (by rw [o]; exact dB) (afZ p) q T;obtain ⟨J,N⟩:=s.step V I;have K:X.Out ρ W (.tuple #[]) w2:=⟨ρ2,A.trans N,.inl ⟨k,hle,J⟩⟩;have hh:=WX.Yi (id:=0) (WX.YO (WX.acn (n:=30) (fr:=F) (P:=Tryz.prog) (fn:=Tryz.f258) (φ:=X.Out ρ W) rfl K));exact fun a z=>hh a z
   | normal=>
    refine WX.next (WC.seq (WC.block (WC.seq (Ek o (afZ p) bK (oE hK) q fun e fr H F w2 hK q=>?_))))
    cases e with
    | normal=>
     refine WX.next (WC.seq (Ek o (afZ p) bK hK q fun e fr H F w2 hK q=>?_))
     cases e with
     | normal=>
      refine WX.next (WC.seq ?_)
      rw [aaC];refine WC.region ?_;refine WO.of_eq ahC (WO.app (aeU o bK hK q fun fr H F w3 hK q=>?_));intro a z;obtain ⟨x,hx,hy,hy22,T⟩:=hK;have y:look F 0=some (yV X.L):=by obtain ⟨_,_,_,U⟩:=q; exact ma U hy
      have h22:look F 22=some (yV X.L):=by obtain ⟨_,_,_,U⟩:=q; exact ma U hy22
      obtain ⟨F2,⟨ρ2,V,I,Y⟩,B⟩:=gC (P:=Tryz.prog) (by rw [o]; exact dB) (afZ p) q T;obtain ⟨J,N⟩:=s.step V I;obtain ⟨u,hu26,hu⟩:=eM (i:=26) (tv:=.one (Li (bc x X.v).c (bc x X.v).some (bc x X.v).e)) Y rfl;have hkl:k<X.l.length:=(abp.1 hx).1;refine WO.yield (L:=X.L) (f:=X.fn) (tmps:=X.tm.setIfInBounds 17 u) (assign:=Po) (body:=PF) (fun a d pos af g z=>CG h22 (B _ _ hu26) J.loop rfl a d pos af g z) rfl (fun ro m=>IB hG hsz hM hDL J hx hu ro m) (fun b w4 hb=>?_) a z;rcases hb with ⟨rfl,O,Q,C⟩ | ⟨rfl,O,hst4,C⟩
      ·intro a z;have hf4:=FrR.Ct (t:=0) (a:=.c (.yl X.L)) (v:=yV X.L) rfl (Y.eZ rfl (C.le (fun b hb=>.inr hb) I.lo X.hB) C.bx);have r:O.length=11:=Q.rep.obj.length.symm;refine (aeU o bK (Zk (L:=X.L) (k:=k) aL) (⟨O,Stp.refl _ _ _,Q.rep,FrR.Ct (t:=27) (a:=.c (.bool (.lit true))) (Pd.bool (e:=.lit true)) hf4⟩) fun fr H F w5 hK q=>?_) a (z.sub (Vh (wS y B)));refine WX.next (Ek o (afZ r) bK (oE hK) q fun e fr H F w6 hK q=>?_)
       cases e with
       | normal=>
        refine WX.HZ (WX.next (Ek o (afZ r) bK hK q fun e fr H F w7 hK q=>?_));cases e with
        | normal=>
         obtain ⟨hy,T⟩:=hK;have y:look F 0=some (yV X.L):=by obtain ⟨_,_,_,U⟩:=q; exact ma U hy
         obtain ⟨F7,⟨ρ7,hs7,hr7,hf7⟩,hlk7⟩:=gC (P:=Tryz.prog) (by rw [o]; exact dB) (afZ r) q T;obtain ⟨hm7,ha7⟩:=Q.step hs7 hr7;exact fun a z=>⟨k+1,⟨ρ7,(0,yV X.L) :: F7,z.sub (wS y hlk7),hm7,FrR.Ct (a:=.c (.yl X.L)) rfl hf7,hkl,((A.trans N).trans C).trans ha7⟩,aL⟩
        | _=>exact hK.elim
       | _=>exact hK.elim
      have K:X.Out ρ W (.tuple #[]) w4:=⟨O,(A.trans N).trans C,.inr hst4⟩;refine WO.of_eq aiH (WO.v (R.not (b:=false) rfl) rfl (WO.nil (WX.next ?_)));rw [Vd];exact WC.Ff rfl (WC.ret (WX.acn (P:=Tryz.prog) (fn:=Tryz.f258) (φ:=X.Out ρ W) rfl K))
     | _=>exact hK.elim
    | _=>exact hK.elim
   | _=>exact hK.elim
  | _=>exact hK.elim
 | _=>exact hK.elim
end
def abV:Tryz.f171.body=some (.seq pR0 (.seq pR1 (.seq pR2 (.seq (.seq pR3 (.block 0 (.rangeFunc (.tmp 16) #[17] Po PF))) TE)))):=bK
def aa5 {args:List Value} (e:args.length<=n):M n (vI 0 args) { tmps:=args.toArray++Array.replicate (n - args.toArray.size) undef,defers:=[] }:=by
 refine ⟨rfl,?_,fun i v c=>?_⟩
 ·simp; omega
 rw [tM] at c;obtain ⟨_,a⟩:=tN args 0 i v c;rw [aj1] at a;have d:i<args.length:=(abp.1 a).1;have f:args[i]=v:=by rw [List.getElem?_eq_getElem d] at a; exact afv a
 simp [Array.getD,d,f];omega
def Ey (G:Gl) (w0:World) (s:State) (l:List Entry) (v:Int) (u:Value) (c:World):Prop:=
 ∃ d,u=Cc d/\∃ a,Rep G a (hE (plS v s l) (plR v s l)) c /\ Ext [] w0 a c /\ All2 (db (cx G a c) a) (rE (plS v s l) (pE v l)) d/\Kp [] w0 c
section
variable {X:PX} {ρ1 ρ':List RE} {w0 W1 w4:World} {H:AH} {a:Act}
def Ql {fr:AFr} (O:X.G.shp=al tyT) (hz:∀ x,X.G.Z x->x<w0.heap.size) (Q:w0.heap.size<=X.D) (T:X.D<X.L) (S:Rep X.g ρ' H w4) (U:FrR (cx X.g ρ' w4) ρ' fr F) (V:M 40 F a)
  (c:endE tyT [] 0 Tryz.f171 (rE (plS X.v X.s X.l) (pE X.v X.l)) (hE (plS X.v X.s X.l) (plR X.v X.s X.l)) fr H) (W:w4.heap[X.D]? = some (.deferred (some []))) (hE:Ext [] w0 ρ1 W1) (j:Adv X.Z ρ1 W1 ρ' w4) :
  ∃ y,(Instr.takeDeferred X.D).run Tryz.prog w4 = .ok [] y /\ ∃ u,(results Tryz.f171 a.tmps).run Tryz.prog y = .ok u y /\ Ey X.G w0 X.s X.l X.v u y:=by
 refine ⟨_,run_takeDeferred (P:=Tryz.prog) W,?_⟩;have z:=S.Jo (l:=X.D) (.deferred none) (.inr (.inl rfl)) X.hD;have k:(w4.putObj X.D (.deferred none)).heap.size=w4.heap.size:=by simp
 have m:w0.heap.size<=w4.heap.size:=Nat.le_trans hE.size j.size;obtain ⟨e,A⟩:=z.leave (fun x Y=>aca (hz x Y) (by rw [k]; exact m));have o:(cx X.g ρ' w4).le (cx X.G ρ' (w4.putObj X.D (.deferred none))):=((Adv.put (Z:=X.Z) (ρ:=ρ') (w:=w4) (.deferred none) (.inl rfl)).le (G:=X.g) (fun b f=>.inr f) S.lo X.hB).trans A;have B:=U.carry o (kr.refl _);have d:Ext [] w0 ρ' (w4.putObj X.D (.deferred none)):=⟨j.os.trans hE.os,j.tape.trans hE.tape,j.output.trans hE.output,by rw [k]; exact m,fun b f C=>by
  obtain ⟨I,J⟩:=hE.old b f C;obtain ⟨n,t⟩:=j.old b (aca f hE.size) I;have N:b≠X.D:=by omega
  exact ⟨n,(afO N).trans ((t (fun hz=>by rcases hz with hz | hz <;> omega)).trans J)⟩⟩
 unfold endE aar at c;split at c
 ·rename_i l C;obtain ⟨K,I,J⟩:=kX (by rw [O]; exact dB) e B V C;replace c:=eL.1 c;refine ⟨_,J,K,rfl,_,ot (P:=Tryz.prog) (by rw [O]; exact dB) e rfl (bF.1 fun p q=>c p (adn _ (adn _ q))) fun p q=>c p (ad2 _ q),nJ d,nt e rfl I fun p q=>c p (adn _ (ad2 _ q)),?_⟩;exact ⟨d.os,d.tape,d.output,d.size,fun b f _=>(d.old b f (fun ⟨i,r,h,_⟩=>by simp at h)).2⟩
 exact (show False from c).elim
end
variable {l:List Entry}
theorem aah {s:State} {r:List Reply} {v:Int}:jh tyT fJ (gM 0) 11 [] TE (koI s r) frP (hK s r l v):=by
 rw [agY];grind
def Wq.go {l:List Prop} {R:Prop} (k:∀ p ∈ l,p) (h:Wq (lq l R)):Wq R:=⟨eE.1 h.h k⟩
def Wq.seq {x y:Code} {k0:Nat} {K:Exit->AFr->AH->Prop} {fr:AFr} {H:AH} (h:Wq (jh tyT fJ (gM 0) k0 [] (.seq x y) K fr H)):Wq (jh tyT fJ (gM 0) k0 [] x (aaT y k0 K) fr H):=⟨oE h.h⟩
def agk {c:Code} {fr:AFr} (a:G.shp=al tyT) (d:ρ0.length<=k0) (f:eK n c=true) (h:Wq (jh tyT fJ (gM 0) k0 [] c K fr H))
  (g:St G (gM 0) ρ0 w0 fr H F w) (hK:∀ e fr H F w,K e fr H->St G (gM 0) ρ0 w0 fr H F w->WX Q n e F w):WC Tryz.prog Q n c F w:=Ek a d f h.h g hK
theorem YZ {s:State} {l:List Entry} {v:Int}:Wq (lq (HY [.agg (cellsOf (.nm .state) s),.c (.fz (.nm .entry) l),.c (.int v)]) (jh tyT fJ (gM 0) 0 [] (.seq pR0 (.seq pR1 (.seq pR2 pR3))) (koN 0 (frP,hK s [] l v)) (sE 0 [.agg (cellsOf (.nm .state) s),.c (.fz (.nm .entry) l),.c (.int v)]) [])):=by
 refine ⟨?_⟩;rw [afW];grind
def Yw {s:State} {v:Int} (h:∀ p ∈ HY [.agg (cellsOf (.nm .state) s),.c (.fz (.nm .entry) l),.c (.int v)],p):Wq (jh tyT fJ (gM 0) 0 [] (.seq pR0 (.seq pR1 (.seq pR2 pR3))) (koN 0 (frP,hK s [] l v)) (sE 0 [.agg (cellsOf (.nm .state) s),.c (.fz (.nm .entry) l),.c (.int v)]) []):=by
 have a:=@YZ s l v;revert a h;intro h a;exact Wq.go h a
def QD {vs:List Value} {s:State} {v:Int} (hG:G.shp=al tyT) (hR:Rep G ρ [] w) (V:All2 (db (cx G ρ w) ρ) [.agg (cellsOf (.nm .state) s),.c (.fz (.nm .entry) l),.c (.int v)] vs) :
  jN Tryz.prog 171 vs.toArray w (Ey G w s l v):=by
 have hok:=SS.oX V;have hsz:l.length*32<=140737488355328:=by
  have:l.length*Sh.bytes (.nm .entry)<=140737488355328:=hok _ (by simp [HY,TV1.ok,AV.ok]);exact this
 have hρ:ρ=[]:=ab_ hR.obj.length.symm;subst hρ;have hl3:vs.length=3:=V.length.symm;refine (callsIn_wide (n:=0)).1 (callsIn_of_wp_marks (F:=gP none) (n:=0) Tryz.func171 abV trivial ?_);have hM0:=aa5 (n:=40) (args:=vs) aL;have h0:([]:List RE).length<=0:=Nat.le_refl 0;refine wpIn_seq (kx.in0 rfl ((agk (n:=40) hG h0 bK (Wq.seq (Yw hok)) (⟨[],Stp.refl _ _ _,hR,nY V⟩) fun e fr H F d hK J=>?_) _ hM0));cases e with
 | normal=>
  intro a q;refine wpIn_seq (kx.in0 q.1 ((Ek (n:=40) hG h0 bK (oE hK) J fun e fr H F d hK J=>?_) _ q));cases e with
  | normal=>
   intro a q;refine wpIn_seq (kx.in0 q.1 ((Ek (n:=40) hG h0 bK (oE hK) J fun e fr H F d hK J=>?_) _ q));cases e with
   | normal=>
    intro a q;refine wpIn_seq (wpIn_seq (kx.in0 q.1 ((Ek (n:=40) hG h0 bK hK J fun e fr H F d hK J=>?_) _ q)));cases e with
    | normal=>
     obtain ⟨F1,⟨o,hs1,W,hf1⟩,hlk⟩:=gC (P:=Tryz.prog) (by rw [hG]; exact dB) h0 J hK;intro a ha0;have q:=ha0.sub hlk;refine wpIn_block (wpIn_rangeFunc fun fn hfn=>?_);have hae:a={ tmps:=a.tmps,defers:=[] }:=by rw [<- q.1]
     obtain ⟨vg,hg1,hg2⟩:=eM (i:=16) (tv:=one (.fn 258 [] [(5,0),(6,0)])) hf1 rfl;obtain ⟨bs,us,Y,t,rfl⟩:=hg2;cases Y;cases t with | cons h8 t=>
     cases t with | cons h9 t=>
     cases t;rename_i p8 p9;have hg:a.eval (.tmp 16) = .func (.func 258) #[] #[p8,p9]:=q.ev (x:=.tmp 16) hg1;obtain ⟨X,B⟩:∃ X:PX,X=⟨G,d.heap.size,d.heap.size+1,fn,a.tmps,F1,s,l,v,W.b0,Nat.le_succ_of_le W.b0⟩:=⟨_,rfl⟩;have p:X.D=d.heap.size:=by rw [B]
     have y:X.L=d.heap.size+1:=by rw [B]
     obtain ⟨hre,hle,hk⟩:=W.enter (.deferred (some [])) (.loop (X.rc .ready none));have hsz2:((d.alloc (.deferred (some []))).alloc (.loop (X.rc .ready none))).heap.size=d.heap.size+1+1:=by simp
     have hmid:Mid X 0 o ((d.alloc (.deferred (some []))).alloc (.loop (X.rc .ready none))):=by
      refine ⟨?_,?_,fun x hx=>by simp at hx,?_,?_⟩
      ·have:Rep (GZ G d.heap.size (d.heap.size+1)) o (Go.Proofs.YticbaadnibdbkaaGreat.hK s [] l v) ((d.alloc (.deferred (some []))).alloc (.loop (X.rc .ready none))):=hre;rw [B] at this ⊢; exact this
      ·have:=hf1.carry hle (kr.refl _);rw [B] at this ⊢; exact this
      ·rw [y];have:=World.alloc_heap_new (d.alloc (.deferred (some []))) (.loop (X.rc .ready none));rwa [World.size_alloc] at this
      rw [p];exact (Below.heap_alloc _ _ _ aa).trans (World.alloc_heap_new d _)
     have K:X.G.shp=al tyT:=by rw [B]; exact hG
     have hGgX:X.g.shp=al tyT:=K;have hlX:X.l=l:=by rw [B]
     have hMX:M 40 X.FP { tmps:=X.tm,defers:=[] }:=by rw [B]; rw [hae] at q; exact q
     have hMa:M 40 X.FP a:=by rw [B]; exact q
     have h8':ef o (5,0) p8:=h8;have h9':ef o (6,0) p9:=h9;have hit:=Ow K (by rw [hlX]; exact hsz) hMX (by rw [p,y]; omega) hmid h8' h9';have hE1:Ext [] w o ((d.alloc (.deferred (some []))).alloc (.loop (X.rc .ready none))):=hs1.ext.trans (Ext.kp hk);have T:∀ {N:List RE} {U:World} {H:AH} {b:Act} {fr:AFr} {F:Fr},Rep X.g N H U->FrR (cx X.g N U) N fr F->M 40 F b->endE tyT [] 0 Tryz.f171 (rE (plS X.v X.s X.l) (pE X.v X.l)) (hE (plS X.v X.s X.l) (plR X.v X.s X.l)) fr H->U.heap[X.D]? = some (.deferred (some [])) ->
       Adv X.Z o ((d.alloc (.deferred (some []))).alloc (.loop (X.rc .ready none))) N U->bodyPostM (gP none) 0 Tryz.prog Tryz.f171 (fun e w'=>∃ u,e = .returned u/\Ey G w s l v u w') .ret (iY b [{ target:=.collected X.D,args:=#[] }]) U:=fun hR4 hf4 hMb j hd4 hA4=>by
      obtain ⟨w',ht,u,t,ho⟩:=Ql (w0:=w) K (by rw [B]; exact hR.z) (by rw [p]; exact hs1.ext.size) (by rw [p,y]; omega) hR4 hf4 hMb j hd4 hE1 hA4;rw [B] at ho;exact ⟨aa,.inl ⟨_,w',rfl,ht,u,t,u,rfl,ho⟩⟩
     refine ⟨d.heap.size+1,[{ target:=.collected d.heap.size,args:=#[] }],(d.alloc (.deferred (some []))).alloc (.loop { state:=.ready,pending:=none,fn:=fn,tmps:=a.tmps,params:=#[17],assign:=Po,body:=PF,defers:=d.heap.size }),{ target:=.fn (.func 258) #[p8,p9],args:=#[yV (d.heap.size+1)] },(d.alloc (.deferred (some []))).alloc (.loop { state:=.ready,pending:=none,fn:=fn,tmps:=a.tmps,params:=#[17],assign:=Po,body:=PF,defers:=d.heap.size }),258,#[yV (d.heap.size+1)] ++ #[p8,p9],(d.alloc (.deferred (some []))).alloc (.loop { state:=.ready,pending:=none,fn:=fn,tmps:=a.tmps,params:=#[17],assign:=Po,body:=PF,defers:=d.heap.size }),run_enterLoop_outer _ _ _ _ _,?_,fun _ _=>trivial,?_,fun h=>(by cases h),?_⟩
     ·simp only [resolve,hg];simp [go_sem]
     ·simp [invoke,go_sem]
     have hrc:({ state:=.ready,pending:=none,fn:=fn,tmps:=a.tmps,params:=#[17],assign:=Po,body:=PF,defers:=d.heap.size }:Loop)=X.rc .ready none:=by rw [B]; rfl
     rw [hrc,<- y];refine Mr (aj7 hit fun e O ⟨v0,he,f,hA2,hc⟩=>?_);subst he;rcases hc with ⟨k,hk,Q⟩ | hst
     ·refine ⟨none,_,run_endLoop (P:=Tryz.prog) Q.loop (by simp [PX.rc]),?_⟩;obtain ⟨p1,p2,p3⟩:=YS (s:=X.s) Q.ok hk;have S:=Q.rep.Jo (l:=X.L) (.loop { X.rc .ready none with state:=.exhausted }) (.inr (.inr rfl)) X.hL;have A2:Adv X.Z o _ f (O.putObj X.L (.loop { X.rc .ready none with state:=.exhausted })):=hA2.trans (.put _ (.inr rfl));have C:FrR (cx X.g f (O.putObj X.L (.loop { X.rc .ready none with state:=.exhausted }))) f frP X.FP:=Q.fr.carry ((Adv.put (Z:=X.Z) (ρ:=f) (w:=O) _ (.inr rfl)).le (G:=X.g) (fun b Y=>.inr Y) Q.rep.lo X.hB) (kr.refl _);have A:(O.putObj X.L (.loop { X.rc .ready none with state:=.exhausted })).heap[X.D]? = some (.deferred (some [])):=(afO (by rw [p,y]; omega)).trans Q.dfr;have hlen2:f.length=11:=Q.rep.obj.length.symm;revert S A2 C A;generalize O.putObj X.L (.loop { X.rc .ready none with state:=.exhausted })=U;intro S A2 C A;have hwc:WC Tryz.prog (fun e b w5=>e = .ret/\bodyPostM (gP none) 0 Tryz.prog Tryz.f171 (fun e w'=>∃ u,e = .returned u/\Ey G w s l v u w') .ret (iY b [{ target:=.collected X.D,args:=#[] }]) w5) 40 TE X.FP U:=by
       refine Ek hGgX (afZ hlen2) bK (aah (s:=pS X.v X.s (X.l.take k)) (r:=pR X.v X.s (X.l.take k)) (l:=X.l) (v:=X.v)) (⟨f,Stp.refl _ _ _,S,C⟩) fun e fr H F w5 hK J=>?_;cases e with
       | ret=>
        obtain ⟨ρ5,hs5,hr5,hf5⟩:=J;have hd5:w5.heap[X.D]? = some (.deferred (some [])):=(hs5.ext.old _ (fj A) (S.j_ (.inr (.inl rfl)))).2.trans A;have j:endE tyT [] 0 Tryz.f171 (rE (pS X.v X.s (X.l.take k)) 0) (hE (pS X.v X.s (X.l.take k)) (pR X.v X.s (X.l.take k))) fr H:=hK;rw [p1,p2,p3] at j;exact fun b Y=>⟨rfl,T hr5 hf5 Y j hd5 (A2.trans (.wP hs5.ext hs5.bx))⟩
       | _=>exact hK.elim
      have hwi:=Py (m:=0) (hwc a hMa none [{ target:=.collected X.D,args:=#[] }]);rw [p] at hwi;have I:({ a with defers:=[{ target:=.collected d.heap.size,args:=#[] }]++a.defers }:Act)=iY a [{ target:=.collected d.heap.size,args:=#[] }]:=by rw [q.1]; rfl
      show Exit.inBlock 0 _ .normal _ U;rw [I];refine wpIn_mono hwi fun e b w5 ⟨b0,hb0,hbe,hbr,hpost⟩=>?_;subst hbr; subst hbe;exact hpost
     refine ⟨some .ret,_,run_endLoop (P:=Tryz.prog) hst.loop (by simp [PX.rc]),?_⟩;obtain ⟨H,hR,j⟩:=hst.rep;have A2:Adv X.Z o _ f (O.putObj X.L (.loop { X.rc .done (some .ret) with state:=.exhausted })):=hA2.trans (.put _ (.inr rfl));have C:FrR (cx X.g f (O.putObj X.L (.loop { X.rc .done (some .ret) with state:=.exhausted }))) f frP X.FP:=hst.fr.carry ((Adv.put (Z:=X.Z) (ρ:=f) (w:=O) _ (.inr rfl)).le (G:=X.g) (fun b Y=>.inr Y) hR.lo X.hB) (kr.refl _);have A:(O.putObj X.L (.loop { X.rc .done (some .ret) with state:=.exhausted })).heap[X.D]? = some (.deferred (some [])):=(afO (by rw [p,y]; omega)).trans hst.dfr;have hp:=T (hR.Jo _ (.inr (.inr rfl)) X.hL) C hMa j A A2;have I:({ a with defers:=[{ target:=.collected d.heap.size,args:=#[] }]++a.defers }:Act)=iY a [{ target:=.collected d.heap.size,args:=#[] }]:=by rw [q.1]; rfl
     rw [p] at hp;show Code.ret.wpIn _ _ _ _ _ _;rw [I];exact wpIn_ret hp
    | _=>exact hK.elim
   | _=>exact hK.elim
  | _=>exact hK.elim
 | _=>exact hK.elim
def KD (s:State) (l:List Entry) (v:Int):Sat Tryz.prog (al tyT) 171 [.agg (cellsOf (.nm .state) s),.c (.fz (.nm .entry) l),.c (.int v)] [] ⟨[],rE (plS v s l) (pE v l),some (hE (plS v s l) (plR v s l)),true⟩:=by
 refine ⟨⟨_,Tryz.func171,am,by kernel_rfl⟩,fun G ρ w y k j a=>?_⟩;have d:ρ=[]:=ab_ j.obj.length.symm;subst d;refine (QD k j a).mono fun u z ⟨m,e,f,o,p,q,x⟩=>⟨m,e,f,o,p,fun i g h=>by simp at h,q,fun _=>⟨x,fun i r h=>by simp at h⟩⟩
section
variable {v:Int} {s:State} {l:List Entry} {k:Nat} {x:Entry}
end
def SY (st:State) (l:List Entry) (v:Int):Sat Tryz.prog (al tyT) 171 [.agg (cellsOf (.nm .state) st),.c (.fz (.nm .entry) (l)),.c (.int (v))] [] ⟨[],[.agg ([.int (((plS v st l).version)),.int (((plS v st l).next)),.int (((plS v st l).keep)),.int (((plS v st l).quota)),.own 0,.own 1,.own 2]),.c (.own 3),.c (.int ((pE v l)))],some ([.row 137 (.nm .sess) (((plS v st l).sess)),.row 139 (.nm .opn) (((plS v st l).opens)),.row 172 (.nm .snap) (((plS v st l).snaps)),.row 78 (.nm .reply) ((plR v st l))]),true⟩:=KD st l v
def GP:Kn:=aN (ae (kT (.nm .state)) (ae (kC (cL (.nm .entry))) (ae (kC cI) aq))) ax fun (st,l,v,_) _=>⟨[],[.agg ([.int (((plS v st l).version)),.int (((plS v st l).next)),.int (((plS v st l).keep)),.int (((plS v st l).quota)),.own 0,.own 1,.own 2]),.c (.own 3),.c (.int ((pE v l)))],some ([.row 137 (.nm .sess) (((plS v st l).sess)),.row 139 (.nm .opn) (((plS v st l).opens)),.row 172 (.nm .snap) (((plS v st l).snaps)),.row 78 (.nm .reply) ((plR v st l))]),true⟩
def UE:CK 171 GP:=ah fun (st,l,v,_) _ _=>SY st l v
def aeX:bM:=(aP 171 GP aed)
def gQ:aB Tryz.prog (al tyT) aeX:=(ag UE RB)
def adi (O:bM):bM:=fun g a H=>bif Nat.beq g 1000000003 then some ⟨[False],[],none,false⟩ else O g a H
variable {P:Program} {shp:TypeId->Option Sh}
def yg {O:bM} (c:aB P shp O):aB P shp (adi O):=fun g args H r h a=>by
 unfold adi at h;cases d:Nat.beq g 1000000003 <;> rw [d] at h
 ·exact c g args H r h a
 cases h; exact (a False aa).elim
def cWp:AV->Option Nat
 | .xx (.w n) []=>some n
 | _=>none
def cW:PC Nat:=⟨cWp,fun n=>.xx (.w n) [],fun a y h c ρ v d=>by
 unfold cWp at h
 split at h
 ·cases h; exact d
 ·cases h⟩
theorem Sat.Mu {f:Nat} {args O:List TV1} {p:AH} {pre:List Prop} {d b:Bool} (i k:Nat) (e:TypeId) (s:Sh) {t:TypeId} {x:List AV} {S:AH} (W:shp e=some s) (q:p[i]? = some (.box t x)) (B:x[k]? = some (.em b)) (h:Sat P shp f args H ⟨pre,O,some p,d⟩) (X:S=p.set i (.box t (x.set k (.own p.length)))++[.row e s []]):Sat P shp f args H ⟨pre,O,some S,d⟩:=by
 subst X;refine ⟨h.1,fun G ρ w Y j Z l=>(h.2 G ρ w Y j Z l).mono ?_⟩;rintro v C ⟨n,F,c,D,K,Q,k4,T⟩;have I:=(Ext.app (ρ:=c) (r:=.emp) (Kp.refl C) fun g j=>by cases j).le D.lo;have y:=D.obj.length;have m:=D.app (r:=.emp) (o:=.row e s []) (Kp.refl C) (fun g j=>by cases j) ⟨by show G.shp e=some s; rw [j]; exact W,aa,.inl ⟨rfl,rfl⟩⟩;have A:=(abp.1 q).1;refine ⟨n,F,c ++ [.emp],⟨?_,m.inj,m.bnd,m.z,m.b0,m.tb⟩,K.trans (Ext.app (Kp.refl C) fun g j=>by cases j),fun i g q=>by
  rw [List.getElem?_append_left]
  ·grind
  ·exact (abp.1 (Q i g q)).1,k4.imp fun _ _ h=>h.carry I (gm _ _),fun B=>⟨(T B).1,fun i rr q=>by
  rw [List.getElem?_append_left]
  ·grind
  exact (abp.1 ((T B).2 i rr q)).1⟩⟩
 obtain ⟨r,hr,g,J,rfl,h1,U⟩:=m.at_ (i:=i) (o:=.box t x) (by rw [List.getElem?_append_left A]; exact q);have V:=m.obj.set i (a:=.box t (x.set k (.own p.length))) (b:=.blk g) ⟨g,J,rfl,h1,?_⟩
 ·rw [List.set_append_left _ _ A] at V;have:(c ++ [RE.emp]).set i (.blk g)=c ++ [RE.emp]:=by
   obtain ⟨hj,L⟩:=abp.1 hr;rw [<- L,List.set_getElem_self]
  rwa [this] at V
 obtain ⟨u,hu,N⟩:=dR U k _ B;have k8:=U.set k (a:=.own p.length) (b:=u) (.inr ⟨by rw [y]; simp,?_⟩)
 ·have:J.set k u=J:=by
   obtain ⟨hj,L⟩:=abp.1 hu;rw [<- L,List.set_getElem_self]
  rwa [this] at k8
 have N:Pd _ _ _:=N;cases N with | em _=>exact ⟨_,rfl⟩
def BU:Kn:=aN (ae (kC (aY 0 0)) aq) (aE (dF 147 (aA (fb 1) (aA cI (aA cB (aA cB (aA cI dy)))))) (aE (e_ 5 .u8) ax)) fun _ ((_,d,a,e,f,_),g,_)=>⟨[],[.c (.bool (.atom ((a))))],none,false⟩
def Ov:CK 40 BU:=ah fun _ ((_,c,a,d,e,_),f,_) _=>by
 refine aw gQ [] Tryz.func40 (?_:a=a);try rfl
def Cp:Kn:=aN (ae (kC (aY 0 0)) (ae (kC cI) aq)) (aE (dF 147 (aA (fb 1) (aA cI (aA cB (aA cB (aA cI dy)))))) (aE (e_ 5 .u8) ax)) fun (_,k,_) ((_,a,c,e,f,_),d,_)=>⟨[],[],some ([.box 147 ([.own 1,.int (((Dsk.mk d a c true k).synced)),.bool (.atom (((Dsk.mk d a c true k).down))),.bool (.atom (((Dsk.mk d a c true k).doomed))),.int (((Dsk.mk d a c true k).keep))]),.row 5 .u8 (((Dsk.mk d a c true k).b))]),false⟩
theorem QI:CK 108 Cp:=ah fun (_,k,_) ((_,a,c,e,f,_),d,_) _=>by
 refine bt gQ [] Tryz.func108 (?_:I64 k->a=a/\c=c/\true=true/\k=k/\d=d);(repeat' with_reducible first|apply bh|refine bg ?_|intro) <;> (first | with_reducible rfl | with_reducible assumption | omega | (refine bZ ?_ ?_ <;> omega))
def QV:Kn:=aN (ae (kC (aY 0 0)) aq) (aE (dF 147 (aA (fb 1) (aA cI (aA cB (aA cB (aA cI dy)))))) (aE (e_ 5 .u8) ax)) fun _ ((_,d,a,e,f,_),g,_)=>⟨[],[.c (.int ((if a=true then 0 else 31)))],some ([.box 147 ([.own 1,.int (((if a=true then (Dsk.mk g d a e f).up else (Dsk.mk g d a e f)).synced)),.bool (.atom (((if a=true then (Dsk.mk g d a e f).up else (Dsk.mk g d a e f)).down))),.bool (.atom (((if a=true then (Dsk.mk g d a e f).up else (Dsk.mk g d a e f)).doomed))),.int (((if a=true then (Dsk.mk g d a e f).up else (Dsk.mk g d a e f)).keep))]),.row 5 .u8 (((if a=true then (Dsk.mk g d a e f).up else (Dsk.mk g d a e f)).b))]),false⟩
theorem Zm:CK 44 QV:=ah fun _ ((_,d,c,f,g,_),e,_) _=>by
 refine bt gQ [] Tryz.func44 (?_:(fun h=>(fun a=>(c=false->31=h/\d=a.synced/\c=a.down/\f=a.doomed/\g=a.keep/\e=a.b)/\(c=true->0=h/\d=a.synced/\false=a.down/\false=a.doomed/\0=a.keep/\e=a.b)) (if c=true then (Dsk.mk e d c f g).up else Dsk.mk e d c f g)) (if c=true then (0:Int) else (31:Int)));(repeat' with_reducible first|apply bh|refine bg ?_|intro) <;> grind [Dsk.up]
def vE:Kn:=aN (ae (kC (aY 0 0)) (ae (kC cI) aq)) (aE (dF 147 (aA (fb 1) (aA cI (aA cB (aA cB (aA cI dy)))))) (aE (e_ 5 .u8) ax)) fun (_,k,_) ((_,a,c,d,e,_),f,_)=>⟨[(Dsk.mk f a c d e).OK],[],some ([.box 147 ([.own 1,.int ((((Dsk.mk f a c d e).cF k).synced)),.bool (.atom ((((Dsk.mk f a c d e).cF k).down))),.bool (.atom ((((Dsk.mk f a c d e).cF k).doomed))),.int ((((Dsk.mk f a c d e).cF k).keep))]),.row 5 .u8 ((((Dsk.mk f a c d e).cF k).b))]),false⟩
theorem I_:CK 39 vE:=ah fun (_,k,_) ((_,e,f,g,h,_),a,_) i=>by
 have j:=cd i;refine bt (yg gQ) [] Tryz.func39 (?_:(fun c=>(fun d=>I64 k->I64 ((↑a.length:Int) - e)/\I64 d/\(0<=d/\d<=(↑a.length:Int))/\(↑(List.take d.toNat a).length:Int)=c.synced/\true=c.down/\false=c.doomed/\0=c.keep/\List.take d.toNat a=c.b) (e+min (max k 0) ((↑a.length:Int) - e))) ((Dsk.mk a e f g h).cF k));obtain ⟨m,o,p⟩:=j;dsimp only at m o p;(repeat' with_reducible first|apply bh|refine bg ?_|intro) <;> first | (first | with_reducible rfl | with_reducible assumption | omega | (refine bZ ?_ ?_ <;> omega)) | (simp only [Dsk.cF,Dsk.at_]; first | done | (first | with_reducible rfl | with_reducible assumption | omega | (refine bZ ?_ ?_ <;> omega)) | (rw [List.length_take]; omega))
def FV:Kn:=aN (ae (kC (aY 0 0)) (ae (kC cI) aq)) (aE (dF 147 (aA (fb 1) (aA cI (aA cB (aA cB (aA cI dy)))))) (aE (e_ 5 .u8) ax)) fun (_,k,_) ((_,a,d,e,f,_),g,_)=>⟨[(Dsk.mk g a d e f).OK],[.c (.int (((Dsk.mk g a d e f).kV k)))],some ([.box 147 ([.own 1,.int ((((Dsk.mk g a d e f).cut k).synced)),.bool (.atom ((((Dsk.mk g a d e f).cut k).down))),.bool (.atom ((((Dsk.mk g a d e f).cut k).doomed))),.int ((((Dsk.mk g a d e f).cut k).keep))]),.row 5 .u8 ((((Dsk.mk g a d e f).cut k).b))]),false⟩
theorem UQ:CK 45 FV:=ah fun (_,k,_) ((_,h,d,f,g,_),c,_) j=>by
 have m:=cd j;refine bt (yg gQ) [] Tryz.func45 (?_:(fun e=>(fun a=>(fun i=>I64 k->(d=true->30=e.kV k/\i)/\(d=false->(k<0\/(↑c.length:Int)<k->1=e.kV k/\i)/\(0<=k/\k<=(↑c.length:Int)->0<=k/\k<=(↑c.length:Int)/\0=e.kV k/\k=a.synced/\d=a.down/\f=a.doomed/\g=a.keep/\List.take k.toNat c=a.b))) (h=a.synced/\d=a.down/\f=a.doomed/\g=a.keep/\c=a.b)) (e.cut k)) (Dsk.mk c h d f g));obtain ⟨o,p,q⟩:=m;dsimp only at o p q;(repeat' with_reducible first|apply bh|refine bg ?_|intro) <;> first | (first | with_reducible rfl | with_reducible assumption | omega | (refine bZ ?_ ?_ <;> omega)) | grind [Dsk.cut,Dsk.kV]
def FC:Kn:=aN (ae (kC (aY 0 0)) (ae (kC (cL .u8)) aq)) (aE (dF 147 (aA (fb 1) (aA cI (aA cB (aA cB (aA cI dy)))))) (aE (e_ 5 .u8) ax)) fun (_,x,_) ((_,a,d,e,f,_),g,_)=>⟨[(Dsk.mk g a d e f).OK],[.c (.int (((Dsk.mk g a d e f).jT x)))],some ([.box 147 ([.own 1,.int ((((Dsk.mk g a d e f).app x).synced)),.bool (.atom ((((Dsk.mk g a d e f).app x).down))),.bool (.atom ((((Dsk.mk g a d e f).app x).doomed))),.int ((((Dsk.mk g a d e f).app x).keep))]),.row 5 .u8 ((((Dsk.mk g a d e f).app x).b))]),false⟩
theorem T_:CK 150 FC:=ah fun (_,x,_) ((_,f,c,g,h,_),d,_) k=>by
 have m:=cd k;refine bt gQ [] Tryz.func150 (?_:(fun e=>(fun i=>(fun a=>(fun j=>x.length*1<=140737488355328->(c=true->30=e.jT x/\j)/\(c=false->I64 i/\(i<(↑x.length:Int)->20=e.jT x/\j)/\((↑x.length:Int)<=i->(d.length+x.length)*1<=140737488355328/\0=e.jT x/\f=a.synced/\c=a.down/\g=a.doomed/\h=a.keep/\d++x=a.b))) (f=a.synced/\c=a.down/\g=a.doomed/\h=a.keep/\d=a.b)) (e.app x)) (65536 - (↑d.length:Int))) (Dsk.mk d f c g h));obtain ⟨o,p,q⟩:=m;dsimp only at o p q;(repeat' with_reducible first|apply bh|refine bg ?_|intro) <;> first | (first | with_reducible rfl | with_reducible assumption | omega | (refine bZ ?_ ?_ <;> omega)) | grind [Dsk.app,Dsk.jT]
def wq:Kn:=aN (ae (kC (aY 0 0)) aq) (aE (dF 147 (aA (fb 1) (aA cI (aA cB (aA cB (aA cI dy)))))) (aE (e_ 5 .u8) ax)) fun _ ((_,d,e,f,g,_),a,_)=>⟨[(Dsk.mk a d e f g).OK],[.c (.own 2)],some ([.box 147 ([.own 1,.int ((d)),.bool (.atom ((e))),.bool (.atom ((f))),.int ((g))]),.row 5 .u8 ((a)),.row 5 .u8 ((a))]),true⟩
theorem Jd:CK 42 wq:=ah fun _ ((_,d,e,f,g,_),c,_) h=>by
 have i:=cd h;refine dw gQ [] Tryz.func42 (?_:(fun (a:Nat)=>(0:Int)<=(↑a:Int)/\(↑a:Int)*(↑(1:Nat):Int)<=(140737488355328:Int)/\(↑a:Int)=(↑a:Int)/\d=d/\e=e/\f=f/\g=g/\c=c/\List.take (List.replicate a (ak Sh.u8)).length c++List.drop a (List.replicate a (ak Sh.u8))=c) c.length);obtain ⟨j,k,m⟩:=i;dsimp only at j k m;(repeat' with_reducible first|apply bh|refine bg ?_|intro) <;> first | (first | with_reducible rfl | with_reducible assumption | omega | (refine bZ ?_ ?_ <;> omega)) | simp
def Fc:Kn:=aN aq ax fun _ _=>⟨[],[.c (.ptr 0 0)],some ([.box 147 ([.em true,.int ((0)),.bool (.atom ((false))),.bool (.atom ((false))),.int ((0))])]),true⟩
theorem EK:CK 38 Fc:=ah fun _ _ _=>by
 refine dw gQ [] Tryz.func38 (?_:(0:Int)=0/\false=false/\false=false/\(0:Int)=0);(repeat' with_reducible first|apply bh|refine bg ?_|intro) <;> (first | with_reducible rfl | with_reducible assumption | omega | (refine bZ ?_ ?_ <;> omega))
def UC :Sat Tryz.prog (al tyT) 38 [] [] ⟨[],[.c (.ptr 0 0)],some ([.box 147 ([.em true,.int ((0)),.bool (.atom ((false))),.bool (.atom ((false))),.int ((0))])]),true⟩:=EK _ _ _ rfl aa
def adP:bM:=(aP 38 Fc (aP 42 wq (aP 150 FC (aP 45 FV (aP 39 vE (aP 44 QV (aP 108 Cp (aP 40 BU aeX))))))))
def gq:aB Tryz.prog (al tyT) adP:=(ag EK (ag Jd (ag T_ (ag UQ (ag I_ (ag Zm (ag QI (ag Ov gQ))))))))
