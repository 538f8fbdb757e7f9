/- What leads to the law, part 7. Conditions: each lemma's own. -/
import Derived.Shelf.Lay
import Derived.Shelf.SlSortCmp.Small
import Derived.Shelf.Small.Bits
import Derived.Sort.LotA
import Derived.Test.YtoecbhljidgajaaGreatNPM6
set_option linter.unusedVariables false
set_option linter.unusedSimpArgs false
set_option maxHeartbeats 2000000
set_option linter.defProp false
noncomputable section
open List (drop drop_take length_drop replicate take take_append take_of_length_le toArray)
open UInt8 (ofNat)
namespace Go.Proofs.YtoecbhljidgajaaGreat
open Go.Proofs.Tryz
open Go.RowKit
def V6:=@List.drop_left
def Y1:=@List.mergeSort_perm
def H3:=@Nat.le_of_eq
variable{b:List UInt8}{n:Nat}
theorem sm(h:(c7 b).2.2=0)(o:(c7 b).2.1<=n):c7 (b.take n)=c7 b:=by
 have a:c7 b=((c7 b).1,(c7 b).2.1,0):=by rw[<-h]
 have d:(c7 b).1<18446744073709551616:=aac (l:=b) (k:=0) (n:=0) am am am;obtain⟨u,j,f,p,c,_⟩:=L3 (k:=0) (n:=0) a;have g:u=(c7 b).1:=by simpa using f.symm
 have i:j=(c7 b).2.1:=by omega
 rw[g,i]at c;have m:(c7 b).2.1<=b.length:=by have:=(lr (l:=b) (k:=0) (n:=0) am).2;rw[A3]at this;exact this
 have e:b.take n=bm (c7 b).1++(b.take n).drop (c7 b).2.1:=by grind[List.take_append_drop]
 rw[e,jl d,c,sh,I2 m,<-a]
theorem ad4(h:(aE b).e=0):(c7 b).2.2=0/\(aE b).k=(c7 b).2.1:=by
 by_cases a:(c7 b).2.2=0
 .refine⟨a,?_⟩;unfold aE at h⊢;rw[O a]at h⊢;split
  .grind
  rfl
 grind[zS]
def DH(h:(aE b).e=0)(c:(aE b).k<=n):aE (b.take n)=aE b:=by
 obtain⟨a,d⟩:=ad4 h;unfold aE;rw[sm a N]
theorem Tv(h:(aT b).2=0):(aE b).e=0/\(c7 (b.drop (aE b).k)).2.2=0/\(aE b).k+(c7 (b.drop (aE b).k)).2.1<=(aT b).1:=by
 by_cases a:(aE b).e=0
 .by_cases c:(c7 (b.drop (aE b).k)).2.2=0
  .refine⟨a,c,?_⟩;by_cases d:(aE b).hC=0
   .simp_all[abK]
   by_cases f:16384<(c7 (b.drop (aE b).k)).1
   .rw[aes a c d f]at h;cases h
   by_cases g:((b.length:Nat):Int)-(((aE b).k+(c7 (b.drop (aE b).k)).2.1:Nat):Int)<(((c7 (b.drop (aE b).k)).1:Nat):Int)
   .grind[ams]
   simp_all[ajo]
  grind[aeo]
 rw[acq a]at h;exact absurd h a
def EN(a:(aT b).2=0)(c:(aE b).hC=0):Field.mk (aE b).num (aE b).hC (z8.mk (c7 (b.drop (aE b).k)).1) []=gI (b.take (aT b).1):=by
 obtain⟨d,e,f⟩:=Tv a;unfold gI;rw[DH d N,O c,drop_take,sm e N]
def DX(a:(aT b).2=0)(c:¬(aE b).hC=0):Field.mk (aE b).num (aE b).hC (z8.mk 0) ((b.drop (((aE b).k:Int)+((c7 (b.drop (aE b).k)).2.1:Nat)).toNat).take ((aT b).1-(((aE b).k:Int)+((c7 (b.drop (aE b).k)).2.1:Nat)).toNat))=gI (b.take (aT b).1):=by
 obtain⟨d,f,g⟩:=Tv a;have e:c7 ((b.take (aT b).1).drop (aE b).k)=c7 (b.drop (aE b).k):=by rw[drop_take,sm f N]
 unfold gI;rw[DH d N,X c,e,drop_take,show(((aE b).k:Int)+((c7 (b.drop (aE b).k)).2.1:Nat)).toNat=(aE b).k+(c7 (b.drop (aE b).k)).2.1 by omega]
variable{i:Nat}
def u5i(h:0<(((b.drop i).length:Nat):Int)):(i:Int)<(b.length:Int):=by rw[length_drop]at h;omega
def u5S{s:Nat×List Field}(h:Wq (fI b s.1 s.2))(a:0<(((b.drop s.1).length:Nat):Int))(c:¬(aT (b.drop s.1)).2=0):aV b=([],(aT (b.drop s.1)).2):=tlS h (u5i a) c
def u5x:((i:Int)+((aT (b.drop i)).1:Nat)).toNat-i=(aT (b.drop i)).1:=by omega
def u5L{s:Nat×List Field}(h:Wq (fI b s.1 s.2))(a:0<(((b.drop s.1).length:Nat):Int))(c:(aT (b.drop s.1)).2=0)(d:fF s.2 (gI ((b.drop s.1).take (aT (b.drop s.1)).1))=false):aV b=([],5):=tlL h (u5i a) c (by rw[u5x];exact d)
def u5N{s:Nat×List Field}(h:Wq (fI b s.1 s.2))(a:0<(((b.drop s.1).length:Nat):Int))(c:(aT (b.drop s.1)).2=0)(d:fF s.2 (gI ((b.drop s.1).take (aT (b.drop s.1)).1))=true):Wq (fI b (Ih b s).1 (Ih b s).2):=tlN h (u5i a) c (by rw[u5x];exact d)
def u5E{s:Nat×List Field}(h:Wq (fI b s.1 s.2))(a:(((b.drop s.1).length:Nat):Int)<=0):aV b=(s.2,0):=tlE h (by rw[length_drop]at a;omega)
variable{xs:List Field}{f:Field}
def u5F{g:Field}(a:0<(xs.length:Int))(h:(!dM (xs.getD ((xs.length:Int)-1).toNat (c4 (.nm .field))) f)=true)(e:f=g):fF xs g=false:=by
 rw[<-e,<-FE N];simpa using h
theorem u5T{g:Field}(h:(xs.length:Int)<=0\/(!dM (xs.getD ((xs.length:Int)-1).toNat (c4 (.nm .field))) f)=false)(e:f=g):fF xs g=true:=by grind[Pv,FE]
def u5A{s:Nat×List Field}(e:f=gI ((b.drop s.1).take (aT (b.drop s.1)).1)):s.2++[f]=(Ih b s).2:=by rw[ND,e]
def u5D{s:Nat×List Field}:(b.drop s.1).drop (aT (b.drop s.1)).1=b.drop (Ih b s).1:=by rw[J1];rfl
def FdG(x:Field)(y:l4):Prop:=x.num=y.num->x.hC=y.hC/\(¬x.hC=0\/¬((x.n.n:Nat):Int)=((0:Nat):Int))/\(¬x.hC=2\/¬((x.b.length:Nat):Int)=0)
def UO(l:List Field)(y:l4)(k:Nat):Prop:=∀j x,j<k->l[j]? =some x->FdG x y
def SpG(l:List Field)(y:l4):Prop:=UO l y l.length/\(((eH l y.num:Nat):Int)<=1\/y.ea=true)/\(¬((eH l y.num:Nat):Int)=0\/y.y4=false)
def J_(l:List Field)(a:List l4)(k:Nat):Prop:=∀j y,j<k->a[j]? =some y->SpG l y
variable{l:List Field}{ss:List l4}
def an0:J_ l ss 0:=λj y h=>by omega
def anB{y:l4}:UO l y 0:=λj y h=>by omega
variable{k:Nat}
def Z0(h:k<ss.length):ss[k]? =some (ss.getD k (c4 (.nm .spec))):=by
 rw[List.getD_eq_getElem?_getD,r5 h];rfl
def W3{x:l4}(a:ss[k]? =some x):x=ss.getD k (c4 (.nm .spec)):=by rw[List.getD_eq_getElem?_getD,a];rfl
theorem fdN{y:l4}(h:Wq (UO l y k))(d:k<l.length)(e:FdG (l.getD k (c4 (.nm .field))) y):Wq (UO l y (k+1)):=⟨λj x g a=>by
 by_cases c:j=k
 .grind
 exact h.h j x N a⟩
def fdn{y:l4}(a:k<l.length)(h:¬(l.getD k (c4 (.nm .field))).num=y.num):eH (l.take (k+1)) y.num=eH (l.take k) y.num:=by
 rw[qM (R8 a),X (λe=>h e.symm)]
def fdy{y:l4}(a:k<l.length)(h:(l.getD k (c4 (.nm .field))).num=y.num):eH (l.take (k+1)) y.num=eH (l.take k) y.num+1:=by
 rw[qM (R8 a),O h.symm,h]
variable{m:Nat}
def spN(h:Wq (J_ l ss k))(g:k<ss.length)(o:Wq (UO l (ss.getD k (c4 (.nm .spec))) m))(p:l.length<=m)(d:((eH (l.take m) (ss.getD k (c4 (.nm .spec))).num:Nat):Int)<=1\/(ss.getD k (c4 (.nm .spec))).ea=true)(e:¬((eH (l.take m) (ss.getD k (c4 (.nm .spec))).num:Nat):Int)=0\/(ss.getD k (c4 (.nm .spec))).y4=false):Wq (J_ l ss (k+1)):=⟨λj y q a=>by
 by_cases c:j=k
 .subst c;rw[Z0 g]at a;cases a;rw[take_of_length_le p]at d e;exact⟨λj x q=>o.h j x N,d,e⟩
 exact h.h j y N a⟩
variable{x:Field}
theorem VU(h:du x=true):x.hC=0\/x.hC=2:=by
 unfold du at h;by_cases a:x.hC=0
 .exact .inl a
 grind
theorem BG{l:List Field}{q:Int}:∀{k:Nat},k<=l.length->1<=eH (l.take k) q->∃j x,l[j]? =some x/\x.num=q/\eH (l.take (j+1)) q=eH (l.take k) q
 |0,_,h=>by simp[eH]at h
 |k+1,d,h=>by
  have a:l[k]? =some l[k]:=r5 N;by_cases e:q=l[k].num
  .exact⟨k,_,a,e.symm,rfl⟩
  have c:=qM a q;rw[X e]at c;rw[c]at h⊢;exact BG N h
theorem adu{v:Int}(h:(¬(l.getD m (c4 (.nm .field))).hC=((aJ v).getD k (c4 (.nm .spec))).hC\/(l.getD m (c4 (.nm .field))).hC=0/\(((l.getD m (c4 (.nm .field))).n.n:Nat):Int)=((0:Nat):Int))\/(l.getD m (c4 (.nm .field))).hC=2/\(((l.getD m (c4 (.nm .field))).b.length:Nat):Int)=0)(d:k<(aJ v).length)(c:m<l.length)(e:(l.getD m (c4 (.nm .field))).num=((aJ v).getD k (c4 (.nm .spec))).num):¬vI l v:=by
 intro g;have a:=g.1 m _ c (R8 c) _ (C5 (Z0 d)) e.symm;unfold HH at a;split at a
 .cases a
 grind
def acU{v:Int}(h:(1<((eH (l.take m) ((aJ v).getD k (c4 (.nm .spec))).num:Nat):Int)/\((aJ v).getD k (c4 (.nm .spec))).ea=false)\/(((eH (l.take m) ((aJ v).getD k (c4 (.nm .spec))).num:Nat):Int)=0/\((aJ v).getD k (c4 (.nm .spec))).y4=true))(d:k<(aJ v).length)(s:l.length<=m):¬vI l v:=by
 intro g;rw[take_of_length_le s]at h;rcases h with⟨o,e⟩|⟨o,e⟩
 .obtain⟨j,x,p,r,a⟩:=BG (l:=l) (q:=((aJ v).getD k (c4 (.nm .spec))).num) (tw _) (by rw[O1];omega);rw[O1]at a;have c:=g.1 j x (oK p) p _ (C5 (Z0 d)) r.symm;rw[r,a]at c;unfold HH at c;rw[O (.inr ⟨o,e⟩)]at c;cases c
 exact g.2 k _ d (Z0 d) e N
theorem aln{v:Int}(h:Wq (J_ l (aJ v) k))(w:(aJ v).length<=k)(g:ck l=0):vI l v:=by
 have o:=rL (Aa g);refine⟨λj x d e s p a=>?_,λj y d r a=>?_⟩
 .obtain⟨i,t,rfl⟩:=Y0 p;obtain⟨u,z,_⟩:=h.h i _ N (r5 t);obtain⟨A,B,C⟩:=u j x d e a.symm;have D:=VU (o x (C5 e));have F:=VI (l:=l) (q:=x.num) (j+1);unfold HH;rw[X]
  .grind
  grind
 obtain⟨_,_,c⟩:=h.h j y N r;rw[a]at c;simp at c;exact c
def u5K:(((aT b).1:Nat):Int)<=((b.length:Nat):Int):=by have:=qp b;omega
def u5G(a:(aT b).2=0):((aE b).k:Int)+((c7 (b.drop (aE b).k)).2.1:Nat)<=(((aT b).1:Nat):Int):=by have:=(Tv a).2.2;omega
def aiq(l:List Field):List (Nat×LI):=[(6,{σ:=Nat,F:=λk=>([(0,one (.fz (.nm .field) l)),(5,one (.own 0)),(6,one (.int k))],[.row 5 .u8 (((l.take k).map bW).flatten)]),J:=λk=>k<=l.length,μ:=λk=>l.length-k})]
def afX(b:List UInt8):List (Nat×LI):=[(4,{σ:=Nat×List Field,F:=λs=>([(0,one (.fz .u8 (b.drop s.1))),(4,one (.own 0))],[.row 216 (.nm .field) (s.2)]),J:=λs=>Wq (fI b s.1 s.2)/\s.1<=b.length/\s.2.length<=s.1,μ:=λs=>b.length-s.1})]
def Vi(q:Int)(v:Int)(l:List Field):List (Nat×LI):=[(8,{σ:=Nat,F:=λk=>([(2,one (.fz (.nm .field) l)),(7,one (.fz (.nm .spec) (aJ v))),(9,one (.int k))],[]),J:=λk=>k<=(aJ v).length/\Wq (J_ l (aJ v) k),μ:=λk=>(aJ v).length-k}),(13,{σ:=Nat×Nat,F:=λq=>([(2,one (.fz (.nm .field) l)),(7,one (.fz (.nm .spec) (aJ v))),(9,one (.int q.1)),(10,one (.ptr 0 0)),(11,one (.int (eH (l.take q.2) ((aJ v).getD q.1 (c4 (.nm .spec))).num:Nat))),(12,one (.int q.2))],[.box 235 (cellsOf (.nm .spec) ((aJ v).getD q.1 (c4 (.nm .spec))))]),J:=λq=>q.1<(aJ v).length/\q.2<=l.length/\Wq (J_ l (aJ v) q.1)/\Wq (UO l ((aJ v).getD q.1 (c4 (.nm .spec))) q.2),μ:=λq=>l.length-q.2,R:=some λa q=>q.1=a.1})]
theorem acF:CK 197 (aD uH av λ(l,_) _=>⟨[],[.c (.own 0),.c (.int (ck l))],some ([.row 5 .u8 (jt l)]),true⟩):=ag λ(l,_) _ _=>by
 refine bU tE (aiq l) func197 (?_:l.length*48<=140737488355328->W (ck l)->(¬ck l=0->ck l=ck l/\jt l=[])/\(ck l=0->∃(d:Nat),(l=l/\0=(d:Int)/\(List.map bW (take d l)).flatten=[])/\d<=l.length/\∀(s:Nat),(λ(e:List UInt8)=>s<=l.length->((s:Int)<(l.length:Int)->0<=(s:Int)/\(s:Int)<(l.length:Int)/\∀(x:Field),l[s]? =some x->W x.num->W x.hC->x.n.n<18446744073709551616->x.b.length*1<=140737488355328->x.b.length<=16384/\(e.length+(bW x).length)*1<=140737488355328/\W ((s:Int)+1)/\∃(a:Nat),(l=l/\(s:Int)+1=(a:Int)/\e++bW x=(List.map bW (take a l)).flatten)/\a<=l.length/\l.length-a<l.length-s)/\((l.length:Int)<=(s:Int)->0=ck l/\e=jt l)) (List.map bW (take s l)).flatten));repeat' first|(with_reducible first|apply aH|refine aI ?_|intro)|exact aZ|exact rfl|exact(NM Y).symm|exact(Eq.symm Y)|exact(ym Y)|exact(pz Y (C5 Y))|exact(Ic Y N)|(have g:=Bf (k:=‹Nat›) (show ck l=0 by with_reducible assumption);have h:=lI (f:=‹Field›) (pz (show ck l=0 by with_reducible assumption) (C5 Y)) Y;omega)|refine⟨‹Nat›+1,?_⟩|refine⟨0,?_⟩
theorem YO:CK 256 (aD gl av λ(b,_) _=>{rs:=[.c (.fz (.nm .field) ((aV b).1)),.c (.int ((aV b).2))]}):=ag λ(b,_) _ _=>by
 refine al tE (afX b) func256 (?_:(λ(F:Int)(G:Nat)(c:Prop)(e:z8)(B:Nat)=>(λ(P:l7 (Sh.nm NT.field))=>(λ(Q:Int)(d:Int)=>b.length*1<=G->(16384<(b.length:Int)->c/\4=F)/\((b.length:Int)<=16384->∃(C:Nat×List Field),(b=drop C.1 b/\C.2=[])/\(Wq (fI b C.1 C.2)/\C.1<=B/\C.2.length<=C.1)/\∀(s:Nat×List Field),(λ(H:Nat)(D:Nat)=>(λ(j:Int)=>(λ(o:Int)=>(λ(r:l7 (Sh.nm NT.field))=>(λ(I:Prop)=>(λ(A:List (l7 Sh.u8))=>(λ(v:Int)(q:Int)(a:Q1)=>(λ(t:Nat×Nat×Int)(w:Nat)=>(λ(p:Int)(y:Field)(u:Int)=>(λ(J:List (l7 Sh.u8))=>(λ(K:Prop)(z:Field)=>(λ(L:Prop)=>Wq (fI b s.1 s.2)/\s.1<=B/\s.2.length<=s.1->(d<q->W p->W v->(¬v=d->c/\v=F)/\(v=d->W a.num->W a.hC->W (a.k:Int)->W a.e->d<=(a.k:Int)/\(a.k:Int)<=q/\(t.1<18446744073709551616->W (t.2.1:Int)->W t.2.2->(a.hC=d->(d<j->W o/\(d<=o/\o<j)/\(W r.num->W r.hC->r.n.n<18446744073709551616->I->((!dM r y)=true->c/\5=F)/\((!dM r y)=false->K)))/\(j<=d->K))/\(¬a.hC=d->W u/\d<=u/\u<=p/\p<=q/\J.length*1<=G/\(d<j->W o/\(d<=o/\o<j)/\(W r.num->W r.hC->r.n.n<18446744073709551616->I->((!dM r z)=true->c/\5=F)/\((!dM r z)=false->L)))/\(j<=d->L)))))/\(q<=d->s.2=(aV b).1/\d=F)) ((D+[z].length)*48<=G/\d<=p/\p<=q/\∃(g:Nat×List Field),(drop w A=drop g.1 b/\s.2++[z]=g.2)/\(Wq (fI b g.1 g.2)/\g.1<=B/\g.2.length<=g.1)/\B-g.1<H)) ((D+[y].length)*48<=G/\d<=p/\p<=q/\∃(g:Nat×List Field),(drop w A=drop g.1 b/\s.2++[y]=g.2)/\(Wq (fI b g.1 g.2)/\g.1<=B/\g.2.length<=g.1)/\B-g.1<H) (Field.mk a.num a.hC e J)) (take (w-u.toNat) (drop u.toNat A))) (w:Int) (Field.mk a.num a.hC (z8.mk t.1) []) ((a.k:Int)+(t.2.1:Int))) (c7 (drop a.k A)) (aT A).1) (aT A).2 (A.length:Int) (aE A)) (drop s.1 b)) (r.b.length*1<=G)) (s.2.getD o.toNat P)) (j-Q)) (D:Int)) (B-s.1) s.2.length)) 1 0) (c4 (Sh.nm NT.field))) (aV b).2 140737488355328 ((aV b).1=[]) (z8.mk 0) b.length);repeat' first|(with_reducible first|apply aH|refine aI ?_|intro)|exact aZ|exact rfl|exact⟨Dh N⟩|(rw[tlB Y]<;>rfl)|(rw[u5S Y Y Y]<;>rfl)|(rw[u5L Y Y Y (u5F Y Y (EN Y Y))]<;>rfl)|(rw[u5L Y Y Y (u5F Y Y (DX Y Y))]<;>rfl)|(rw[u5E Y Y]<;>rfl)|exact(u5N Y Y Y (u5T (by first|assumption|exact .inl ap|exact .inr ap) (EN Y Y)))|exact(u5N Y Y Y (u5T (by first|assumption|exact .inl ap|exact .inr ap) (DX Y Y)))|exact(u5A (EN Y Y))|exact(u5A (DX Y Y))|exact u5D|exact(nx1 Y)|exact(nx2 Y Y)|exact(nx3 (u5i Y) Y)|exact(u5K (b:=b.drop ‹Nat×List Field›.1))|exact(u5G Y)|(have h:=qp (b.drop ‹Nat×List Field›.1);have S:=lC (b.drop ‹Nat×List Field›.1);have T:=ke (b.drop ‹Nat×List Field›.1) (aE (b.drop ‹Nat×List Field›.1)).k;rw[length_drop]at*;first|omega|(refine aY ?_ ?_<;>omega))|(rw[sh,length_drop,length_drop];omega)|(simp only[x7,B2];omega)|refine⟨Ih b ‹Nat×List Field›,?_⟩|refine⟨(0,[]),?_⟩
theorem OM:CK 257 (aD (ak dj (ak dj uH)) av λ(q,v,l,_) _=>{pre:=[q=1],rs:=[.c (.int (fg l v))]}):=ag λ(q,v,l,_) _ T=>by
 have i:=bw T;refine al tE (Vi q v l) func257 (?_:(λ(D:Prop)(H:Prop)(K:Nat)(C:Int)(Q:Int)(A:Int)(U:Nat)(V:Nat)(S:Nat)=>(λ(L:l7 (Sh.nm NT.spec))=>(λ(w:List l4)=>(λ(F:Prop)(G:Int)(y:Nat)=>(λ(c:l7 (Sh.nm NT.field))=>W q->W v->l.length*(48:Nat)<=S->q=C/\(w.length*(32:Nat)<=S->(G=A->C=fg l v)/\(¬G=A->W (ck l)->(¬ck l=A->ck l=fg l v)/\(ck l=A->∃(I:Nat),(D/\F/\A=(I:Int))/\(I<=y/\Wq (J_ l w I))/\∀(s:Nat),s<=y/\Wq (J_ l w s)->((s:Int)<G->A<=(s:Int)/\(s:Int)<G/\∀(x:l4),w[s]? =some x->kj x (∃(I:Nat×Nat),(λ(u:Nat)=>(D/\F/\(s:Int)=(u:Int)/\A=(↑(eH (take I.2 l) (w.getD u L).num):Int)/\A=(I.2:Int)/\Fw x (w.getD u L))/\(u<y/\I.2<=K/\Wq (J_ l w u)/\Wq (UO l (w.getD u L) I.2))/\u=u/\∀(o:Nat×Nat),(λ(z:Int)(t:l4)=>(λ(B:Int)(j:Prop)=>(λ(f:Prop)=>(λ(p:l7 (Sh.nm NT.field))=>(λ(J:Prop)(P:Prop)(a:Prop)(d:Prop)(e:Prop)(g:Prop)=>o.1<y/\o.2<=K/\Wq (J_ l w o.1)/\Wq (UO l t o.2)->o.1=u->(z<Q->j/\(a->d->e->g->(¬p.num=t.num->W (z+C)/\∃(r:Nat×Nat),(λ(n:l4)=>(D/\F/\(o.1:Int)=(r.1:Int)/\B=(↑(eH (take r.2 l) n.num):Int)/\z+C=(r.2:Int)/\Fw t n)/\(r.1<y/\r.2<=K/\Wq (J_ l w r.1)/\Wq (UO l n r.2))/\r.1=u/\K-r.2<K-o.2) (w.getD r.1 L))/\(p.num=t.num->W (B+C)/\(¬p.hC=t.hC->j/\(a->d->e->g->H))/\(p.hC=t.hC->(p.hC=A->((p.n.n:Int)=(↑(0:Nat):Int)->j/\(a->d->e->g->j)/\(a->d->e->g->a->d->e->g->j)/\(a->d->e->g->a->d->e->g->a->d->e->g->H))/\(¬(p.n.n:Int)=(↑(0:Nat):Int)->(J->j/\(a->d->e->g->j)/\(a->d->e->g->a->d->e->g->j)/\(a->d->e->g->a->d->e->g->a->d->e->g->j)/\(a->d->e->g->a->d->e->g->a->d->e->g->a->d->e->g->j)/\(a->d->e->g->a->d->e->g->a->d->e->g->a->d->e->g->a->d->e->g->P))/\(¬J->j/\(a->d->e->g->j)/\(a->d->e->g->a->d->e->g->j)/\(a->d->e->g->a->d->e->g->a->d->e->g->j)/\(a->d->e->g->a->d->e->g->a->d->e->g->a->d->e->g->f))))/\(¬p.hC=A->(J->j/\(a->d->e->g->j)/\(a->d->e->g->a->d->e->g->j)/\(a->d->e->g->a->d->e->g->a->d->e->g->j)/\(a->d->e->g->a->d->e->g->a->d->e->g->a->d->e->g->P))/\(¬J->j/\(a->d->e->g->j)/\(a->d->e->g->a->d->e->g->j)/\(a->d->e->g->a->d->e->g->a->d->e->g->f)))))))/\(Q<=z->(C<B/\t.ea=false\/B=A/\t.y4=true->H)/\((B<=C\/t.ea=true)/\(¬B=A\/t.y4=false)->W ((o.1:Int)+C)/\∃(r:Nat),(D/\F/\(o.1:Int)+C=(r:Int))/\(r<=y/\Wq (J_ l w r))/\y-r<y-s))) (p.hC=(2:Int)) (((p.b.length:Int)=A->H)/\(¬(p.b.length:Int)=A->f)) (W p.num) (W p.hC) (p.n.n<U) (p.b.length*V<=S)) (l.getD o.2 c)) (W (z+C)/\∃(r:Nat×Nat),(D/\F/\(o.1:Int)=(r.1:Int)/\B+C=(↑(eH (take r.2 l) (w.getD r.1 L).num):Int)/\z+C=(r.2:Int)/\Fw t (w.getD r.1 L))/\(r.1<y/\r.2<=K/\Wq (J_ l w r.1)/\Wq (UO l (w.getD r.1 L) r.2))/\r.1=u/\K-r.2<K-o.2)) (↑(eH (take o.2 l) t.num):Int) (A<=z/\z<Q)) (o.2:Int) (w.getD o.1 L)) I.1))/\(G<=(s:Int)->A=fg l v))))) (c4 (Sh.nm NT.field))) (w=w) (w.length:Int) w.length) (aJ v)) (c4 (Sh.nm NT.spec))) (l=l) ((6:Int)=fg l v) l.length (1:Int) (l.length:Int) (0:Int) (18446744073709551616:Nat) (1:Nat) (140737488355328:Nat))
 (repeat' with_reducible first|apply aH|refine aI ?_|intro)
 all_goals try(refine⟨0,?_⟩;(repeat' with_reducible first|apply aH|refine aI ?_|intro))
 all_goals try(refine⟨(‹Nat›,0),?_⟩;(repeat' with_reducible first|apply aH|refine aI ?_|intro))
 all_goals try(refine⟨(‹Nat×Nat›.1,‹Nat×Nat›.2+1),?_⟩;(repeat' with_reducible first|apply aH|refine aI ?_|intro))
 all_goals try(refine⟨‹Nat×Nat›.1+1,?_⟩;(repeat' with_reducible first|apply aH|refine aI ?_|intro))
 all_goals(first|exact aZ|exact rfl|exact(ahm N)|exact(aiB N Y)|exact⟨an0⟩|exact⟨anB⟩|exact(o9 l4.num (W3 Y))|exact(o9 l4.hC (W3 Y))|exact(o9 l4.since (W3 Y))|exact(o9 l4.y4 (W3 Y))|exact(o9 l4.ea (W3 Y))|exact(WI N Y (adu (k:=‹Nat×Nat›.1) (m:=‹Nat×Nat›.2) N Y N Y))|exact(WI N Y (acU (by first|assumption|exact .inl ⟨ap,ap⟩|exact .inr ⟨ap,ap⟩) Y N))|exact(aiL N Y (aln Y N Y))|exact(fdN Y N (λh=>absurd h Y))|exact(fdN Y N (λ_=>And.intro Y (And.intro N N)))|exact(spN Y Y Y N (by first|assumption|exact .inl ap|exact .inr ap) (by first|assumption|exact .inl ap|exact .inr ap))|(rw[fdn N Y])|(rw[fdy N Y];rfl)|(have b:=IG (l:=l) (k:=‹Nat×Nat›.2) ((aJ v).getD ‹Nat×Nat›.1 (c4 (.nm .spec))).num;refine aY ?_ ?_<;>omega))
def Gj:=(ae OM (ae YO (ae acF tE)))
variable{rest:List Field}
def pi1{c:b6}{v:Int}(h:aM v 1 3=false):dy c rest v=1:=pb1 h
def pi2{c:b6}{v:Int}(h:aM v 1 3=true)(a:fh c v=false)(d:¬aO c v=0):dy c rest v=aO c v:=pb2 h a d
def pi3{c:b6}{v:Int}(a:(rest.getD k (c4 (.nm .field))).num<=bE v)(h:aM v 1 3=true)(d:fh c v=true\/aO c v=0)(e:k<rest.length):dy c rest v=6:=pb3 h d (R8 e) a
def pi0{c:b6}{v:Int}(h:aM v 1 3=true)(a:fh c v=true\/aO c v=0)(d:Wq (oZ rest v k))(e:rest.length<=k):dy c rest v=0:=pb0 h a d e
def akU{v:Int}(h:Wq (oZ rest v k))(c:bE v<(rest.getD k (c4 (.nm .field))).num)(a:k<rest.length):Wq (oZ rest v (k+1)):=aaL h (R8 a) N
def abI(c:b6)(rest:List Field)(v:Int):List (Nat×LI):=[(8,{σ:=Nat,F:=λk=>([(1,one (.fz (.nm .field) rest)),(2,one (.int v)),(3,one (.ptr 0 0)),(9,one (.int k))],[.box 37 (cellsOf (.nm .command) c)]),J:=λk=>k<=rest.length/\Wq (oZ rest v k),μ:=λk=>rest.length-k})]
theorem ZX:CK 148 (aD (ak JP (ak Cv fj)) av λ(c,rest,v,_) _=>⟨[rest.length<=20000],[.c (.own 0),.c (.int (dG c rest v))],some ([.row 5 .u8 (eO c rest v)]),true⟩):=ag λ(c,rest,v,_) _ u=>by
 have w:=bw u;refine bU Gj (abI c rest v) func148 (?_:(λ(g:Nat)(j:Nat)(o:Int)(q:Prop)(d:Int)=>(λ(e:l7 (Sh.nm NT.field))=>(λ(a:Int)=>(λ(t:Prop)=>bf c (g*48<=140737488355328->W v->(aM v d 3=false->d=o/\q)/\(aM v d 3=true->(fh c v=false->W (aO c v)->(¬aO c v=a->aO c v=o/\q)/\(aO c v=a->t))/\(fh c v=true->t)))) (∃(r:Nat),(rest=rest/\v=v/\a=(r:Int)/\aQ c c)/\(r<=j/\Wq (oZ rest v r))/\∀(s:Nat),s<=j/\Wq (oZ rest v s)->((s:Int)<(g:Int)->(a<=(s:Int)/\(s:Int)<(g:Int))/\d=d/\(W (rest.getD s e).num->W (rest.getD s e).hC->(rest.getD s e).n.n<18446744073709551616->(rest.getD s e).b.length*1<=140737488355328->W (bE v)->((rest.getD s e).num<=bE v->6=o/\q)/\(bE v<(rest.getD s e).num->W ((s:Int)+d)/\∃(p:Nat),(rest=rest/\v=v/\(s:Int)+d=(p:Int)/\aQ c c)/\(p<=j/\Wq (oZ rest v p))/\j-p<j-s)))/\((g:Int)<=(s:Int)->a<=c.kind/\a<=c.a6/\a<=c.seq/\a<=c.set/\a<=c.id/\a<=c.n/\(c.c6.length=0\/bO c.c6=true)/\((bI c v).length+g)*48<=140737488355328/\(W (ck (bI c v++rest))->ck (bI c v++rest)=o/\jt (bI c v++rest)=eO c rest v)))) 0) (c4 (Sh.nm NT.field))) rest.length rest.length (dG c rest v) (eO c rest v=[]) 1);repeat' first|(with_reducible first|apply aH|refine aI ?_|intro)|exact aZ|exact rfl|exact⟨aaq⟩|exact(akU Y Y N)|exact(sC (pi1 Y) am)|exact(sq (pi1 Y) am).symm|exact(sC (pi2 Y Y Y) Y)|exact(sq (pi2 Y Y Y) Y).symm|exact(sC (pi3 Y Y (by first|exact .inl Y|exact .inr Y) N) am)|exact(sq (pi3 Y Y (by first|exact .inl Y|exact .inr Y) N) am).symm|exact(aa8 (pi0 Y (by first|exact .inl Y|exact .inr Y) Y N))|exact(aba (pi0 Y (by first|exact .inl Y|exact .inr Y) Y N))|exact(af8 Y)|exact(XX Y)|(have h:0<=c.kind/\0<=c.a6/\0<=c.seq/\0<=c.set/\0<=c.id/\0<=c.n:=(by first|exact Rr Y|exact Og Y);omega)|(have h:=wv c v;omega)|refine⟨‹Nat›+1,?_⟩|refine⟨0,?_⟩
def Gm:=(ae ZX Gj)
def af9(f:Field):Int:=((min f.n.n 1048577:Nat):Int)
def aS(a:List Int)(f:Field):List Int:=if f.num<=6 then a.set f.num.toNat (af9 f)else a
def aR(l:List Field):List Int:=l.foldl aS [0,0,0,0,0,0,0]
def R5(c:b6)(f:Field):b6:=if f.num=7 then⟨c.kind,c.a6,c.seq,c.set,c.id,c.n,gj f.b,c.text⟩else if f.num=8 then⟨c.kind,c.a6,c.seq,c.set,c.id,c.n,c.c6,⟨f.b⟩⟩else c
def cR(l:List Field):b6:=l.foldl R5 bV
def Nc(a:l[k]? =some x):aR (l.take (k+1))=aS (aR (l.take k)) x:=by
 unfold aR;rw[ah a,K0];rfl
def Ig(a:l[k]? =some x):cR (l.take (k+1))=R5 (cR (l.take k)) x:=by
 unfold cR;rw[ah a,K0];rfl
def anE(a:l[k]? =some x)(h:x.num<=6):(aR (l.take k)).set x.num.toNat (cF (min x.n.n 1048577))=aR (l.take (k+1)):=by
 rw[Nc a,aS,O h,af9,ja N]
def aqz(a:l[k]? =some x)(h:6<x.num):aR (l.take k)=aR (l.take (k+1)):=by
 rw[Nc a,aS,X N]
def arv(a:l[k]? =some x)(h:x.num=7):cR (l.take (k+1))=⟨(cR (l.take k)).kind,(cR (l.take k)).a6,(cR (l.take k)).seq,(cR (l.take k)).set,(cR (l.take k)).id,(cR (l.take k)).n,gj x.b,(cR (l.take k)).text⟩:=by
 rw[Ig a,R5,O h]
def aqQ(a:l[k]? =some x)(h:x.num=8):cR (l.take (k+1))=⟨(cR (l.take k)).kind,(cR (l.take k)).a6,(cR (l.take k)).seq,(cR (l.take k)).set,(cR (l.take k)).id,(cR (l.take k)).n,(cR (l.take k)).c6,⟨x.b⟩⟩:=by
 rw[Ig a,R5,X N,O h]
def arh(a:l[k]? =some x)(h:¬x.num=7)(c:¬x.num=8):cR (l.take (k+1))=cR (l.take k):=by
 rw[Ig a,R5,X h,X c]
def G4(x y:Int):Prop:=∃n:Nat,n<18446744073709551616/\x=((min n 1048577:Nat):Int)/\y=cF n
structure y3(a:List Int)(c r:b6):Prop where
 len:a.length=7
 n1:G4 (a.getD 1 (c4 .int)) r.kind
 n2:G4 (a.getD 2 (c4 .int)) r.a6
 n3:G4 (a.getD 3 (c4 .int)) r.seq
 n4:G4 (a.getD 4 (c4 .int)) r.set
 n5:G4 (a.getD 5 (c4 .int)) r.id
 n6:G4 (a.getD 6 (c4 .int)) r.n
 ch:c.c6=r.c6
 tx:c.text=r.text
def aqM:y3 [0,0,0,0,0,0,0] bV bV:=⟨rfl,⟨0,am,rfl,rfl⟩,⟨0,am,rfl,rfl⟩,⟨0,am,rfl,rfl⟩,⟨0,am,rfl,rfl⟩,⟨0,am,rfl,rfl⟩,⟨0,am,rfl,rfl⟩,rfl,rfl⟩
def aph(h:f.n.n<18446744073709551616):G4 (af9 f) (JF f):=⟨f.n.n,h,rfl,eU h⟩
variable{r:b6}{a:List Int}
def aoi{c:b6}(h:y3 a c r)(v:f.n.n<18446744073709551616)(y:1<=f.num):y3 (aS a f) (R5 c f) (fV r f):=by
 obtain⟨w,d,g,j,o,p,q,s,t⟩:=h;have u:=aph v;match a,w with
 |[a0,z,A,B,C,D,F],_=>
  have:f.num=1\/f.num=2\/f.num=3\/f.num=4\/f.num=5\/f.num=6\/f.num=7\/f.num=8\/8<f.num:=by omega
  unfold aS R5 fV;rcases this with e|e|e|e|e|e|e|e|e
  .simp[e];exact⟨rfl,u,g,j,o,p,q,s,t⟩
  .simp[e];exact⟨rfl,d,u,j,o,p,q,s,t⟩
  .simp[e];exact⟨rfl,d,g,u,o,p,q,s,t⟩
  .simp[e];exact⟨rfl,d,g,j,u,p,q,s,t⟩
  .simp[e];exact⟨rfl,d,g,j,o,u,q,s,t⟩
  .simp[e];exact⟨rfl,d,g,j,o,p,u,s,t⟩
  .simp[e];exact⟨rfl,d,g,j,o,p,q,rfl,t⟩
  .simp[e];exact⟨rfl,d,g,j,o,p,q,s,rfl⟩
  rw[X N,X N,X N,X N,X N,X N,X N,X N,X N,X N,X N];exact⟨rfl,d,g,j,o,p,q,s,t⟩
def arz(h:Wq (y3 (aR (l.take k)) (cR (l.take k)) (cw (l.take k))))(c:l[k]? =some x)(d:x.n.n<18446744073709551616)(e:1<=x.num):Wq (y3 (aR (l.take (k+1))) (cR (l.take (k+1))) (cw (l.take (k+1)))):=by
 rw[Nc c,Ig c,eG c];exact⟨aoi h.h d e⟩
def aas{v u:Int}(e:(aV b).2=0)(g:fg (aV b).1 v=0)(h:(bT (aV b).1 u)[k]? =some x):1<=x.num/\x.b.length<=16384:=by
 have j:=Hh (S2 e g);have c:=C5 h;refine⟨?_,Uc (S2 e g) x c⟩;have d:=rL (Aa j.2) x (by unfold bT at c;exact(T2.1 c).1);unfold du at d;simp at d;exact d.1.1
def P3(a:List Int)(c:b6):b6:=⟨a.getD 1 (c4 .int),a.getD 2 (c4 .int),a.getD 3 (c4 .int),a.getD 4 (c4 .int),a.getD 5 (c4 .int),a.getD 6 (c4 .int),c.c6,c.text⟩
def T7(c:b6):Prop:=(0<=c.kind/\c.kind<=1048576)/\(0<=c.a6/\c.a6<=1048576)/\(0<=c.seq/\c.seq<=1048576)/\(0<=c.set/\c.set<=1048576)/\(0<=c.id/\c.id<=1048576)/\(0<=c.n/\c.n<=1048576)
def sP{n m:Int}{b:Bool}(h:lq n m b=true)(c:0<=m):0<=n/\n<=m:=by
 unfold lq at h;cases b<;>simp at h<;>omega
def OV{k:Int}(h:1<=k/\k<=12):(kI k).2<=64:=by
 have:k=1\/k=2\/k=3\/k=4\/k=5\/k=6\/k=7\/k=8\/k=9\/k=10\/k=11\/k=12:=by omega
 rcases this with rfl|rfl|rfl|rfl|rfl|rfl|rfl|rfl|rfl|rfl|rfl|rfl<;>decide
def R_{c:b6}{v:Int}(h:dG c rest v=0):T7 c:=by
 obtain⟨⟨_,j,_⟩,_⟩:=Jl h;rcases j with h|h
 .unfold fh sI aM at h;simp at h;unfold T7;omega
 obtain⟨_,d,u,e⟩:=nz h;have g:=pb d;have w:=yF g;have o:=OV g;unfold fX at e;simp at e;obtain⟨⟨⟨⟨⟨⟨⟨y,z⟩,A⟩,_⟩,p⟩,q⟩,s⟩,t⟩:=e;have B:=sP p am;have C:=sP q am;have D:=sP s am;have F:=sP t am;unfold T7;omega
def LF{x y:Int}(h:G4 x y)(c:(0<=x/\x<=1048576)\/(0<=y/\y<=1048576)):x=y:=by
 obtain⟨n,d,rfl,rfl⟩:=h;unfold cF at c⊢;split at c<;>split<;>omega
def agV{c:b6}(h:y3 a c r)(d:T7 (P3 a c)\/T7 r):P3 a c=r:=by
 have e:=LF h.n1 (d.imp (·.1) (·.1));have g:=LF h.n2 (d.imp (·.2.1) (·.2.1));have j:=LF h.n3 (d.imp (·.2.2.1) (·.2.2.1));have o:=LF h.n4 (d.imp (·.2.2.2.1) (·.2.2.2.1));have p:=LF h.n5 (d.imp (·.2.2.2.2.1) (·.2.2.2.2.1));have q:=LF h.n6 (d.imp (·.2.2.2.2.2) (·.2.2.2.2.2));unfold P3;rw[e,g,j,o,p,q,h.ch,h.tx]
def aqk{v:Int}(h:aM v 1 3=true)(j:(aV b).2=0)(o:fg (aV b).1 v=0)(g:Wq (y3 (aR ((bT (aV b).1 (bE v)).take k)) (cR ((bT (aV b).1 (bE v)).take k)) (cw ((bT (aV b).1 (bE v)).take k))))(p:(bT (aV b).1 (bE v)).length<=k)(c:¬dG (P3 (aR ((bT (aV b).1 (bE v)).take k)) (cR ((bT (aV b).1 (bE v)).take k))) (dr (aV b).1 (bE v)) v=0\/¬n9.mk (eO (P3 (aR ((bT (aV b).1 (bE v)).take k)) (cR ((bT (aV b).1 (bE v)).take k))) (dr (aV b).1 (bE v)) v)=n9.mk b):cP b v=⟨bV,[],6⟩:=by
 refine alC (wT h) (S2 j o) ?_;rw[take_of_length_le p]at g c;by_cases d:dG (cw (bT (aV b).1 (bE v))) (dr (aV b).1 (bE v)) v=0
 .right;rw[agV g.h (.inr (R_ d))]at c;intro e;rw[d,e]at c;simp at c
 exact .inl d
def ajq{v:Int}(h:aM v 1 3=true)(g:(aV b).2=0)(j:fg (aV b).1 v=0)(o:Wq (y3 (aR ((bT (aV b).1 (bE v)).take k)) (cR ((bT (aV b).1 (bE v)).take k)) (cw ((bT (aV b).1 (bE v)).take k))))(p:(bT (aV b).1 (bE v)).length<=k)(c:dG (P3 (aR ((bT (aV b).1 (bE v)).take k)) (cR ((bT (aV b).1 (bE v)).take k))) (dr (aV b).1 (bE v)) v=0)(d:n9.mk (eO (P3 (aR ((bT (aV b).1 (bE v)).take k)) (cR ((bT (aV b).1 (bE v)).take k))) (dr (aV b).1 (bE v)) v)=n9.mk b):cP b v=⟨P3 (aR ((bT (aV b).1 (bE v)).take k)) (cR ((bT (aV b).1 (bE v)).take k)),dr (aV b).1 (bE v),0⟩:=by
 have e:=agV o.h (.inl (R_ c));rw[e]at c d⊢;rw[take_of_length_le p]at c d⊢;exact alD (wT h) (S2 g j) ⟨c,o9 n9.b d⟩
def agY{v:Int}(h:aM v 1 3=false):cP b v=⟨bV,[],1⟩:=tq1 h
def apY{v:Int}(h:aM v 1 3=true)(c:(aV b).2=0)(d:¬fg (aV b).1 v=0):cP b v=⟨bV,[],fg (aV b).1 v⟩:=tq2 h c d
def aoE{v:Int}(h:aM v 1 3=true)(c:¬(aV b).2=0):cP b v=⟨bV,[],(aV b).2⟩:=tq3 h c
def abo(b:List UInt8)(v:Int):List (Nat×LI):=[(13,{σ:=Nat,F:=λk=>([(0,one (.fz .u8 b)),(1,one (.int v)),(4,one (.ptr 0 0)),(9,one (.fz (.nm .field) (bT (aV b).1 (bE v)))),(10,one (.fz (.nm .field) (dr (aV b).1 (bE v)))),(11,one (.ptr 1 0)),(12,one (.ptr 2 0)),(13,one (.int k))],[.box 37 (cellsOf (.nm .command) bV),.A8 273 .int 7 (aR ((bT (aV b).1 (bE v)).take k)),.box 37 (cellsOf (.nm .command) (cR ((bT (aV b).1 (bE v)).take k)))]),J:=λk=>k<=(bT (aV b).1 (bE v)).length/\Wq (y3 (aR ((bT (aV b).1 (bE v)).take k)) (cR ((bT (aV b).1 (bE v)).take k)) (cw ((bT (aV b).1 (bE v)).take k))),μ:=λk=>(bT (aV b).1 (bE v)).length-k})]
theorem WD:CK 234 (aD (ak we fj) av λ(b,v,_) _=>{rs:=[.agg (cellsOf (.nm .command) ((cP b v).c)),.c (.fz (.nm .field) ((cP b v).r)),.c (.int ((cP b v).e))]}):=ag λ(b,v,_) _ _=>by
 refine al Gm (abo b v) func234 (?_:(λ(t:Prop)(w:Prop)(I:Nat)(Z:Nat)(a:Nat)(f:Nat)(i:Nat)(l:Nat)(q10:Int)(q9:Int)(q8:Nat)(L:TkR)(c:Nat)=>(λ(G:Int)(n:Int)(K:l7 Sh.int)(H:b6)=>(λ(P:Prop)(Q:Prop)(j:Int)=>(λ(S:Prop)(T:Prop)(U:Prop)(V:Prop)(R:List Field)=>(λ(y:Prop)(g:List Field)=>(λ(z:Prop)(p:Nat)=>b.length*q8<=I->W v->(aM v n 3=false->U/\V/\T/\S/\j=H.id/\j=H.n/\P/\Q/\L.r=[]/\n=L.e)/\(aM v n 3=true->(aV b).1.length*48<=I->W (aV b).2->(¬(aV b).2=j->U/\V/\T/\S/\j=H.id/\j=H.n/\P/\Q/\L.r=[]/\(aV b).2=L.e)/\((aV b).2=j->n=n/\(W q9->(¬q9=j->U/\V/\T/\S/\j=H.id/\j=H.n/\P/\Q/\L.r=[]/\q9=L.e)/\(q9=j->n=n/\(W (bE v)->g.length*48<=I->R.length*48<=I->∃(s0:Nat),(λ(A:b6)=>(t/\w/\z/\y/\j=(s0:Int)/\j=bV.kind/\j=bV.a6/\j=bV.seq/\j=bV.set/\j=bV.id/\j=bV.n/\bV.c6=[]/\n9.mk []=bV.text/\[j,j,j,j,j,j,j]=aR (take s0 g)/\j=A.kind/\j=A.a6/\j=A.seq/\j=A.set/\j=A.id/\j=A.n/\A.c6=[]/\n9.mk []=A.text)/\(s0<=p/\Wq (y3 (aR (take s0 g)) A (cw (take s0 g))))/\∀(s:Nat),(λ(C:Nat)(B:Int)=>(λ(D:Prop)(m:List Field)=>(λ(q:List Int)(o:b6)=>(λ(q37:Int)(J:b6)=>s<=p/\Wq (y3 q o (cw m))->((s:Int)<(g.length:Int)->j<=(s:Int)/\(s:Int)<(g.length:Int)/\∀(x:Field),(λ(q44:Prop)(e:Prop)(q42:b6)(q41:b6)(q40:b6)(F:Prop)=>(λ(r:List (l7 Sh.int))=>g[s]? =some x->W x.num->W x.hC->x.n.n<18446744073709551616->x.b.length*q8<=I->(x.num<=6->j<=x.num/\x.num<G/\x.num.toNat<c/\(e->x.b.length<=100000/\(q44->W (jr x.b)->(F->D/\∃(d:Nat),(t/\w/\z/\y/\B=(d:Int)/\bc bV bV (r=aR (take d g)/\aQ q42 (cR (take d g))))/\(d<=p/\Wq (y3 (aR (take d g)) (cR (take d g)) (cw (take d g))))/\p-d<C)/\(¬F->D/\∃(d:Nat),(t/\w/\z/\y/\B=(d:Int)/\bc bV bV (r=aR (take d g)/\aQ q40 (cR (take d g))))/\(d<=p/\Wq (y3 (aR (take d g)) (cR (take d g)) (cw (take d g))))/\p-d<C)))/\(¬e->(F->D/\∃(d:Nat),(t/\w/\z/\y/\B=(d:Int)/\bc bV bV (r=aR (take d g)/\aQ q41 (cR (take d g))))/\(d<=p/\Wq (y3 (aR (take d g)) (cR (take d g)) (cw (take d g))))/\p-d<C)/\(¬F->D/\∃(d:Nat),(t/\w/\z/\y/\B=(d:Int)/\bc bV bV (r=aR (take d g)/\aQ o (cR (take d g))))/\(d<=p/\Wq (y3 (aR (take d g)) (cR (take d g)) (cw (take d g))))/\p-d<C)))/\(6<x.num->(e->x.b.length<=100000/\(q44->W (jr x.b)->(F->D/\∃(d:Nat),(t/\w/\z/\y/\B=(d:Int)/\bc bV bV (q=aR (take d g)/\aQ q42 (cR (take d g))))/\(d<=p/\Wq (y3 (aR (take d g)) (cR (take d g)) (cw (take d g))))/\p-d<C)/\(¬F->D/\∃(d:Nat),(t/\w/\z/\y/\B=(d:Int)/\bc bV bV (q=aR (take d g)/\aQ q40 (cR (take d g))))/\(d<=p/\Wq (y3 (aR (take d g)) (cR (take d g)) (cw (take d g))))/\p-d<C)))/\(¬e->(F->D/\∃(d:Nat),(t/\w/\z/\y/\B=(d:Int)/\bc bV bV (q=aR (take d g)/\aQ q41 (cR (take d g))))/\(d<=p/\Wq (y3 (aR (take d g)) (cR (take d g)) (cw (take d g))))/\p-d<C)/\(¬F->D/\∃(d:Nat),(t/\w/\z/\y/\B=(d:Int)/\bc bV bV (q=aR (take d g)/\aQ o (cR (take d g))))/\(d<=p/\Wq (y3 (aR (take d g)) (cR (take d g)) (cw (take d g))))/\p-d<C)))) (q.set x.num.toNat (cF (min x.n.n 1048577)))) ((gj x.b).length*8<=I) (x.num=7) (b6.mk o.kind q37 o.seq o.set o.id o.n (gj x.b) (n9.mk x.b)) (b6.mk o.kind q37 o.seq o.set o.id o.n o.c6 (n9.mk x.b)) (b6.mk o.kind q37 o.seq o.set o.id o.n (gj x.b) o.text) (x.num=q10))/\((g.length:Int)<=(s:Int)->j<=n/\n<G/\q8<c/\(W (q.getD q8 K)->j<=2/\2<G/\l<c/\(W (q.getD l K)->j<=3/\3<G/\i<c/\(W (q.getD i K)->j<=4/\4<G/\f<c/\(W (q.getD f K)->j<=5/\5<G/\a<c/\(W (q.getD a K)->j<=6/\6<G/\Z<c/\(W (q.getD Z K)->R.length<=20000/\(W (dG J R v)->(¬dG J R v=j\/¬n9.mk (eO J R v)=n9.mk b->U/\V/\T/\S/\j=H.id/\j=H.n/\P/\Q/\L.r=[]/\6=L.e)/\(dG J R v=j/\n9.mk (eO J R v)=n9.mk b->bc J H (R=L.r/\j=L.e))))))))))) o.a6 (b6.mk (q.getD q8 K) (q.getD l K) (q.getD i K) (q.getD f K) (q.getD a K) (q.getD Z K) o.c6 o.text)) (aR m) (cR m)) (W B) (take s g)) (p-s) ((s:Int)+n)) (cR (take s0 g)))))))) (g=g) g.length) (R=R) (bT (aV b).1 (bE v))) (j=H.set) (j=H.seq) (j=H.kind) (j=H.a6) (dr (aV b).1 (bE v))) (H.c6=[]) (n9.mk []=H.text) 0) (c:Int) 1 (c4 Sh.int) L.c) (b=b) (v=v) 140737488355328 6 5 4 3 2 8 (fg (aV b).1 v) 1 (cP b v) 7)
 repeat' first|(with_reducible first|apply aH|refine aI ?_|intro)|exact aZ|exact rfl|exact⟨aqM⟩|(rw[agY Y]<;>rfl)|(rw[apY Y Y Y]<;>rfl)|(rw[aoE Y Y]<;>rfl)|(rw[aqk Y Y Y Y N ap]<;>rfl)|(rw[ajq Y Y Y Y N ap ap]<;>rfl)|exact(arz Y Y Y (aas Y Y Y).1)|exact(anE Y Y)|exact(aqz Y Y)|(rw[arv Y Y]<;>rfl)|(rw[aqQ Y Y]<;>rfl)|(rw[arh Y N N]<;>rfl)|(have h:=aas (u:=bE v) (k:=‹Nat›) (show(aV b).2=0 by with_reducible assumption) (show fg (aV b).1 v=0 by with_reducible assumption) Y;omega)|(have h1:=tY (aV b).1 (bE v);have h2:=HX b;omega)|refine⟨‹Nat›+1,?_⟩|refine⟨0,?_⟩
def qR:=(ae WD Gm)
def ew(c:b6)(a8 v:Int):eA×Int:=if aO c v=0 then(if dG c [] v=0 then(⟨a8,eO c [] v⟩,0)else(⟨0,[]⟩,dG c [] v))else(⟨0,[]⟩,aO c v)
structure RdM where
 c:b6
 some:Bool
 e:Int
def bd(x:eA)(v:Int):RdM:=
 if x.b.length=0 then(if v<1\/3<v then⟨bV,false,1⟩else⟨bV,false,0⟩)
 else if¬(cP x.b v).e=0 then⟨bV,false,(cP x.b v).e⟩
 else if br (cP x.b v).c.kind=0\/v<br (cP x.b v).c.kind then⟨bV,false,10⟩
 else⟨(cP x.b v).c,true,0⟩
variable{a8:Int}
def en1{c:b6}{v:Int}(h:¬aO c v=0):ew c a8 v=(⟨0,[]⟩,aO c v):=by unfold ew;rw[X h]
def en2{c:b6}{v:Int}(h:aO c v=0)(d:¬dG c [] v=0):ew c a8 v=(⟨0,[]⟩,dG c [] v):=by unfold ew;rw[O h,X d]
def en3{c:b6}{v:Int}(h:aO c v=0)(d:dG c [] v=0):ew c a8 v=(⟨a8,eO c [] v⟩,0):=by unfold ew;rw[O h,O d]
section
variable{x:eA}{v:Int}
def rdA(h:((x.b.length:Nat):Int)=0)(c:v<1\/3<v):bd x v=⟨bV,false,1⟩:=by unfold bd;rw[O N,O c]
def rdB(h:((x.b.length:Nat):Int)=0)(c:1<=v)(d:v<=3):bd x v=⟨bV,false,0⟩:=by unfold bd;rw[O N,X N]
def rdC(h:¬((x.b.length:Nat):Int)=0)(c:¬(cP x.b v).e=0):bd x v=⟨bV,false,(cP x.b v).e⟩:=by unfold bd;rw[X N,O c]
def rdD(h:¬((x.b.length:Nat):Int)=0)(d:(cP x.b v).e=0)(g:br (cP x.b v).c.kind=0\/v<br (cP x.b v).c.kind):bd x v=⟨bV,false,10⟩:=by unfold bd;rw[X N,X (by rw[d];simp),O g]
def rdE(h:¬((x.b.length:Nat):Int)=0)(d:(cP x.b v).e=0)(g:¬br (cP x.b v).c.kind=0)(j:br (cP x.b v).c.kind<=v):bd x v=⟨(cP x.b v).c,true,0⟩:=by unfold bd;rw[X N,X (by rw[d];simp),X N]
def rdF(h2:v<1\/3<v):bd x v=⟨bV,false,1⟩:=by
 by_cases h:((x.b.length:Nat):Int)=0
 .exact rdA h h2
 have e:cP x.b v=⟨bV,[],1⟩:=agY (by unfold aM;rcases h2 with h2|h2<;>simp<;>omega);rw[rdC h (by rw[e];decide),e]
end
def acz:CK 75 (aD (ak JP ij) av λ(c,a8,v,_) _=>{rs:=[.agg (cellsOf (.nm .entry) ((ew c a8 v).1)),.c (.int ((ew c a8 v).2))]}):=ag λ(c,a8,v,_) _ _=>by
 refine al qR [] func75 (?_:(λ(g:Int)(e:Int)(d:eA×Int)=>bf c (W a8->W v->W (aO c v)->(¬aO c v=e->e=d.1.a8/\d.1.b=[]/\aO c v=d.2)/\(aO c v=e->(0:Nat)<=(20000:Nat)/\(W g->(¬g=e->e=d.1.a8/\d.1.b=[]/\g=d.2)/\(g=e->a8=d.1.a8/\eO c [] v=d.1.b/\e=d.2))))) (dG c [] v) (0:Int) (ew c a8 v));repeat' first|(with_reducible first|apply aH|refine aI ?_|intro)|exact aZ|(rw[en1 Y]<;>rfl)|(rw[en2 Y Y]<;>rfl)|(rw[en3 Y Y]<;>rfl)
def VD:CK 98 (aD (ak JP ij) av λ(c,a8,v,_) _=>{rs:=[.agg (cellsOf (.nm .entry) ((ew c a8 v).1)),.c (.int ((ew c a8 v).2))]}):=ag λ(c,a8,v,_) _ _=>by
 refine al qR [] func98 (?_:(λ(g:Int)(e:Int)(d:eA×Int)=>bf c (W a8->W v->W (aO c v)->(¬aO c v=e->e=d.1.a8/\d.1.b=[]/\aO c v=d.2)/\(aO c v=e->(0:Nat)<=(20000:Nat)/\(W g->(¬g=e->e=d.1.a8/\d.1.b=[]/\g=d.2)/\(g=e->a8=d.1.a8/\eO c [] v=d.1.b/\e=d.2))))) (dG c [] v) (0:Int) (ew c a8 v));repeat' first|(with_reducible first|apply aH|refine aI ?_|intro)|exact aZ|(rw[en1 Y]<;>rfl)|(rw[en2 Y Y]<;>rfl)|(rw[en3 Y Y]<;>rfl)
def Qx:CK 222 (aD (ak (kT (.nm .entry)) fj) av λ(x,v,_) _=>{rs:=[.agg (cellsOf (.nm .command) ((bd x v).c)),.c (.bool (.atom ((bd x v).some))),.c (.int ((bd x v).e))]}):=ag λ(x,v,_) _ _=>by
 refine al qR [] func222 (?_:(λo=>(λs p=>(λq d g=>(λh j t u w y=>W x.a8->x.b.length*1<=140737488355328->W v->((x.b.length:Int)=d->(v<1\/3<v->t/\u/\j/\h/\d=g.id/\d=g.n/\w/\y/\s/\1=o.e)/\(1<=v/\v<=3->t/\u/\j/\h/\d=g.id/\d=g.n/\w/\y/\s/\d=o.e))/\(¬(x.b.length:Int)=d->bf p.c (p.r.length*48<=140737488355328->W p.e->(¬p.e=d->t/\u/\j/\h/\d=g.id/\d=g.n/\w/\y/\s/\p.e=o.e)/\(p.e=d->W q->(q=d\/v<q->t/\u/\j/\h/\d=g.id/\d=g.n/\w/\y/\s/\10=o.e)/\(¬q=d/\q<=v->bc p.c g (true=o.some/\d=o.e)))))) (d=g.set) (d=g.seq) (d=g.kind) (d=g.a6) (g.c6=[]) (n9.mk []=g.text)) (br p.c.kind) (0:Int) o.c) (false=o.some) (cP x.b v)) (bd x v));repeat' first|(with_reducible first|apply aH|refine aI ?_|intro)|exact aZ|(rw[rdF ap]<;>rfl)|(rw[rdB Y Y Y]<;>rfl)|(rw[rdC Y Y]<;>rfl)|(rw[rdD Y Y ap]<;>rfl)|(rw[rdE Y Y Y Y]<;>rfl)
def MQ:CK 215 (aD (ak (kT (.nm .entry)) fj) av λ(x,v,_) _=>{rs:=[.agg (cellsOf (.nm .command) ((bd x v).c)),.c (.bool (.atom ((bd x v).some))),.c (.int ((bd x v).e))]}):=ag λ(x,v,_) _ _=>by
 refine al qR [] func215 (?_:(λo=>(λs p=>(λq d g=>(λh j t u w y=>W x.a8->x.b.length*1<=140737488355328->W v->(v<1\/3<v->t/\u/\j/\h/\d=g.id/\d=g.n/\w/\y/\s/\1=o.e)/\(1<=v/\v<=3->((x.b.length:Int)=d->t/\u/\j/\h/\d=g.id/\d=g.n/\w/\y/\s/\d=o.e)/\(¬(x.b.length:Int)=d->bf p.c (p.r.length*48<=140737488355328->W p.e->(¬p.e=d->t/\u/\j/\h/\d=g.id/\d=g.n/\w/\y/\s/\p.e=o.e)/\(p.e=d->W q->(q=d\/v<q->t/\u/\j/\h/\d=g.id/\d=g.n/\w/\y/\s/\10=o.e)/\(¬q=d/\q<=v->bc p.c g (true=o.some/\d=o.e))))))) (d=g.set) (d=g.seq) (d=g.kind) (d=g.a6) (g.c6=[]) (n9.mk []=g.text)) (br p.c.kind) (0:Int) o.c) (false=o.some) (cP x.b v)) (bd x v));repeat' first|(with_reducible first|apply aH|refine aI ?_|intro)|exact aZ|(rw[rdF ap]<;>rfl)|(rw[rdB Y Y Y]<;>rfl)|(rw[rdC Y Y]<;>rfl)|(rw[rdD Y Y ap]<;>rfl)|(rw[rdE Y Y Y Y]<;>rfl)
def Gs:=(ae MQ (ae Qx (ae VD (ae acz qR))))
def jA(v:Int)(s:c5)(x:eA):c5:=if(bd x v).some=true then(jS s (bd x v).c).1 else s
def oY(v:Int)(s:c5)(x:eA):l3:=if(bd x v).some=true then(jS s (bd x v).c).2 else⟨0,0⟩
def pS(v:Int)(s:c5)(l:List eA):c5:=l.foldl (jA v) s
def pR(v:Int):c5->List eA->List l3
 |_,[]=>[]
 |s,x::l=>oY v s x::pR v (jA v s x) l
def pN(v:Int):List eA->Nat
 |[]=>0
 |x::l=>if(bd x v).e=0 then pN v l+1 else 0
def pE(v:Int):List eA->Int
 |[]=>0
 |x::l=>if(bd x v).e=0 then pE v l else(bd x v).e
def x8(v:Int)(s:c5)(l:List eA):c5:=pS v s (l.take (pN v l))
def B3(v:Int)(s:c5)(l:List eA):List l3:=pR v s (l.take (pN v l))
section
variable{v:Int}{s:c5}{l:List eA}{x:eA}{k:Nat}
def HN(c:l[k]? =some x):jA v (pS v s (l.take k)) x=pS v s (l.take (k+1)):=by
 rw[ah c];unfold pS;rw[K0];rfl
theorem G_:∀{l:List eA} {s:c5},pR v s (l++[x])=pR v s l++[oY v (pS v s l) x]
 |[],_=>rfl
 |y::l,s=>by
  show oY v s y::pR v (jA v s y) (l++[x])=oY v s y::(pR v (jA v s y) l++[oY v (pS v (jA v s y) l) x]);rw[G_]
def HR(c:l[k]? =some x):pR v s (l.take k)++[oY v (pS v s (l.take k)) x]=pR v s (l.take (k+1)):=by
 rw[ah c,G_]
theorem yT:∀{l:List eA} {s:c5},(pR v s l).length=l.length
 |[],_=>rfl
 |y::l,s=>by
  show(pR v (jA v s y) l).length+1=l.length+1;rw[yT]
def x3(v:Int)(l:List eA):Prop:=∀x∈l,(bd x v).e=0
theorem zl(h:x3 v (l.take k))(c:l[k]? =some x)(d:(bd x v).e=0):x3 v (l.take (k+1)):=by
 rw[ah c];intro y hy;rcases A7.1 hy with hy|hy
 .exact h y hy
 grind
theorem TH:∀{l:List eA},x3 v l->pN v l=l.length/\pE v l=0
 |[],_=>⟨rfl,rfl⟩
 |y::l,h=>by
  obtain⟨d,e⟩:=TH (l:=l) λz c=>h z (x9 _ c);have g:=h y A9;unfold pN pE;grind
theorem Ho:∀{l:List eA} {k:Nat},x3 v (l.take k)->l[k]? =some x->¬(bd x v).e=0->pN v l=k/\pE v l=(bd x v).e
 |[],k,_,c,_=>by simp at c
 |y::l,0,_,c,d=>by
  simp at c;subst c;unfold pN pE;grind
 |y::l,k+1,h,c,d=>by
  have g:=h y aa;obtain⟨j,o⟩:=Ho (l:=l) (k:=k) (λz p=>h z (by rw[M4];exact x9 _ p)) (by simpa using c) d;unfold pN pE;rw[O g,O g,j,o];exact⟨rfl,rfl⟩
def tF(h:x3 v (l.take k))(c:l[k]? =some x)(d:¬(bd x v).e=0):pS v s (l.take k)=x8 v s l/\pR v s (l.take k)=B3 v s l/\(bd x v).e=pE v l:=by
 obtain⟨g,j⟩:=Ho h c d;unfold x8 B3;rw[g,j];exact⟨rfl,rfl,rfl⟩
def yy(h:x3 v (l.take k))(c:l.length<=k):pS v s (l.take k)=x8 v s l/\pR v s (l.take k)=B3 v s l/\0=pE v l:=by
 rw[take_of_length_le c]at h⊢;obtain⟨d,e⟩:=TH h;unfold x8 B3;rw[d,e,O1];exact⟨rfl,rfl,rfl⟩
end
def rP:Code->Code
 |.seq x _=>x
 |c=>c
def iE:Code->Code
 |.seq _ y=>y
 |c=>c
def Y4:Code->Code
 |.block _ c=>c
 |.loop c=>c
 |c=>c
def ani:Code->Code
 |.rangeFunc _ _ a _=>a
 |c=>c
def aqf:Code->Code
 |.rangeFunc _ _ _ b=>b
 |c=>c
def mh:Code->List Oper
 |.region _ c _=>c.toList
 |_=>[]
def aaN(f:Func):Code:=f.body.getD .skip
def xc:=kC (cL (.nm .entry))
theorem adi:CK 202 (aD (ak xc fj) av λ(l,v,_) _=>⟨[],[.c (.fn 221 [] [(0,0),(1,0)])],some ([.box 32 ([.fz (.nm .entry) l]),.box 3 ([.int v])]),true⟩):=ag λ(l,v,_) _ _=>by
 refine bU Gs [] func202 (?_:l.length*32<=140737488355328->W v->l=l/\v=v);grind
def afO{P:Program}{s:TypeId->Option Sh}{a:ic}(_:dN P s a):ic:=a
def HG:=(ae adi Gs)
def gL:ic:=afO HG
def tZ:dN prog (bj p6) gL:=HG
end Go.Proofs.YtoecbhljidgajaaGreat
namespace Go.Proofs.YtoecbhljidgajaaGreat
open Go.Proofs.Tryz
open Go.RowKit
open Go.MapKept (IsKey run_checkKey run_findKey run_setObj_map heap_set heap_alloc)
def Wy(k:Int):List (Int×Value)->Bool
 |[]=>false
 |p::r=>decide (k=p.1)||Wy k r
def abd(w:World)(g:Nat)(L:List (Int×Value)):Prop:=
 ∃a,w.heap[g]? =some (.map a L.length)/\a.toList.map (λe=>(e.key,e.val))=L.map (λp=>(Value.int .i64 p.1,p.2))
theorem xM{k:Int}:∀{l:List MapEntry} {L:List (Int×Value)} {i:Nat},l.map (λe=>(e.key,e.val))=L.map (λp=>(Value.int .i64 p.1,p.2))->Wy k L=false->Instr.findNow (.int .i64) (.int .i64 k) l i=some none
 |[],[],i,_,_=>rfl
 |e::l,p::L,i,h,a=>by
  simp at h;obtain⟨⟨b,f⟩,c⟩:=h;simp[Wy]at a;have d:(k==p.1)=false:=by simpa using a.1
  simp[Instr.findNow,b,Instr.sameNow,d,xM (i:=i+1) c a.2]
section
variable{P:Program}{Q:Exit->Act->World->Prop}{n:Nat}{l rest:List Oper}{fr:Fr}{w:World}{x y z':Operand}{t ty kt et:TypeId}{pos:String}{af:Array Edge}{g:Nat}{L:List (Int×Value)}{k:Int}
def WO.insert{v:Value}(p:ev fr x=some (.map (some g)))(q:ev fr y=some (.int .i64 k))(r:ev fr z'=some v)(h:abd w g L)(b:Wy k L=false)(u:P.underlying t=some (.map kt et))(j:P.underlying kt=some (.int .i64))
  (z:∀w',abd w' g (L++[(k,v)])->Kp [g] w w'->WO P Q n l rest fr w'):
  WO P Q n l (⟨none,.insert t x y z',ty,pos,af,none⟩::rest) fr w:=by
 obtain⟨a,c,m⟩:=h;have A:=xM (k:=k) (i:=0) m b;have d:IsKey (.int .i64) (.int .i64 k):=rfl;have o:=heap_set (o':=.map (a.push {key:=.int .i64 k,val:=v,born:=L.length}) (L.length+1)) c;refine WO.s (w':={w with heap:=w.heap.setIfInBounds g (.map (a.push {key:=.int .i64 k,val:=v,born:=L.length}) (L.length+1))}) (λB _ _ _ _ f=>?_) (z _ ⟨_,by simpa using o.1,by simp[m]⟩ ⟨rfl,rfl,rfl,aa,λi C b=>o.2 i (by simpa using b)⟩);have e:(Instr.mapUpdate t (.map (some g)) (.int .i64 k) v).run P w=.ok () {w with heap:=w.heap.setIfInBounds g (.map (a.push {key:=.int .i64 k,val:=v,born:=L.length}) (L.length+1))}:=by
  unfold Instr.mapUpdate;simp[C0 u];simp[Q6 c,run_checkKey j d,run_findKey j A,run_setObj_map _ c]
 simp[execOp,f.ev p,f.ev q,f.ev r,e]
end
def cJ:List (Int×List KC):=[(1,[.i 1,.i 3,.b false,.i 0,.i 0,.f 155]),(2,[.i 0,.i 1048576,.b true,.i 5,.i 0,.f 156]),(3,[.i 1,.i 64,.b true,.i 1048576,.i 200,.f 157]),(4,[.i 1,.i 64,.b false,.i 0,.i 0,.f 158])]
def af4:List (Int×Value):=cJ.map λp=>(p.1,.agg (p.2.map KC.val).toArray)
theorem wJ{k:Int}:∀{a:List MapEntry} {l:List (Int×List KC)},a.map (λe=>(e.key,e.val))=(l.map λp=>(p.1,Value.agg (p.2.map KC.val).toArray)).map (λp=>(Value.int .i64 p.1,p.2))->getM k a=(eY l k).map λb=>.agg (b.map KC.val).toArray
 |[],[],_=>rfl
 |e::l,p::L,h=>by
  simp only[O5,List.cons.injEq,Prod.mk.injEq]at h;obtain⟨⟨c,f⟩,d⟩:=h;simp[getM,eY,c,rO];by_cases h:k=p.1
  .grind
  rw[X (by simpa using λe=>h e.symm),X h];exact wJ d
set_option maxRecDepth 100000 in
def Jt{w:World}:mT prog 110 #[] w λr e=>r=.map (some w.heap.size)/\Kp [] w e/\abd e w.heap.size af4:=by
 refine mT.enter (args:=[]) func110 rfl ntmps110 rfl rfl (WC.seq (WC.region (WO.v (R.assign rfl) rfl (WO.nil (WX.next ?_)))));have c:=underlying164;have d:=underlying3;refine WC.seq (WC.region (WO.v R.uG rfl ?_));refine WO.v (R.sg (cells:=(((cJ.getD 0 (0,[])).2).map KC.val).toArray) rfl cj) rfl (WO.insert (L:=[]) rfl rfl rfl ⟨#[],M5 w _,rfl⟩ rfl c d λt j l=>?_);refine WO.v (R.sg (cells:=(((cJ.getD 1 (0,[])).2).map KC.val).toArray) rfl cj) rfl (WO.insert rfl rfl rfl j rfl c d λu m n=>?_);refine WO.v (R.sg (cells:=(((cJ.getD 2 (0,[])).2).map KC.val).toArray) rfl cj) rfl (WO.insert rfl rfl rfl m rfl c d λx o p=>?_);refine WO.v (R.sg (cells:=(((cJ.getD 3 (0,[])).2).map KC.val).toArray) rfl cj) rfl (WO.insert rfl rfl rfl o rfl c d λy q s=>?_);refine WO.v (R.move rfl) rfl (WO.v (R.assign rfl) rfl (WO.nil (WX.next ?_)));have a:∀{f g:World},Kp [] w f->Kp [w.heap.size] f g->Kp [] w g:=λh k=>⟨k.os.trans h.os,k.tape.trans h.tape,k.output.trans h.output,zc h.size k.size,λb i _=>(k.block b (y7 i h.size) (by simp;omega)).trans (h.block b i aa)⟩;exact WC.ret (WX.SW results110 rfl ⟨rfl,a (a (a (a (Kp.alloc w _) l) n) p) s,q⟩)
def Jf:r8 prog (bj p6) 110 [] [] {rs:=[.c (.xx (.km cJ) [])]}:=by
 refine⟨⟨_,func110,am,by kernel_rfl⟩,λG t w u v f b=>?_⟩;cases b;refine Jt.mono λr x ⟨j,l,a,g,h⟩=>⟨[r],rfl,l,.cons ?_ .nil⟩;subst j;have d:=(S6.1 g).1;refine⟨[],.nil,rfl,w.heap.size,a,_,rfl,⟨d,λ⟨i,r,m,n⟩=>by have:=(f.u0 i r _ m n).2.1;omega,λo=>by have:=f.z _ o;omega⟩,g,λe q=>?_,λk=>wJ h⟩;have:(e.key,e.val)∈a.toList.map (λe=>(e.key,e.val)):=M7.2 ⟨e,q,rfl⟩;rw[h]at this;obtain⟨p,_,s⟩:=M7.1 this;exact⟨p.1,(o9 Prod.fst s).symm⟩
end Go.Proofs.YtoecbhljidgajaaGreat
namespace Go.Proofs.YtoecbhljidgajaaGreat
open Go.Proofs.Tryz
open Go.RowKit
def Py(q:Nat×Nat)(x:UInt8):Nat×Nat:=((q.1+x.toNat)%65521,(q.2+(q.1+x.toNat)%65521)%65521)
def gG(q:Nat×Nat)(l:List UInt8):Nat×Nat:=l.foldl Py q
def dv(s:Nat)(l:List UInt8):Nat:=65536*(gG (s%65536%65521,s/65536%65521) l).2+(gG (s%65536%65521,s/65536%65521) l).1
def XH{q:Nat×Nat}(a:q.1<65521)(b:q.2<65521):∀l:List UInt8,(gG q l).1<65521/\(gG q l).2<65521:=λl=>by
 induction l generalizing q with
 |nil=>exact⟨a,b⟩
 |cons x l c=>exact c (q:=Py q x) (F6 _ am) (F6 _ am)
def tG{s:Nat}(l:List UInt8):(gG (s%65536%65521,s/65536%65521) l).1<65521/\(gG (s%65536%65521,s/65536%65521) l).2<65521:=XH (F6 _ am) (F6 _ am) l
theorem Dt{s:Nat}(l:List UInt8):dv s l<4294967296:=by
 have:=tG (s:=s) l;unfold dv;omega
def As(l:List UInt8):Nat:=l.foldl (λw x=>(w*256)%4294967296|||x.toNat) 0
abbrev cA(b:List UInt8):Int:=Zl (((b.getD 0 (c4 .u8):UInt8).toNat:Int)*2^8) ((b.getD 1 (c4 .u8):UInt8).toNat:Int)
def aG(b:List UInt8):List UInt8×Int×Int:=
 if b.length<2 then([],0,2)else if cA b=0\/4096<cA b then([],0,3)else if(b.length:Int)<2+cA b+4 then([],0,2)
 else if dv 1 (b.take (2+cA b).toNat)=As ((b.drop (2+cA b).toNat).take 4)then((b.drop 2).take ((2+cA b).toNat-2),2+cA b+4,0)else([],0,3)
def gO(x:List UInt8):List UInt8:=[ofNat (x.length/256),ofNat x.length]++x
def rz(s:Nat):List UInt8:=[ofNat (s/2^24),ofNat (s/2^16),ofNat (s/2^8),ofNat s]
def fy(x:List UInt8):List UInt8:=gO x++rz (dv 1 (gO x))
def gq(x:List UInt8):List UInt8×Int:=if x.length=0\/4096<x.length then([],4)else(fy x,0)
theorem ow{a b:Nat}(c:b<256):a*256|||b=a*256+b:=by
 have:=Nat.two_pow_add_eq_or_of_lt (i:=8) (b:=b) c a;grind
theorem ofNat_toNat(n:Nat):(ofNat n).toNat=n%256:=J7
theorem IZ{s:Nat}(h:s<4294967296):As (rz s)=s:=by
 simp only[As,rz,List.foldl_cons,List.foldl_nil,ofNat_toNat];rw[show(0*256)%4294967296=0*256 from rfl,ow (a:=0) (F6 _ am),O7,A3];have b:s/2^24%256=s/16777216:=by omega
 rw[b,E9 (a:=s/16777216*256) N,ow (F6 _ am),E9 (a:=(s/16777216*256+s/2^16%256)*256) N,ow (F6 _ am),E9 (a:=((s/16777216*256+s/2^16%256)*256+s/2^8%256)*256) N,ow (F6 _ am)];omega
variable{x r:List UInt8}
def Dl(h:x.length<=4096):cA (fy x++r)=x.length:=by
 have e:fy x++r=ofNat (x.length/256)::ofNat x.length::(x++(rz (dv 1 (gO x))++r)):=by simp[fy,gO]
 have a:((ofNat (x.length/256)).toNat:Int)*2^8=((x.length/256*256:Nat):Int):=by rw[ofNat_toNat];omega
 rw[e,cA,List.getD_cons_zero,List.getD_cons_succ,List.getD_cons_zero,a,Zl,G3,G3,ofNat_toNat,ow (F6 _ am)];omega
def o_:(fy x).length=x.length+6:=by simp[fy,gO,rz]
def JI(a:x≠[])(h:x.length<=4096):aG (fy x++r)=(x,(x.length:Int)+6,0):=by
 have d:0<x.length:=List.length_pos_iff.2 a;have e:(fy x++r).length=x.length+6+r.length:=by rw[s8,o_]
 have b:(2+(x.length:Int)).toNat=(gO x).length:=by simp[gO];omega
 have c:fy x++r=gO x++(rz (dv 1 (gO x))++r):=by simp[fy]
 unfold aG;rw[Dl h,X N,X N,X N,b,c,List.take_left,V6,show take 4 (rz (dv 1 (gO x))++r)=rz (dv 1 (gO x))from List.take_left' rfl,IZ (Dt _),O rfl];refine Prod.ext ?_ (Prod.ext (by dsimp only;omega) rfl);simp[gO]
variable{k:Nat}
theorem Cu(h:x.length<=4096)(a:k<x.length+6):(aG ((fy x).take k)).2.2≠0:=by
 by_cases b:k<2
 .unfold aG;rw[O (by rw[sh];omega)];decide
 have e:cA ((fy x).take k)=x.length:=by
  have:=Dl (r:=[]) h;grind
 unfold aG;grind
def Am(b:List UInt8):0<=cA b:=J8 _
abbrev kz:List KC:=[.i 0,.i 0,.b false,.i 0,.i 0,.nf]
def P2(k:Int):List KC:=(eY cJ k).getD kz
def k9(r:dm):Bool:=(eY cJ r.kind).isSome&&decide (((P2 r.kind).getD 0 .nf).int<=r.a)&&decide (r.a<=((P2 r.kind).getD 1 .nf).int)&&decide (0<=r.b)&&decide (r.b<=((P2 r.kind).getD 3 .nf).int)&&decide ((r.x.length:Int)<=((P2 r.kind).getD 4 .nf).int)
def sY(k:Int):Bool:=((P2 k).getD 2 .nf).bool
def p7(r:dm):List UInt8:=([ofNat r.kind.toNat]++bm r.a.toNat)++(if sY r.kind=true then bm r.b.toNat else[])++r.x
def aC(r:dm):List UInt8×Int:=if k9 r=true then(p7 r,0)else([],1)
abbrev mu:dm:=⟨0,0,0,[]⟩
def cn(b:List UInt8):dm×Bool:=
 if b.length=0 then(mu,false)else if(c7 (b.drop 1)).2.2≠0 then(mu,false)
 else if sY ((b.getD 0 (c4 .u8):UInt8).toNat:Int)=true then
  if(c7 ((b.drop 1).drop (c7 (b.drop 1)).2.1)).2.2≠0 then(mu,false)
  else(⟨((b.getD 0 (c4 .u8):UInt8).toNat:Int),cF (c7 (b.drop 1)).1,cF (c7 ((b.drop 1).drop (c7 (b.drop 1)).2.1)).1,((b.drop 1).drop (c7 (b.drop 1)).2.1).drop (c7 ((b.drop 1).drop (c7 (b.drop 1)).2.1)).2.1⟩,true)
 else(⟨((b.getD 0 (c4 .u8):UInt8).toNat:Int),cF (c7 (b.drop 1)).1,0,(b.drop 1).drop (c7 (b.drop 1)).2.1⟩,true)
def aL(b:List UInt8):dm×Int:=if(cn b).2=false then(mu,3)else if(aC (cn b).1).2≠0\/(aC (cn b).1).1≠b then(mu,3)else((cn b).1,0)
def ey(s:b9)(r:dm):Option b9:=if r.a<s.floor then none else some {s with floor:=r.a}
def fK(s:b9)(r:dm):Option b9:=if r.a<s.a8\/(r.a=s.a8/\¬s.hQ=0)/\¬s.hQ=r.b then none else some {s with a8:=r.a,hQ:=r.b}
def ei(s:b9)(r:dm):Option b9:=if¬r.a=(s.log.length:Int)+1 then none else some {s with log:=s.log++[⟨r.b,r.x⟩]}
def fW(s:b9)(r:dm):Option b9:=if(s.log.length:Int)<r.a then none else some {s with log:=s.log.take (r.a-1).toNat}
def dO(s:b9)(r:dm):Option b9:=if r.kind=1 then ey s r else if r.kind=2 then fK s r else if r.kind=3 then ei s r else fW s r
def aK(s:b9)(r:dm):b9×Int:=if k9 r=false then(s,1)else match dO s r with
 |some t=>(t,0)
 |none=>(s,5)
def s9:Nat->b9->List UInt8->b9×Int
 |0,s,_=>(s,0)
 |n+1,s,b=>if(aG b).2.2≠0 then(s,0)else if(aL (aG b).1).2≠0 then(s,0)else if(aK s (aL (aG b).1).1).2≠0 then(s,0)
  else((s9 n (aK s (aL (aG b).1).1).1 (b.drop (aG b).2.1.toNat)).1,(aG b).2.1+(s9 n (aK s (aL (aG b).1).1).1 (b.drop (aG b).2.1.toNat)).2)
abbrev p0:b9:=⟨0,0,0,[]⟩
def hX(b:List UInt8):b9×Int:=s9 (b.length+1) p0 b
theorem adG{k:Int}(h:(eY cJ k).isSome=true):k=1\/k=2\/k=3\/k=4:=by
 simp[cJ,eY]at h;grind
variable{r:dm}
theorem cq:k9 r=true↔(r.kind=1/\1<=r.a/\r.a<=3/\r.b=0/\r.x=[])\/(r.kind=2/\0<=r.a/\r.a<=1048576/\0<=r.b/\r.b<=5/\r.x=[])\/(r.kind=3/\1<=r.a/\r.a<=64/\0<=r.b/\r.b<=1048576/\r.x.length<=200)\/(r.kind=4/\1<=r.a/\r.a<=64/\r.b=0/\r.x=[]):=by
 have e:∀l:List UInt8,((l.length:Int)<=0)↔l=[]:=λl=>by
  simp_all
 constructor
 .intro h;simp[k9]at h;obtain⟨⟨⟨⟨⟨i,c⟩,d⟩,j⟩,f⟩,g⟩:=h;rcases adG i with hk|hk|hk|hk<;>rw[hk]at c d f g<;>simp[P2,cJ,eY,KC.int]at c d f g
  .grind
  .grind
  .grind
  grind
 rintro(⟨hk,h⟩|⟨hk,h⟩|⟨hk,h⟩|⟨hk,h⟩)<;>simp[k9,P2,cJ,eY]<;>simp[KC.int]<;>simp_all<;>omega
theorem kL(h:k9 r=true):1<=(p7 r).length/\(p7 r).length<=221:=by
 have c:=cH (n:=r.a.toNat) (by rcases cq.1 h with h|h|h|h<;>omega);have d:=cH (n:=r.b.toNat) (by rcases cq.1 h with h|h|h|h<;>omega);have e:r.x.length<=200:=by rcases cq.1 h with h|h|h|h<;>simp[h]
 simp[p7];grind
variable{n:Nat}
def oW(h:n<9223372036854775808):cF n=n:=by
 rw[cF,O h]
theorem Lx(h:k9 r=true):cn (p7 r)=(r,true):=by
 have d:=cq.1 h;have m:0<=r.a/\r.a<=1048576:=by rcases d with h|h|h|h<;>omega
 have o:0<=r.b/\r.b<=1048576:=by rcases d with h|h|h|h<;>omega
 have e:1<=r.kind/\r.kind<=4:=by rcases d with h|h|h|h<;>omega
 have f:p7 r=ofNat r.kind.toNat::(bm r.a.toNat++((if sY r.kind=true then bm r.b.toNat else[])++r.x)):=by simp[p7]
 have g:((ofNat r.kind.toNat).toNat:Int)=r.kind:=by rw[ofNat_toNat];omega
 have i:=jl (n:=r.a.toNat) N ((if sY r.kind=true then bm r.b.toNat else[])++r.x);have j:cF r.a.toNat=r.a:=by rw[oW N];omega
 have l:cF r.b.toNat=r.b:=by rw[oW N];omega
 unfold cn;rw[f,X aa,List.drop_one,List.tail_cons,i,List.getD_cons_zero,g];dsimp only;rw[X am,j,V6];by_cases c:sY r.kind=true
 .rw[O c,O c,jl N];dsimp only;rw[X am,l,V6]
 rw[X c,X c,Q9];have:r.b=0:=by
  rcases d with h|h|h|h
  .grind
  .exact absurd (by rw[h.1];rfl) c
  .exact absurd (by rw[h.1];rfl) c
  exact h.2.2.2.1
 cases r;simp_all
theorem Cj(h:k9 r=true):aL (p7 r)=(r,0):=by
 unfold aL;rw[Lx h];simp[aC,h]
variable{b:List UInt8}
theorem zR(h:(aL b).2=0):k9 (aL b).1=true/\b=p7 (aL b).1:=by
 revert h;unfold aL;split
 .grind
 split
 .grind
 rename_i f a;intro _;have a:=not_or.1 a;have c:k9 (cn b).1=true:=by
  cases e:k9 (cn b).1
  .exact absurd a.1 (by simp[aC,e])
  rfl
 refine⟨c,?_⟩;have d:=A0.1 a.2;simp[aC,c]at d;exact d.symm
def lH(r:dm):List UInt8:=fy (p7 r)
def l1(l:List dm):List UInt8:=l.flatMap lH
def eg:b9->List dm->b9×Int
 |s,[]=>(s,0)
 |s,r::l=>if(aK s r).2=0 then eg (aK s r).1 l else(s,(aK s r).2)
theorem wB{s:b9}(h:(aK s r).2=0):k9 r=true:=by
 unfold aK at h;grind
theorem dX(h:(aG b).2.2=0):7<=(aG b).2.1/\(aG b).2.1<=b.length:=by
 have a:0<=cA b:=J8 _;revert h;unfold aG;grind
theorem oV:∀{n m:Nat} {s:b9} {b:List UInt8},b.length<n->b.length<m->s9 n s b=s9 m s b
 |n+1,m+1,s,b,c,d=>by
  simp[s9];by_cases a:(aG b).2.2=0
  .have e:=dX a;have f:(b.drop (aG b).2.1.toNat).length<b.length:=by rw[length_drop];omega
   rw[oV (n:=n) (m:=m) N N]
  grind
theorem m_(r:dm):(lH r).length=(p7 r).length+6:=o_
theorem Ed{s:b9}{t:List UInt8}(h:(aK s r).2=0):s9 (n+1) s (lH r++t)=((s9 n (aK s r).1 t).1,(lH r).length+(s9 n (aK s r).1 t).2):=by
 have a:=wB h;have c:=kL a;have d:aG (lH r++t)=(p7 r,((p7 r).length:Int)+6,0):=JI (by intro e;rw[e]at c;simp at c) N;have f:(lH r++t).drop (((p7 r).length:Int)+6).toNat=t:=by
  rw[show(((p7 r).length:Int)+6).toNat=(lH r).length by rw[m_];omega];grind
 simp only[s9,d,Cj a,h,f,m_];simp
def oz{s:b9}(h:(aG b).2.2≠0):s9 n s b=(s,0):=by
 cases n
 .rfl
 rw[s9,O h]
def LN:(aG []).2.2≠0:=by decide
theorem xu:∀{l:List dm} {n k:Nat} {s:b9},(eg s l).2=0->(l1 l).length<n->∃j,j<=l.length/\s9 n s ((l1 l).take k)=((eg s (l.take j)).1,((l1 (l.take j)).length:Int))/\(eg s (l.take j)).2=0/\(l1 (l.take j)).length<=k/\(∀i,i<=l.length->(l1 (l.take i)).length<=k->i<=j)
 |[],n,k,s,_,_=>⟨0,tw _,by simp[l1,List.flatMap_nil,List.take_nil];rw[oz LN];rfl,rfl,by simp[l1],λi d _=>d⟩
 |r::l,0,_,_,_,e=>by omega
 |r::l,n+1,k,s,h,e=>by
  have c:(aK s r).2=0:=by
   unfold eg at h;split at h
   .assumption
   rename_i g;exact absurd h g
  have m:(eg (aK s r).1 l).2=0:=by
   unfold eg at h;rwa[O c]at h
  have o:=wB c;have w:=kL o;have p:l1 (r::l)=lH r++l1 l:=by simp[l1]
  rw[p]at e⊢;rw[s8]at e;by_cases q:k<(lH r).length
  .refine⟨0,H4 _,?_,rfl,by simp[l1],λi d a=>?_⟩
   .have f:(lH r++l1 l).take k=(lH r).take k:=N6 N;rw[f,oz (b:=(lH r).take k) (Cu (x:=p7 r) N (by rw[m_]at q;omega))];rfl
   cases i with
   |zero=>exact tw _
   |succ i=>
    rw[M4]at a;simp[l1,G9,s8]at a;omega
  obtain⟨j,g,t,u,y,v⟩:=xu (l:=l) (n:=n) (k:=k-(lH r).length) m (by have:=m_ r;omega);have f:(lH r++l1 l).take k=lH r++(l1 l).take (k-(lH r).length):=by
   rw[take_append,take_of_length_le N]
  refine⟨j+1,by simp;omega,?_,?_,?_,λi d a=>?_⟩
  .rw[f,Ed c,t,M4,eg,O c];simp[l1]
  .rw[M4,eg,O c];exact u
  .rw[M4];simp only[l1,G9,s8];have:(l1 (l.take j)).length=(List.flatMap lH (l.take j)).length:=rfl;omega
  cases i with
  |zero=>omega
  |succ i=>
   rw[M4]at a;simp only[l1,G9,s8]at a;have:=v i (by simpa using d) (by simp only[l1];omega);omega
theorem eJ:∀{l m:List dm} {s:b9},(eg s l).2=0->eg s (l++m)=eg (eg s l).1 m
 |[],_,_,_=>rfl
 |r::l,m,s,h=>by
  rw[E4,eg];simp[eg]at h⊢;split
  .simp_all[eJ]
  grind
theorem vX(l m:List dm):l1 (l++m)=l1 l++l1 m:=by simp[l1]
structure j9 where
 b:List UInt8
 b7:Int
 down:Bool
 c9:Bool
 dc:Int
deriving DecidableEq
def j9.OK(d:j9):Prop:=0<=d.b7/\d.b7<=d.b.length/\d.b.length<=65536
def j9.at_(d:j9)(k:Int):Int:=d.b7+min (max k 0) (d.b.length-d.b7)
def j9.bR(d:j9)(k:Int):j9:=⟨d.b.take (d.at_ k).toNat,d.at_ k,true,false,0⟩
def j9.up(d:j9):j9:=⟨d.b,d.b7,false,false,0⟩
def j9.cut(d:j9)(n:Int):j9:=if d.down=true\/n<0\/(d.b.length:Int)<n then d else⟨d.b.take n.toNat,n,d.down,d.c9,d.dc⟩
def j9.jq(d:j9)(n:Int):Int:=if d.down=true then 30 else if n<0\/(d.b.length:Int)<n then 1 else 0
def j9.qs(d:j9)(x:List UInt8):j9:=if d.down=true\/65536-(d.b.length:Int)<x.length then d else⟨d.b++x,d.b7,d.down,d.c9,d.dc⟩
def j9.fQ(d:j9)(x:List UInt8):Int:=if d.down=true then 30 else if 65536-(d.b.length:Int)<x.length then 20 else 0
def j9.sync(d:j9):j9:=if d.down=true then d else if d.c9=true then d.bR d.dc else⟨d.b,d.b.length,d.down,d.c9,d.dc⟩
def j9.ek(d:j9):Int:=if d.down=true\/d.c9=true then 30 else 0
def ik(d:j9)(s:b9)(l:List dm):j9×b9×Int:=
 if l.all k9=false then(d,s,1)else if(eg s l).2≠0 then(d,s,(eg s l).2)else if l.length=0 then(d,s,0)
 else if d.fQ (l1 l)≠0 then(d,s,d.fQ (l1 l))else if(d.qs (l1 l)).ek≠0 then((d.qs (l1 l)).sync,s,(d.qs (l1 l)).ek)
 else((d.qs (l1 l)).sync,(eg s l).1,0)
def eL(l:List eA):Int:=(l.getD (l.length-1) ⟨0,[]⟩).a8
def bM(l:List eA)(k:Int):Int:=if k=0 then 0 else if k<0\/(l.length:Int)<k then -1 else(l.getD (k-1).toNat ⟨0,[]⟩).a8
def fD(l:List eA)(n t:Int):Bool:=decide (eL l<t)||decide (t=eL l)&&decide ((l.length:Int)<=n)
def iC:List eA->List eA->Nat
 |x::h,y::a=>if x.a8=y.a8 then iC h a+1 else 0
 |_,_=>0
def aX(l:List eA)(k:Int)(m:List eA):Int×List eA:=
 if k<0\/(l.length:Int)<k then(0,[])else if m.length<=iC (l.drop k.toNat) m then(0,[])else if(l.drop k.toNat).length<=iC (l.drop k.toNat) m then(0,m.drop (iC (l.drop k.toNat) m))else(k+iC (l.drop k.toNat) m+1,m.drop (iC (l.drop k.toNat) m))
def dx(l:List eA)(k m:Int):List eA:=if(k<0\/(l.length:Int)<k)\/m<1 then[]else(l.drop k.toNat).take (min m ((l.drop k.toNat).length:Int)).toNat
def r4(l:List Int):Int:=if l.length=0 then 0 else(l.mergeSort (λa b=>decide (b<=a))).getD (l.length/2) 0
theorem qA:∀{h a:List eA},iC h a<=h.length/\iC h a<=a.length
 |[],_=>⟨tw _,H4 _⟩
 |_::_,[]=>⟨H4 _,tw _⟩
 |x::h,y::a=>by
  have:=qA (h:=h) (a:=a);simp[iC];grind
theorem sk:∀{h a:List eA} {j:Nat} {x y:eA},j<=iC h a->h[j]? =some x->a[j]? =some y->(x.a8=y.a8↔j+1<=iC h a)
 |u::h,v::a,0,x,y,_,c,d=>by
  simp at c d;simp[iC];grind
 |u::h,v::a,j+1,x,y,f,c,d=>by
  simp at c d;simp[iC]at f⊢;split at f
  .rename_i e;rw[O e];rw[sk N c d];omega
  omega
def eV(n m:Int)(b:Bool):Bool:=aM n 0 (if b=true then m else 0)
def jj(x:ep):Bool:=(decide (x.kind=1)||decide (x.kind=2)||decide (x.kind=3)||decide (x.kind=4))&&aM x.l5 0 4&&aM x.to 0 4&& !decide (x.l5=x.to)&&aM x.a8 1 1048576&&aM x.bin 1 3&&
 eV x.a 64 (decide (x.kind=1)||decide (x.kind=3)||decide (x.kind=4))&&eV x.b 1048576 (decide (x.kind=1)||decide (x.kind=3))&&eV x.c 64 (decide (x.kind=3))&&(!x.ok||decide (x.kind=2)||decide (x.kind=4))&&eV (x.l.length:Int) 4 (decide (x.kind=3))
def bF(y:eA):Bool:=aM y.a8 1 1048576&&decide ((y.b.length:Int)<=200)
def nd(x:ep):Int:=if jj x=true/\x.l.all bF=true then 0 else 1
def ao(s:b9)(t:Int):List dm:=if t<=s.a8 then[]else[⟨2,t,0,[]⟩]
def ax(s:b9)(me:Int):List dm×Int:=if me<0\/5<=me then([],1)else if 1048576<=s.a8 then([],4)else([⟨2,s.a8+1,me+1,[]⟩],0)
def xK(s:b9)(x:ep):Bool:=decide (s.a8<x.a8)||decide (s.hQ=0)||decide (s.hQ=x.l5+1)
def aA(s:b9)(x:ep):List dm×Bool×Int:=
 if¬nd x=0\/¬x.kind=1 then([],false,1)else if(x.a8<s.a8\/xK s x=false)\/fD s.log x.a x.b=false then(ao s x.a8,false,0)
 else if x.a8=s.a8/\s.hQ=x.l5+1 then([],true,0)else([⟨2,x.a8,x.l5+1,[]⟩],true,0)
def gp(l:List Bool):Bool:=decide ((l.length:Int).tdiv 2<(l.countP id:Nat))
abbrev dp:ep:=⟨0,0,0,0,0,0,0,0,false,[]⟩
def na(s:b9)(r:vo):ep:=⟨3,r.l5,r.to,s.a8,r.next-1,bM s.log (r.next-1),r.b8,r.bin,false,dx s.log (r.next-1) 4⟩
def eD(s:b9)(r:vo):ep×Int:=if r.next<1\/(s.log.length:Int)+1<r.next then(dp,1)else if¬nd (na s r)=0 then(dp,nd (na s r))else(na s r,0)
def gm:Int->List eA->List dm
 |_,[]=>[]
 |n,y::l=>⟨3,n,y.a8,y.b⟩::gm (n+1) l
def kZ(s:b9)(x:ep):List dm:=
 ao s x.a8++(if(aX s.log x.a x.l).1=0 then[]else[⟨4,(aX s.log x.a x.l).1,0,[]⟩])++gm (x.a+x.l.length-(aX s.log x.a x.l).2.length+1) (aX s.log x.a x.l).2
def aq(s:b9)(x:ep):List dm×Bool×Int×Int:=
 if(¬nd x=0\/¬x.kind=3)\/64<x.a+x.l.length then([],false,0,1)else if x.a8<s.a8 then([],false,0,0)
 else if bM s.log x.a=x.b then(kZ s x,true,x.a+x.l.length,0)else(ao s x.a8,false,0,0)
def fM(n:Int)(x:ep):Int:=if x.ok=true then x.a+1 else if 1<n then min (n-1) (x.a+1)else 1
def iW(s:b9)(l:List Int)(k:Int):Int:=if k<min (r4 l) s.log.length/\bM s.log (min (r4 l) s.log.length)=s.a8 then min (r4 l) s.log.length else k
variable{x:ep}
theorem fC(h:nd x=0):0<=x.l5/\x.l5<=4/\0<=x.to/\x.to<=4/\1<=x.a8/\x.a8<=1048576/\1<=x.bin/\x.bin<=3/\0<=x.a/\x.a<=64/\0<=x.c/\x.c<=64/\x.l.length<=4/\1<=x.kind/\x.kind<=4:=by
 unfold nd at h;split at h
 .rename_i d;simp[jj,aM,eV]at d;grind
 cases h
theorem qj:∀{l:List dm},l.all k9=true->(l1 l).length<=227*l.length
 |[],_=>tw _
 |r::l,h=>by
  simp only[K7,r3]at h;have a:=kL h.1;have c:=qj h.2;have e:l1 (r::l)=lH r++l1 l:=by simp[l1]
  rw[e,s8,m_,x7];omega
structure w8 where
 me:Int
 ea:Int
 bin:Int
 st:b9
 ee:Int
 b8:Int
 b5:Int
 s:c5
def SZ(k:Nat)(n:w8):List AV:=[.int n.me,.int n.ea,.ptr (k+1) 0,.int n.bin]++(cellsOf (.nm .stable) n.st++([.int n.ee,.int n.b8,.int n.b5]++cellsOf (.nm .state) n.s))
def lNd{a:Type}(k:Nat)(R:PL a):PL (w8×a):=PL.UQ (bg cI (bg cI (bg (tk (k+1) 0) (bg cI (W6 (.nm .stable) (bg cI (bg cI (bg cI (W6 (.nm .state) R))))))))) (λq=>(⟨q.1,q.2.1,q.2.2.2.1,q.2.2.2.2.1,q.2.2.2.2.2.1,q.2.2.2.2.2.2.1,q.2.2.2.2.2.2.2.1,q.2.2.2.2.2.2.2.2.1⟩,q.2.2.2.2.2.2.2.2.2)) (λq=>(q.1.me,q.1.ea,(),q.1.bin,q.1.st,q.1.ee,q.1.b8,q.1.b5,q.1.s,q.2))
structure Nd where
 c:w8
 d:j9
 rp:List l3
 vs:List Bool
 bn:List Int
 nx:List Int
 mt:List Int
def Z4(k:Nat)(n:Nd):AH:=[.box 83 (SZ k n.c++[.own (k+3),.own (k+4),.own (k+5),.own (k+6),.own (k+7)]),.box 115 [.own (k+2),.int n.d.b7,.bool (.atom n.d.down),.bool (.atom n.d.c9),.int n.d.dc],.row 5 .u8 n.d.b,.row 72 (.nm .l8) n.rp,.row 4 .bool n.vs,.row 3 .int n.bn,.row 3 .int n.nx,.row 3 .int n.mt]
def ahs{a:Type}(k:Nat)(R:PH a):PH (Nd×a):=PH.UQ (bl (iX 83 (lNd k (bg (iY (k+3)) (bg (iY (k+4)) (bg (iY (k+5)) (bg (iY (k+6)) (bg (iY (k+7)) jf))))))) (bl (iX 115 (bg (iY (k+2)) (bg cI (bg cB (bg cB (bg cI jf)))))) (bl (jL 5 .u8) (bl (jL 72 (.nm .l8)) (bl (jL 4 .bool) (bl (jL 3 .int) (bl (jL 3 .int) (bl (jL 3 .int) R))))))))
 (λq=>(⟨q.1.1,⟨q.2.2.1,q.2.1.2.1,q.2.1.2.2.1,q.2.1.2.2.2.1,q.2.1.2.2.2.2.1⟩,q.2.2.2.1,q.2.2.2.2.1,q.2.2.2.2.2.1,q.2.2.2.2.2.2.1,q.2.2.2.2.2.2.2.1⟩,q.2.2.2.2.2.2.2.2))
 (λq=>((q.1.c,(),(),(),(),(),()),((),q.1.d.b7,q.1.d.down,q.1.d.c9,q.1.d.dc,()),q.1.d.b,q.1.rp,q.1.vs,q.1.bn,q.1.nx,q.1.mt,q.2))
def om(n:Nd):AH:=Z4 0 n
def tj:PH Nd:=PH.UQ (ahs 0 av) (·.1) (λn=>(n,()))
structure B7 where
 n:Nd
 l:List ep
 e:Int
abbrev Nd.fl(n:Nd)(l:List dm):Nd:={n with d:=(ik n.d n.c.st l).1,c:={n.c with st:=(ik n.d n.c.st l).2.1}}
abbrev Nd.aB(n:Nd)(l:List dm):Int:=(ik n.d n.c.st l).2.2
def ky(n:w8)(k:Nat):List Int:=((List.range k).map λi:Nat=>(i:Int)).filter (λi=>decide (i≠n.me))
def dI(n:w8):List Int:=ky n n.ea.toNat
def lU(n:w8)(kd a:Int):ep:=⟨kd,n.me,a,n.st.a8,0,0,0,n.bin,false,[]⟩
def iJ(n:Nd)(a:Int):ep×Int:=eD n.c.st ⟨n.c.me,a,n.nx.getD a.toNat 0,n.c.b8,n.c.bin⟩
def db(n:Nd):List Int->List ep×Int
 |[]=>([],0)
 |to::l=>if(iJ n to).2=0 then(if(db n l).2=0 then((iJ n to).1::(db n l).1,0)else([],(db n l).2))else([],(iJ n to).2)
def cM(n:Nd):List ep×Int:=if n.d.down=true then([],30)else if n.c.ee=2 then db n (dI n.c)else([],33)
def Nd.dk:Nat->Nd->Nd
 |0,n=>n
 |k+1,n=>if n.c.b5<n.c.b8 then
   (if pE n.c.bin ((n.c.st.log.drop n.c.b5.toNat).take 1)=0 then Nd.dk k {n with c:={n.c with s:=x8 n.c.bin n.c.s ((n.c.st.log.drop n.c.b5.toNat).take 1),b5:=n.c.b5+1},rp:=n.rp++B3 n.c.bin n.c.s ((n.c.st.log.drop n.c.b5.toNat).take 1)}else n)
  else n
def Nd.apply(n:Nd):Nd:=n.dk (n.c.b8-n.c.b5).toNat
def Nd.fi(n:Nd):Nd:={n with c:={n.c with ee:=1},vs:=(replicate n.c.ea.toNat false).set n.c.me.toNat true,bn:=(replicate n.c.ea.toNat (0:Int)).set n.c.me.toNat n.c.bin,nx:=replicate n.c.ea.toNat 0,mt:=replicate n.c.ea.toNat 0}
def hP(n:w8):List ep:=(dI n).map λc=>{lU n 1 c with a:=n.st.log.length,b:=eL n.st.log}
def bq(n:Nd):B7:=if n.d.down=true then⟨n,[],30⟩else if n.c.ee=2 then⟨n,[],0⟩else if¬(ax n.c.st n.c.me).2=0 then⟨n,[],(ax n.c.st n.c.me).2⟩
 else if¬n.aB (ax n.c.st n.c.me).1=0 then⟨n.fl (ax n.c.st n.c.me).1,[],n.aB (ax n.c.st n.c.me).1⟩else⟨(n.fl (ax n.c.st n.c.me).1).fi,hP (n.fl (ax n.c.st n.c.me).1).fi.c,0⟩
def cm(n:w8)(x:ep):Bool:=if(¬nd x=0\/¬x.to=n.me)\/n.ea<=x.l5 then false else if¬x.kind=3 then true else if¬(aq n.st x).2.2.2=0 then false
 else !(aq n.st x).1.any (λr=>decide (r.kind=4)&&decide (r.a<=n.b8))
def dF(n:Nd)(x:ep):B7:=if¬(aA n.c.st x).2.2=0 then⟨n,[],(aA n.c.st x).2.2⟩else if¬n.aB (aA n.c.st x).1=0 then⟨n.fl (aA n.c.st x).1,[],n.aB (aA n.c.st x).1⟩
 else⟨n.fl (aA n.c.st x).1,[{lU (n.fl (aA n.c.st x).1).c 2 x.l5 with ok:=(aA n.c.st x).2.1}],0⟩
def Nd.follow(n:Nd):Nd:={n with c:={n.c with ee:=0}}
def cN(n:Nd)(x:ep):B7:=if¬(aq n.c.st x).2.2.2=0 then⟨n,[],(aq n.c.st x).2.2.2⟩else if¬n.aB (aq n.c.st x).1=0 then⟨n.fl (aq n.c.st x).1,[],n.aB (aq n.c.st x).1⟩
 else let m:=n.fl (aq n.c.st x).1
  let f:=if x.a8=m.c.st.a8 then m.follow else m
  if(aq n.c.st x).2.1=true then(let g:=({f with c:={f.c with b8:=max f.c.b8 (min x.c (aq n.c.st x).2.2.1)}}:Nd).apply;⟨g,[{lU f.c 4 x.l5 with ok:=true,a:=(aq n.c.st x).2.2.1}],0⟩)
  else⟨f,[{lU f.c 4 x.l5 with a:=if x.a8=f.c.st.a8 then min 64 (f.c.st.log.length:Int)else 0}],0⟩
def gC(n:Nd):B7:=
 let m:Nd:={n with c:={n.c with ee:=2},nx:=replicate n.nx.length ((n.c.st.log.length:Int)+1),mt:=replicate n.mt.length 0}
 if(n.c.st.log.length:Int)+1<=64 then(let l:=[⟨3,(n.c.st.log.length:Int)+1,n.c.st.a8,[]⟩];if m.aB l=0 then⟨m.fl l,(cM (m.fl l)).1,(cM (m.fl l)).2⟩else⟨m.fl l,[],m.aB l⟩)
 else⟨m,(cM m).1,(cM m).2⟩
def Nd.sG(n:Nd)(x:ep):Nd:=
 let e:Int:=n.c.st.log.length
 let nx:=n.nx.set x.l5.toNat (min (fM (n.nx.getD x.l5.toNat 0) x) (e+1))
 let mt:=if x.ok=true then n.mt.set x.l5.toNat (max (n.mt.getD x.l5.toNat 0) (min x.a e))else n.mt
 {n with nx:=nx,mt:=mt,c:={n.c with b8:=iW n.c.st (mt.set n.c.me.toNat e) n.c.b8}}
def gP(n:Nd)(x:ep):B7:=
 let m:=(n.sG x).apply
 if(n.c.st.log.length:Int)<m.nx.getD x.l5.toNat 0 then⟨m,[],0⟩else if(iJ m x.l5).2=0 then⟨m,[(iJ m x.l5).1],0⟩else⟨m,[],(iJ m x.l5).2⟩
def bQ(n:Nd)(x:ep):B7:=
 let l:=ao n.c.st x.a8
 if¬n.aB l=0 then⟨n.fl l,[],n.aB l⟩else
 let m:=n.fl l
 if¬x.a8=m.c.st.a8\/m.c.ee=0 then⟨m,[],0⟩else
 let a:Nd:={m with bn:=m.bn.set x.l5.toNat x.bin}
 if(x.kind=2/\x.ok=true)/\m.c.ee=1 then(let d:Nd:={a with vs:=a.vs.set x.l5.toNat true};if gp d.vs=true then gC d else⟨d,[],0⟩)
 else if x.kind=4/\m.c.ee=2 then gP a x else⟨a,[],0⟩
def bL(n:Nd)(x:ep):B7:=if n.d.down=true then⟨n,[],30⟩else if cm n.c x=false then⟨n,[],1⟩else
 let m:=if n.c.st.a8<x.a8 then n.follow else n
 if x.kind=1 then dF m x else if x.kind=3 then cN m x else bQ m x
def Nd.fresh(n:Nd)(b:Int):Nd:={c:=⟨n.c.me,n.c.ea,b,(hX n.d.b).1,0,0,0,c5.mk 1 1 0 0 [] [] []⟩,d:=n.d.up.cut (hX n.d.b).2,rp:=[],vs:=[],bn:=[],nx:=[],mt:=[]}
def bk(n:Nd)(b:Int):B7:=if n.d.down=false then⟨n,[],31⟩else if¬bH b (max (hX n.d.b).1.floor 1)=0 then⟨n,[],bH b (max (hX n.d.b).1.floor 1)⟩
 else let m:=n.fresh b
  if m.c.st.floor<b then(let l:=[⟨1,b,0,[]⟩];if m.aB l=0 then⟨m.fl l,[],0⟩else⟨{m.fl l with d:=(m.fl l).d.bR 0},[],m.aB l⟩)else⟨m,[],0⟩
structure U9 where
 n:Nd
 a:Int
 b:Int
 e:Int
def dB(n:Nd)(c:b6):U9:=if n.d.down=true then⟨n,0,0,30⟩else if¬n.c.ee=2 then⟨n,0,0,33⟩else if¬aO c n.c.s.bo=0 then⟨n,0,0,aO c n.c.s.bo⟩
 else if c.kind=8/\¬c.n=n.c.s.bo+1 then⟨n,0,0,1⟩else if c.kind=8/\eQ n.c.s.bo n.bn=false then⟨n,0,0,34⟩
 else if 64<(n.c.st.log.length:Int)+1 then⟨n,0,0,20⟩else if¬(ew c n.c.st.a8 n.c.s.bo).2=0 then⟨n,0,0,(ew c n.c.st.a8 n.c.s.bo).2⟩
 else let l:=[⟨3,(n.c.st.log.length:Int)+1,(ew c n.c.st.a8 n.c.s.bo).1.a8,(ew c n.c.st.a8 n.c.s.bo).1.b⟩]
  if n.aB l=0 then⟨n.fl l,(n.c.st.log.length:Int)+1,n.c.st.a8,0⟩else⟨n.fl l,0,0,n.aB l⟩
def gS(n:Nd)(k t:Int):l3×Int:=if n.d.down=true then(⟨0,0⟩,30)else if(k<1\/n.c.b5<k)\/¬(n.c.st.log.getD (k-1).toNat ⟨0,[]⟩).a8=t then(⟨0,0⟩,15)else(n.rp.getD (k-1).toNat ⟨0,0⟩,0)
abbrev cT(a b:Nd):Prop:=a.c.me=b.c.me/\a.c.ea=b.c.ea/\a.c.bin=b.c.bin/\a.c.st.floor=b.c.st.floor/\a.c.st.a8=b.c.st.a8/\a.c.st.hQ=b.c.st.hQ/\a.c.st.log=b.c.st.log/\a.c.ee=b.c.ee/\a.c.b8=b.c.b8/\a.c.b5=b.c.b5/\a.c.s.bo=b.c.s.bo/\a.c.s.next=b.c.s.next/\a.c.s.dc=b.c.s.dc/\a.c.s.eR=b.c.s.eR/\a.c.s.c8=b.c.s.c8/\a.c.s.eb=b.c.s.eb/\a.c.s.c3=b.c.s.c3/\a.d.b7=b.d.b7/\a.d.down=b.d.down/\a.d.c9=b.d.c9/\a.d.dc=b.d.dc/\a.d.b=b.d.b/\a.rp=b.rp/\a.vs=b.vs/\a.bn=b.bn/\a.nx=b.nx/\a.mt=b.mt
abbrev wE(a b:Nd)(p:Prop):Prop:=a.c.me=b.c.me/\a.c.ea=b.c.ea/\a.c.bin=b.c.bin/\a.c.st.floor=b.c.st.floor/\a.c.st.a8=b.c.st.a8/\a.c.st.hQ=b.c.st.hQ/\a.c.st.log=b.c.st.log/\a.c.ee=b.c.ee/\a.c.b8=b.c.b8/\a.c.b5=b.c.b5/\a.c.s.bo=b.c.s.bo/\a.c.s.next=b.c.s.next/\a.c.s.dc=b.c.s.dc/\a.c.s.eR=b.c.s.eR/\a.c.s.c8=b.c.s.c8/\a.c.s.eb=b.c.s.eb/\a.c.s.c3=b.c.s.c3/\a.d.b7=b.d.b7/\a.d.down=b.d.down/\a.d.c9=b.d.c9/\a.d.dc=b.d.dc/\a.d.b=b.d.b/\a.rp=b.rp/\a.vs=b.vs/\a.bn=b.bn/\a.nx=b.nx/\a.mt=b.mt/\p
structure E6(d:j9)(L:List dm):Prop where
 st:(eg p0 L).2=0
 D2:hX d.b=((eg p0 L).1,((l1 L).length:Int))
 pre:∃t,d.b=l1 L++t
 X0:d.b7=d.b.length
 up:d.down=false->d.b=l1 L
variable{L:List dm}
def sM(h:(eg p0 L).2=0):∃j,j<=L.length/\hX ((l1 L).take k)=((eg p0 (L.take j)).1,((l1 (L.take j)).length:Int))/\(eg p0 (L.take j)).2=0/\(l1 (L.take j)).length<=k/\∀i,i<=L.length->(l1 (L.take i)).length<=k->i<=j:=by
 obtain⟨j,a,c,d⟩:=xu (n:=(l1 L).length+1) (k:=k) h N;refine⟨j,a,?_,d⟩;rw[hX,<-c];exact oV N (by rw[sh];omega)
theorem wu(h:(eg p0 L).2=0):hX (l1 L)=((eg p0 L).1,((l1 L).length:Int)):=by
 obtain⟨j,c,d,e,f,a⟩:=sM (k:=(l1 L).length) h;have:=a L.length N (by rw[O1];omega);grind
variable{l:List dm}
theorem E6.apa{a:j9}(m:(eg p0 (L++l)).2=0)(o:(l1 L).length<=k)(c:a.b=(l1 (L++l)).take k)(p:a.b7=a.b.length)(q:a.down=true):∃i,i<=l.length/\E6 a (L++l.take i):=by
 obtain⟨j,s,d,f,g,t⟩:=sM (k:=k) m;have v:=t L.length aa (by rw[List.take_left];exact o);have e:(L++l).take j=L++l.take (j-L.length):=by rw[take_append,take_of_length_le N]
 rw[e]at d f g;rw[s8]at s;refine⟨j-L.length,N,f,by rw[c];exact d,?_,p,λh=>by rw[q]at h;cases h⟩;refine⟨(l1 (l.drop (j-L.length))).take (k-(l1 (L++l.take (j-L.length))).length),?_⟩;have u:l1 (L++l)=l1 (L++l.take (j-L.length))++l1 (l.drop (j-L.length)):=by grind[vX,List.take_append_drop]
 rw[c,u,take_append,take_of_length_le g]
def E6.enc{e:Bool}{c f:Int}(d:(eg p0 L).2=0)(a:b=l1 L)(g:c=b.length){h:Bool}:E6 ⟨b,c,h,e,f⟩ L:=
 ⟨d,by rw[a];exact wu d,⟨[],by rw[A1];exact a⟩,g,λ_=>a⟩
def AY{i:Nat}:L<+:L++l.take i:=⟨_,rfl⟩
structure K4(d:j9)(s:b9)(l L:List dm):Prop where
 ok:(ik d s l).2.2=0->(ik d s l).1.down=false/\E6 (ik d s l).1 (L++l)/\(ik d s l).2.1=(eg s l).1/\(eg s l).2=0/\l.all k9=true/\(ik d s l).1.c9=d.c9/\(ik d s l).1.dc=d.dc/\(l=[]->ik d s l=(d,s,0))
 no:(ik d s l).2.2≠0->(ik d s l).2.1=s/\l≠[]/\(((ik d s l).1=d/\(ik d s l).2.2≠30)\/(d.c9=true/\(ik d s l).2.2=30/\(ik d s l).1.down=true/\(ik d s l).1.c9=false/\∃i,i<=l.length/\E6 (ik d s l).1 (L++l.take i)))
 len:(ik d s l).1.b.length<=d.b.length+(l1 l).length
 le:d.b.length<=65536->(ik d s l).1.b.length<=65536
theorem wh:∀{l:List dm} {s:b9},(eg s l).2=0\/(eg s l).2=1\/(eg s l).2=5
 |[],_=>.inl rfl
 |r::l,s=>by
  rw[eg];split
  .exact wh
  dsimp only;unfold aK;grind
variable{d:j9}
def FN{s:b9}(h:E6 d L)(m:d.down=false)(A:s=(eg p0 L).1):K4 d s l L:=by
 have w:=h.up m;have D:=h.X0;by_cases g:l.all k9=false
 .have a:l≠[]:=by rintro rfl;cases g
  constructor<;>rw[ik,O g]
  .intro e;cases e
  .exact λ_=>⟨rfl,a,.inl ⟨rfl,(by decide:(1:Int)≠30)⟩⟩
  .dsimp only;omega
  exact id
 by_cases i:(eg s l).2≠0
 .have a:l≠[]:=by rintro rfl;exact i rfl
  constructor<;>rw[ik,X g,O i]
  .intro e;exact absurd e i
  .exact λ_=>⟨rfl,a,.inl ⟨rfl,by rcases wh (l:=l) (s:=s)with e|e|e<;>rw[e]<;>decide⟩⟩
  .dsimp only;omega
  exact id
 have p:(eg s l).2=0:=A0.1 i;have v:l.all k9=true:=by simpa using g
 by_cases o:l.length=0
 .obtain rfl:=A6 o;constructor<;>rw[ik,X g,X i,O o]
  .exact λ_=>⟨m,by rw[A1];exact h,rfl,rfl,rfl,rfl,rfl,λ_=>rfl⟩
  .intro e;exact absurd rfl e
  .dsimp only;omega
  exact id
 have a:l≠[]:=by rintro rfl;exact o rfl
 by_cases c:d.fQ (l1 l)≠0
 .have B:d.fQ (l1 l)=20:=by
   unfold j9.fQ at c⊢;rw[m]at c⊢;simp only[Bool.false_eq_true,if_false]at c⊢;split at c
   .rename_i q;rw[O q]
   exact absurd rfl c
  constructor<;>rw[ik,X g,X i,X o,O c]
  .intro e;exact absurd e c
  .exact λ_=>⟨rfl,a,.inl ⟨rfl,by dsimp only;rw[B];decide⟩⟩
  .dsimp only;omega
  exact id
 have C:¬65536-(d.b.length:Int)<(l1 l).length:=by
  intro q;unfold j9.fQ at c;rw[m,X am,O q]at c;exact c am
 have j:d.qs (l1 l)=⟨d.b++l1 l,d.b7,false,d.c9,d.dc⟩:=by
  rw[j9.qs,X (by rw[m];simpa using C),m]
 have y:d.b++l1 l=l1 (L++l):=by rw[w,vX]
 have z:(eg p0 (L++l)).2=0:=by rw[eJ h.st,<-A];exact p
 by_cases t:d.c9=true
 .have u:(d.qs (l1 l)).ek=30:=by rw[j,j9.ek,O (.inr t)]
  have f:(d.qs (l1 l)).sync=(d.qs (l1 l)).bR d.dc:=by rw[j,j9.sync,X Bool.false_ne_true,O t]
  constructor<;>rw[ik,X g,X i,X o,X c,O (by rw[u];decide)]
  .intro e;rw[u]at e;cases e
  .refine λ_=>⟨rfl,a,.inr ⟨t,u,by rw[f];rfl,by rw[f];rfl,?_⟩⟩;dsimp only;rw[f,j];refine E6.apa (k:=((⟨d.b++l1 l,d.b7,false,d.c9,d.dc⟩:j9).at_ d.dc).toNat) z ?_ (by show take _ (d.b++l1 l)=_;rw[y]) ?_ rfl
   .rw[<-w];simp[j9.at_,s8];omega
   simp[j9.bR,j9.at_,sh,s8];omega
  .rw[f,j];simp[j9.bR,sh,s8];omega
  intro _;rw[f,j];simp[j9.bR,sh,s8];omega
 have u:(d.qs (l1 l)).ek=0:=by rw[j,j9.ek,X (by simpa using t)]
 have f:(d.qs (l1 l)).sync=⟨d.b++l1 l,(d.b++l1 l).length,false,d.c9,d.dc⟩:=by rw[j,j9.sync,X Bool.false_ne_true,X t]
 constructor<;>rw[ik,X g,X i,X o,X c,X (by rw[u];decide)]
 .refine λ_=>⟨by rw[f],?_,rfl,p,v,by rw[f],by rw[f],λe=>absurd e a⟩;dsimp only;rw[f];exact E6.enc z y rfl
 .intro e;exact absurd rfl e
 .rw[f];dsimp only;rw[s8];omega
 intro _;rw[f];dsimp only;rw[s8];omega
def an2(h:r.kind=1/\1<=r.a/\r.a<=3/\r.b=0/\r.x=[]):k9 r=true:=cq.2 (.inl h)
theorem alw(h:r.kind=2/\0<=r.a/\r.a<=1048576/\0<=r.b/\r.b<=5/\r.x=[]):k9 r=true:=cq.2 (.inr (.inl h))
def am4(h:r.kind=3/\1<=r.a/\r.a<=64/\0<=r.b/\r.b<=1048576/\r.x.length<=200):k9 r=true:=cq.2 (.inr (.inr (.inl h)))
def apu(h:r.kind=4/\1<=r.a/\r.a<=64/\r.b=0/\r.x=[]):k9 r=true:=cq.2 (.inr (.inr (.inr h)))
def qS{s t:b9}(h:k9 r=true)(e:dO s r=some t):aK s r=(t,0):=by
 rw[aK,X (by rw[h];decide),e]
theorem lS{s:b9}(h:(aK s r).2=0):eg s [r]=((aK s r).1,0):=by
 rw[eg,O h,eg]
variable{t:Int}
theorem zL{s:b9}{v:Int}(a:0<=t)(c:t<=1048576)(f:0<=v)(g:v<=5)(h:s.a8<t\/(s.a8=t/\(s.hQ=0\/s.hQ=v))):eg s [⟨2,t,v,[]⟩]=({s with a8:=t,hQ:=v},0):=by
 have e:aK s ⟨2,t,v,[]⟩=({s with a8:=t,hQ:=v},0):=by
  refine qS (alw ⟨rfl,a,c,f,g,rfl⟩) ?_;rw[dO,X (show¬(2:Int)=1 by decide),O rfl,fK,X];grind
 rw[lS (by rw[e]),e]
theorem pD{s:b9}(a:0<=t)(c:t<=1048576):eg s (ao s t)=({s with a8:=max s.a8 t,hQ:=if s.a8<t then 0 else s.hQ},0)/\(ao s t).all k9=true:=by
 unfold ao;split
 .rename_i h;rw[show max s.a8 t=s.a8 by omega,X N];exact⟨rfl,rfl⟩
 grind[zL,alw]
def nV{y:eA}:bF y=true↔1<=y.a8/\y.a8<=1048576/\y.b.length<=200:=by
 simp[bF,aM];omega
theorem Ae:∀{m:List eA} {s:b9},m.all bF=true->s.log.length+m.length<=64->eg s (gm ((s.log.length:Int)+1) m)=({s with log:=s.log++m},0)/\(gm ((s.log.length:Int)+1) m).all k9=true
 |[],s,_,_=>⟨by rw[gm,eg,A1],rfl⟩
 |y::m,s,h,g=>by
  rw[K7,r3,nV]at h;rw[x7]at g;have a:k9 ⟨3,(s.log.length:Int)+1,y.a8,y.b⟩=true:=am4 ⟨rfl,by dsimp only;omega,by dsimp only;omega,by dsimp only;omega,by dsimp only;omega,by dsimp only;omega⟩;have e:aK s ⟨3,(s.log.length:Int)+1,y.a8,y.b⟩=({s with log:=s.log++[y]},0):=by
   refine qS a ?_;rw[dO,X (show¬(3:Int)=1 by decide),X (show¬(3:Int)=2 by decide),O rfl,ei,X (by dsimp only;omega)]
  obtain⟨c,f⟩:=Ae (m:=m) (s:={s with log:=s.log++[y]}) h.2 (by dsimp only;rw[s8,Q5];omega);have i:(((s.log++[y]).length:Nat):Int)+1=(s.log.length:Int)+1+1:=by rw[s8,Q5];omega
  rw[i]at c f;refine⟨?_,?_⟩
  .rw[gm,eg,O (by rw[e]),e,c];simp
  rw[gm,K7,a,f];rfl
theorem BX(h:nd x=0):x.l.all bF=true:=by
 unfold nd at h;grind
theorem Tf(h:nd x=0):0<=x.b:=by
 unfold nd at h;split at h
 .rename_i a;simp[jj,aM,eV]at a;grind
 cases h
def gf(s:b9)(x:ep):Nat:=iC (s.log.drop x.a.toNat) x.l
def eZ(s:b9)(x:ep):List eA:=if x.l.length<=gf s x then s.log else s.log.take (x.a.toNat+gf s x)++x.l.drop (gf s x)
theorem BP{l:List eA}{k:Int}(h:bM l k=t)(a:0<=t)(c:0<=k):k.toNat<=l.length:=by
 unfold bM at h;grind
theorem Cm{s:b9}(c:x.a.toNat<=s.log.length):x.a.toNat+x.l.length<=(eZ s x).length/\(eZ s x).length<=max s.log.length (x.a.toNat+x.l.length):=by
 have h:=qA (h:=s.log.drop x.a.toNat) (a:=x.l);unfold eZ gf;grind
def sL{m:List eA}(h:m.all bF=true):(m.drop k).all bF=true:=
 Hm.2 λy a=>Hm.1 h y (List.mem_of_mem_drop a)
theorem Wc{s:b9}(h:nd x=0)(H:s.log.length<=64)(y:x.a+x.l.length<=64)(I:s.a8<=x.a8)(z:bM s.log x.a=x.b)(A:0<=x.a)(B:1<=x.a8)(o:x.a8<=1048576):
  eg s (kZ s x)=({s with a8:=x.a8,hQ:=if s.a8<x.a8 then 0 else s.hQ,log:=eZ s x},0)/\(kZ s x).all k9=true:=by
 have C:=Tf h;have D:=BP z C A;have q:=BX h;obtain⟨j,u⟩:=pD (s:=s) (t:=x.a8) N o;have j:eg s (ao s x.a8)=({s with a8:=x.a8,hQ:=if s.a8<x.a8 then 0 else s.hQ},0):=by rw[j,show max s.a8 x.a8=x.a8 by omega]
 have F:=qA (h:=s.log.drop x.a.toNat) (a:=x.l);rw[length_drop]at F;unfold kZ;by_cases c:x.l.length<=gf s x
 .have e:aX s.log x.a x.l=(0,[]):=by rw[aX,X N];exact O c
  rw[e,O rfl,gm,A1,A1,eZ,O c];grind
 by_cases f:(s.log.drop x.a.toNat).length<=gf s x
 .have G:gf s x=s.log.length-x.a.toNat:=by rw[length_drop]at f;unfold gf at f⊢;omega
  have e:aX s.log x.a x.l=(0,x.l.drop (gf s x)):=by rw[aX,X N];exact(X c).trans (O f)
  have p:x.a+(x.l.length:Int)-((x.l.drop (gf s x)).length:Int)+1=(s.log.length:Int)+1:=by rw[length_drop];omega
  rw[e,O rfl,A1];dsimp only;rw[p];obtain⟨g,i⟩:=Ae (m:=x.l.drop (gf s x)) (s:={s with a8:=x.a8,hQ:=if s.a8<x.a8 then 0 else s.hQ}) (sL q) (by dsimp only;rw[length_drop];omega);dsimp only at g i;refine⟨?_,by rw[K1,u,i];rfl⟩;rw[eJ (by rw[j]),j];dsimp only;rw[g,eZ,X c,take_of_length_le (l:=s.log) N]
 have G:x.a.toNat+gf s x<s.log.length:=by rw[length_drop]at f;omega
 have e:aX s.log x.a x.l=(x.a+gf s x+1,x.l.drop (gf s x)):=by rw[aX,X N];exact(X c).trans (X f)
 have v:k9 ⟨4,x.a+gf s x+1,0,[]⟩=true:=apu ⟨rfl,by dsimp only;omega,by dsimp only;omega,rfl,rfl⟩;have J:aK {s with a8:=x.a8,hQ:=if s.a8<x.a8 then 0 else s.hQ} ⟨4,x.a+gf s x+1,0,[]⟩=({s with a8:=x.a8,hQ:=if s.a8<x.a8 then 0 else s.hQ,log:=s.log.take (x.a.toNat+gf s x)},0):=by
  refine qS v ?_;rw[dO,X (show¬(4:Int)=1 by decide),X (show¬(4:Int)=2 by decide),X (show¬(4:Int)=3 by decide),fW,X (by dsimp only;omega)];dsimp only;rw[show(x.a+(gf s x:Int)+1-1).toNat=x.a.toNat+gf s x by omega]
 have p:x.a+(x.l.length:Int)-((x.l.drop (gf s x)).length:Int)+1=(((s.log.take (x.a.toNat+gf s x)).length:Nat):Int)+1:=by rw[length_drop,sh];omega
 rw[e];dsimp only;rw[X N,p];obtain⟨g,i⟩:=Ae (m:=x.l.drop (gf s x)) (s:={s with a8:=x.a8,hQ:=if s.a8<x.a8 then 0 else s.hQ,log:=s.log.take (x.a.toNat+gf s x)}) (sL q) (by dsimp only;rw[length_drop,sh];omega);dsimp only at g i;refine⟨?_,by rw[K1,K1,u,i];simp[v]⟩;have w:eg s (ao s x.a8++[⟨4,x.a+gf s x+1,0,[]⟩])=({s with a8:=x.a8,hQ:=if s.a8<x.a8 then 0 else s.hQ,log:=s.log.take (x.a.toNat+gf s x)},0):=by grind[eJ,lS]
 rw[eJ (by rw[w]),w];dsimp only;rw[g,eZ,X c]
structure p5(n:Nd):Prop where
 d:n.d.OK
 ea:3<=n.c.ea/\n.c.ea<=5
 me:0<=n.c.me/\n.c.me<n.c.ea
 log:n.c.st.log.length<=64
 a8:0<=n.c.st.a8/\n.c.st.a8<=1048576
 y1:0<=n.c.b5/\n.c.b5<=n.c.b8/\n.c.b8<=n.c.st.log.length
 len:n.c.ee=0\/((n.vs.length:Int)=n.c.ea/\(n.bn.length:Int)=n.c.ea/\(n.nx.length:Int)=n.c.ea/\(n.mt.length:Int)=n.c.ea)
 rp:(n.rp.length:Int)=n.c.b5
abbrev z6:c5:=c5.mk 1 1 0 0 [] [] []
structure UpI(n:Nd)(L:List dm):Prop where
 st:n.c.st=(eg p0 L).1
 bin:1<=n.c.bin/\n.c.bin<=3/\n.c.st.floor=n.c.bin
 ee:0<=n.c.ee/\n.c.ee<=2
 hQ:n.c.ee≠0->n.c.st.hQ=n.c.me+1/\1<=n.c.st.a8
 nx:n.c.ee=2->∀i:Nat,(i:Int)<n.c.ea->1<=n.nx.getD i 0/\n.nx.getD i 0<=n.c.st.log.length+1
 pl:x3 n.c.bin (n.c.st.log.take n.c.b5.toNat)/\n.c.s=pS n.c.bin z6 (n.c.st.log.take n.c.b5.toNat)/\n.rp=pR n.c.bin z6 (n.c.st.log.take n.c.b5.toNat)
structure rl(n:Nd)(L:List dm):Prop where
 ok:p5 n
 d:E6 n.d L
 le:∀r∈L,r.kind=3->1<=r.b
 up:n.d.down=false->UpI n L
structure I5(n:Nd)(x:ep):Prop where
 up:n.d.down=false
 l5:x.l5=n.c.me
 to:x.to≠n.c.me/\0<=x.to/\x.to<n.c.ea
 a8:x.a8=n.c.st.a8
 bin:x.bin=n.c.bin
 ask:x.kind=1->n.c.st.hQ=n.c.me+1
 hQ:x.kind=2->x.ok=true->n.c.st.hQ=x.to+1
 copy:x.kind=3->n.c.ee=2
structure p4(n:Nd)(L:List dm)(n':Nd)(l:List ep)(L':List dm):Prop where
 inv:rl n' L'
 pre:L<+:L'
 me:n'.c.me=n.c.me/\n'.c.ea=n.c.ea
 len:n'.d.b.length<=n.d.b.length+1400
 lets:∀x∈l,I5 n' x
 mono:n.d.down=false->n'.d.down=false->n.c.b8<=n'.c.b8/\n'.c.st.log.take n.c.b8.toNat=n.c.st.log.take n.c.b8.toNat/\n'.c.bin=n.c.bin
variable{n:Nd}
def p4.refl(h:rl n L):p4 n L n [] L:=
 ⟨h,List.prefix_refl _,⟨rfl,rfl⟩,N,λ_ a=>(by cases a),λ_ _=>⟨x5 _,rfl,rfl⟩⟩
theorem uu{s:b9}(h:K4 d s l L)(c:l.length<=6):(ik d s l).1.b.length<=d.b.length+1400:=by
 cases a:l.all k9
 .have e:ik d s l=(d,s,1):=by rw[ik,O a]
  grind
 have:=h.len;have:=qj a;omega
def Pm(n:Nd)(l:List dm):(n.fl l).c={n.c with st:=(ik n.d n.c.st l).2.1}:=rfl
def Mt(n:Nd)(l:List dm):(n.fl l).d=(ik n.d n.c.st l).1:=rfl
theorem sE{s t:b9}(a:k9 r=true)(h:dO s r=some t)(c:s.log.length<=64)(e:0<=s.a8/\s.a8<=1048576):t.log.length<=64/\0<=t.a8/\t.a8<=1048576:=by
 have f:=cq.1 a;unfold dO at h;split at h
 .unfold ey at h;grind
 split at h
 .unfold fK at h;grind
 split at h
 .unfold ei at h;grind
 unfold fW at h;grind
theorem kH{s:b9}(h:(aK s r).2=0):k9 r=true/\dO s r=some (aK s r).1:=by
 have a:=wB h;unfold aK at h⊢;grind
theorem qb:∀{l:List dm} {s:b9},s.log.length<=64->0<=s.a8/\s.a8<=1048576->(eg s l).1.log.length<=64/\0<=(eg s l).1.a8/\(eg s l).1.a8<=1048576
 |[],_,a,c=>⟨a,c⟩
 |r::l,s,a,c=>by
  rw[eg];split
  .rename_i h;obtain⟨e,f⟩:=kH h;obtain⟨g,i⟩:=sE e f a c;exact qb g i
  grind
theorem B_{s:b9}(h:K4 d s l L)(c:d.OK):(ik d s l).1.OK:=by
 by_cases e:(ik d s l).2.2=0
 .have a:=(h.ok e).2.1.X0;exact⟨N,N,h.le c.2.2⟩
 rcases(h.no e).2.2 with⟨a,_⟩|⟨_,_,_,_,i,_,a⟩
 .grind
 have f:=a.X0;exact⟨N,N,h.le c.2.2⟩
theorem ns(h:rl n L)(q:n.d.down=false)(u:l.length<=6)(B:∀r∈l,r.kind=3->1<=r.b)(v:n.aB l≠0):∃w,p4 n L (n.fl l) [] w:=by
 have j:=h.up q;have m:=FN (l:=l) h.d q j.st;have f:=uu m u;have g:=B_ m h.ok.d;obtain⟨s,C,o⟩:=m.no v;have a:(n.fl l).c=n.c:=by rw[Pm,s]
 have p:p5 (n.fl l):=⟨g,by rw[a];exact h.ok.ea,by rw[a];exact h.ok.me,by rw[a];exact h.ok.log,by rw[a];exact h.ok.a8,by rw[a];exact h.ok.y1,by rw[a];exact h.ok.len,by rw[a];exact h.ok.rp⟩;rcases o with⟨o,_⟩|⟨_,_,y,_,i,_,z⟩
 .have e:n.fl l=n:=by
   unfold Nd.fl;rw[s,o]
  rw[e];exact⟨L,p4.refl h⟩
 refine⟨L++l.take i,⟨p,z,λr hr=>?_,λg=>?_⟩,AY,by rw[a];exact⟨rfl,rfl⟩,f,λ_ A=>(by cases A),λ_ g=>?_⟩
 .rcases A7.1 hr with hr|hr
  .exact h.le r hr
  grind
 .grind
 rw[Mt,y]at g;cases g
structure N4(n:Nd)(L l:List dm):Prop where
 d:E6 (n.fl l).d (L++l)
 dn:(n.fl l).d.down=false
 st:(n.fl l).c.st=(eg n.c.st l).1
 sts:(n.fl l).c.st=(eg p0 (L++l)).1
 le:∀r∈L++l,r.kind=3->1<=r.b
 len:(n.fl l).d.b.length<=n.d.b.length+1400
 ok:(n.fl l).d.OK
 lt:(n.fl l).c.st.log.length<=64/\0<=(n.fl l).c.st.a8/\(n.fl l).c.st.a8<=1048576
 no:l=[]->n.fl l=n
theorem nO(h:rl n L)(i:n.d.down=false)(j:l.length<=6)(u:∀r∈l,r.kind=3->1<=r.b)(m:n.aB l=0):N4 n L l:=by
 have a:=h.up i;have f:=FN (l:=l) h.d i a.st;obtain⟨o,p,q,v,w,y,z,s⟩:=f.ok m;have g:(n.fl l).c.st=(eg n.c.st l).1:=q;refine⟨p,o,g,?_,λr hr=>?_,uu f j,B_ f h.ok.d,?_,λe=>?_⟩
 .rw[g,eJ h.d.st,a.st]
 .rcases A7.1 hr with hr|hr
  .exact h.le r hr
  grind
 .rw[g];exact qb h.ok.log h.ok.a8
 unfold Nd.fl;rw[s e]
theorem Wk{c:Type}{a b:List c}{j:Nat}(h:a.take k=b.take k)(e:j<=k):a.take j=b.take j:=by
 have f:a.take j=(a.take k).take j:=by rw[T3,I2 e]
 grind
theorem nP(h:rl n L)(f:n.d.down=false)(y:N4 n L l)(g:n.c.ee≠0->(n.fl l).c.st.hQ=n.c.me+1/\1<=(n.fl l).c.st.a8)(j:(n.fl l).c.st.floor=n.c.st.floor)
  (e:(n.fl l).c.st.log.take n.c.b8.toNat=n.c.st.log.take n.c.b8.toNat)(m:n.c.b8<=((n.fl l).c.st.log.length:Int))(v:n.c.ee=2->n.c.st.log.length<=(n.fl l).c.st.log.length):p4 n L (n.fl l) [] (L++l):=by
 have a:=h.up f;have o:(n.fl l).c.st.log.take n.c.b5.toNat=n.c.st.log.take n.c.b5.toNat:=Wk e (by have:=h.ok.y1;omega);refine⟨⟨⟨y.ok,h.ok.ea,h.ok.me,y.lt.1,y.lt.2,⟨h.ok.y1.1,h.ok.y1.2.1,m⟩,h.ok.len,h.ok.rp⟩,y.d,y.le,λ_=>⟨y.sts,⟨a.bin.1,a.bin.2.1,j.trans a.bin.2.2⟩,a.ee,g,λp i q=>?_,?_⟩⟩,List.prefix_append _ _,⟨rfl,rfl⟩,y.len,λ_ u=>(by cases u),λ_ _=>⟨x5 _,e,rfl⟩⟩
 .have w:=a.nx p i q;grind
 show x3 n.c.bin ((n.fl l).c.st.log.take n.c.b5.toNat)/\n.c.s=pS n.c.bin z6 ((n.fl l).c.st.log.take n.c.b5.toNat)/\n.rp=pR n.c.bin z6 ((n.fl l).c.st.log.take n.c.b5.toNat);rw[o];exact a.pl
theorem rl.follow{n:Nd}{L:List dm}(h:rl n L):rl n.follow L:=
 ⟨⟨h.ok.d,h.ok.ea,h.ok.me,h.ok.log,h.ok.a8,h.ok.y1,.inl rfl,h.ok.rp⟩,h.d,h.le,λe=>by
  have a:=h.up e;exact⟨a.st,a.bin,⟨x5 0,(by decide:(0:Int)<=2)⟩,λc=>absurd rfl c,λc=>absurd (show(0:Int)=2 from c) am,a.pl⟩⟩
variable{n':Nd}{L':List dm}
def p4.nS{l:List ep}(h:p4 n.follow L n' l L'):p4 n L n' l L':=⟨h.inv,h.pre,h.me,h.len,h.lets,h.mono⟩
theorem t_{n:w8}{i:Int}(h:i∈dI n):i≠n.me/\0<=i/\i<n.ea:=by
 unfold dI ky at h;grind
variable{to:Int}
theorem afR(h:(iJ n to).2=0):(iJ n to).1=na n.c.st ⟨n.c.me,to,n.nx.getD to.toNat 0,n.c.b8,n.c.bin⟩:=by
 unfold iJ eD at h⊢;grind
theorem HC(a:n.d.down=false)(f:n.c.ee=2)(h:(iJ n to).2=0)(g:to≠n.c.me/\0<=to/\to<n.c.ea):I5 n (iJ n to).1:=by
 rw[afR h];exact⟨a,rfl,g,rfl,rfl,λe=>absurd (show(3:Int)=1 from e) am,λe=>absurd (show(3:Int)=2 from e) am,λ_=>f⟩
theorem DN{n:Nd}:∀{l:List Int} {x:ep},x∈(db n l).1->∃to∈l,(iJ n to).2=0/\x=(iJ n to).1
 |t::l,x,h=>by
  unfold db at h;split at h
  .rename_i a;split at h
   .rcases v7.1 h with rfl|h
    .grind
    obtain⟨u,c,k⟩:=DN h;grind
   cases h
  cases h
theorem rq(a:x∈(cM n).1):I5 n x:=by
 unfold cM at a;split at a
 .cases a
 grind[DN,HC,t_]
def p4.tell{l:List ep}(h:p4 n L n' [] L')(a:∀x∈l,I5 n' x):p4 n L n' l L':=⟨h.inv,h.pre,h.me,h.len,a,h.mono⟩
def El(a:n.d.down=false)(f:n.c.st.hQ=n.c.me+1)(g:x∈hP n.c):I5 n x:=by
 obtain⟨to,h,rfl⟩:=M7.1 g;exact⟨a,rfl,t_ h,rfl,rfl,λ_=>f,λe=>absurd (show(1:Int)=2 from e) am,λe=>absurd (show(1:Int)=3 from e) am⟩
theorem Pc{s:b9}{m:Int}(h:(ax s m).2=0)(a:0<=m)(c:0<=s.a8):ax s m=([⟨2,s.a8+1,m+1,[]⟩],0)/\eg s [⟨2,s.a8+1,m+1,[]⟩]=({s with a8:=s.a8+1,hQ:=m+1},0):=by
 unfold ax at h⊢;split at h
 .cases h
 grind[zL]
variable{k:Int}
def aqK{a b:Int}(c:k≠3):∀r∈[dm.mk k a b []],r.kind=3->1<=r.b:=λr f e=>by
 rw[D0.1 f]at e;exact absurd e c
theorem yf(h:rl n L):∃L',p4 n L (bq n).n (bq n).l L':=by
 unfold bq;split
 .exact⟨L,.refl h⟩
 rename_i i;have f:n.d.down=false:=by simpa using i
 split
 .exact⟨L,.refl h⟩
 rename_i g;split
 .exact⟨L,.refl h⟩
 rename_i j;obtain⟨m,o⟩:=Pc (A0.1 j) h.ok.me.1 h.ok.a8.1;rw[m];dsimp only;split
 .simp_all[ns]
 rename_i p;have y:=nO h f aa (aqK am) (A0.1 p);have e:=h.up f;have a:=y.st;rw[o]at a;generalize v:[dm.mk 2 (n.c.st.a8+1) (n.c.me+1) []]=l at*;have w:=h.ok.me;have q:=h.ok.ea;refine⟨L++l,⟨⟨⟨y.ok,h.ok.ea,h.ok.me,y.lt.1,y.lt.2,?_,?_,h.ok.rp⟩,y.d,y.le,λ_=>⟨y.sts,⟨e.bin.1,e.bin.2.1,?_⟩,⟨(by decide:(0:Int)<=1),(by decide:(1:Int)<=2)⟩,λ_=>?_,λg=>absurd (show(1:Int)=2 from g) am,?_⟩⟩,List.prefix_append _ _,⟨rfl,rfl⟩,y.len,λx u=>El y.dn ?_ u,λ_ _=>⟨x5 _,?_,rfl⟩⟩⟩
 .show 0<=n.c.b5/\n.c.b5<=n.c.b8/\n.c.b8<=((n.fl l).c.st.log.length:Int);rw[a];exact h.ok.y1
 .refine .inr ⟨?_,?_,?_,?_⟩
  .show((((replicate n.c.ea.toNat false).set n.c.me.toNat true).length:Nat):Int)=n.c.ea;rw[B1,J6];omega
  .show((((replicate n.c.ea.toNat (0:Int)).set n.c.me.toNat n.c.bin).length:Nat):Int)=n.c.ea;rw[B1,J6];omega
  .show(((replicate n.c.ea.toNat (0:Int)).length:Nat):Int)=n.c.ea;rw[J6];omega
  show(((replicate n.c.ea.toNat (0:Int)).length:Nat):Int)=n.c.ea;rw[J6];omega
 .show(n.fl l).c.st.floor=n.c.bin;rw[a];exact e.bin.2.2
 .show(n.fl l).c.st.hQ=n.c.me+1/\1<=(n.fl l).c.st.a8;rw[a];exact⟨rfl,by have:=h.ok.a8.1;dsimp only;omega⟩
 .show x3 n.c.bin ((n.fl l).c.st.log.take n.c.b5.toNat)/\n.c.s=pS n.c.bin z6 ((n.fl l).c.st.log.take n.c.b5.toNat)/\n.rp=pR n.c.bin z6 ((n.fl l).c.st.log.take n.c.b5.toNat);rw[a];exact e.pl
 .show(n.fl l).c.st.hQ=n.c.me+1;rw[a]
 show(n.fl l).c.st.log.take n.c.b8.toNat=_;rw[a]
theorem Bb:∀{k:Nat} {n:Nd} {L:List dm},rl n L->n.d.down=false->rl (n.dk k) L/\(n.dk k).d=n.d/\(n.dk k).c={n.c with s:=(n.dk k).c.s,b5:=(n.dk k).c.b5}/\(n.dk k).vs=n.vs/\(n.dk k).bn=n.bn/\(n.dk k).nx=n.nx/\(n.dk k).mt=n.mt
 |0,n,L,h,_=>⟨h,rfl,rfl,rfl,rfl,rfl,rfl⟩
 |k+1,n,L,h,o=>by
  unfold Nd.dk;split
  .rename_i J;split
   .rename_i f;have a:=h.up o;have q:=h.ok.y1;obtain⟨x,g⟩:∃x,n.c.st.log[n.c.b5.toNat]? =some x:=⟨_,r5 N⟩;have e:(n.c.st.log.drop n.c.b5.toNat).take 1=[x]:=by
     obtain⟨i,j⟩:=sy.1 g;rw[K6 i,j];rfl
    rw[e]at f⊢;have m:(bd x n.c.bin).e=0:=by
     unfold pE at f;split at f
     .assumption
     exact f
    have u:x8 n.c.bin n.c.s [x]=jA n.c.bin n.c.s x:=by
     unfold x8 pN pN;rw[O m];rfl
    have v:B3 n.c.bin n.c.s [x]=[oY n.c.bin n.c.s x]:=by
     unfold B3 pN pN;rw[O m];rfl
    have w:(n.c.b5+1).toNat=n.c.b5.toNat+1:=by omega
    obtain⟨y,p,z⟩:=a.pl;rw[u,v];have A:rl {n with c:={n.c with s:=jA n.c.bin n.c.s x,b5:=n.c.b5+1},rp:=n.rp++[oY n.c.bin n.c.s x]} L:=by
     refine⟨⟨h.ok.d,h.ok.ea,h.ok.me,h.ok.log,h.ok.a8,⟨by dsimp only;omega,by dsimp only;omega,q.2.2⟩,h.ok.len,?_⟩,h.d,h.le,λ_=>⟨a.st,a.bin,a.ee,a.hQ,a.nx,?_⟩⟩
     .dsimp only;rw[s8,Q5];have:=h.ok.rp;omega
     dsimp only;rw[w];refine⟨zl y g m,?_,?_⟩
     .rw[p];exact HN g
     rw[z,p];exact HR g
    obtain⟨B,C,D,F,G,H,I⟩:=Bb (k:=k) A o;exact⟨B,C,D,F,G,H,I⟩
   grind
  grind
theorem kF{s:b9}:∀r∈ao s t,r.kind=3->1<=r.b:=λr a e=>by
 unfold ao at a;grind
theorem gA{s:b9}:(ao s t).length<=1:=by
 unfold ao;split<;>simp
theorem nR(h:nd x=0):x.l5≠x.to:=by
 unfold nd at h;split at h
 .rename_i a;simp[jj]at a;grind
 cases h
structure G0(n:Nd)(x:ep):Prop where
 may:nd x=0
 to:x.to=n.c.me
 l5:x.l5<n.c.ea
theorem ry(h:cm n.c x=true):G0 n x/\(x.kind=3->(aq n.c.st x).2.2.2=0/\(aq n.c.st x).1.any (λr=>decide (r.kind=4)&&decide (r.a<=n.c.b8))=false):=by
 unfold cm at h;split at h
 .cases h
 rename_i e;refine⟨⟨N,N,N⟩,λf=>?_⟩;grind
theorem abu{s:b9}(h:(aA s x).2.2=0)(f:nd x=0):(aA s x).1.length<=1/\(∀r∈(aA s x).1,r.kind=3->1<=r.b)/\
  (eg s (aA s x).1)=({s with a8:=max s.a8 x.a8,hQ:=if(aA s x).2.1=true then x.l5+1 else if s.a8<x.a8 then 0 else s.hQ},0)/\
  ((aA s x).2.1=true->s.a8<=x.a8/\(x.a8=s.a8->s.hQ=0\/s.hQ=x.l5+1))/\(x.a8<=s.a8->(aA s x).2.1=false->(aA s x).1=[])/\(x.a8<=s.a8->s.hQ≠0->(aA s x).1=[]):=by
 have o:=fC f;unfold aA at h⊢;split at h
 .cases h
 rename_i g;rw[X g];split at h
 .rename_i a;rw[O a];have:=(pD (s:=s) (t:=x.a8) N N).1;refine⟨gA,kF,?_,λe=>(by cases e),λe _=>(by unfold ao;rw[O e]),λe _=>(by unfold ao;rw[O e])⟩;dsimp only;rw[this];simp
 rename_i a;rw[X a];have c:s.a8<=x.a8/\xK s x=true:=by grind
 have i:x.a8=s.a8->s.hQ=0\/s.hQ=x.l5+1:=λe=>by
  have:=c.2;simp[xK]at this;omega
 split
 .rename_i j;refine⟨aa,λ_ m=>(by cases m),?_,λ_=>⟨c.1,i⟩,λ_ _=>rfl,λ_ _=>rfl⟩;dsimp only;rw[eg,O rfl,show max s.a8 x.a8=s.a8 by omega,<-j.2]
 grind[zL]
theorem IP(h:rl n L)(i:n.d.down=false)(a:G0 n x)(o:n.c.ee≠0->x.a8<=n.c.st.a8):∃L',p4 n L (dF n x).n (dF n x).l L':=by
 unfold dF;split
 .exact⟨L,.refl h⟩
 rename_i p;obtain⟨B,m,q,C,D,s⟩:=abu (A0.1 p) a.may;split
 .rename_i j;exact ns h i N m j
 rename_i j;have y:=nO h i N m (A0.1 j);have f:=y.st;rw[q]at f;have u:=h.up i;refine⟨_,(nP h i y (λg=>?_) (by rw[f]) (by rw[f]) (by rw[f];exact h.ok.y1.2.2) (λ_=>by rw[f];exact tw _)).tell λz v=>?_⟩
 .have F:=u.hQ g;have e:=y.no (s (o g) (by have:=h.ok.me;omega));grind
 rw[D0.1 v];have w:=fC a.may;have A:=nR a.may;refine⟨y.dn,rfl,⟨by have:=a.to;show x.l5≠n.c.me;omega,w.1,a.l5⟩,rfl,rfl,λe=>absurd (show(2:Int)=1 from e) am,λ_ e=>?_,λe=>absurd (show(2:Int)=3 from e) am⟩;have e:(aA n.c.st x).2.1=true:=e;show(n.fl (aA n.c.st x).1).c.st.hQ=x.l5+1;grind
theorem Gi:∀{m:List eA} {k:Int},m.all bF=true->∀r∈gm k m,r.kind=3->1<=r.b
 |y::m,k,h,r,hr,e=>by
  rw[K7,r3,nV]at h;rcases v7.1 hr with rfl|hr
  .exact h.1.1
  exact Gi h.2 r hr e
theorem iw{s:b9}(h:(aq s x).2.2.2=0):(nd x=0/\x.kind=3/\x.a+x.l.length<=64)/\((x.a8<s.a8/\aq s x=([],false,0,0))\/(s.a8<=x.a8/\bM s.log x.a=x.b/\aq s x=(kZ s x,true,x.a+x.l.length,0))\/(s.a8<=x.a8/\¬bM s.log x.a=x.b/\aq s x=(ao s x.a8,false,0,0))):=by
 unfold aq at h⊢;split at h
 .cases h
 grind
theorem xW{s:b9}(h:nd x=0):(kZ s x).length<=6:=by
 have e:=fC h;have f:=gA (s:=s) (t:=x.a8);have g:∀(m:List eA) (k:Int),(gm k m).length=m.length:=λm=>by
  induction m with
  |nil=>intro _;rfl
  |cons y m c=>intro k;rw[gm,x7,x7,c]
 have i:(aX s.log x.a x.l).2.length<=x.l.length:=by
  unfold aX;grind
 unfold kZ;grind
theorem Wl{s:b9}(h:nd x=0):∀r∈kZ s x,r.kind=3->1<=r.b:=λr hr e=>by
 rcases A7.1 hr with hr|hr
 .rcases A7.1 hr with hr|hr
  .exact kF r hr e
  grind
 refine Gi ?_ r hr e;have:=BX h;unfold aX;grind
theorem zi{s:b9}(c:nd x=0)(q:x.a.toNat<=s.log.length)(f:(kZ s x).any (λr=>decide (r.kind=4)&&decide (r.a<=k))=false)(u:0<=k)(v:k<=s.log.length):(eZ s x).take k.toNat=s.log.take k.toNat/\k<=((eZ s x).length:Int):=by
 have w:=fC c;have g:=qA (h:=s.log.drop x.a.toNat) (a:=x.l);rw[length_drop]at g;unfold eZ;split
 .grind
 rename_i i;have h2:k.toNat<=x.a.toNat+gf s x\/s.log.length<=x.a.toNat+gf s x:=by
  by_cases j:(s.log.drop x.a.toNat).length<=gf s x
  .grind
  left;have e:aX s.log x.a x.l=(x.a+gf s x+1,x.l.drop (gf s x)):=by rw[aX,X N];exact(X i).trans (X j)
  have m:dm.mk 4 (x.a+gf s x+1) 0 []∈kZ s x:=by
   unfold kZ;rw[e];dsimp only;rw[X N];simp
  have o:=List.any_eq_false.1 f _ m;simp at o;omega
 have p:k.toNat<=(s.log.take (x.a.toNat+gf s x)).length:=by rw[sh];omega
 refine⟨?_,by rw[s8];omega⟩;rw[N6 p,T3];rcases h2 with h2|h2
 .grind
 grind
theorem Aq{s:b9}(h:(ik d s l).2.2=0):(ik d s l).2.1=(eg s l).1/\(eg s l).2=0:=by
 unfold ik at h⊢;split at h
 .cases h
 rename_i e;split at h
 .grind
 rename_i a;have a:=A0.1 a;split at h
 .rename_i c;obtain rfl:=A6 c;exact⟨rfl,rfl⟩
 grind
def vC(h:p5 n)(q:cm n.c x=true)(s:x.kind=3)(g:(aq n.c.st x).2.1=true):
  (aq n.c.st x)=(kZ n.c.st x,true,x.a+x.l.length,0)/\n.c.st.a8<=x.a8/\(eg n.c.st (kZ n.c.st x))=({n.c.st with a8:=x.a8,hQ:=if n.c.st.a8<x.a8 then 0 else n.c.st.hQ,log:=eZ n.c.st x},0)/\
  (eZ n.c.st x).take n.c.b8.toNat=n.c.st.log.take n.c.b8.toNat/\n.c.b8<=((eZ n.c.st x).length:Int)/\x.a+x.l.length<=((eZ n.c.st x).length:Int)/\nd x=0/\bM n.c.st.log x.a=x.b:=by
 obtain⟨f,u⟩:=ry q;obtain⟨v,m⟩:=u s;have B:=fC f.may;obtain⟨⟨_,_,i⟩,w⟩:=iw v;rcases w with⟨_,e⟩|⟨o,j,e⟩|⟨_,_,e⟩
 .rw[e]at g;cases g
 .rw[e]at m;have y:=(Wc f.may h.log i o j N N N).1;have p:=BP j (Tf f.may) N;obtain⟨z,A⟩:=zi f.may p m (by have:=h.y1;omega) h.y1.2.2;have C:=Cm (x:=x) p;exact⟨e,o,y,z,A,N,f.may,j⟩
 rw[e]at g;cases g
def CT(f:p5 n)(h:cm n.c x=true)(i:x.kind=3)(j:n.aB (aq n.c.st x).1=0)(m:(aq n.c.st x).2.1=true):
  (0<=(n.fl (aq n.c.st x).1).c.b5/\max (n.fl (aq n.c.st x).1).c.b8 (min x.c (aq n.c.st x).2.2.1)<=((n.fl (aq n.c.st x).1).c.st.log.length:Int))/\((n.fl (aq n.c.st x).1).rp.length:Int)<=(n.fl (aq n.c.st x).1).c.b5/\(n.fl (aq n.c.st x).1).c.st.log.length<=10000:=by
 obtain⟨e,v,o,w,y,z,_⟩:=vC f h i m;have g:(n.fl (aq n.c.st x).1).c.st=(eg n.c.st (aq n.c.st x).1).1:=(Aq j).1;have p:=qb (l:=(aq n.c.st x).1) f.log f.a8;rw[<-g]at p;have q:(n.fl (aq n.c.st x).1).c.st.log=eZ n.c.st x:=by
  rw[g,e];dsimp only;rw[o]
 have s:=f.y1;have A:=f.rp;have u:(aq n.c.st x).2.2.1=x.a+x.l.length:=by rw[e]
 refine⟨⟨s.1,?_⟩,?_,N⟩
 .show max n.c.b8 (min x.c (aq n.c.st x).2.2.1)<=_;rw[q,u];omega
 show((n.rp.length:Nat):Int)<=n.c.b5;omega
theorem p4.b8{n n':Nd}{L L':List dm}{c:Int}(h:p4 n L n' [] L')(g:n'.d.down=false)(i:n'.c.b8<=c)(s:c<=(n'.c.st.log.length:Int)):p4 n L ({n' with c:={n'.c with b8:=c}}:Nd).apply [] L'/\
  (({n' with c:={n'.c with b8:=c}}:Nd).apply.d=n'.d/\({n' with c:={n'.c with b8:=c}}:Nd).apply.c.me=n'.c.me/\({n' with c:={n'.c with b8:=c}}:Nd).apply.c.ea=n'.c.ea/\({n' with c:={n'.c with b8:=c}}:Nd).apply.c.st=n'.c.st/\({n' with c:={n'.c with b8:=c}}:Nd).apply.c.bin=n'.c.bin/\({n' with c:={n'.c with b8:=c}}:Nd).apply.c.ee=n'.c.ee):=by
 have e:=h.inv.up g;have a:=h.inv.ok;have u:rl ({n' with c:={n'.c with b8:=c}}:Nd) L':=⟨⟨a.d,a.ea,a.me,a.log,a.a8,⟨a.y1.1,L1 a.y1.2.1 i,s⟩,a.len,a.rp⟩,h.inv.d,h.inv.le,λ_=>⟨e.st,e.bin,e.ee,e.hQ,e.nx,e.pl⟩⟩;obtain⟨v,j,w,H,I,J,K⟩:=Bb (k:=(c-n'.c.b5).toNat) u g;have y:({n' with c:={n'.c with b8:=c}}:Nd).apply=({n' with c:={n'.c with b8:=c}}:Nd).dk (c-n'.c.b5).toNat:=rfl;rw[y];generalize({n' with c:={n'.c with b8:=c}}:Nd).dk (c-n'.c.b5).toNat=q at*;have f:q.c.me=n'.c.me/\q.c.ea=n'.c.ea/\q.c.st=n'.c.st/\q.c.bin=n'.c.bin/\q.c.ee=n'.c.ee/\q.c.b8=c:=by rw[w];exact⟨rfl,rfl,rfl,rfl,rfl,rfl⟩
 obtain⟨f,m,o,p,z,A⟩:=f;refine⟨⟨v,h.pre,by rw[f,m];exact h.me,by rw[j];exact h.len,λ_ B=>(by cases B),λC b=>?_⟩,j,f,m,o,p,z⟩;obtain⟨D,F,G⟩:=h.mono C g;rw[o,p,A];exact⟨L1 D i,F,G⟩
theorem BO(h:rl n L)(G:n.d.down=false)(R:cm n.c x=true)(m3:x.kind=3):∃L',p4 n L (cN n x).n (cN n x).l L':=by
 obtain⟨o,T⟩:=ry R;obtain⟨H,h4⟩:=T m3;have hb:=fC o.may;have U:=nR o.may;have hi:=h.up G;have I:x.l5≠n.c.me/\0<=x.l5/\x.l5<n.c.ea:=⟨by have:=o.to;omega,N,o.l5⟩;have f:(aq n.c.st x).1.length<=6:=by
  rcases(iw H).2 with⟨_,e⟩|⟨_,_,e⟩|⟨_,_,e⟩<;>rw[e]
  .simp
  .exact xW o.may
  have:=gA (s:=n.c.st) (t:=x.a8);dsimp only;omega
 have u:∀r∈(aq n.c.st x).1,r.kind=3->1<=r.b:=by
  rcases(iw H).2 with⟨_,e⟩|⟨_,_,e⟩|⟨_,_,e⟩<;>rw[e]
  .intro r V;cases V
  .exact Wl o.may
  exact kF
 unfold cN;rw[X N];split
 .rename_i v;exact ns h G f u v
 rename_i v;have v:=A0.1 v;have y:=nO h G f u v;generalize P:(aq n.c.st x).1=l at*;have J:((n.fl l).c.st.floor=n.c.st.floor)/\(n.fl l).c.st.a8=max n.c.st.a8 x.a8/\(n.fl l).c.st.hQ=(if n.c.st.a8<x.a8 then 0 else n.c.st.hQ)/\(n.fl l).c.st.log.take n.c.b8.toNat=n.c.st.log.take n.c.b8.toNat/\n.c.b8<=((n.fl l).c.st.log.length:Int)/\((aq n.c.st x).2.1=true->n.c.st.a8<=x.a8/\(aq n.c.st x).2.2.1<=((n.fl l).c.st.log.length:Int))/\((aq n.c.st x).2.1=false->(n.fl l).c.st.log=n.c.st.log):=by
  have a:=y.st;rw[<-P]at a⊢;rcases(iw H).2 with⟨p,e⟩|⟨e0,_,e⟩|⟨_,_,e⟩
  .rw[e]at a⊢;rw[a];exact⟨rfl,by show n.c.st.a8=_;omega,by rw[X N];rfl,rfl,h.ok.y1.2.2,λq=>(by cases q),λ_=>rfl⟩
  .have w:(aq n.c.st x).2.1=true:=by rw[e]
   obtain⟨_,p,g,A,B,C,_⟩:=vC h.ok R m3 w;rw[e]at a⊢;dsimp only at a⊢;rw[a,g];exact⟨rfl,by dsimp only;omega,rfl,A,B,λ_=>⟨p,C⟩,λq=>(by cases q)⟩
  have g:=(pD (s:=n.c.st) (t:=x.a8) N N).1;rw[e]at a⊢;dsimp only at a⊢;rw[a,g];exact⟨rfl,rfl,rfl,rfl,h.ok.y1.2.2,λq=>(by cases q),λ_=>rfl⟩
 obtain⟨d,s2,s3,E,b,Z,s7⟩:=J;dsimp only;have i:∀{m:Nd} {z:ep},m.d=(n.fl l).d->m.c.me=n.c.me->m.c.ea=n.c.ea->m.c.st=(n.fl l).c.st->m.c.bin=n.c.bin->z.kind=4->z.l5=n.c.me->z.to=x.l5->z.a8=(n.fl l).c.st.a8->z.bin=n.c.bin->I5 m z:=λ{m z} p g A B C D K k k4 k5=>
  ⟨by rw[p];exact y.dn,by rw[g,K],by rw[g,A,k];exact I,by rw[B,k4],by rw[C,k5],λe=>absurd (D.symm.trans e) am,λe=>absurd (D.symm.trans e) am,λe=>absurd (D.symm.trans e) am⟩
 by_cases Q:x.a8=(n.fl l).c.st.a8
 .rw[O Q];have S:p4 n L (n.fl l).follow [] (L++l):=(nP h.follow G ⟨y.d,y.dn,y.st,y.sts,y.le,y.len,y.ok,y.lt,λe=>o9 Nd.follow (y.no e)⟩ (λj=>absurd rfl j) d E b (λj=>absurd (show(0:Int)=2 from j) am)).nS;by_cases w:(aq n.c.st x).2.1=true
  .rw[O w];have h6:=(Z w).2;obtain⟨D,K⟩:=S.b8 y.dn (c:=max n.c.b8 (min x.c (aq n.c.st x).2.2.1)) (by show n.c.b8<=_;omega) (by show _<=((n.fl l).c.st.log.length:Int);omega);obtain⟨p,g,A,B,C,e6⟩:=K;refine⟨L++l,D.tell λz F=>?_⟩;rw[D0.1 F];exact i p g A B C rfl rfl rfl rfl rfl
  rw[X w];refine⟨L++l,S.tell λz F=>?_⟩;rw[D0.1 F];exact i rfl rfl rfl rfl rfl rfl rfl rfl rfl rfl
 rw[X Q];have h0:x.a8<n.c.st.a8:=by omega
 have e:aq n.c.st x=([],false,0,0):=by
  rcases(iw H).2 with⟨_,e⟩|⟨_,_,_⟩|⟨_,_,_⟩
  .exact e
  .omega
  omega
 have el:l=[]:=by rw[<-P,e]
 rw[e];dsimp only;rw[X am];have r:p4 n L (n.fl l) [] L:=by rw[y.no el];exact p4.refl h
 refine⟨L,r.tell λz F=>?_⟩;rw[D0.1 F];exact i rfl rfl rfl rfl rfl rfl rfl rfl rfl rfl
theorem Bk:∀{n:Nat} {s:b9} {b:List UInt8},s.log.length<=64->0<=s.a8/\s.a8<=1048576->((s9 n s b).1.log.length<=64/\0<=(s9 n s b).1.a8/\(s9 n s b).1.a8<=1048576)/\0<=(s9 n s b).2/\(s9 n s b).2<=(b.length:Int)
 |0,_,_,h,k=>⟨⟨h,k⟩,x5 _,J8 _⟩
 |n+1,s,b,h,k=>by
  unfold s9;split
  .grind
  rename_i a;split
  .grind
  split
  .grind
  rename_i c;have j:=dX (A0.1 a);obtain⟨e,f⟩:=kH (A0.1 c);obtain⟨g,i⟩:=sE e f h k;obtain⟨m,o,p⟩:=Bk (n:=n) (b:=b.drop (aG b).2.1.toNat) g i;grind
def oM(b:List UInt8):((hX b).1.log.length<=64/\0<=(hX b).1.a8/\(hX b).1.a8<=1048576)/\0<=(hX b).2/\(hX b).2<=(b.length:Int):=
 Bk aa ⟨am,am⟩
def aaI(h:d.OK):d.up.OK:=h
def ab0(h:d.OK)(a:d.down=false)(c:0<=k)(g:k<=(d.b.length:Int)):(d.cut k).OK/\d.jq k=0/\d.cut k=⟨d.b.take k.toNat,k,false,d.c9,d.dc⟩:=by
 have f:¬(d.down=true\/k<0\/(d.b.length:Int)<k):=by rw[a];rintro(h|h|h)<;>first|cases h|omega
 have e:d.cut k=⟨d.b.take k.toNat,k,false,d.c9,d.dc⟩:=by rw[j9.cut,X f,a]
 refine⟨?_,?_,e⟩
 .rw[e];refine⟨c,?_,?_⟩<;>dsimp only<;>rw[sh]
  .omega
  have:=h.2.2;omega
 rw[j9.jq,X (by rw[a];decide),X N]
theorem wR(h:d.OK):(d.bR k).OK:=by
 obtain⟨a,c,e⟩:=h;refine⟨?_,?_,?_⟩<;>simp only[j9.bR,j9.at_]
 .omega
 .grind
 rw[sh];omega
def WY(h:d.OK):d.sync.OK:=by
 unfold j9.sync;split
 .exact h
 split
 .exact wR h
 exact⟨J8 _,x5 _,h.2.2⟩
def agZ{x:List UInt8}(h:d.OK):(d.qs x).OK:=by
 obtain⟨a,c,e⟩:=h;unfold j9.qs;split
 .exact⟨a,c,e⟩
 refine⟨a,?_,?_⟩<;>dsimp only<;>rw[s8]<;>omega
def qU{s:b9}(h:d.OK):(ik d s l).1.OK:=by
 unfold ik;repeat' split
 all_goals first|exact h|exact WY (agZ h)
abbrev Nd.fr(n:Nd)(b:Int):Nd:=⟨⟨n.c.me,n.c.ea,b,(hX n.d.b).1,0,0,0,c5.mk 1 1 0 0 [] [] []⟩,(if n.d.down=true then n.d.up else n.d).cut (hX n.d.b).2,[],[],[],[],[]⟩
section
variable{n:Nd}{b:Int}
def abw(h:n.d.down=false):bk n b=⟨n,[],31⟩:=O h
variable(h:n.d.down=true)
include h
def Nf:n.fresh b=n.fr b:=by
 rw[Nd.fresh,Nd.fr,O h]
def afZ(a:¬bH b (max (hX n.d.b).1.floor 1)=0):bk n b=⟨n,[],bH b (max (hX n.d.b).1.floor 1)⟩:=by rw[bk,X (by rw[h];decide),O a]
def rK(a:n.d.OK):((if n.d.down=true then n.d.up else n.d).cut (hX n.d.b).2).OK/\(if n.d.down=true then n.d.up else n.d).jq (hX n.d.b).2=0/\(if n.d.down=true then n.d.up else n.d).cut (hX n.d.b).2=⟨n.d.b.take (hX n.d.b).2.toNat,(hX n.d.b).2,false,false,0⟩:=by
 rw[O h];have:=oM n.d.b;exact ab0 (d:=n.d.up) (aaI a) rfl this.2.1 this.2.2
variable(h1:bH b (max (hX n.d.b).1.floor 1)=0)
include h1
theorem Yz(a:(hX n.d.b).1.floor<b)(c:(n.fr b).aB [⟨1,b,0,[]⟩]=0):bk n b=⟨(n.fr b).fl [⟨1,b,0,[]⟩],[],0⟩:=by
 rw[bk,X (by rw[h];decide),X N,Nf h];grind
theorem ZJ(a:(hX n.d.b).1.floor<b)(c:¬(n.fr b).aB [⟨1,b,0,[]⟩]=0):bk n b=⟨{(n.fr b).fl [⟨1,b,0,[]⟩]with d:=((n.fr b).fl [⟨1,b,0,[]⟩]).d.bR 0},[],(n.fr b).aB [⟨1,b,0,[]⟩]⟩:=by
 rw[bk,X (by rw[h];decide),X N,Nf h];grind
theorem YU(a:b<=(hX n.d.b).1.floor):bk n b=⟨n.fr b,[],0⟩:=by
 rw[bk,X (by rw[h];decide),X N,Nf h];grind
theorem ark:(bk n b).n.rp=[]/\(bk n b).n.vs=[]/\(bk n b).n.bn=[]/\(bk n b).n.nx=[]/\(bk n b).n.mt=[]:=by grind[Yz,ZJ,YU]
end
end Go.Proofs.YtoecbhljidgajaaGreat
namespace Go.Proofs.YtoecbhljidgajaaGreat
open Go.Proofs.Tryz
open Go.Shelf Go.Proofs
def xh:Go.Shelf.Ren:=⟨λ|125=>251|128=>310|129=>311|n=>n,λ|46=>155|3=>3|51=>156|53=>193|4=>4|5=>5|9=>9|n=>n,λ|n=>n⟩
def Lu:Lays.n125 prog xh:={
 mixed:=cj
 f125:=func251.trans (o9 some cj)
 f128:=func310.trans (o9 some cj)
 f129:=func311.trans (o9 some cj)
 t3:=underlying3
 a3:=isAgg3
 z3:=sizeOf3
 v3:=zeroValue3
 t4:=underlying4
 a4:=isAgg4
 z4:=sizeOf4
 v4:=zeroValue4
 t5:=underlying5
 a5:=isAgg5
 z5:=sizeOf5
 v5:=zeroValue5
 t9:=underlying9
 a9:=isAgg9
 z9:=sizeOf9
 v9:=zeroValue9
 t46:=underlying155
 a46:=isAgg155
 z46:=sizeOf155
 v46:=zeroValue155
 t51:=underlying156
 a51:=isAgg156
 z51:=sizeOf156
 v51:=zeroValue156
 t53:=underlying193
 a53:=isAgg193
 z53:=sizeOf193
 v53:=zeroValue193}
def jB:Go.Shelf.Ren:=⟨λ|6=>228|15=>251|14=>250|28=>310|29=>311|20=>302|21=>303|22=>304|23=>305|24=>306|25=>307|26=>308|27=>309|46=>343|47=>344|48=>345|49=>346|50=>347|57=>357|n=>n,λ|22=>35|24=>3|25=>214|3=>3|39=>155|0=>0|53=>156|55=>193|4=>4|46=>303|45=>302|50=>307|5=>5|9=>9|66=>334|70=>338|76=>347|77=>93|n=>n,λ|n=>n⟩
def wP:Go.Proofs.SlLaysF.n6 prog jB:={
 mixed:=cj
 f6:=⟨f228.name,am,func228.trans (o9 some cj)⟩
 f14:=⟨f250.name,am,func250.trans (o9 some cj)⟩
 f15:=func251.trans (o9 some cj)
 f20:=⟨f302.name,am,func302.trans (o9 some cj)⟩
 f21:=⟨f303.name,am,func303.trans (o9 some cj)⟩
 f22:=⟨f304.name,am,func304.trans (o9 some cj)⟩
 f23:=⟨f305.name,am,func305.trans (o9 some cj)⟩
 f24:=⟨f306.name,am,func306.trans (o9 some cj)⟩
 f25:=⟨f307.name,am,func307.trans (o9 some cj)⟩
 f26:=⟨f308.name,am,func308.trans (o9 some cj)⟩
 f27:=⟨f309.name,am,func309.trans (o9 some cj)⟩
 f28:=func310.trans (o9 some cj)
 f29:=func311.trans (o9 some cj)
 f46:=⟨f343.name,am,func343.trans (o9 some cj)⟩
 f47:=func344.trans (o9 some cj)
 f48:=func345.trans (o9 some cj)
 f49:=⟨f346.name,am,func346.trans (o9 some cj)⟩
 f50:=⟨f347.name,am,func347.trans (o9 some cj)⟩
 f57:=⟨f357.name,am,func357.trans (o9 some cj)⟩
 t0:=underlying0
 a0:=isAgg0
 z0:=sizeOf0
 v0:=zeroValue0
 t3:=underlying3
 a3:=isAgg3
 z3:=sizeOf3
 v3:=zeroValue3
 t4:=underlying4
 a4:=isAgg4
 z4:=sizeOf4
 v4:=zeroValue4
 t5:=underlying5
 a5:=isAgg5
 z5:=sizeOf5
 v5:=zeroValue5
 t9:=underlying9
 a9:=isAgg9
 z9:=sizeOf9
 v9:=zeroValue9
 t22:=underlying35
 a22:=isAgg35
 z22:=sizeOf35
 v22:=zeroValue35
 a24:=isAgg3
 z24:=sizeOf3
 t25:=underlying214
 a25:=isAgg214
 z25:=sizeOf214
 v25:=zeroValue214
 t39:=underlying155
 a39:=isAgg155
 z39:=sizeOf155
 v39:=zeroValue155
 t45:=underlying302
 a45:=isAgg302
 z45:=sizeOf302
 v45:=zeroValue302
 t46:=underlying303
 a46:=isAgg303
 z46:=sizeOf303
 v46:=zeroValue303
 t50:=underlying307
 a50:=isAgg307
 z50:=sizeOf307
 v50:=zeroValue307
 t53:=underlying156
 a53:=isAgg156
 z53:=sizeOf156
 v53:=zeroValue156
 t55:=underlying193
 a55:=isAgg193
 z55:=sizeOf193
 v55:=zeroValue193
 t66:=underlying334
 a66:=isAgg334
 z66:=sizeOf334
 v66:=zeroValue334
 t70:=underlying338
 a70:=isAgg338
 z70:=sizeOf338
 v70:=zeroValue338
 t76:=underlying347
 a76:=isAgg347
 z76:=sizeOf347
 v76:=zeroValue347
 t77:=underlying93
 a77:=isAgg93
 z77:=sizeOf93
 v77:=zeroValue93}
end Go.Proofs.YtoecbhljidgajaaGreat
namespace Go.Proofs.YtoecbhljidgajaaGreat
open Go.Proofs.Tryz
open Go.RowKit Go.Proofs Go.Shelf Go.Sort
def ot(a b:Int):Int:=if b<a then -1 else if a<b then 1 else 0
theorem qQ(a b:Int):ltOf ot a b=decide (b<a):=by
 unfold ltOf ot;grind
def CE:SWO (ltOf ot):=⟨λx=>by rw[qQ];simp,λx y z a b=>by rw[qQ]at*;simp at*;omega,λx y z a b=>by rw[qQ]at*;simp at*;omega⟩
def pC(l:List Int):List Int:=l.mergeSort (λa b=>decide (b<=a))
def sD(l:List Int):(pC l).length=l.length:=(Y1 l _).length_eq
theorem Cc{d a:Array Int}(h:PermIn 0 d.size d a)(b:SortedIn (ltOf ot) 0 d.size a):a.toList=pC d.toList:=by
 rw[sorted_unique_holds CE (λx y c b=>by rw[qQ]at*;simp at*;omega) d a h b,pC];congr 1;funext x y;rw[qQ];grind
def Ns(x y:Int)(d:World):Calls prog 229 #[.int .i64 x,.int .i64 y] d λe c=>e=.returned (.int .i64 (ot x y))/\∃q,c=d.drewN q:=by
 go_enter func229,ntmps229
 by_cases a:y<x
 .have b:¬x<y:=by omega
  go_wp2
  go_ret
  exact⟨by simp[ot,a],0,rfl⟩
 by_cases b:x<y
 .go_wp2
  go_ret
  exact⟨by simp[ot,a,b],0,rfl⟩
 go_wp2
 go_ret
 refine⟨?_,0,rfl⟩;rw[show ot x y=0 from by unfold ot;rw[X N,X N]];rfl
theorem oS{c:Cx}:∀{l:List Int} {a:List Value},r6 c (l.flatMap (cellsOf .int)) a->a=l.map (Value.int .i64)/\∀n∈l,W n
 |[],_,h=>by cases h;exact⟨rfl,aa⟩
 |x::l,_,h=>by
  have b:r6 c (.int x::l.flatMap (cellsOf .int)) _:=h;cases b with|cons d f=>?_
  cases d with|int g=>?_
  obtain⟨e,k⟩:=oS f;grind
variable{sp:List Value}
theorem Sk{l a:List Int}(h:a.length=l.length):putCells (Value.int .i64) 0 a.toArray (toArray (l.map (Value.int .i64)++sp))=toArray (a.map (Value.int .i64)++sp):=by
 apply Array.ext_getElem?;unfold putCells;grind
def Tk{w:World}{a:List Int}{g c:Nat}(v:a.length<=12)(q:w.heap[g]? =some (.cells (toArray (a.map (Value.int .i64)++sp)) 3 (0,0))):
  Calls prog 228 #[.slice (some ⟨g,0,none⟩) a.length c,.func (.func 229) #[] #[]] w λe d=>e=.returned (.tuple #[])/\Kp [g] w d/\d.heap[g]? =some (.cells (toArray ((pC a).map (Value.int .i64)++sp)) 3 (0,0)):=by
 have z:∀args w,(callFunc 229 args).run prog w=.ok (.enter 229 args) w:=enters_of func229 cj rfl;have i:∀(n:Nat) (f:World),n<=12->Calls prog (jB.f 15) #[.int .u64 n] f λe d=>(∃l:Int,e=.returned (.int .i64 l))/\d=f:=λn f u=>
  (Any.bits_Len Lu n f N N).mono λ_ _ ⟨r,o⟩=>⟨⟨_,r⟩,o⟩
 have s:Holds (Value.int .i64) w g 0 a.toArray:=λj p=>by
  rw[A3,Lib.frozen_of_heap q,Lib.cell_of_heap q];rw[List.size_toArray]at p;refine⟨?_,rfl⟩;rw[List.getElem?_toArray,E0 (by simpa using p),X4,r5 p];simp[p]
 have A:=Any.slices_SortFunc_small_sorted wP (Value.int .i64) (λ_=>rfl) ot CE 229 #[] g 0 c a.toArray w z (λ_ _ _ _ x y=>Ns x y _) s (by simpa using v) i;refine A.mono λe d ⟨r,k,n,B,C,o⟩=>?_;have m:=Cc B C;have t:k.toList.length=a.length:=by rw[m];exact sD _
 refine⟨r,?_,?_⟩
 .rw[o];refine⟨rfl,rfl,rfl,?_,λb _ u=>?_⟩
  .show w.heap.size<=(w.heap.modify g _).size;rw[Array.size_modify];omega
  show(w.heap.modify g (onCells (putCells (Value.int .i64) 0 k)))[b]? =_;rw[Array.getElem?_modify,X (by simpa using λh=>u (by simp[h]))]
 rw[o];show(w.heap.modify g (onCells (putCells (Value.int .i64) 0 k)))[g]? =_;rw[Array.getElem?_modify,O rfl,q];simp only[E5,onCells];have D:k=k.toList.toArray:=rfl;rw[D,Sk t,m]
end Go.Proofs.YtoecbhljidgajaaGreat
namespace Go.Proofs.YtoecbhljidgajaaGreat
open Go.Proofs.Tryz
open Go.RowKit
abbrev T8:Code:=aaN f168
abbrev c60:Code:=aaN f221
abbrev pR0:Code:=rP T8
abbrev pR1:Code:=rP (iE T8)
abbrev pR2:Code:=rP (iE (iE T8))
abbrev pR3:Code:=rP (rP (iE (iE (iE T8))))
abbrev pRf:Code:=Y4 (iE (rP (iE (iE (iE T8)))))
abbrev ZN:Code:=iE (iE (iE (iE T8)))
abbrev PE:Code:=ani pRf
abbrev Qu:Code:=aqf pRf
abbrev iR0:Code:=rP c60
abbrev iB:Code:=Y4 (Y4 (iE c60))
abbrev iR1:Code:=rP iB
abbrev iCo:Code:=rP (iE iB)
abbrev Z2:Code:=Y4 (rP (iE (iE iB)))
abbrev iR2:Code:=rP Z2
abbrev iR3:Code:=rP (iE Z2)
abbrev Gw:Code:=rP (iE (iE Z2))
abbrev afg:Code:=iE (iE (iE Z2))
abbrev iR5:Code:=iE (iE (iE iB))
def hK(s:c5)(r:List l3)(l:List eA)(v:Int):AH:=[.box 56 ([.int s.bo,.int s.next,.int s.dc,.int s.eR,.own 7,.own 8,.own 9]),.box 56 ([.int (0),.int (0),.int (0),.int (0),.em true,.em true,.em true]),.box 67 ([.em true]),.box 25 ([.int (0)]),.box 67 ([.own 10]),.box 32 ([.fz (.nm .entry) l]),.box 3 ([.int v]),.row 119 (.nm .c8) s.c8,.row 122 (.nm .opn) s.eb,.row 125 (.nm .snap) s.c3,.row 72 (.nm .l8) r]
def hE(s:c5)(r:List l3):AH:=[.row 119 (.nm .c8) s.c8,.row 122 (.nm .opn) s.eb,.row 125 (.nm .snap) s.c3,.row 72 (.nm .l8) r]
def rE(s:c5)(e:Int):List oh:=[.agg [.int s.bo,.int s.next,.int s.dc,.int s.eR,.own 0,.own 1,.own 2],.c (.own 3),.c (.int e)]
def FB:lg:=[(3,one (.ptr 0 0)),(6,one (.ptr 1 0)),(7,one (.ptr 2 0)),(8,one (.ptr 3 0)),(9,one (.ptr 4 0)),(16,one (.fn 221 [] [(5,0),(6,0)]))]
def LD(L:Nat):Option TV->Prop
 |some (.one (.c (.yl a)))=>a=L
 |_=>False
def P0(l:List eA)(k:Nat):lg:=[(1,one (.ptr 5 0)),(2,one (.ptr 6 0)),(9,one (.fz (.nm .entry) l)),(10,one (.int l.length)),(11,one (.int k))]
def Td(c:b6)(b:Bool)(e:Int):oh:=.agg (cellsOf (.nm .command) (c)++[.bool (.atom b),.int e])
def frY(l:List eA)(k:Nat)(c:b6)(b:Bool)(e:Int):lg:=(26,.one (Td c b e))::P0 l k
def hT(c:b6)(b:Bool)(e:Int):AO:=.box 226 (cellsOf (.nm .command) (c)++[.bool (.atom b),.int e])
def W5(a:Nat)(q:lg×AH):Exit->lg->AH->Prop
 |.normal,fr,K=>lu (EZ p6 a fr K q)
 |_,_,_=>False
def koY(L:Nat)(q:lg×AH):Exit->lg->AH->Prop
 |.normal,fr,K=>LD L (l6 fr 0)/\lu (EZ p6 11 fr K q)
 |_,_,_=>False
def aob(L:Nat)(s:c5)(r:List l3)(l:List eA)(v:Int)(k:Nat)(fr:lg)(K:AH):Prop:=
 ∃x,l[k]? =some x/\LD L (l6 fr 0)/\LD L (l6 fr 22)/\lu (EZ p6 11 fr K (frY l k (bd x v).c (bd x v).some (bd x v).e,hK s r l v))
def apG(L:Nat)(s:c5)(r:List l3)(l:List eA)(v:Int)(k:Nat):Exit->lg->AH->Prop
 |.normal,fr,K=>wpOps p6 gL (jR 0) (mh Gw) (aob L s r l v k) 6 ((mh Gw).take 5) fr K
 |_,_,_=>False
def aou(L:Nat)(s:c5)(r:List l3)(l:List eA)(v:Int)(k:Nat):Exit->lg->AH->Prop
 |.exit j,fr,K=>j=0/\l.length<=k/\LD L (l6 fr 0)/\lu (EZ p6 11 fr K (P0 l k,hK s r l v))
 |.normal,fr,K=>kE p6 gL (jR 0) 11 [] (.seq iR2 iR3) (apG L s r l v k) fr K
 |_,_,_=>False
def ajS(L:Nat)(s:c5)(r:List l3)(l:List eA)(v:Int)(k:Nat):Exit->lg->AH->Prop
 |.normal,fr,K=>kE p6 gL (jR 0) 11 [] iCo (aou L s r l v k) fr K
 |_,_,_=>False
def koD(L:Nat)(s:c5)(r:List l3)(l:List eA)(v:Int)(k:Nat)(fr:lg)(K:AH):Prop:=kE p6 gL (jR 0) 11 [] (.seq afg iR5) (koY L (P0 l (k+1),hK s r l v)) fr K
def koH(s:c5)(r:List l3)(l:List eA)(v:Int)(x:eA):Exit->lg->AH->Prop
 |.normal,_,K=>(bd x v).e=0/\lu (amj p6 (hK s r l v) 11 (hK (jA v s x) (r++[oY v s x]) l v) K)
 |.ret,_,K=>¬(bd x v).e=0/\D5 p6 [] 0 f168 (rE s (bd x v).e) (hE s r) FB K
 |_,_,_=>False
def koI(s:c5)(r:List l3):Exit->lg->AH->Prop
 |.ret,fr,K=>D5 p6 [] 0 f168 (rE s 0) (hE s r) fr K
 |_,_,_=>False
def anx(s:c5)(l:List eA)(v:Int):oq (Kf [.agg (cellsOf (.nm .state) s),.c (.fz (.nm .entry) l),.c (.int v)]) (kE p6 gL (jR 0) 0 [] (.seq pR0 (.seq pR1 (.seq pR2 pR3))) (W5 0 (FB,hK s [] l v)) (wM 0 [.agg (cellsOf (.nm .state) s),.c (.fz (.nm .entry) l),.c (.int v)]) [])=((λa=>cK s (l.length*32<=140737488355328->W v->W s.bo->W s.next->W s.dc->W s.eR->s.bo=s.bo/\s.next=s.next/\s.dc=s.dc/\s.eR=s.eR/\a/\a/\a/\a/\a/\l=l/\v=v/\s.c8=s.c8/\s.eb=s.eb/\s.c3=s.c3/\ @Eq (List (l7 (Sh.nm NT.l8))) [] [])) ((0:Int)=0)):=cj
def aqA(L:Nat)(s:c5)(r:List l3)(l:List eA)(v:Int):kE p6 gL (jR 0) 11 [] iR0 (koY L (P0 l 0,hK s r l v)) [(0,one (.yl L)),(1,one (.ptr 5 0)),(2,one (.ptr 6 0))] (hK s r l v)=((λa=>L=L/\l=l/\(l.length:Int)=(l.length:Int)/\(0:Int)=(↑(0:Nat):Int)/\s.bo=s.bo/\s.next=s.next/\s.dc=s.dc/\s.eR=s.eR/\a/\a/\a/\a/\a/\l=l/\v=v/\s.c8=s.c8/\s.eb=s.eb/\s.c3=s.c3/\r=r) ((0:Int)=(0:Int))):=cj
def aqX(L:Nat)(s:c5)(r:List l3)(l:List eA)(v:Int)(k:Nat):kE p6 gL (jR 0) 11 [] iR1 (ajS L s r l v k) ((0,one (.yl L))::P0 l k) (hK s r l v)=((λf a=>(λg=>((k:Int)<f->0<=(k:Int)/\(k:Int)<(l.length:Int)/\∀(x:eA),(λd=>l[k]? =some x->W x.a8->x.b.length*1<=140737488355328->bf d.c (W d.e->∃x,l[k]? =some x/\L=L/\L=L/\bc d.c (bd x v).c (d.some=(bd x v).some/\d.e=(bd x v).e/\g))) (bd x v))/\(f<=(k:Int)->(0:Nat)=0/\l.length<=k/\L=L/\g)) (l=l/\f=f/\(k:Int)=(k:Int)/\s.bo=s.bo/\s.next=s.next/\s.dc=s.dc/\s.eR=s.eR/\a/\a/\a/\a/\a/\l=l/\v=v/\s.c8=s.c8/\s.eb=s.eb/\s.c3=s.c3/\r=r)) (l.length:Int) ((0:Int)=0)):=cj
theorem apf(L:Nat)(s:c5)(r:List l3)(l:List eA)(v:Int)(k:Nat)(c:b6)(b:Bool)(d:Int):wpOps p6 gL (jR 0) (mh Gw) (koD L s r l v k) 2 ((mh Gw).drop 6) ((27,one (.bool (.lit true)))::(0,one (.yl L))::frY l k c b d) (hK s r l v)=((λa=>W ((k:Int)+1)/\L=L/\l=l/\(l.length:Int)=(l.length:Int)/\(k:Int)+1=(↑(k+1):Int)/\s.bo=s.bo/\s.next=s.next/\s.dc=s.dc/\s.eR=s.eR/\a/\a/\a/\a/\a/\l=l/\v=v/\s.c8=s.c8/\s.eb=s.eb/\s.c3=s.c3/\r=r) ((0:Int)=0)):=cj
def aon(s:c5)(r:List l3)(l:List eA)(v:Int)(c:b6)(b:Bool)(d:Int):kE p6 gL (jR 0) 11 [] PE (W5 11 ((10,one (.ptr 11 0))::FB,hK s r l v++[hT c b d])) ((17,.one (Td c b d))::FB) (hK s r l v)=((λa=>s.bo=s.bo/\s.next=s.next/\s.dc=s.dc/\s.eR=s.eR/\a/\a/\a/\a/\a/\l=l/\v=v/\s.c8=s.c8/\s.eb=s.eb/\s.c3=s.c3/\r=r/\bc c c (b=b/\d=d)) ((0:Int)=0)):=cj
def am0(s:c5)(r:List l3)(l:List eA)(v:Int)(x:eA):kE p6 gL (jR 0) 12 [] Qu (koH s r l v x) ((10,one (.ptr 11 0))::FB) (hK s r l v++[hT (bd x v).c (bd x v).some (bd x v).e])=((λg a f=>(λh d i=>(λb=>(¬h->¬h/\s.bo=s.bo/\s.next=s.next/\s.dc=s.dc/\s.eR=s.eR/\g.e=g.e/\s.c8=s.c8/\s.eb=s.eb/\s.c3=s.c3/\r=r)/\(h->(g.some=true->W b.bo->W b.next->W b.dc->W b.eR->W i.2.code->W i.2.n->(r.length+[i.2].length)*16<=140737488355328/\h/\b.bo=a.bo/\b.next=a.next/\b.dc=a.dc/\b.eR=a.eR/\d/\d/\d/\d/\d/\l=l/\v=v/\b.c8=a.c8/\b.eb=a.eb/\b.c3=a.c3/\r++[i.2]=r++[oY v s x])/\(g.some=false->(r.length+[l3.mk f f].length)*16<=140737488355328/\h/\s.bo=a.bo/\s.next=a.next/\s.dc=a.dc/\s.eR=a.eR/\d/\d/\d/\d/\d/\l=l/\v=v/\s.c8=a.c8/\s.eb=a.eb/\s.c3=a.c3/\r++[l3.mk f f]=r++[oY v s x]))) i.1) (g.e=f) (f=f) (jS s g.c)) (bd x v) (jA v s x) (0:Int)):=cj
def anD(s:c5)(r:List l3)(l:List eA)(v:Int):kE p6 gL (jR 0) 11 [] ZN (koI s r) FB (hK s r l v)=(s.bo=s.bo/\s.next=s.next/\s.dc=s.dc/\s.eR=s.eR/\(0:Int)=0/\s.c8=s.c8/\s.eb=s.eb/\s.c3=s.c3/\r=r):=cj
def Hy:=tZ
variable{w0 w:World}{G:Gl}{Q:Exit->Act->World->Prop}{n k0:Nat}{K:Exit->lg->AH->Prop}{H:AH}{F:Fr}{ρ0:List RE}
def Jy{c:Code}{fr:lg}(a:G.shp=bj p6)(b:ρ0.length<=k0)(d:fH n c=true)(h:kE p6 gL (jR 0) k0 [] c K fr H)
  (f:St G (jR 0) ρ0 w0 fr H F w)(hK:∀e fr H F w,K e fr H->St G (jR 0) ρ0 w0 fr H F w->WX Q n e F w):WC prog Q n c F w:=
 zX (by rw[a];exact fa) (by rw[a];exact tZ) (pW fa tZ pf G n (jR 0) ρ0 w0 a (λi h=>by simp[jR,Nat.ble]at h)) b c Q K fr H F w d h f hK
def aiM{m:Nat}{l a:List Oper}{K:lg->AH->Prop}{fr:lg}(b:G.shp=bj p6)(c:nM n a=true)(h:wpOps p6 gL (jR 0) l K m a fr H)
  (d:St G (jR 0) ρ0 w0 fr H F w)(hK:∀fr H F w,K fr H->St G (jR 0) ρ0 w0 fr H F w->WX Q n .normal F w):WO prog Q n l a F w:=
 rF (by rw[b];exact fa) (by rw[b];exact tZ) hK m a fr H F w c h d
abbrev yV(L:Nat):Value:=.func (.yield L) #[] #[]
variable{t:Nat}{ρ:List RE}
theorem od{c:Cx}{fr:lg}{L:Nat}(b:r7 c ρ fr F)(h:LD L (l6 fr t)):look F t=some (yV L):=by
 unfold LD at h;split at h
 .rename_i a d;subst h;obtain⟨v,e,f⟩:=fS b d;rw[e,f]
 grind
theorem yN{a:Fr}{v:Value}(h:look F t=some v)(k:∀i u,look a i=some u->look F i=some u):∀i u,look ((t,v)::a) i=some u->look F i=some u:=λi u b=>by
 rw[b_]at b;grind
def r7.DQ{c:Cx}{fr:lg}{a:oh}{v:Value}(h:eh c ρ a v)(k:r7 c ρ fr F):r7 c ρ ((t,.one a)::fr) ((t,v)::F):=.cons ⟨rfl,h⟩ k
variable{b:Nat}
def pe.lN(h:pe G ρ H w)(a:G.Z b):¬live ρ b:=λ⟨i,r,c,d⟩=>(h.u0 i r b c d).2.2 a
def gu{o:Obj}(h:w.heap[b]? =some o):b<w.heap.size:=(S6.1 h).1
structure PX where
 G:Gl
 D:Nat
 L:Nat
 fn:Nat
 tm:Array Value
 FP:Fr
 s:c5
 l:List eA
 v:Int
 hD:G.B0<=D
 hL:G.B0<=L
def PX.g(a:PX):Gl:=GZ a.G a.D a.L
def PX.rc(b:PX)(st:LoopState)(a:Option Code):Loop:={state:=st,pending:=a,fn:=b.fn,tmps:=b.tm,params:=#[17],assign:=PE,body:=Qu,defers:=b.D}
def PX.hk(a:PX)(k:Nat):AH:=hK (pS a.v a.s (a.l.take k)) (pR a.v a.s (a.l.take k)) a.l a.v
abbrev PX.Z(a:PX):Nat->Prop:=λb=>b=a.D\/b=a.L
def PX.hB(c:PX):∀b,c.Z b->c.g.B0<=b:=λb a=>by
 rcases a with rfl|rfl
 .exact c.hD
 exact c.hL
structure L9(b:PX)(k:Nat)(ρ:List RE)(a:World):Prop where
 D2:pe b.g ρ (b.hk k) a
 fr:r7 (cx b.g ρ a) ρ FB b.FP
 ok:x3 b.v (b.l.take k)
 loop:a.heap[b.L]? =some (.loop (b.rc .ready none))
 R6:a.heap[b.D]? =some (.deferred (some []))
structure N5(b:PX)(ρ:List RE)(a:World):Prop where
 D2:∃H,pe b.g ρ H a/\D5 p6 [] 0 f168 (rE (x8 b.v b.s b.l) (pE b.v b.l)) (hE (x8 b.v b.s b.l) (B3 b.v b.s b.l)) FB H
 fr:r7 (cx b.g ρ a) ρ FB b.FP
 loop:a.heap[b.L]? =some (.loop (b.rc .done (some .ret)))
 R6:a.heap[b.D]? =some (.deferred (some []))
def EE:IF FB=true:=by decide
section
variable{m1:PX}{k:Nat}{ρ ρ':List RE}{v2 W':World}
def L9.step{e:Lv}(h:L9 m1 k ρ v2)(a:u6 e ρ v2 ρ' W')(f:pe m1.g ρ' (m1.hk k) W'):L9 m1 k ρ' W'/\B6 m1.Z ρ v2 ρ' W':=by
 have d:B6 m1.Z ρ v2 ρ' W':=.yM a.ext a.bx;have c:=d.le (G:=m1.g) (λb i=>.inr i) h.D2.lo m1.hB;exact⟨⟨f,h.fr.ga EE c a.bx,h.ok,(a.ext.z7 _ (gu h.loop) (h.D2.lN (.inr (.inr rfl)))).2.trans h.loop,(a.ext.z7 _ (gu h.R6) (h.D2.lN (.inr (.inl rfl)))).2.trans h.R6⟩,d⟩
section
variable{s:c5}{r:List l3}{l:List eA}{v:Int}{x:eA}
def ajE(h:(bd x v).some=true):jA v s x=(jS s (bd x v).c).1:=by unfold jA;rw[O h]
def ah_(h:(bd x v).some=false):jA v s x=s:=by unfold jA;rw[X (by rw[h];decide)]
def ahT(h:(bd x v).some=true):oY v s x=(jS s (bd x v).c).2:=by unfold oY;rw[O h]
def ahU(h:(bd x v).some=false):oY v s x=⟨0,0⟩:=by unfold oY;rw[X (by rw[h];decide)]
theorem ae8(a:(r.length+1)*16<=140737488355328):kE p6 gL (jR 0) 12 [] Qu (koH s r l v x) ((10,one (.ptr 11 0))::FB) (hK s r l v++[hT (bd x v).c (bd x v).some (bd x v).e]):=by
 rw[am0];repeat'(first|with_reducible apply aH|intro)
 all_goals first|with_reducible rfl|with_reducible assumption|contradiction|(simp;omega)|(rw[ajE Y];done)|(rw[ah_ Y];done)|(rw[ahT Y];done)|(rw[ahU Y];done)
theorem afm{c:b6}{b:Bool}{er:Int}:kE p6 gL (jR 0) 11 [] PE (W5 11 ((10,one (.ptr 11 0))::FB,hK s r l v++[hT c b er])) ((17,.one (Td c b er))::FB) (hK s r l v):=by
 rw[aon];grind
end
variable{u:Value}
def Ll(hG:m1.G.shp=bj p6)(hsz:m1.l.length*32<=140737488355328)(hM:M 40 m1.FP {tmps:=m1.tm,defers:=[]})(S:m1.D≠m1.L)(h:L9 m1 k ρ v2){x:eA}(D:m1.l[k]? =some x)
  (hu:eh (cx m1.g ρ v2) ρ (Td (bd x m1.v).c (bd x m1.v).some (bd x m1.v).e) u)(ro:Option Nat)(m:Nat):
  RoundIn (jd ro) m prog m1.L m1.fn (m1.tm.setIfInBounds 17 u) PE Qu v2 λe w'=>∃b,e=.returned b/\((b=.bool true/\∃ρ',L9 m1 (k+1) ρ' w'/\B6 m1.Z ρ v2 ρ' w')\/(b=.bool false/\∃ρ',N5 m1 ρ' w'/\B6 m1.Z ρ v2 ρ' w')):=by
 refine Tb ?_;have A:m1.g.shp=bj p6:=hG;have hM1:M 40 ((17,u)::m1.FP) {tmps:=m1.tm.setIfInBounds 17 u,defers:=[]}:=hM.put (d:=17) (v:=u) am;have q:ρ.length=11:=h.D2.obj.length.symm;have hkl:k<m1.l.length:=(sy.1 D).1;refine Jy A (H3 q) (c:=PE) (n:=40) cj (afm (s:=pS m1.v m1.s (m1.l.take k)) (r:=pR m1.v m1.s (m1.l.take k)) (l:=m1.l) (v:=m1.v) (c:=(bd x m1.v).c) (b:=(bd x m1.v).some) (er:=(bd x m1.v).e)) (⟨ρ,u6.refl _ _ _,h.D2,r7.DQ hu h.fr⟩) (λe fr H F G hK hs=>?_) _ hM1;cases e with
 |normal=>
  obtain⟨F1,⟨f,B,t,hf1⟩,hlk⟩:=iM (P:=prog) (by rw[A];exact fa) (H3 q) hs hK;intro a ha;have w:G.heap[m1.L]? =some (.loop (m1.rc .ready none)):=(B.ext.z7 _ (gu h.loop) (h.D2.lN (.inr (.inr rfl)))).2.trans h.loop;have hd1:G.heap[m1.D]? =some (.deferred (some [])):=(B.ext.z7 _ (gu h.R6) (h.D2.lN (.inr (.inl rfl)))).2.trans h.R6;refine⟨_,run_beginRound (P:=prog) w rfl,?_,ha.1⟩;have z:B6 m1.Z ρ v2 f (G.putObj m1.L (.loop {m1.rc .ready none with state:=.busy})):=(B6.yM B.ext B.bx).trans (.put _ (.inr rfl));have j:pe m1.g f (m1.hk k++[hT (bd x m1.v).c (bd x m1.v).some (bd x m1.v).e]) (G.putObj m1.L (.loop {m1.rc .ready none with state:=.busy})):=t.KM _ (.inr (.inr rfl)) m1.hL;have C:(G.putObj m1.L (.loop {m1.rc .ready none with state:=.busy})).heap[m1.L]? =some (.loop {m1.rc .ready none with state:=.busy}):=World.putObj_heap_same (gu w);have I:(G.putObj m1.L (.loop {m1.rc .ready none with state:=.busy})).heap[m1.D]? =some (.deferred (some [])):=(N7 S).trans hd1;have T:r7 (cx m1.g f (G.putObj m1.L (.loop {m1.rc .ready none with state:=.busy}))) f ((10,one (.ptr 11 0))::FB) F1:=hf1.ed ((B6.put (Z:=m1.Z) _ (.inr rfl)).le (λb L=>.inr L) t.lo m1.hB) (mz.refl _);revert z j C I T;generalize G.putObj m1.L (.loop {m1.rc .ready none with state:=.busy})=w2;intro z j C I T;have U:f.length=12:=j.obj.length.symm;refine Jy A (H3 U) (c:=Qu) (n:=40) cj (ae8 (s:=pS m1.v m1.s (m1.l.take k)) (r:=pR m1.v m1.s (m1.l.take k)) (l:=m1.l) (v:=m1.v) (x:=x) (by rw[yT,sh];omega)) (⟨f,u6.refl _ _ _,j,T⟩) (λe fr H F K hK hs=>?_) _ (ha.sub hlk);obtain⟨Q,p,hr3,_⟩:=hs;have J:K.heap[m1.L]? =_:=(p.ext.z7 _ (gu C) (j.lN (.inr (.inr rfl)))).2.trans C;have hd3:K.heap[m1.D]? =_:=(p.ext.z7 _ (gu I) (j.lN (.inr (.inl rfl)))).2.trans I;cases e with
  |normal=>
   obtain⟨he,o⟩:=hK;obtain⟨ρ',hr',y,hb'⟩:=SU (P:=prog) (ρ0:=f) (w0:=w2) (by rw[A];exact fa) hr3 p.ext p.bx (λi g hi hg=>by
    have hn:=aaJ (b:=false) j hg;have:i=0\/i=1\/i=2\/i=3\/i=4\/i=5\/i=6\/i=7\/i=8\/i=9\/i=10:=by omega
    rcases this with rfl|rfl|rfl|rfl|rfl|rfl|rfl|rfl|rfl|rfl|rfl<;>exact hn) o
   refine λ_ _=>⟨_,_,run_endRound (P:=prog) none J,_,rfl,.inl ⟨rfl,ρ',?_⟩⟩;have V:B6 m1.Z ρ v2 ρ' (K.putObj m1.L (.loop (m1.rc .ready none))):=by
    have A2:B6 m1.Z ρ v2 ρ' K:=⟨y.os.trans z.os,y.tape.trans z.tape,y.output.trans z.output,zc z.size y.size,λb L hl=>by
     obtain⟨h1,h2⟩:=z.z7 b L hl;obtain⟨h3,h4⟩:=y.z7 b (y7 L z.size) h1;exact⟨h3,λhz=>h4.trans (h2 hz)⟩,λi g hg=>hb' i g (by rw[<-q];exact(sy.1 hg).1) (z.bx i g hg)⟩
    exact A2.trans (.put _ (.inr rfl))
   refine⟨⟨?_,h.fr.ga EE (V.le (λb L=>.inr L) h.D2.lo m1.hB) V.bx,zl h.ok D he,World.putObj_heap_same (gu J),(N7 S).trans hd3⟩,V⟩;have:=hr'.KM (l:=m1.L) (.loop (m1.rc .ready none)) (.inr (.inr rfl)) m1.hL;rw[HN D,HR D]at this;exact this
  |ret=>
   obtain⟨he,o⟩:=hK;refine λ_ _=>⟨_,_,run_endRound (P:=prog) (some .ret) J,_,rfl,.inr ⟨rfl,Q,?_⟩⟩;have V:B6 m1.Z ρ v2 Q (K.putObj m1.L (.loop (m1.rc .done (some .ret)))):=(z.trans (.yM p.ext p.bx)).trans (.put _ (.inr rfl));obtain⟨p1,p2,p3⟩:=tF (s:=m1.s) h.ok D he;rw[p1,p2,p3]at o;exact⟨⟨⟨_,hr3.KM _ (.inr (.inr rfl)) m1.hL,o⟩,h.fr.ga EE (V.le (λb L=>.inr L) h.D2.lo m1.hB) V.bx,World.putObj_heap_same (gu J),(N7 S).trans hd3⟩,V⟩
  |_=>exact hK.elim
 |_=>exact hK.elim
def afJ:f221.body=some (.seq iR0 (.block 0 (.loop (.seq iR1 (.seq iCo (.seq (.block 1 (.seq iR2 (.seq iR3 (.seq Gw afg)))) iR5)))))):=cj
def aeh:Gw=.region 4 (mh Gw).toArray false:=cj
def VE:afg=.cond (.tmp 28) .ret .skip:=cj
def P4(k:Nat):Oper:=(mh Gw).getD k ⟨none,.move (.tmp 0),0,"",#[],none⟩
def arN:Array TypeId:=match(P4 5).op with
 |.call c=>c.argTypes
 |_=>#[]
def ty6:TypeId:=match(P4 6).op with
 |.unOp _ t _=>t
 |_=>0
def aqL:mh Gw=(mh Gw).take 5++(⟨some 27,.call ⟨.value (.tmp 22),#[.tmp 26],arN⟩,(P4 5).type,(P4 5).pos,(P4 5).after,none⟩::(mh Gw).drop 6):=cj
def apZ:(mh Gw).drop 6=[⟨some 28,.unOp .not ty6 (.tmp 27),(P4 6).type,(P4 6).pos,(P4 6).after,none⟩]:=cj
variable{P:Program}
def FY{L:Nat}{c:Loop}{e:Array TypeId}{m:TypeId}(f:look F 22=some (yV L))(h:look F 26=some u)(o:w.heap[L]? =some (.loop c))(j:c.params= #[17])(a:Act)(d:Option Tmp)(i:String)(p:Array Edge)(g:Option (Nat×Bool))(l:M n F a):
  (execOp a.eval ⟨d,.call ⟨.value (.tmp 22),#[.tmp 26],e⟩,m,i,p,g⟩).run P w=.ok (.round L c.fn (c.tmps.setIfInBounds 17 u) c.assign c.body) w:=by
 have q:a.eval (.tmp 22)=yV L:=l.ev (x:=.tmp 22) f;have r:a.eval (.tmp 26)=u:=l.ev (x:=.tmp 26) h;have s:=run_yield (P:=P) (args:=#[u]) o (by rw[j];rfl);simp[execOp,resolve,q,r,Deferred.ofValue,invoke,s,j]
theorem Yo{a:Fr}{v:Value}(k:∀i u,look a i=some u->look F i=some u):∀i u,look ((t,v)::a) i=some u->look ((t,v)::F) i=some u:=λi u c=>by
 rw[b_]at c⊢;grind
section
variable{s:c5}{r:List l3}{l:List eA}{v:Int}{L:Nat}
theorem aeA:kE p6 gL (jR 0) 11 [] iR0 (koY L (P0 l 0,hK s r l v)) [(0,one (.yl L)),(1,one (.ptr 5 0)),(2,one (.ptr 6 0))] (hK s r l v):=by
 rw[aqA];grind
theorem aey:kE p6 gL (jR 0) 11 [] iR1 (ajS L s r l v k) ((0,one (.yl L))::P0 l k) (hK s r l v):=by
 rw[aqX];grind
theorem afr{c:b6}{b:Bool}{a:Int}(d:k<4611686018427387904):wpOps p6 gL (jR 0) (mh Gw) (koD L s r l v k) 2 ((mh Gw).drop 6) ((27,one (.bool (.lit true)))::(0,one (.yl L))::frY l k c b a) (hK s r l v):=by grind[apf,aY]
end
def aeV(y:Code)(k0:Nat)(K:Exit->lg->AH->Prop):Exit->lg->AH->Prop
 |.normal,fr,H=>kE p6 gL (jR 0) k0 [] y K fr H
 |e,fr,H=>K e fr H
def qI{x y:Code}{fr:lg}(h:kE p6 gL (jR 0) k0 [] (.seq x y) K fr H):kE p6 gL (jR 0) k0 [] x (aeV y k0 K) fr H:=by
 have e:aeV y k0 K=λe fr H=>(match e with|.normal=>kE p6 gL (jR 0) k0 [] y K fr H|e=>K e fr H):=by funext e fr H;cases e<;>rfl
 rw[e];exact h
def PX.Out(m1:PX)(ρ:List RE)(v2:World)(_:Value)(a:World):Prop:=∃ρ',B6 m1.Z ρ v2 ρ' a/\((∃k,m1.l.length<=k/\L9 m1 k ρ' a)\/N5 m1 ρ' a)
def WO.of_eq{l r a:List Oper}(e:r=a)(h:WO P Q n l a F w):WO P Q n l r F w:=e▸h
def RF(hG:m1.G.shp=bj p6)(hsz:m1.l.length*32<=140737488355328)(hM:M 40 m1.FP {tmps:=m1.tm,defers:=[]})(hDL:m1.D≠m1.L)(h:L9 m1 0 ρ v2){p8 p9:Value}(h8:fw ρ (5,0) p8)(h9:fw ρ (6,0) p9):
  mT prog 221 #[yV m1.L,p8,p9] v2 (m1.Out ρ v2):=by
 have o:m1.g.shp=bj p6:=hG;have S:ρ.length=11:=h.D2.obj.length.symm;refine mT.enter (args:=[yV m1.L,p8,p9]) (n:=30) func221 afJ rfl rfl rfl (WC.seq (Jy o (H3 S) cj aeA (⟨ρ,u6.refl _ _ _,h.D2,r7.DQ (a:=.c (.yl m1.L)) rfl (r7.DQ (a:=.c (.ptr 5 0)) h8 (r7.DQ (a:=.c (.ptr 6 0)) h9 .nil))⟩) λe fr H F w hK q=>?_));cases e with
 |normal=>
  obtain⟨hy,T⟩:=hK;have y:look F 0=some (yV m1.L):=by obtain⟨_,_,_,U⟩:=q;exact od U hy
  obtain⟨F1,⟨ρ1,hs1,hr1,hf1⟩,hlk⟩:=iM (P:=prog) (by rw[o];exact fa) (H3 S) q T;refine WX.next (WC.block λa z=>?_)
  refine wi (λa w k=>∃ρ' F',M 30 F' a/\L9 m1 k ρ' w/\r7 (cx m1.g ρ' w) ρ' ((0,one (.yl m1.L))::P0 m1.l k) F'/\k<=m1.l.length/\B6 m1.Z ρ v2 ρ' w) (λk=>m1.l.length-k) 0 ⟨ρ1,(0,yV m1.L)::F1,z.sub (yN y hlk),(h.step hs1 hr1).1,r7.DQ (a:=.c (.yl m1.L)) rfl hf1,H4 _,(h.step hs1 hr1).2⟩ λk a w hD=>?_;obtain⟨ρ',F',hM',s,hfr,hk,A⟩:=hD;have p:ρ'.length=11:=s.D2.obj.length.symm;refine(WC.seq (Jy o (H3 p) cj (aey (L:=m1.L) (k:=k)) (⟨ρ',u6.refl _ _ _,s.D2,hfr⟩) λe fr H F w2 hK q=>?_)) a hM';cases e with
  |normal=>
   refine WX.next (WC.seq (Jy o (H3 p) cj hK q λe fr H F w2 hK q=>?_))
   cases e with
   |exit j=>
    obtain⟨rfl,hle,hy,T⟩:=hK;obtain⟨F2,⟨ρ2,V,I,c⟩,B⟩:=iM (P:=prog) (by rw[o];exact fa) (H3 p) q T;obtain⟨J,l⟩:=s.step V I;have K:m1.Out ρ v2 (.tuple #[]) w2:=⟨ρ2,A.trans l,.inl ⟨k,hle,J⟩⟩;have hh:=WX.ac9 (id:=0) (WX.ado (WX.ajh (n:=30) (fr:=F) (P:=prog) (fn:=f221) (φ:=m1.Out ρ v2) rfl K));exact λa z=>hh a z
   |normal=>
    refine WX.next (WC.seq (WC.block (WC.seq (Jy o (H3 p) cj (qI hK) q λe fr H F w2 hK q=>?_))))
    cases e with
    |normal=>
     refine WX.next (WC.seq (Jy o (H3 p) cj hK q λe fr H F w2 hK q=>?_))
     cases e with
     |normal=>
      refine WX.next (WC.seq ?_)
      rw[aeh];refine WC.region (WO.of_eq aqL (WO.qs (aiM o cj hK q λfr H F w3 hK q=>?_)));intro a z;obtain⟨x,hx,hy,hy22,T⟩:=hK;have y:look F 0=some (yV m1.L):=by obtain⟨_,_,_,U⟩:=q;exact od U hy
      have h22:look F 22=some (yV m1.L):=by obtain⟨_,_,_,U⟩:=q;exact od U hy22
      obtain⟨F2,⟨ρ2,V,I,c⟩,B⟩:=iM (P:=prog) (by rw[o];exact fa) (H3 p) q T;obtain⟨J,l⟩:=s.step V I;obtain⟨u,hu26,hu⟩:=fS (i:=26) (tv:=.one (Td (bd x m1.v).c (bd x m1.v).some (bd x m1.v).e)) c rfl;have hkl:k<m1.l.length:=(sy.1 hx).1;refine WO.yield (L:=m1.L) (f:=m1.fn) (tmps:=m1.tm.setIfInBounds 17 u) (assign:=PE) (body:=Qu) (λa d pos af g z=>FY h22 (B _ _ hu26) J.loop rfl a d pos af g z) rfl (λro m=>Ll hG hsz hM hDL J hx hu ro m) (λb w4 hb=>?_) a z;rcases hb with⟨rfl,D,Q,C⟩|⟨rfl,D,hst4,C⟩
      .intro a z;have hf4:=r7.DQ (t:=0) (a:=.c (.yl m1.L)) (v:=yV m1.L) rfl (c.ga rfl (C.le (λb hb=>.inr hb) I.lo m1.hB) C.bx);have r:D.length=11:=Q.D2.obj.length.symm;refine(aiM o cj (afr (L:=m1.L) (k:=k) N) (⟨D,u6.refl _ _ _,Q.D2,r7.DQ (t:=27) (a:=.c (.bool (.lit true))) (Pd.bool (e:=.lit true)) hf4⟩) λfr H F w5 hK q=>?_) a (z.sub (Yo (yN y B)));refine WX.next (Jy o (H3 r) cj (qI hK) q λe fr H F w6 hK q=>?_)
       cases e with
       |normal=>
        refine WX.Lr (WX.next (Jy o (H3 r) cj hK q λe fr H F w7 hK q=>?_));cases e with
        |normal=>
         obtain⟨hy,T⟩:=hK;have y:look F 0=some (yV m1.L):=by obtain⟨_,_,_,U⟩:=q;exact od U hy
         obtain⟨F7,⟨ρ7,hs7,hr7,hf7⟩,hlk7⟩:=iM (P:=prog) (by rw[o];exact fa) (H3 r) q T;obtain⟨hm7,ha7⟩:=Q.step hs7 hr7;exact λa z=>⟨k+1,⟨ρ7,(0,yV m1.L)::F7,z.sub (yN y hlk7),hm7,r7.DQ (a:=.c (.yl m1.L)) rfl hf7,hkl,((A.trans l).trans C).trans ha7⟩,N⟩
        |_=>exact hK.elim
       |_=>exact hK.elim
      have K:m1.Out ρ v2 (.tuple #[]) w4:=⟨D,(A.trans l).trans C,.inr hst4⟩;refine WO.of_eq apZ (WO.v (R.not (b:=false) rfl) rfl (WO.nil (WX.next ?_)));rw[VE];exact WC.Ob rfl (WC.ret (WX.ajh (P:=prog) (fn:=f221) (φ:=m1.Out ρ v2) rfl K))
     |_=>exact hK.elim
    |_=>exact hK.elim
   |_=>exact hK.elim
  |_=>exact hK.elim
 |_=>exact hK.elim
end
def abH:f168.body=some (.seq pR0 (.seq pR1 (.seq pR2 (.seq (.seq pR3 (.block 0 (.rangeFunc (.tmp 16) #[17] PE Qu))) ZN)))):=cj
def acg{args:List Value}(e:args.length<=n):M n (xr 0 args) {tmps:=args.toArray++Array.replicate (n-args.toArray.size) undef,defers:=[]}:=by
 refine⟨rfl,?_,λi v c=>?_⟩
 .simp;omega
 rw[vD]at c;obtain⟨_,a⟩:=uU args 0 i v c;rw[R2]at a;have d:i<args.length:=(sy.1 a).1;have f:args[i]=v:=by rw[r5 d]at a;exact D4 a
 simp[Array.getD,d,f];omega
def GV(G:Gl)(w0:World)(s:c5)(l:List eA)(v:Int)(u:Value)(c:World):Prop:=
 ∃d,u=DK d/\∃a,pe G a (hE (x8 v s l) (B3 v s l)) c/\u7 [] w0 a c/\hY (eh (cx G a c) a) (rE (x8 v s l) (pE v l)) d/\Kp [] w0 c
section
variable{m1:PX}{ρ1 ρ':List RE}{w0 W1 w4:World}{H:AH}{a:Act}
def OE{fr:lg}(D:m1.G.shp=bj p6)(hz:∀x,m1.G.Z x->x<w0.heap.size)(Q:w0.heap.size<=m1.D)(T:m1.D<m1.L)(S:pe m1.g ρ' H w4)(U:r7 (cx m1.g ρ' w4) ρ' fr F)(V:M 40 F a)
  (c:D5 p6 [] 0 f168 (rE (x8 m1.v m1.s m1.l) (pE m1.v m1.l)) (hE (x8 m1.v m1.s m1.l) (B3 m1.v m1.s m1.l)) fr H)(s:w4.heap[m1.D]? =some (.deferred (some [])))(hE:u7 [] w0 ρ1 W1)(j:B6 m1.Z ρ1 W1 ρ' w4):
  ∃y,(Instr.takeDeferred m1.D).run prog w4=.ok [] y/\ ∃u,(results f168 a.tmps).run prog y=.ok u y/\GV m1.G w0 m1.s m1.l m1.v u y:=by
 refine⟨_,run_takeDeferred (P:=prog) s,?_⟩;have z:=S.KM (l:=m1.D) (.deferred none) (.inr (.inl rfl)) m1.hD;have k:(w4.putObj m1.D (.deferred none)).heap.size=w4.heap.size:=by simp
 have m:w0.heap.size<=w4.heap.size:=zc hE.size j.size;obtain⟨e,A⟩:=z.W7 (λx g=>y7 (hz x g) (by rw[k];exact m));have o:(cx m1.g ρ' w4).le (cx m1.G ρ' (w4.putObj m1.D (.deferred none))):=((B6.put (Z:=m1.Z) (ρ:=ρ') (w:=w4) (.deferred none) (.inl rfl)).le (G:=m1.g) (λb f=>.inr f) S.lo m1.hB).trans A;have B:=U.ed o (mz.refl _);have d:u7 [] w0 ρ' (w4.putObj m1.D (.deferred none)):=⟨j.os.trans hE.os,j.tape.trans hE.tape,j.output.trans hE.output,by rw[k];exact m,λb f C=>by
  obtain⟨I,J⟩:=hE.z7 b f C;obtain⟨n,t⟩:=j.z7 b (y7 f hE.size) I;have v:b≠m1.D:=by omega
  exact⟨n,(N7 v).trans ((t (λhz=>by rcases hz with hz|hz<;>omega)).trans J)⟩⟩
 unfold D5 aeH at c;split at c
 .rename_i l C;obtain⟨K,I,J⟩:=mR (by rw[D];exact fa) e B V C;replace c:=gW.1 c;refine⟨_,J,K,rfl,_,qa (P:=prog) (by rw[D];exact fa) e rfl (ct.1 λp q=>c p (D3 _ (D3 _ q))) λp q=>c p (E3 _ q),p_ d,qP e rfl I λp q=>c p (D3 _ (E3 _ q)),?_⟩;exact⟨d.os,d.tape,d.output,d.size,λb f _=>(d.z7 b f (λ⟨i,r,h,_⟩=>by simp at h)).2⟩
 exact(show False from c).elim
end
theorem Wq.go{l:List Prop}{R:Prop}(k:∀p∈l,p)(h:Wq (oq l R)):Wq R:=⟨gh.1 h.h k⟩
def Wq.seq{x y:Code}{k0:Nat}{K:Exit->lg->AH->Prop}{fr:lg}{H:AH}(h:Wq (kE p6 gL (jR 0) k0 [] (.seq x y) K fr H)):Wq (kE p6 gL (jR 0) k0 [] x (aeV y k0 K) fr H):=⟨qI h.h⟩
def ajF{c:Code}{fr:lg}(a:G.shp=bj p6)(d:ρ0.length<=k0)(f:fH n c=true)(h:Wq (kE p6 gL (jR 0) k0 [] c K fr H))
  (g:St G (jR 0) ρ0 w0 fr H F w)(hK:∀e fr H F w,K e fr H->St G (jR 0) ρ0 w0 fr H F w->WX Q n e F w):WC prog Q n c F w:=Jy a d f h.h g hK
variable{l:List eA}
def afs{s:c5}{r:List l3}{v:Int}:Wq (kE p6 gL (jR 0) 11 [] ZN (koI s r) FB (hK s r l v)):=by
 refine⟨?_⟩;rw[anD];repeat'(first|with_reducible apply aH|with_reducible refine aI ?_|intro)
 all_goals with_reducible rfl
theorem aeF{s:c5}{v:Int}:Wq (oq (Kf [.agg (cellsOf (.nm .state) s),.c (.fz (.nm .entry) l),.c (.int v)]) (kE p6 gL (jR 0) 0 [] (.seq pR0 (.seq pR1 (.seq pR2 pR3))) (W5 0 (FB,hK s [] l v)) (wM 0 [.agg (cellsOf (.nm .state) s),.c (.fz (.nm .entry) l),.c (.int v)]) [])):=by
 refine⟨?_⟩;rw[anx];grind
theorem ac8{s:c5}{v:Int}(h:∀p∈Kf [.agg (cellsOf (.nm .state) s),.c (.fz (.nm .entry) l),.c (.int v)],p):Wq (kE p6 gL (jR 0) 0 [] (.seq pR0 (.seq pR1 (.seq pR2 pR3))) (W5 0 (FB,hK s [] l v)) (wM 0 [.agg (cellsOf (.nm .state) s),.c (.fz (.nm .entry) l),.c (.int v)]) []):=by grind[aeF,Wq.go]
def Re{vs:List Value}{s:c5}{v:Int}(hG:G.shp=bj p6)(hR:pe G ρ [] w)(V:hY (eh (cx G ρ w) ρ) [.agg (cellsOf (.nm .state) s),.c (.fz (.nm .entry) l),.c (.int v)] vs):
  mT prog 168 vs.toArray w (GV G w s l v):=by
 have hok:=Zp.qZ V;have hsz:l.length*32<=140737488355328:=by
  have:l.length*Sh.bytes (.nm .entry)<=140737488355328:=hok _ (by simp[Kf,oh.ok,AV.ok]);exact this
 have hρ:ρ=[]:=A6 hR.obj.length.symm;subst hρ;have hl3:vs.length=3:=V.length.symm;refine(callsIn_wide (n:=0)).1 (callsIn_of_wp_marks (F:=jd none) (n:=0) func168 abH trivial ?_);have hM0:=acg (n:=40) (args:=vs) N;have h0:([]:List RE).length<=0:=tw 0;refine wpIn_seq (mf.U1 rfl ((ajF (n:=40) hG h0 cj (Wq.seq (ac8 hok)) (⟨[],u6.refl _ _ _,hR,qz V⟩) λe fr H F d hK J=>?_) _ hM0));cases e with
 |normal=>
  intro a q;refine wpIn_seq (mf.U1 q.1 ((Jy (n:=40) hG h0 cj (qI hK) J λe fr H F d hK J=>?_) _ q));cases e with
  |normal=>
   intro a q;refine wpIn_seq (mf.U1 q.1 ((Jy (n:=40) hG h0 cj (qI hK) J λe fr H F d hK J=>?_) _ q));cases e with
   |normal=>
    intro a q;refine wpIn_seq (wpIn_seq (mf.U1 q.1 ((Jy (n:=40) hG h0 cj hK J λe fr H F d hK J=>?_) _ q)));cases e with
    |normal=>
     obtain⟨F1,⟨o,hs1,g,hf1⟩,hlk⟩:=iM (P:=prog) (by rw[hG];exact fa) h0 J hK;intro a ha0;have q:=ha0.sub hlk;refine wpIn_block (wpIn_rangeFunc λfn hfn=>?_);have hae:a={tmps:=a.tmps,defers:=[]}:=by rw[<-q.1]
     obtain⟨vg,hg1,hg2⟩:=fS (i:=16) (tv:=one (.fn 221 [] [(5,0),(6,0)])) hf1 rfl;obtain⟨bs,us,c,t,rfl⟩:=hg2;cases c;cases t with|cons h8 t=>
     cases t with|cons h9 t=>
     cases t;rename_i p8 p9;have hg:a.eval (.tmp 16)=.func (.func 221) #[] #[p8,p9]:=q.ev (x:=.tmp 16) hg1;obtain⟨D,B⟩:∃D:PX,D=⟨G,d.heap.size,d.heap.size+1,fn,a.tmps,F1,s,l,v,g.b0,Nat.le_succ_of_le g.b0⟩:=⟨_,rfl⟩;have p:D.D=d.heap.size:=by rw[B]
     have y:D.L=d.heap.size+1:=by rw[B]
     obtain⟨hre,hle,hk⟩:=g.enter (.deferred (some [])) (.loop (D.rc .ready none));have hsz2:((d.alloc (.deferred (some []))).alloc (.loop (D.rc .ready none))).heap.size=d.heap.size+1+1:=by simp
     have hmid:L9 D 0 o ((d.alloc (.deferred (some []))).alloc (.loop (D.rc .ready none))):=by
      refine⟨?_,?_,λx hx=>by simp at hx,?_,?_⟩
      .have:pe (GZ G d.heap.size (d.heap.size+1)) o (Go.Proofs.YtoecbhljidgajaaGreat.hK s [] l v) ((d.alloc (.deferred (some []))).alloc (.loop (D.rc .ready none))):=hre;rw[B]at this⊢;exact this
      .have:=hf1.ed hle (mz.refl _);rw[B]at this⊢;exact this
      .rw[y];have:=World.alloc_heap_new (d.alloc (.deferred (some []))) (.loop (D.rc .ready none));rwa[World.size_alloc]at this
      rw[p];exact(Below.heap_alloc _ _ _ aa).trans (World.alloc_heap_new d _)
     have K:D.G.shp=bj p6:=by rw[B];exact hG
     have hGgX:D.g.shp=bj p6:=K;have hlX:D.l=l:=by rw[B]
     have hMX:M 40 D.FP {tmps:=D.tm,defers:=[]}:=by rw[B];rw[hae]at q;exact q
     have hMa:M 40 D.FP a:=by rw[B];exact q
     have h8':fw o (5,0) p8:=h8;have h9':fw o (6,0) p9:=h9;have hit:=RF K (by rw[hlX];exact hsz) hMX (by rw[p,y];omega) hmid h8' h9';have hE1:u7 [] w o ((d.alloc (.deferred (some []))).alloc (.loop (D.rc .ready none))):=hs1.ext.trans (u7.kp hk);have T:∀{z:List RE} {U:World} {H:AH} {b:Act} {fr:lg} {F:Fr},pe D.g z H U->r7 (cx D.g z U) z fr F->M 40 F b->D5 p6 [] 0 f168 (rE (x8 D.v D.s D.l) (pE D.v D.l)) (hE (x8 D.v D.s D.l) (B3 D.v D.s D.l)) fr H->U.heap[D.D]? =some (.deferred (some []))->
       B6 D.Z o ((d.alloc (.deferred (some []))).alloc (.loop (D.rc .ready none))) z U->bodyPostM (jd none) 0 prog f168 (λe w'=>∃u,e=.returned u/\GV G w s l v u w') .ret (kr b [{target:=.collected D.D,args:=#[]}]) U:=λhR4 hf4 hMb j hd4 hA4=>by
      obtain⟨w',ht,u,t,ho⟩:=OE (w0:=w) K (by rw[B];exact hR.z) (by rw[p];exact hs1.ext.size) (by rw[p,y];omega) hR4 hf4 hMb j hd4 hE1 hA4;rw[B]at ho;exact⟨aa,.inl ⟨_,w',rfl,ht,u,t,u,rfl,ho⟩⟩
     refine⟨d.heap.size+1,[{target:=.collected d.heap.size,args:=#[]}],(d.alloc (.deferred (some []))).alloc (.loop {state:=.ready,pending:=none,fn:=fn,tmps:=a.tmps,params:=#[17],assign:=PE,body:=Qu,defers:=d.heap.size}),{target:=.fn (.func 221) #[p8,p9],args:=#[yV (d.heap.size+1)]},(d.alloc (.deferred (some []))).alloc (.loop {state:=.ready,pending:=none,fn:=fn,tmps:=a.tmps,params:=#[17],assign:=PE,body:=Qu,defers:=d.heap.size}),221,#[yV (d.heap.size+1)]++ #[p8,p9],(d.alloc (.deferred (some []))).alloc (.loop {state:=.ready,pending:=none,fn:=fn,tmps:=a.tmps,params:=#[17],assign:=PE,body:=Qu,defers:=d.heap.size}),run_enterLoop_outer _ _ _ _ _,?_,λ_ _=>trivial,?_,λh=>(by cases h),?_⟩
     .simp only[resolve,hg];simp[go_sem]
     .simp[invoke,go_sem]
     have hrc:({state:=.ready,pending:=none,fn:=fn,tmps:=a.tmps,params:=#[17],assign:=PE,body:=Qu,defers:=d.heap.size}:Loop)=D.rc .ready none:=by rw[B];rfl
     rw[hrc,<-y];refine Od (O9 hit λe L ⟨v0,he,f,hA2,hc⟩=>?_);subst he;rcases hc with⟨k,hk,Q⟩|hst
     .refine⟨none,_,run_endLoop (P:=prog) Q.loop (by simp[PX.rc]),?_⟩;obtain⟨p1,p2,p3⟩:=yy (s:=D.s) Q.ok hk;have S:=Q.D2.KM (l:=D.L) (.loop {D.rc .ready none with state:=.exhausted}) (.inr (.inr rfl)) D.hL;have A2:B6 D.Z o _ f (L.putObj D.L (.loop {D.rc .ready none with state:=.exhausted})):=hA2.trans (.put _ (.inr rfl));have C:r7 (cx D.g f (L.putObj D.L (.loop {D.rc .ready none with state:=.exhausted}))) f FB D.FP:=Q.fr.ed ((B6.put (Z:=D.Z) (ρ:=f) (w:=L) _ (.inr rfl)).le (G:=D.g) (λb c=>.inr c) Q.D2.lo D.hB) (mz.refl _);have A:(L.putObj D.L (.loop {D.rc .ready none with state:=.exhausted})).heap[D.D]? =some (.deferred (some [])):=(N7 (by rw[p,y];omega)).trans Q.R6;have hlen2:f.length=11:=Q.D2.obj.length.symm;revert S A2 C A;generalize L.putObj D.L (.loop {D.rc .ready none with state:=.exhausted})=U;intro S A2 C A;have hwc:WC prog (λe b w5=>e=.ret/\bodyPostM (jd none) 0 prog f168 (λe w'=>∃u,e=.returned u/\GV G w s l v u w') .ret (kr b [{target:=.collected D.D,args:=#[]}]) w5) 40 ZN D.FP U:=by
       refine ajF hGgX (H3 hlen2) cj (afs (s:=pS D.v D.s (D.l.take k)) (r:=pR D.v D.s (D.l.take k)) (l:=D.l) (v:=D.v)) (⟨f,u6.refl _ _ _,S,C⟩) λe fr H F w5 hK J=>?_;cases e with
       |ret=>
        obtain⟨ρ5,hs5,hr5,hf5⟩:=J;have hd5:w5.heap[D.D]? =some (.deferred (some [])):=(hs5.ext.z7 _ (gu A) (S.lN (.inr (.inl rfl)))).2.trans A;have j:D5 p6 [] 0 f168 (rE (pS D.v D.s (D.l.take k)) 0) (hE (pS D.v D.s (D.l.take k)) (pR D.v D.s (D.l.take k))) fr H:=hK;rw[p1,p2,p3]at j;exact λb c=>⟨rfl,T hr5 hf5 c j hd5 (A2.trans (.yM hs5.ext hs5.bx))⟩
       |_=>exact hK.elim
      have hwi:=Sc (m:=0) (hwc a hMa none [{target:=.collected D.D,args:=#[]}]);rw[p]at hwi;have I:({a with defers:=[{target:=.collected d.heap.size,args:=#[]}]++a.defers}:Act)=kr a [{target:=.collected d.heap.size,args:=#[]}]:=by rw[q.1];rfl
      show Exit.inBlock 0 _ .normal _ U;rw[I];refine wpIn_mono hwi λe b w5 ⟨b0,hb0,hbe,hbr,hpost⟩=>?_;subst hbr;subst hbe;exact hpost
     refine⟨some .ret,_,run_endLoop (P:=prog) hst.loop (by simp[PX.rc]),?_⟩;obtain⟨H,hR,j⟩:=hst.D2;have A2:B6 D.Z o _ f (L.putObj D.L (.loop {D.rc .done (some .ret)with state:=.exhausted})):=hA2.trans (.put _ (.inr rfl));have C:r7 (cx D.g f (L.putObj D.L (.loop {D.rc .done (some .ret)with state:=.exhausted}))) f FB D.FP:=hst.fr.ed ((B6.put (Z:=D.Z) (ρ:=f) (w:=L) _ (.inr rfl)).le (G:=D.g) (λb c=>.inr c) hR.lo D.hB) (mz.refl _);have A:(L.putObj D.L (.loop {D.rc .done (some .ret)with state:=.exhausted})).heap[D.D]? =some (.deferred (some [])):=(N7 (by rw[p,y];omega)).trans hst.R6;have hp:=T (hR.KM _ (.inr (.inr rfl)) D.hL) C hMa j A A2;have I:({a with defers:=[{target:=.collected d.heap.size,args:=#[]}]++a.defers}:Act)=kr a [{target:=.collected d.heap.size,args:=#[]}]:=by rw[q.1];rfl
     rw[p]at hp;show Code.ret.wpIn _ _ _ _ _ _;rw[I];exact wpIn_ret hp
    |_=>exact hK.elim
   |_=>exact hK.elim
  |_=>exact hK.elim
 |_=>exact hK.elim
def Ow(s:c5)(l:List eA)(v:Int):r8 prog (bj p6) 168 [.agg (cellsOf (.nm .state) s),.c (.fz (.nm .entry) l),.c (.int v)] [] ⟨[],rE (x8 v s l) (pE v l),some (hE (x8 v s l) (B3 v s l)),true⟩:=by
 refine⟨⟨_,func168,am,by kernel_rfl⟩,λG ρ w y k j a=>?_⟩;have d:ρ=[]:=A6 j.obj.length.symm;subst d;refine(Re k j a).mono λu z ⟨m,e,f,o,p,q,x⟩=>⟨m,e,f,o,p,λi g h=>by simp at h,q,λ_=>⟨x,λi r h=>by simp at h⟩⟩
section
variable{v:Int}{s:c5}{l:List eA}{k:Nat}{x:eA}
def aeq:Wq (x3 v (l.take 0)):=⟨λx h=>by simp at h⟩
def abC(h:Wq (x3 v (l.take k)))(a:l[k]? =some x)(c:(bd x v).e=0):Wq (x3 v (l.take (k+1))):=⟨zl h.h a c⟩
def ao4(a:l[k]? =some x)(h:(bd x v).some=true):(jS (pS v s (l.take k)) (bd x v).c).1=pS v s (l.take (k+1)):=by rw[<-HN a,ajE h]
def aow(a:l[k]? =some x)(h:(bd x v).some=false):pS v s (l.take k)=pS v s (l.take (k+1)):=by rw[<-HN a,ah_ h]
def arV(a:l[k]? =some x)(h:(bd x v).some=true):pR v s (l.take k)++[(jS (pS v s (l.take k)) (bd x v).c).2]=pR v s (l.take (k+1)):=by rw[<-HR a,ahT h]
def ari(a:l[k]? =some x)(h:(bd x v).some=false):pR v s (l.take k)++[l3.mk 0 0]=pR v s (l.take (k+1)):=by rw[<-HR a,ahU h]
def agA{y:l3}(h:(k:Int)<l.length)(a:l.length*32<=140737488355328):((pR v s (l.take k)).length+[y].length)*16<=140737488355328:=by
 rw[yT,sh];simp;omega
def ahR(h:Wq (x3 v (l.take k)))(a:l[k]? =some x)(c:¬(bd x v).e=0):pS v s (l.take k)=x8 v s l:=(tF h.h a c).1
def alp(h:Wq (x3 v (l.take k)))(a:l[k]? =some x)(c:¬(bd x v).e=0):pR v s (l.take k)=B3 v s l:=(tF h.h a c).2.1
def ahV(h:Wq (x3 v (l.take k)))(a:l[k]? =some x)(c:¬(bd x v).e=0):(bd x v).e=pE v l:=(tF (s:=c5.mk 1 1 0 0 [] [] []) h.h a c).2.2
def aiT(h:Wq (x3 v (l.take k)))(a:(l.length:Int)<=k):pS v s (l.take k)=x8 v s l:=(yy h.h N).1
def ag5(h:Wq (x3 v (l.take k)))(a:(l.length:Int)<=k):pR v s (l.take k)=B3 v s l:=(yy h.h N).2.1
def ahp(h:Wq (x3 v (l.take k)))(a:(l.length:Int)<=k):0=pE v l:=(yy (s:=c5.mk 1 1 0 0 [] [] []) h.h N).2.2
end
def WM(st:c5)(l:List eA)(v:Int):List (Nat×LI):=[(4,{σ:=Nat,F:=λk=>([(1,one (.fz (.nm .entry) l)),(2,one (.int v)),(3,one (.ptr 0 0)),(6,one (.ptr 1 0)),(9,one (.own 5)),(10,one (.int k))],[.box 56 ([.int ((pS v st (l.take k)).bo),.int ((pS v st (l.take k)).next),.int ((pS v st (l.take k)).dc),.int ((pS v st (l.take k)).eR),.own 2,.own 3,.own 4]),.box 56 ([.int (0),.int (0),.int (0),.int (0),.em true,.em true,.em true]),.row 119 (.nm .c8) ((pS v st (l.take k)).c8),.row 122 (.nm .opn) ((pS v st (l.take k)).eb),.row 125 (.nm .snap) ((pS v st (l.take k)).c3),.row 72 (.nm .l8) (pR v st (l.take k))]),J:=λk=>k<=l.length/\Wq (x3 v (l.take k)),μ:=λk=>l.length-k})]
def WN(st:c5)(l:List eA)(v:Int):r8 prog (bj p6) 168 [.agg (cellsOf (.nm .state) st),.c (.fz (.nm .entry) l),.c (.int v)] [] ⟨[],[.agg ([.int ((x8 v st l).bo),.int ((x8 v st l).next),.int ((x8 v st l).dc),.int ((x8 v st l).eR),.own 0,.own 1,.own 2]),.c (.own 3),.c (.int (pE v l))],some ([.row 119 (.nm .c8) ((x8 v st l).c8),.row 122 (.nm .opn) ((x8 v st l).eb),.row 125 (.nm .snap) ((x8 v st l).c3),.row 72 (.nm .l8) (B3 v st l)]),true⟩:=Ow st l v
def ZI:CK 168 (aD (ak qK (ak xc fj)) av λ(st,l,v,_) _=>⟨[],[.agg ([.int ((x8 v st l).bo),.int ((x8 v st l).next),.int ((x8 v st l).dc),.int ((x8 v st l).eR),.own 0,.own 1,.own 2]),.c (.own 3),.c (.int (pE v l))],some ([.row 119 (.nm .c8) ((x8 v st l).c8),.row 122 (.nm .opn) ((x8 v st l).eb),.row 125 (.nm .snap) ((x8 v st l).c3),.row 72 (.nm .l8) (B3 v st l)]),true⟩):=ag λ(st,l,v,_) _ _=>WN st l v
theorem QS:CK 193 (aD (ak qK (ak xc fj)) av λ(st,l,v,_) _=>⟨[],[.agg ([.int ((x8 v st l).bo),.int ((x8 v st l).next),.int ((x8 v st l).dc),.int ((x8 v st l).eR),.own 0,.own 1,.own 2]),.c (.own 3),.c (.int (pE v l))],some ([.row 119 (.nm .c8) ((x8 v st l).c8),.row 122 (.nm .opn) ((x8 v st l).eb),.row 125 (.nm .snap) ((x8 v st l).c3),.row 72 (.nm .l8) (B3 v st l)]),true⟩):=ag λ(st,l,v,_) _ _=>by
 refine bU Hy (WM st l v) func193 (?_:(λ(o:Nat)(k:Int)(m:c5)=>(λ(j:Prop)=>cK st (l.length*32<=140737488355328->W v->W st.bo->W st.next->W st.dc->W st.eR->∃(q:Nat),(λ(p:c5)=>(l=l/\v=v/\k=(q:Int)/\st.bo=p.bo/\st.next=p.next/\st.dc=p.dc/\st.eR=p.eR/\j/\j/\j/\j/\st.c8=p.c8/\st.eb=p.eb/\st.c3=p.c3/\pR v st (take q l)=[])/\(q<=o/\Wq (x3 v (take q l)))/\∀(s:Nat),(λ(y:Int)(r:List l3)(d:c5)=>(λ(z:Prop)=>s<=o/\Wq (x3 v (take s l))->((s:Int)<(l.length:Int)->k<=(s:Int)/\(s:Int)<(l.length:Int)/\∀(x:eA),(λ(f:RdM)=>(λ(u:c5×l3)=>(λ(a:c5)=>l[s]? =some x->W x.a8->x.b.length*1<=140737488355328->bf f.c (W f.e->(¬f.e=k->d.bo=m.bo/\d.next=m.next/\d.dc=m.dc/\d.eR=m.eR/\f.e=pE v l/\z)/\(f.e=k->(f.some=true->W a.bo->W a.next->W a.dc->W a.eR->W u.2.code->W u.2.n->(r.length+[u.2].length)*16<=140737488355328/\W y/\∃(i:Nat),(λ(g:c5)=>(l=l/\v=v/\y=(i:Int)/\a.bo=g.bo/\a.next=g.next/\a.dc=g.dc/\a.eR=g.eR/\j/\j/\j/\j/\a.c8=g.c8/\a.eb=g.eb/\a.c3=g.c3/\r++[u.2]=pR v st (take i l))/\(i<=o/\Wq (x3 v (take i l)))/\o-i<o-s) (pS v st (take i l)))/\(f.some=false->(r.length+[l3.mk k k].length)*16<=140737488355328/\W y/\∃(i:Nat),(λ(h:c5)=>(l=l/\v=v/\y=(i:Int)/\d.bo=h.bo/\d.next=h.next/\d.dc=h.dc/\d.eR=h.eR/\j/\j/\j/\j/\d.c8=h.c8/\d.eb=h.eb/\d.c3=h.c3/\r++[l3.mk k k]=pR v st (take i l))/\(i<=o/\Wq (x3 v (take i l)))/\o-i<o-s) (pS v st (take i l)))))) u.1) (jS d f.c)) (bd x v))/\((l.length:Int)<=(s:Int)->d.bo=m.bo/\d.next=m.next/\d.dc=m.dc/\d.eR=m.eR/\k=pE v l/\z)) (d.c8=m.c8/\d.eb=m.eb/\d.c3=m.c3/\r=B3 v st l)) ((s:Int)+1) (pR v st (take s l)) (pS v st (take s l))) (pS v st (take q l)))) (k=k)) l.length 0 (x8 v st l));repeat' first|(with_reducible first|apply aH|refine aI ?_|intro)|exact aZ|exact rfl|exact aeq|exact(abC Y Y Y)|exact(arV Y Y)|exact(ari Y Y)|exact(agA Y Y)|exact(ahV Y Y Y)|exact(alp Y Y Y)|exact(ahp Y Y)|exact(ag5 Y Y)|(rw[ao4 Y Y]<;>rfl)|(rw[aow Y Y]<;>rfl)|(rw[ahR Y Y Y]<;>rfl)|(rw[aiT Y Y]<;>rfl)|refine⟨‹Nat›+1,?_⟩|refine⟨0,?_⟩
def jk:=(ae QS (ae ZI Hy))
def alT(b:ic):ic:=λg a H=>bif Nat.beq g 1000000003 then some {pre:=[False],rs:=[]}else b g a H
variable{P:Program}{shp:TypeId->Option Sh}
def zD{b:ic}(c:dN P shp b):dN P shp (alT b):=λg args H r h a=>by
 unfold alT at h;cases d:Nat.beq g 1000000003<;>rw[d]at h
 .exact c g args H r h a
 cases h;exact(a False aa).elim
def cWp:AV->Option Nat
 |.xx (.w n) []=>some n
 |_=>none
def cW:PC Nat:=⟨cWp,λn=>.xx (.w n) [],λa y h c ρ v d=>by
 unfold cWp at h
 split at h
 .cases h;exact d
 .cases h⟩
theorem r8.vk{f:Nat}{args m3:List oh}{p:AH}{pre:List Prop}{d b:Bool}(i k:Nat)(e:TypeId)(s:Sh){t:TypeId}{x:List AV}{S:AH}(R:shp e=some s)(q:p[i]? =some (.box t x))(B:x[k]? =some (.em b))(h:r8 P shp f args H ⟨pre,m3,some p,d⟩)(m1:S=p.set i (.box t (x.set k (.own p.length)))++[.row e s []]):r8 P shp f args H ⟨pre,m3,some S,d⟩:=by
 subst m1;refine⟨h.1,λG ρ w z j Z l=>(h.2 G ρ w z j Z l).mono ?_⟩;rintro v C ⟨n,F,c,D,K,Q,k4,T⟩;have I:=(u7.qs (ρ:=c) (r:=.emp) (Kp.refl C) λg j=>by cases j).le D.lo;have y:=D.obj.length;have m:=D.qs (r:=.emp) (o:=.row e s []) (Kp.refl C) (λg j=>by cases j) ⟨by show G.shp e=some s;rw[j];exact R,aa,.inl ⟨rfl,rfl⟩⟩;have A:=(sy.1 q).1;refine⟨n,F,c++[.emp],⟨?_,m.inj,m.u0,m.z,m.b0,m.tb⟩,K.trans (u7.qs (Kp.refl C) λg j=>by cases j),λi g q=>by
  rw[E0]
  .grind
  .exact(sy.1 (Q i g q)).1,k4.imp λ_ _ h=>h.ed I (iF _ _),λB=>⟨(T B).1,λi rr q=>by
  rw[E0]
  .grind
  exact(sy.1 ((T B).2 i rr q)).1⟩⟩
 obtain⟨r,hr,g,J,rfl,h1,U⟩:=m.at_ (i:=i) (o:=.box t x) (by rw[E0 A];exact q);have V:=m.obj.set i (a:=.box t (x.set k (.own p.length))) (b:=.blk g) ⟨g,J,rfl,h1,?_⟩
 .rw[List.set_append_left _ _ A]at V;have:(c++[RE.emp]).set i (.blk g)=c++[RE.emp]:=by
   obtain⟨hj,L⟩:=sy.1 hr;rw[<-L,X5]
  rwa[this]at V
 obtain⟨u,hu,E⟩:=e_ U k _ B;have k8:=U.set k (a:=.own p.length) (b:=u) (.inr ⟨by rw[y];simp,?_⟩)
 .have:J.set k u=J:=by
   obtain⟨hj,L⟩:=sy.1 hu;rw[<-L,X5]
  rwa[this]at k8
 have E:Pd _ _ _:=E;cases E with|em _=>exact⟨_,rfl⟩
def Rh:=bg cI (bg cB (bg cB (bg cI jf)))
def wX:=bl (iX 115 (bg (iY 1) Rh)) (bl (jL 5 .u8) av)
def SD:CK 29 (aD dA wX λ_ ((_,d,a,e,f,_),g,_)=>{rs:=[.c (.bool (.atom a))]}):=ag λ_ ((_,d,a,e,f,_),g,_) _=>by
 refine al jk [] func29 (?_:a=a);try rfl
theorem P_:CK 76 (aD iR wX λ(_,k,_) ((_,a,c,e,f,_),d,_)=>{rs:=[],out:=some ([.box 115 ([.own 1,.int ((j9.mk d a c true k).b7),.bool (.atom ((j9.mk d a c true k).down)),.bool (.atom ((j9.mk d a c true k).c9)),.int ((j9.mk d a c true k).dc)]),.row 5 .u8 ((j9.mk d a c true k).b)])}):=ag λ(_,k,_) ((_,a,c,e,f,_),d,_) _=>by
 refine bh jk [] func76 (?_:W k->a=a/\c=c/\true=true/\k=k/\d=d);(repeat' with_reducible first|apply aH|refine aI ?_|intro)<;>(first|with_reducible rfl|with_reducible assumption|omega|(refine aY ?_ ?_<;>omega))
theorem afY:CK 38 (aD dA wX λ_ ((_,d,a,f,g,_),e,_)=>{rs:=[.c (.int (if a=true then 0 else 31))],out:=some ([.box 115 ([.own 1,.int ((if a=true then(j9.mk e d a f g).up else(j9.mk e d a f g)).b7),.bool (.atom ((if a=true then(j9.mk e d a f g).up else(j9.mk e d a f g)).down)),.bool (.atom ((if a=true then(j9.mk e d a f g).up else(j9.mk e d a f g)).c9)),.int ((if a=true then(j9.mk e d a f g).up else(j9.mk e d a f g)).dc)]),.row 5 .u8 ((if a=true then(j9.mk e d a f g).up else(j9.mk e d a f g)).b)])}):=ag λ_ ((_,d,a,f,g,_),e,_) _=>by
 refine bh jk [] func38 (?_:(λi h=>(a=false->31=i/\d=h.b7/\a=h.down/\f=h.c9/\g=h.dc/\e=h.b)/\(a=true->0=i/\d=h.b7/\false=h.down/\false=h.c9/\0=h.dc/\e=h.b)) (if a=true then(0:Int)else(31:Int)) (if a=true then(j9.mk e d a f g).up else j9.mk e d a f g));(repeat' with_reducible first|apply aH|refine aI ?_|intro)<;>grind[j9.up]
theorem KB:CK 22 (aD iR wX λ(_,k,_) ((_,c,d,e,f,_),a,_)=>⟨[(j9.mk a c d e f).OK],[],some ([.box 115 ([.own 1,.int (((j9.mk a c d e f).bR k).b7),.bool (.atom (((j9.mk a c d e f).bR k).down)),.bool (.atom (((j9.mk a c d e f).bR k).c9)),.int (((j9.mk a c d e f).bR k).dc)]),.row 5 .u8 (((j9.mk a c d e f).bR k).b)]),false⟩):=ag λ(_,k,_) ((_,c,d,e,f,_),a,_) i=>by
 have j:=bw i;refine bh (zD jk) [] func22 (?_:(λg h=>W k->W ((a.length:Int)-c)/\W h/\(0<=h/\h<=(a.length:Int))/\(↑(take h.toNat a).length:Int)=g.b7/\true=g.down/\false=g.c9/\0=g.dc/\take h.toNat a=g.b) ((j9.mk a c d e f).bR k) (c+min (max k 0) ((a.length:Int)-c)));obtain⟨m,o,p⟩:=j;dsimp only at m o p;(repeat' with_reducible first|apply aH|refine aI ?_|intro)<;>first|(first|with_reducible rfl|with_reducible assumption|omega|(refine aY ?_ ?_<;>omega))|(simp only[j9.bR,j9.at_];first|done|(first|with_reducible rfl|with_reducible assumption|omega|(refine aY ?_ ?_<;>omega))|(rw[sh];omega))
theorem XZ:CK 39 (aD iR wX λ(_,k,_) ((_,g,d,e,f,_),a,_)=>⟨[(j9.mk a g d e f).OK],[.c (.int ((j9.mk a g d e f).jq k))],some ([.box 115 ([.own 1,.int (((j9.mk a g d e f).cut k).b7),.bool (.atom (((j9.mk a g d e f).cut k).down)),.bool (.atom (((j9.mk a g d e f).cut k).c9)),.int (((j9.mk a g d e f).cut k).dc)]),.row 5 .u8 (((j9.mk a g d e f).cut k).b)]),false⟩):=ag λ(_,k,_) ((_,g,d,e,f,_),a,_) m=>by
 have o:=bw m;refine bh (zD jk) [] func39 (?_:(λi=>(λh=>(λj=>W k->(d=true->30=i.jq k/\j)/\(d=false->(k<0\/(a.length:Int)<k->1=i.jq k/\j)/\(0<=k/\k<=(a.length:Int)->0<=k/\k<=(a.length:Int)/\0=i.jq k/\k=h.b7/\d=h.down/\e=h.c9/\f=h.dc/\take k.toNat a=h.b))) (g=h.b7/\d=h.down/\e=h.c9/\f=h.dc/\a=h.b)) (i.cut k)) (j9.mk a g d e f));obtain⟨p,q,r⟩:=o;dsimp only at p q r;(repeat' with_reducible first|apply aH|refine aI ?_|intro)<;>first|(first|with_reducible rfl|with_reducible assumption|omega|(refine aY ?_ ?_<;>omega))|grind[j9.cut,j9.jq]
theorem YP:CK 105 (aD (ak iD gl) wX λ(_,x,_) ((_,e,a,f,g,_),d,_)=>⟨[(j9.mk d e a f g).OK],[.c (.int ((j9.mk d e a f g).fQ x))],some ([.box 115 ([.own 1,.int (((j9.mk d e a f g).qs x).b7),.bool (.atom (((j9.mk d e a f g).qs x).down)),.bool (.atom (((j9.mk d e a f g).qs x).c9)),.int (((j9.mk d e a f g).qs x).dc)]),.row 5 .u8 (((j9.mk d e a f g).qs x).b)]),false⟩):=ag λ(_,x,_) ((_,e,a,f,g,_),d,_) m=>by
 have o:=bw m;refine bh jk [] func105 (?_:(λi j=>(λh=>(λk=>x.length*1<=140737488355328->(a=true->30=i.fQ x/\k)/\(a=false->W j/\(j<(x.length:Int)->20=i.fQ x/\k)/\((x.length:Int)<=j->(d.length+x.length)*1<=140737488355328/\0=i.fQ x/\e=h.b7/\a=h.down/\f=h.c9/\g=h.dc/\d++x=h.b))) (e=h.b7/\a=h.down/\f=h.c9/\g=h.dc/\d=h.b)) (i.qs x)) (j9.mk d e a f g) (65536-(d.length:Int)));obtain⟨p,q,r⟩:=o;dsimp only at p q r;(repeat' with_reducible first|apply aH|refine aI ?_|intro)<;>first|(first|with_reducible rfl|with_reducible assumption|omega|(refine aY ?_ ?_<;>omega))|grind[j9.qs,j9.fQ]
theorem JQ:CK 36 (aD dA wX λ_ ((_,e,f,g,h,_),a,_)=>⟨[(j9.mk a e f g h).OK],[.c (.own 2)],some ([.box 115 ([.own 1,.int e,.bool (.atom f),.bool (.atom g),.int h]),.row 5 .u8 a,.row 5 .u8 a]),true⟩):=ag λ_ ((_,e,f,g,h,_),a,_) i=>by
 have j:=bw i;refine bU jk [] func36 (?_:(λ(d:Nat)=>(0:Int)<=(d:Int)/\(d:Int)*(↑(1:Nat):Int)<=(140737488355328:Int)/\(d:Int)=(d:Int)/\e=e/\f=f/\g=g/\h=h/\a=a/\take (replicate d (c4 Sh.u8)).length a++drop d (replicate d (c4 Sh.u8))=a) a.length);obtain⟨k,m,o⟩:=j;dsimp only at k m o;(repeat' with_reducible first|apply aH|refine aI ?_|intro)<;>first|(first|with_reducible rfl|with_reducible assumption|omega|(refine aY ?_ ?_<;>omega))|simp
theorem IJ:CK 21 (aD bS av λ_ _=>⟨[],[.c (.ptr 0 0)],some ([.box 115 ([.em true,.int (0),.bool (.atom false),.bool (.atom false),.int (0)])]),true⟩):=ag λ_ _ _=>by
 refine bU jk [] func21 (?_:(0:Int)=0/\false=false/\false=false/\(0:Int)=0);(repeat' with_reducible first|apply aH|refine aI ?_|intro)<;>(first|with_reducible rfl|with_reducible assumption|omega|(refine aY ?_ ?_<;>omega))
def VB:r8 prog (bj p6) 21 [] [] ⟨[],[.c (.ptr 0 0)],some ([.box 115 ([.em true,.int (0),.bool (.atom false),.bool (.atom false),.int (0)])]),true⟩:=IJ _ _ _ rfl aa
def gR:=(ae IJ (ae JQ (ae YP (ae XZ (ae KB (ae afY (ae P_ (ae SD jk))))))))
