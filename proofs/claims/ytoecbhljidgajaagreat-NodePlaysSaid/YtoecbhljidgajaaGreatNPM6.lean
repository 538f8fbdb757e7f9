/- What leads to the law, part 6. Conditions: each lemma's own. -/
import Derived.Test.YtoecbhljidgajaaGreatNPM5
set_option linter.unusedVariables false
set_option linter.unusedSimpArgs false
set_option maxHeartbeats 2000000
set_option linter.defProp false
noncomputable section
open List (Mem drop filter foldl getD_eq_getElem?_getD length_drop map_id map_map take take_of_length_le)
open UInt8 (ofNat toNat_inj toNat_mod)
namespace Go.Proofs.YtoecbhljidgajaaGreat
open Go.Proofs.Tryz
open Go.RowKit
def X6:=@List.countP_le_length
theorem NJ:∀{l:List UInt8} {k n:Nat},1<=k->(cd k n l).2.2=0->2^(7*k)<=(cd k n l).1
 |[],k,n,_,h=>by rw[cd]at h;split at h<;>cases h
 |x::r,k,n,d,h=>by
  rw[cd]at h⊢;split
  .grind
  rename_i b;rw[X b]at h;split
  .grind
  rename_i c;rw[X c]at h;split
  .rename_i a;rw[mL];have:1<=x.toNat%128:=by grind
   have:=J3 (2^(7*k)) this;show 2^(7*k)<=n+x.toNat%128*2^(7*k);omega
  rename_i a;rw[X a]at h;exact zc (Nat.pow_le_pow_right am N) (NJ N h)
theorem Hc(x:UInt8)(r:List UInt8):c7 (x::r)=if x.toNat<128 then(x.toNat,1,0)else cd 1 (x.toNat%128) r:=by
 unfold c7;rw[cd,X am,X N,mL];split
 .grind
 simp
variable{b:List UInt8}{k:Nat}
def BI(a:k<b.length):(b.drop k).take (b.length-k)=b[k]::b.drop (k+1):=by
 rw[take_of_length_le aa,K6 a]
theorem tk1(a:k<b.length)(c:(c7 ((b.drop k).take (b.length-k))).2.2=0)(d:¬(64:Int)<(((c7 ((b.drop k).take (b.length-k))).1:Nat):Int)):
  ∃x,b[k]? =some x/\c7 ((b.drop k).take (b.length-k))=(x.toNat,1,0)/\x.toNat<=64:=by
 rw[BI a,Hc]at*;by_cases h:b[k].toNat<128
 .grind
 rw[X h]at*;have:=NJ (tw 1) c;omega
def tk2(a:k<b.length)(h:(¬(c7 ((b.drop k).take (b.length-k))).2.2=0)\/(64:Int)<(((c7 ((b.drop k).take (b.length-k))).1:Nat):Int)):∃x,b[k]? =some x/\64<x.toNat:=by
 refine⟨b[k],r5 a,?_⟩;rw[BI a,Hc]at h;by_cases c:b[k].toNat<128
 .rw[O c]at h;simp at h;omega
 omega
def bN(b:List UInt8):List Int:=b.map λx=>(x.toNat:Int)
def gj(b:List UInt8):List Int:=if bO (bN b)then bN b else[]
def jr(b:List UInt8):Int:=if bO (bN b)then 0 else 6
variable{x:UInt8}
theorem HK{p:Nat×Nat×Int}(a:b[k]? =some x)(c:p=(x.toNat,1,0)):bN (b.take k)++[((p.1:Nat):Int)]=bN (b.take (k+1)):=by
 subst c;unfold bN;rw[ah a,L0];rfl
def aec(a:k<b.length)(h:(¬(c7 ((b.drop k).take (b.length-k))).2.2=0)\/(64:Int)<(((c7 ((b.drop k).take (b.length-k))).1:Nat):Int)):bO (bN b)=false:=by
 obtain⟨x,c,d⟩:=tk2 a h;rw[<-Bool.not_eq_true];intro e;have:=(nF e (x.toNat:Int) (M7.2 ⟨x,C5 c,rfl⟩)).2;omega
theorem zV(a:b.length<=k):bN (b.take k)=bN b:=by rw[take_of_length_le a]
def sB(h:bO (bN b)=false):[]=gj b:=by rw[gj,h];rfl
def FR(h:bO (bN b)=false):6=jr b:=by rw[jr,h];rfl
def GB(a:b.length<=k)(h:bO (bN (b.take k))=true):bN (b.take k)=gj b:=by rw[zV a]at*;rw[gj,h];rfl
def HO(a:b.length<=k)(h:bO (bN (b.take k))=true):0=jr b:=by rw[zV a]at*;rw[jr,h];rfl
def Fe(a:b.length<=k)(h:bO (bN (b.take k))=false):bO (bN b)=false:=by rw[zV a]at h;exact h
variable{l:List Int}
def QE(h:∀x∈l,0<x/\x<=64):fP l=l.map λx=>ofNat x.toNat:=by
 induction l with
 |nil=>rfl
 |cons x r a=>
  have d:=h x aa;simp only[fP,G9,O5]at*;rw[lT N,a λy c=>h y (x9 _ c)];rfl
def uW(h:∀x∈l,0<x/\x<=64):bN (l.map λx=>ofNat x.toNat)=l:=by
 unfold bN;rw[map_map];refine(X9 (g:=id) λx a=>?_).trans (map_id _);have:=h x a;show(((ofNat x.toNat).toNat:Nat):Int)=x;rw[J7];omega
theorem sd(h:bO l=true):bK l=(l.map λx=>ofNat x.toNat)/\cO l=0/\gj (bK l)=l/\jr (bK l)=0:=by
 have e:=QE (nF h);have a:bK l=(l.map λx=>ofNat x.toNat):=by rw[bK,O h,e]
 refine⟨a,by rw[cO,O h],?_,?_⟩
 .rw[a,gj,uW (nF h),O h]
 rw[a,jr,uW (nF h),O h]
def Ip(n:Nat):oo n 0=ofNat (n%128+128):=toNat_inj.1 (by rw[aax,J7];omega)
variable{r n:Nat}
def Ma{p:List UInt8}(h:p++bm r=bm n)(a:¬r<128):(p++[ofNat (r%128+128)])++bm (r/128)=bm n:=by
 rw[<-h,uA a,Ip,J9];rfl
def TN{p:List UInt8}(h:p++bm r=bm n)(a:r<128):p++[ofNat r]=bm n:=by rw[<-h,lT a]
def Nu{p:List UInt8}(h:p++bm r=bm n)(a:n<18446744073709551616):p.length<=10:=by
 have:=o9 List.length h;rw[s8]at this;have:=cH a;omega
def Nl(a:b[k]? =some x):bN (b.take k)++[(x.toNat:Int)]=bN (b.take (k+1)):=HK (p:=(x.toNat,1,0)) a rfl
theorem yA(h:bO (bN b)=true):bK (bN b)=b:=by
 rw[(sd h).1];unfold bN;rw[map_map];refine(X9 (g:=id) λx _=>?_).trans (map_id _);show ofNat (x.toNat:Int).toNat=x;simp
theorem yQ(a:b.length<=k)(h:(¬cO (bN (b.take k))=0)\/(¬(⟨bK (bN (b.take k))⟩:n9)=⟨b⟩)):bO (bN b)=false:=by grind[zV,sd,yA]
def Qm(h:cO (bN (b.take k))=0):bO (bN (b.take k))=true:=by
 cases a:bO (bN (b.take k))with
 |true=>rfl
 |false=>rw[cO,a]at h;cases h
variable{f:Field}
theorem RL:(((!decide (kK f.num f.hC=0))||(decide (f.hC=0)&&decide ((0:Int)<((f.b.length:Nat):Int))))||(decide (f.hC=2)&&(!decide ((f.n.n:Int)=0))))= !du f:=by
 by_cases h:(f.num<1\/1000<f.num)
 .grind[Cp,pY]
 by_cases a:f.hC=0
 .have e:decide ((0:Int)<((f.b.length:Nat):Int))= !decide (((f.b.length:Nat):Int)=0):=by
   rw[E8];simp only[S9,u9,J2];omega
  rw[qi h,O a,<-ni N,e,F5 a,D7 (show¬f.hC=2 by omega)];simp
 by_cases c:f.hC=2
 .rw[qi h,X a,O c,<-ni N,E8];simp[c]
 grind[qi,pY]
theorem Wh{c:b6}(h:fX c=true):c.c6.length=0\/bO c.c6=true:=by
 unfold fX at h;simp at h;have a:Au c=true:=by obtain⟨⟨⟨⟨⟨⟨⟨d,a⟩,e⟩,g⟩,i⟩,j⟩,m⟩,o⟩:=h;assumption
 unfold Au at a;split at a
 .exact .inr a
 grind
def af8{c:b6}{v:Int}(h:fh c v=true):c.c6.length=0\/bO c.c6=true:=by
 unfold fh at h;rw[r3,r3,H2,u9]at h;rcases h.1.2 with h|h
 .exact .inl N
 exact .inr h
def XX{c:b6}{v:Int}(h:aO c v=0):c.c6.length=0\/bO c.c6=true:=Wh (nz h).2.2.2
structure Q1 where
 num:Int
 hC:Int
 k:Nat
 e:Int
def Fx(n:Nat):Bool:=decide ((n/8<1\/1000<n/8)\/(¬n%8=0/\¬n%8=2))
def aE(b:List UInt8):Q1:=if(c7 b).2.2=0 then(if Fx (c7 b).1=true then⟨0,0,0,6⟩else⟨(((c7 b).1/8:Nat):Int),(((c7 b).1%8:Nat):Int),(c7 b).2.1,0⟩)else⟨0,0,0,(c7 b).2.2⟩
theorem zS(h:¬(c7 b).2.2=0):aE b=⟨0,0,0,(c7 b).2.2⟩:=by rw[aE,X h]
theorem zG(h:(c7 b).2.2=0)(a:((c7 b).1/8<1\/1000<(c7 b).1/8)\/(¬(c7 b).1%8=0/\¬(c7 b).1%8=2)):aE b=⟨0,0,0,6⟩:=by rw[aE,O h,O (show Fx _=true from F5 a)]
theorem EC(h:(c7 b).2.2=0)(a:¬(((c7 b).1/8<1\/1000<(c7 b).1/8)\/(¬(c7 b).1%8=0/\¬(c7 b).1%8=2))):aE b=⟨(((c7 b).1/8:Nat):Int),(((c7 b).1%8:Nat):Int),(c7 b).2.1,0⟩:=by
 rw[aE,O h,X (by unfold Fx;simpa using a)]
theorem lC(b:List UInt8):((aE b).k<=11/\(aE b).k<=b.length)/\(0<=(aE b).num/\(aE b).num<=1000)/\(0<=(aE b).hC/\(aE b).hC<=2):=by
 have a:(c7 b).2.1<=11/\(c7 b).2.1<=0+b.length:=lr (l:=b) (k:=0) (n:=0) N;by_cases h:(c7 b).2.2=0
 .grind[zG,EC]
 rw[zS h];simp
theorem Tj:∀{l:List UInt8} {k n:Nat},(cd k n l).2.2=0->1<=(cd k n l).2.1
 |[],k,n,h=>by rw[cd]at h;split at h<;>cases h
 |x::r,k,n,h=>by
  rw[cd]at h⊢;split
  .grind
  rename_i a;rw[X a]at h;split
  .grind
  rename_i c;rw[X c]at h;split
  .simp
  simp_all[Tj]
def aT(b:List UInt8):Nat×Int:=
  if(aE b).e=0 then
    (if(c7 (b.drop (aE b).k)).2.2=0 then
      (if(aE b).hC=0 then((aE b).k+(c7 (b.drop (aE b).k)).2.1,0)
       else if 16384<(c7 (b.drop (aE b).k)).1 then(0,4)
       else if((b.length:Nat):Int)-(((aE b).k+(c7 (b.drop (aE b).k)).2.1:Nat):Int)<(((c7 (b.drop (aE b).k)).1:Nat):Int)then(0,2)
       else((aE b).k+(c7 (b.drop (aE b).k)).2.1+(c7 (b.drop (aE b).k)).1,0))
     else(0,(c7 (b.drop (aE b).k)).2.2))
  else(0,(aE b).e)
def acq(h:¬(aE b).e=0):aT b=(0,(aE b).e):=by rw[aT,X h]
theorem aeo(h:(aE b).e=0)(a:¬(c7 (b.drop (aE b).k)).2.2=0):aT b=(0,(c7 (b.drop (aE b).k)).2.2):=by rw[aT,O h,X a]
theorem abK(h:(aE b).e=0)(a:(c7 (b.drop (aE b).k)).2.2=0)(c:(aE b).hC=0):aT b=((aE b).k+(c7 (b.drop (aE b).k)).2.1,0):=by rw[aT,O h,O a,O c]
def aes(h:(aE b).e=0)(a:(c7 (b.drop (aE b).k)).2.2=0)(c:¬(aE b).hC=0)(d:16384<(c7 (b.drop (aE b).k)).1):aT b=(0,4):=by rw[aT,O h,O a,X c,O d]
theorem ams(h:(aE b).e=0)(a:(c7 (b.drop (aE b).k)).2.2=0)(c:¬(aE b).hC=0)(d:¬16384<(c7 (b.drop (aE b).k)).1)(g:((b.length:Nat):Int)-(((aE b).k+(c7 (b.drop (aE b).k)).2.1:Nat):Int)<(((c7 (b.drop (aE b).k)).1:Nat):Int)):aT b=(0,2):=by rw[aT,O h,O a,X c,X d,O g]
theorem ajo(h:(aE b).e=0)(a:(c7 (b.drop (aE b).k)).2.2=0)(c:¬(aE b).hC=0)(d:¬16384<(c7 (b.drop (aE b).k)).1)(g:¬((b.length:Nat):Int)-(((aE b).k+(c7 (b.drop (aE b).k)).2.1:Nat):Int)<(((c7 (b.drop (aE b).k)).1:Nat):Int)):aT b=((aE b).k+(c7 (b.drop (aE b).k)).2.1+(c7 (b.drop (aE b).k)).1,0):=by rw[aT,O h,O a,X c,X d,X g]
theorem ke(b:List UInt8)(k:Nat):(c7 (b.drop k)).2.1<=11/\(c7 (b.drop k)).2.1+k<=max b.length k:=by
 have:=lr (l:=b.drop k) (k:=0) (n:=0) N;unfold c7;grind
theorem qp(b:List UInt8):(aT b).1<=b.length:=by
 have a:=lC b;have c:=ke b (aE b).k;unfold aT;grind
theorem qW(h:(aT b).2=0):1<=(aT b).1:=by
 unfold aT at h⊢;split
 .rename_i c;rw[O c]at h;split
  .rename_i a;rw[O a]at h;have:=Tj (l:=b.drop (aE b).k) (k:=0) (n:=0) a;split
   .dsimp only;unfold c7;omega
   rename_i d;rw[X d]at h;split
   .grind
   rename_i e;rw[X e]at h;split
   .grind
   dsimp only;unfold c7;omega
  grind
 grind
def gI(b:List UInt8):Field:=if(aE b).hC=0 then⟨(aE b).num,(aE b).hC,⟨(c7 (b.drop (aE b).k)).1⟩,[]⟩else⟨(aE b).num,(aE b).hC,⟨0⟩,b.drop ((aE b).k+(c7 (b.drop (aE b).k)).2.1)⟩
def GX(h:(aE b).hC=0):(⟨(aE b).num,(aE b).hC,⟨(c7 (b.drop (aE b).k)).1⟩,[]⟩:Field)=gI b:=by rw[gI,O h]
def Hx(h:¬(aE b).hC=0):(⟨(aE b).num,(aE b).hC,⟨0⟩,b.drop ((aE b).k+(c7 (b.drop (aE b).k)).2.1)⟩:Field)=gI b:=by rw[gI,X h]
def fF(a:List Field)(x:Field):Bool:=match a[a.length-1]? with|none=>true|some y=>dM y x
def AW:Nat->List Field->List UInt8->List Field×Int
 |0,a,_=>(a,0)
 |f+1,a,b=>if b.length=0 then(a,0)else if(aT b).2=0 then(if fF a (gI (b.take (aT b).1))=true then AW f (a++[gI (b.take (aT b).1)]) (b.drop (aT b).1)else([],5))else([],(aT b).2)
def aV(b:List UInt8):List Field×Int:=if 16384<b.length then([],4)else AW b.length [] b
def fI(b:List UInt8)(i:Nat)(a:List Field):Prop:=∃f,b.length-i<=f/\aV b=AW f a (b.drop i)
def aci(h:16384<b.length):aV b=([],4):=by rw[aV,O h]
def Dh(h:¬16384<b.length):fI b 0 []:=⟨b.length,N,by rw[aV,X h];rfl⟩
variable{acc:List Field}{i:Nat}
def SM(h:fI b i acc)(c:i<b.length):∃f,b.length-i<=f+1/\aV b=if(aT (b.drop i)).2=0 then(if fF acc (gI ((b.drop i).take (aT (b.drop i)).1))=true then AW f (acc++[gI ((b.drop i).take (aT (b.drop i)).1)]) ((b.drop i).drop (aT (b.drop i)).1)else([],5))else([],(aT (b.drop i)).2):=by
 obtain⟨f,a,e⟩:=h;cases f with
 |zero=>omega
 |succ f=>exact⟨f,a,by rw[e,AW,X (by rw[length_drop];omega)]⟩
def ZE(h:fI b i acc)(a:i<b.length)(c:¬(aT (b.drop i)).2=0):aV b=([],(aT (b.drop i)).2):=by
 obtain⟨f,_,e⟩:=SM h a;rw[e,X c]
def acM(h:fI b i acc)(a:b.length<=i):aV b=(acc,0):=by
 obtain⟨f,_,e⟩:=h;rw[e,M1 a];cases f<;>rfl
theorem BQ:∀{f:Nat} {acc:List Field} {b:List UInt8},(AW f acc b).1.length<=acc.length+b.length
 |0,acc,b=>by simp[AW]
 |f+1,acc,b=>by
  unfold AW;split
  .simp
  split
  .rename_i c a;split
   .have:=BQ (f:=f) (acc:=acc++[gI (b.take (aT b).1)]) (b:=b.drop (aT b).1);have d:=qW a;rw[s8,length_drop]at this;simp at this;omega
   simp
  simp
theorem HX(b:List UInt8):(aV b).1.length<=16384:=by
 unfold aV;split
 .simp
 grind[BQ]
def HH(x:Field)(s:l4)(n:Int):Bool:=if¬x.hC=s.hC\/(1<n/\s.ea=false)then false else if x.hC=0 then !decide ((x.n.n:Int)=0)else decide (0<((x.b.length:Nat):Int))
def eH(l:List Field)(q:Int):Nat:=l.countP λx=>decide (x.num=q)
variable{l:List Field}
def IG(q:Int):eH (l.take k) q<=k:=zc X6 (by rw[sh];exact Nat.min_le_left _ _)
variable{x:Field}
theorem qM(a:l[k]? =some x)(q:Int):eH (l.take (k+1)) q=if q=x.num then eH (l.take k) x.num+1 else eH (l.take k) q:=by
 unfold eH;rw[ah a,M0];by_cases h:q=x.num
 .subst h;simp
 grind
def wV(l:List Field)(a:List l4)(k:Nat):Prop:=∀j x,j<k->l[j]? =some x->∀s∈a,s.num=x.num->HH x s ((eH (l.take (j+1)) x.num:Nat):Int)=true
def Mj(l:List Field)(a:List l4)(m:Nat):Prop:=∀j y,j<m->a[j]? =some y->y.y4=true->¬eH l y.num=0
def MY(a:List l4)(x:Field)(n:Int)(m:Nat):Prop:=∀j y,j<m->a[j]? =some y->y.num=x.num->HH x y n=true
variable{ss:List l4}{n:Int}
def agp:MY ss x n 0:=λj y h=>by omega
def ajO:wV l ss 0:=λj y h=>by omega
def aly:Mj l ss 0:=λj y h=>by omega
def vI(l:List Field)(v:Int):Prop:=wV l (aJ v) l.length/\Mj l (aJ v) (aJ v).length
open Classical in
def fg(l:List Field)(v:Int):Int:=if(aJ v).length=0 then 1 else if ck l=0 then(if vI l v then 0 else 6)else ck l
def ahm{v:Int}(h:(aJ v).length=0):1=fg l v:=by rw[fg,O h]
def aiB{v:Int}(h:¬(aJ v).length=0)(a:¬ck l=0):ck l=fg l v:=by rw[fg,X h,X a]
def WI{v:Int}(h:¬(aJ v).length=0)(a:ck l=0)(c:¬vI l v):6=fg l v:=by rw[fg,X h,O a,X c]
def aiL{v:Int}(h:¬(aJ v).length=0)(a:ck l=0)(c:vI l v):0=fg l v:=by rw[fg,X h,O a,O c]
variable{m:Nat}
def Ol{y:l4}(h:MY ss x n m)(d:ss[m]? =some y)(e:y.num=x.num->HH x y n=true):MY ss x n (m+1):=by
 intro j z g a;by_cases c:j=m
 .subst c;rw[d]at a;cases a;exact e
 exact h j z N a
def NL(h:wV l ss k)(o:l[k]? =some x)(q:MY ss x n m)(u:ss.length<=m)(e:n=((eH (l.take (k+1)) x.num:Nat):Int)):wV l ss (k+1):=by
 subst e;intro j z v a s d g;by_cases c:j=k
 .subst c;rw[o]at a;cases a;obtain⟨p,t,rfl⟩:=Y0 d;exact q p _ N (r5 t) g
 exact h j z N a s d g
def Uo{y:l4}(h:Mj l ss m)(d:ss[m]? =some y)(e:y.y4=true->¬eH l y.num=0):Mj l ss (m+1):=by
 intro j z g a;by_cases c:j=m
 .subst c;rw[d]at a;cases a;exact e
 exact h j z N a
def Zk{v:Int}{y:l4}(a:l[k]? =some x)(d:(aJ v)[m]? =some y)(c:y.num=x.num/\HH x y n=false)(e:n=((eH (l.take (k+1)) x.num:Nat):Int)):¬vI l v:=by
 intro h;have:=h.1 k x (oK a) a y (C5 d) c.1;rw[<-e,c.2]at this;cases this
variable{n:Nat}
def YD{v:Int}{y:l4}(a:(aJ v)[m]? =some y)(c:y.y4=true/\((n:Nat):Int)=0)(e:n=eH l y.num):¬vI l v:=
 λh=>h.2 m y (oK a) a c.1 N
def VP{v:Int}(a:wV l (aJ v) k)(e:l.length<=k)(c:Mj l (aJ v) m)(g:(aJ v).length<=m):vI l v:=
 ⟨λj x d=>a j x N,λj y d=>c j y N⟩
def Wt{v:Int}(a:l[k]? =some x)(h:x.num<=v):(l.take k).filter (λf=>decide (f.num<=v))++[x]=(l.take (k+1)).filter (λf=>decide (f.num<=v)):=by
 rw[ah a,F4];simp[h]
def abZ{v:Int}(a:l[k]? =some x)(h:¬x.num<=v):(l.take k).filter (λf=>decide (f.num<=v))=(l.take (k+1)).filter (λf=>decide (f.num<=v)):=by
 rw[ah a,F4];simp[h]
def VH{v:Int}(a:l[k]? =some x)(h:¬x.num<=v):(l.take k).filter (λf=>!decide (f.num<=v))++[x]=(l.take (k+1)).filter (λf=>!decide (f.num<=v)):=by
 rw[ah a,F4];simp[h]
def aej{v:Int}(a:l[k]? =some x)(h:x.num<=v):(l.take k).filter (λf=>!decide (f.num<=v))=(l.take (k+1)).filter (λf=>!decide (f.num<=v)):=by
 rw[ah a,F4];simp[h]
def NX(l:List Field)(p:Field->Bool):(l.filter p).length<=l.length:=N8 _ _
def bT(l:List Field)(v:Int):List Field:=l.filter λf=>decide (f.num<=v)
def dr(l:List Field)(v:Int):List Field:=l.filter λf=>!decide (f.num<=v)
def IH(l:List Field)(v:Int):(bT l v).length<=l.length:=NX _ _
def tY(l:List Field)(v:Int):(dr l v).length<=l.length:=NX _ _
def KY{v:Int}(a:l.length<=k):(l.take k).filter (λf=>decide (f.num<=v))=bT l v:=by rw[take_of_length_le a];rfl
def TD{v:Int}(a:l.length<=k):(l.take k).filter (λf=>!decide (f.num<=v))=dr l v:=by rw[take_of_length_le a];rfl
def JF(f:Field):Int:=IntKind.i64.wrap ((f.n.n:Nat):Int)
def fV(c:b6)(f:Field):b6:=
 if f.num=1 then⟨JF f,c.a6,c.seq,c.set,c.id,c.n,c.c6,c.text⟩else
 if f.num=2 then⟨c.kind,JF f,c.seq,c.set,c.id,c.n,c.c6,c.text⟩else
 if f.num=3 then⟨c.kind,c.a6,JF f,c.set,c.id,c.n,c.c6,c.text⟩else
 if f.num=4 then⟨c.kind,c.a6,c.seq,JF f,c.id,c.n,c.c6,c.text⟩else
 if f.num=5 then⟨c.kind,c.a6,c.seq,c.set,JF f,c.n,c.c6,c.text⟩else
 if f.num=6 then⟨c.kind,c.a6,c.seq,c.set,c.id,JF f,c.c6,c.text⟩else
 if f.num=7 then⟨c.kind,c.a6,c.seq,c.set,c.id,c.n,gj f.b,c.text⟩else
 if f.num=8 then⟨c.kind,c.a6,c.seq,c.set,c.id,c.n,c.c6,⟨f.b⟩⟩else c
def bV:b6:=⟨0,0,0,0,0,0,[],⟨[]⟩⟩
def cw(l:List Field):b6:=l.foldl fV bV
def eG(a:l[k]? =some x):cw (l.take (k+1))=fV (cw (l.take k)) x:=by
 unfold cw;rw[ah a,K0];rfl
def aqW{c:b6}(h:f.num=1):(⟨JF f,c.a6,c.seq,c.set,c.id,c.n,c.c6,c.text⟩:b6)=fV c f:=by rw[fV,O h]
def aqn{c:b6}(h:f.num=2):(⟨c.kind,JF f,c.seq,c.set,c.id,c.n,c.c6,c.text⟩:b6)=fV c f:=by rw[fV,X N,O h]
def ao0{c:b6}(h:f.num=3):(⟨c.kind,c.a6,JF f,c.set,c.id,c.n,c.c6,c.text⟩:b6)=fV c f:=by rw[fV,X N,X N,O h]
def ar6{c:b6}(h:f.num=4):(⟨c.kind,c.a6,c.seq,JF f,c.id,c.n,c.c6,c.text⟩:b6)=fV c f:=by rw[fV,X N,X N,X N,O h]
def arP{c:b6}(h:f.num=5):(⟨c.kind,c.a6,c.seq,c.set,JF f,c.n,c.c6,c.text⟩:b6)=fV c f:=by rw[fV,X N,X N,X N,X N,O h]
def aoJ{c:b6}(h:f.num=6):(⟨c.kind,c.a6,c.seq,c.set,c.id,JF f,c.c6,c.text⟩:b6)=fV c f:=by rw[fV,X N,X N,X N,X N,X N,O h]
def anq{c:b6}(h:f.num=7):(⟨c.kind,c.a6,c.seq,c.set,c.id,c.n,gj f.b,c.text⟩:b6)=fV c f:=by rw[fV,X N,X N,X N,X N,X N,X N,O h]
def arp{c:b6}(h:f.num=8):(⟨c.kind,c.a6,c.seq,c.set,c.id,c.n,c.c6,⟨f.b⟩⟩:b6)=fV c f:=by rw[fV,X N,X N,X N,X N,X N,X N,X N,O h]
def apC{c:b6}(h:¬(1<=f.num/\f.num<=8)):c=fV c f:=by rw[fV,X N,X N,X N,X N,X N,X N,X N,X N]
def oF(b:List UInt8)(v:Int):Int:=if(aV b).2=0 then fg (aV b).1 v else(aV b).2
structure TkR where
 c:b6
 r:List Field
 e:Int
def cP(b:List UInt8)(v:Int):TkR:=
 if 1<=v/\v<=3 then(if oF b v=0 then(if dG (cw (bT (aV b).1 (bE v))) (dr (aV b).1 (bE v)) v=0/\eO (cw (bT (aV b).1 (bE v))) (dr (aV b).1 (bE v)) v=b then⟨cw (bT (aV b).1 (bE v)),dr (aV b).1 (bE v),0⟩else⟨bV,[],6⟩)else⟨bV,[],oF b v⟩)else⟨bV,[],1⟩
def ann{v:Int}(h:¬(1<=v/\v<=3)):cP b v=⟨bV,[],1⟩:=by rw[cP,X h]
def ajD{v:Int}(h:1<=v/\v<=3)(a:¬oF b v=0):cP b v=⟨bV,[],oF b v⟩:=by rw[cP,O h,X a]
def alC{v:Int}(h:1<=v/\v<=3)(c:oF b v=0)(d:¬dG (cw (bT (aV b).1 (bE v))) (dr (aV b).1 (bE v)) v=0\/¬eO (cw (bT (aV b).1 (bE v))) (dr (aV b).1 (bE v)) v=b):cP b v=⟨bV,[],6⟩:=by
 rw[cP,O h,O c,X (λh=>d.elim (λa=>a h.1) (λa=>a h.2))]
def alD{v:Int}(h:1<=v/\v<=3)(a:oF b v=0)(c:dG (cw (bT (aV b).1 (bE v))) (dr (aV b).1 (bE v)) v=0/\eO (cw (bT (aV b).1 (bE v))) (dr (aV b).1 (bE v)) v=b):cP b v=⟨cw (bT (aV b).1 (bE v)),dr (aV b).1 (bE v),0⟩:=by
 rw[cP,O h,O a,O c]
theorem Hh{v:Int}(h:oF b v=0):(aV b).2=0/\ck (aV b).1=0:=by
 unfold oF at h;split at h
 .rename_i a;refine⟨a,?_⟩;unfold fg at h;split at h
  .cases h
  grind
 rename_i a;exact absurd h a
def Uc{v:Int}{u:Int}(h:oF b v=0):∀f∈bT (aV b).1 u,f.b.length<=16384:=
 λ_ a=>pz (Hh h).2 (T2.1 a).1
variable{x:UInt8}
def yi(h:x.toNat<128):(x&&&127).toNat=x.toNat:=by rw[mL];omega
theorem KH:∀(n:Nat) {k m:Nat} {r:List UInt8},k<=9->n*2^(7*k)<18446744073709551616->(0<k->n≠0)->cd k m (bm n++r)=(m+n*2^(7*k),k+(bm n).length,0):=by
 intro n;induction n using Nat.strongRecOn with
 |_ n g=>
  intro k m r q s t;by_cases c:n<128
  .rw[lT c];have a:(ofNat n).toNat=n:=by rw[J7];omega
   simp;have j:¬((0<k/\(ofNat n).toNat=0)\/(k=9/\1<(ofNat n).toNat)):=by grind
   rw[cd,X N,X j,O N,yi N,a]
  rw[uA c];simp;have a:=aax n;have o:k<=8:=by grind[Nat.mul_le_mul_right]
  have d:(2:Nat)^(7*(k+1))=128*2^(7*k):=by rw[show 7*(k+1)=7*k+7 by omega,Nat.pow_add,T6]
  have u:n/128*2^(7*(k+1))<=n*2^(7*k):=by
   rw[d,<-Nat.mul_assoc];exact J3 _ (Nat.div_mul_le_self _ _)
  rw[cd,X N,X (by rw[a];rintro(⟨_,h⟩|⟨h,_⟩)<;>omega),X N,mL,a];rw[g (n/128) N (k:=k+1) N N (λ_=>by omega)];have e:(n%128+128)%128=n%128:=by omega
  have p:n%128*2^(7*k)+n/128*2^(7*(k+1))=n*2^(7*k):=by
   rw[d,<-Nat.mul_assoc,<-L2];congr 1;omega
  rw[e,Nat.add_assoc,p];congr 2;omega
def jl(h:n<18446744073709551616)(r:List UInt8):c7 (bm n++r)=(n,(bm n).length,0):=by
 unfold c7;rw[KH n N (by simpa using h) (λh=>absurd h N)];simp
variable{rest:List Field}
theorem Jl{c:b6}{v:Int}(h:dG c rest v=0):((1<=v/\v<=3)/\(fh c v=true\/aO c v=0)/\(∀f∈rest,bE v<f.num))/\ck (bI c v++rest)=0/\eO c rest v=jt (bI c v++rest):=by
 unfold dG at h;split at h
 .rename_i a;refine⟨?_,h,by rw[eO,O a]⟩;unfold dy at a;split at a
  .cases a
  rename_i e;split at a
  .rename_i d;exact absurd a d.2
  rename_i d;split at a
  .cases a
  rename_i g;refine⟨wT (by simpa using e),?_,λf j=>?_⟩
  .grind
  grind
 rename_i a;exact absurd h a
def VI{q:Int}(k:Nat):eH (l.take k) q<=eH l q:=(List.take_sublist k l).countP_le
def tvA(h:c7 b=cd k n (b.drop k))(a:(k:Int)<10)(c:(k:Int)=(b.length:Int)):c7 b=(0,0,2):=h.trans (OH N N)
def tvD(h:c7 b=cd k n (b.drop k))(a:10<=(k:Int)):c7 b=(0,0,3):=h.trans (abh N)
theorem tvB(h:c7 b=cd k n (b.drop k))(a:(k:Int)<10)(c:k<=b.length)(d:¬(k:Int)=(b.length:Int))(e:0<(k:Int))(g:((b.getD k (c4 .u8)).toNat:Int)=((ofNat 0).toNat:Int)):c7 b=(0,0,3):=by grind[Ao]
theorem tvC(h:c7 b=cd k n (b.drop k))(a:(k:Int)<10)(c:k<=b.length)(d:¬(k:Int)=(b.length:Int))(e:(k:Int)=9)(g:((ofNat 1).toNat:Int)<((b.getD k (c4 .u8)).toNat:Int)):c7 b=(0,0,3):=by grind[Ao]
def U4(n k:Nat)(x:UInt8):Nat:=n|||(x&&&ofNat 127).toNat*2^(7*(k:Int)).toNat%18446744073709551616
theorem tvN(a:n<2^(7*k))(c:k<=9)(d:k=9->x.toNat<=1):U4 n k x=n+(x&&&127).toNat*2^(7*k):=by
 unfold U4;rw[show(ofNat 127)=127 from rfl,show(7*(k:Int)).toNat=7*k by omega,E9 (EM c d)];exact ER a
theorem tvZ(a:b[k]? =some x)(c:(k:Int)<=0\/¬((b.getD k (c4 .u8)).toNat:Int)=((ofNat 0).toNat:Int))(d:¬(k:Int)=9\/((b.getD k (c4 .u8)).toNat:Int)<=((ofNat 1).toNat:Int)):(¬(0<k/\x.toNat=0))/\¬(k=9/\1<x.toNat):=by grind
theorem tvE{y:UInt8}(h:c7 b=cd k n (b.drop k))(a:n<2^(7*k))(c:(k:Int)<10)(d:b[k]? =some x)(e:b[k]? =some y)(g:(k:Int)<=0\/¬((b.getD k (c4 .u8)).toNat:Int)=((ofNat 0).toNat:Int))(j:¬(k:Int)=9\/((b.getD k (c4 .u8)).toNat:Int)<=((ofNat 1).toNat:Int))(o:(y.toNat:Int)<((ofNat 128).toNat:Int)):c7 b=(U4 n k x,k+1,0):=by grind[tvZ,tvN,Hq]
def tvF{y:UInt8}(h:c7 b=cd k n (b.drop k))(d:n<2^(7*k))(a:n<18446744073709551616)(s:(k:Int)<10)(c:b[k]? =some x)(g:b[k]? =some y)(o:(k:Int)<=0\/¬((b.getD k (c4 .u8)).toNat:Int)=((ofNat 0).toNat:Int))(p:¬(k:Int)=9\/((b.getD k (c4 .u8)).toNat:Int)<=((ofNat 1).toNat:Int))(q:((ofNat 128).toNat:Int)<=(y.toNat:Int)):U4 n k x<2^(7*(k+1))/\U4 n k x<18446744073709551616/\c7 b=cd (k+1) (U4 n k x) (b.drop (k+1)):=by
 have j:=tvZ c o p;rw[show(ofNat 128).toNat=128 from rfl]at q;rw[c]at g;cases g;have e:=tvN d (show k<=9 by omega) (show k=9->x.toNat<=1 by omega);refine⟨by rw[e];exact yK d,?_,by rw[e];exact Ia h N c j.1 j.2 N⟩;exact O3 (n:=64) a (F6 _ am)
variable{x:Int}
theorem al6{c:b6}{v:Int}(a:[c.a6,c.seq,c.set,c.id,c.n][k]? =some x)(h:x<0\/1048576<x):false=fh c v:=by
 refine Xt ?_;grind
def akP{c:b6}(h:(k:Int)<5):[c.a6,c.seq,c.set,c.id,c.n][k]? =some ([c.a6,c.seq,c.set,c.id,c.n].getD k (c4 .int)):=by
 rw[getD_eq_getElem?_getD,r5 (by simp;omega)];rfl
def alM{n:Int}{p:Prop}(h:n<=0\/p):(¬0<n)\/p:=h.imp_left N
def apj{l:List Int}(h:((l.take k).all λn=>aM n 0 1048576)=true)(a:l[k]? =some x)(c:0<=x)(d:x<=1048576):((l.take (k+1)).all λn=>aM n 0 1048576)=true:=by
 rw[ah a,K1,h];simp[aM];omega
def ai9{c:b6}(h:(([c.a6,c.seq,c.set,c.id,c.n].take k).all λn=>aM n 0 1048576)=true)(a:5<=(k:Int)):¬((c.a6<0\/1048576<c.a6)\/(c.seq<0\/1048576<c.seq)\/(c.set<0\/1048576<c.set)\/(c.id<0\/1048576<c.id)\/(c.n<0\/1048576<c.n)):=by
 rw[take_of_length_le (by simp;omega)]at h;simp[aM]at h;omega
def afA(b:List UInt8):List (Nat×LI):=[(3,{σ:=Nat×Nat,F:=λs=>([(0,one (.fz .u8 b)),(5,one (.u64 s.2)),(6,one (.int 0)),(7,one (.int 3)),(9,one (.int s.1))],[]),J:=λs=>s.1<=10/\s.2<2^(7*s.1)/\s.2<18446744073709551616/\c7 b=cd s.1 s.2 (b.drop s.1)/\s.1<=b.length,μ:=λs=>10-s.1})]
def JC(c:b6)(v:Int):List (Nat×LI):=[(5,{σ:=Nat,F:=λk=>([(1,one (.int v)),(2,one (.ptr 0 0)),(38,.one (.agg [.int c.a6,.int c.seq,.int c.set,.int c.id,.int c.n])),(39,one (.int k))],[.box 37 (cellsOf (.nm .command) c)]),J:=λk=>k<=5/\([c.a6,c.seq,c.set,c.id,c.n].take k).all (λn=>aM n 0 1048576)=true,μ:=λk=>5-k})]
def we:=kC (cL .u8)
def gl:=ak we bS
theorem Zd:CK 153 (aD gl av λ(b,_) _=>{rs:=[.c (.u64 (z8.mk (c7 b).1).n),.c (.int ((c7 b).2.1:Nat)),.c (.int ((c7 b).2.2))]}):=ag λ(b,_) _ _=>by
 refine al eT (afA b) func153 (?_:(λ(D:UInt8)(h:Nat)(j:Nat)(o:Nat)(L:Int)(H:Nat)(Q:Int)(P:Int)(I:Int)(B:Int)(C:Int)=>(λ(c:Prop)(J:Int)(K:Int)(d:Int)=>(λ(F:Prop)(v:Prop)(f:Prop)(y:Prop)=>b.length*1<=140737488355328->∃(u:Nat×Nat),(b=b/\0=u.2/\v/\C=C/\d=(u.1:Int))/\(u.1<=j/\u.2<o^(7*u.1)/\u.2<h/\c7 b=cd u.1 u.2 (drop u.1 b)/\u.1<=b.length)/\∀(s:Nat×Nat),(λ(e:Nat)=>(λ(g:Int)(z:Prop)(a:Int)=>(λ(w:Int)(p:Int)=>(λ(G:Prop)=>e<=j/\s.2<o^(7*e)/\s.2<h/\c7 b=cd e s.2 (drop e b)/\e<=b.length->(a<10->(a=B->(¬2=d->c/\d=K/\2=J)/\(2=d->s.2=H/\y))/\(¬a=B->(d<a->d<=a/\a<B)/\(d<a/\g=I->(d<a/\g=I->z)/\(a<=d\/¬g=I->G))/\(a<=d\/¬g=I->(a=9->d<=a/\a<B)/\(a=9/\(↑(ofNat 1).toNat:Int)<g->z)/\(¬a=9\/g<=(↑(ofNat 1).toNat:Int)->G))))/\(10<=a->z)) (d<=a/\a<B/\∀(x:UInt8),b[e]? =some x->W p/\d<=p/\p<64/\d<=a/\a<B/\∀(A:UInt8),b[e]? =some A->((A.toNat:Int)<P->W w/\(¬v->c/\y)/\(v->s.2|||(x&&&D).toNat*o^p.toNat%h=H/\w=K/\d=J))/\(P<=(A.toNat:Int)->W w/\∃(q:Nat×Nat),(b=b/\s.2|||(x&&&D).toNat*o^p.toNat%h=q.2/\v/\C=C/\w=(q.1:Int))/\(q.1<=j/\q.2<o^(7*q.1)/\q.2<h/\c7 b=cd q.1 q.2 (drop q.1 b)/\q.1<=b.length)/\j-q.1<j-e))) (a+L) (Q*a)) (↑(UInt8.toNat (b.getD e (c4 Sh.u8))):Int) ((¬F->f)/\(F->s.2=H/\y)) (e:Int)) s.1) (C=d) (d=d) (c/\d=K/\C=J) (d=K/\d=J)) (0=H) (c7 b).2.2 (↑(c7 b).2.1:Int) 0) (ofNat 127) 18446744073709551616 10 2 1 (c7 b).1 7 (↑(ofNat 128).toNat:Int) (↑(ofNat 0).toNat:Int) (b.length:Int) 3);(repeat' with_reducible first|apply aH|refine aI ?_|intro)
 all_goals try(first|exact aZ|decide)
 all_goals(refine⟨(0,0),⟨rfl,rfl,?_,?_,?_⟩,⟨N,am,am,rfl,N⟩,?_⟩)
 all_goals try(first|trivial|rfl)
 (repeat' with_reducible first|apply aH|refine aI ?_|intro)
 all_goals try(first|exact aZ|(rw[tvA Y Y Y]<;>rfl)|(rw[tvD Y Y]<;>rfl)|(rw[tvB Y Y Y Y Y Y]<;>rfl)|(rw[tvC Y Y Y Y Y Y]<;>rfl)|exact(o9 Prod.fst (tvE Y Y Y Y Y Y Y Y)).symm|exact(o9 (λt=>((t.2.1:Nat):Int)) (tvE Y Y Y Y Y Y Y Y)).symm|exact(o9 (λt=>t.2.2) (tvE Y Y Y Y Y Y Y Y)).symm)
 all_goals(refine⟨(‹Nat×Nat›.1+1,_),⟨rfl,rfl,?_⟩,?_⟩;(repeat' with_reducible first|apply aH|refine aI ?_|intro))
 all_goals(first|exact aZ|exact(tvF Y Y Y Y Y Y Y Y Y).1|exact(tvF Y Y Y Y Y Y Y Y Y).2.1|exact(tvF Y Y Y Y Y Y Y Y Y).2.2)
def qo:=kT (.nm .field)
theorem QI:CK 232 (aD (ak qo (ak qo bS)) av λ(x,y,_) _=>{rs:=[.c (.bool (.atom (dM x y)))]}):=ag λ(x,y,_) _ _=>by
 refine al eT [] func232 (?_:W x.num->W x.hC->x.n.n<18446744073709551616->x.b.length*1<=140737488355328->W y.num->W y.hC->y.n.n<18446744073709551616->y.b.length*1<=140737488355328->(y.num=x.num->(decide (y.hC=2)&&decide (x.hC=2))=dM x y)/\(¬y.num=x.num->decide (x.num<y.num)=dM x y));grind[dM]
theorem TT:CK 231 (aD (ak qo bS) av λ(x,_) _=>{rs:=[.c (.bool (.atom (du x)))]}):=ag λ(x,_) _ _=>by
 refine al eT [] func231 (?_:W x.num->W x.hC->x.n.n<(18446744073709551616:Nat)->x.b.length*(1:Nat)<=(140737488355328:Nat)->(x.num<(1:Int)\/(1000:Int)<x.num->false=du x)/\((1:Int)<=x.num/\x.num<=(1000:Int)->(x.hC=(0:Int)->decide ((x.b.length:Int)=(0:Int))=du x)/\(¬x.hC=(0:Int)->(x.hC=(2:Int)->decide ((x.n.n:Int)=(↑(0:Nat):Int))=du x)/\(¬x.hC=(2:Int)->false=du x))));grind[du,Cp,qi]
theorem SL:CK 109 (aD (ak we gl) av λ(x,y,_) _=>{rs:=[.c (.bool (.atom (decide (x=y))))]}):=ag λ(x,y,_) _ _=>by
 refine al eT [] func109 (?_:x.length*1<=140737488355328->y.length*1<=140737488355328->decide (n9.mk x=n9.mk y)=decide (x=y));grind
theorem Ss:CK 325 (aD gl av λ(x,_) _=>{rs:=[.c (.fz .u8 x)]}):=ag λ(x,_) _ _=>by
 refine al eT [] func325 (?_:(λa=>a->∀(b:Bool),(b=true->x=[])->(b=true->x=[])/\(b=false->a/\x=x)) (x.length*1<=140737488355328));grind
theorem ahn:CK 252 (aD ij av λ(k,l,_) _=>{rs:=[.agg (cellsOf (.nm .spec) (⟨k,0,l,false,false⟩))]}):=ag λ(k,l,_) _ _=>by
 refine al eT [] func252 (?_:W k->W l->k=k/\(0:Int)=0/\l=l/\false=false/\false=false);grind
theorem aid:CK 253 (aD ij av λ(k,l,_) _=>{rs:=[.agg (cellsOf (.nm .spec) (⟨k,2,l,false,false⟩))]}):=ag λ(k,l,_) _ _=>by
 refine al eT [] func253 (?_:W k->W l->k=k/\(2:Int)=2/\l=l/\false=false/\false=false);grind
theorem aiO:CK 254 (aD (ak (kT (.nm .spec)) bS) av λ(x,_) _=>{rs:=[.agg (cellsOf (.nm .spec) ({x with y4:=true}))]}):=ag λ(x,_) _ _=>by
 refine al eT [] func254 (?_:kj x (x.num=x.num/\x.hC=x.hC/\x.since=x.since/\true=true/\x.ea=x.ea));grind
theorem aix:CK 255 (aD (ak (kT (.nm .spec)) bS) av λ(x,_) _=>{rs:=[.agg (cellsOf (.nm .spec) ({x with ea:=true}))]}):=ag λ(x,_) _ _=>by
 refine al eT [] func255 (?_:kj x (x.num=x.num/\x.hC=x.hC/\x.since=x.since/\x.y4=x.y4/\true=true));grind
theorem acN:CK 324 (aD (ak qo (ak (kT (.nm .spec)) fj)) av λ(x,s,n,_) _=>{rs:=[.c (.bool (.atom (HH x s n)))]}):=ag λ(x,s,n,_) _ _=>by
 refine al eT [] func324 (?_:W x.num->W x.hC->x.n.n<(18446744073709551616:Nat)->x.b.length*(1:Nat)<=(140737488355328:Nat)->kj s (W n->(¬x.hC=s.hC\/(1:Int)<n/\s.ea=false->false=HH x s n)/\(x.hC=s.hC/\(n<=(1:Int)\/s.ea=true)->(x.hC=(0:Int)->(!decide ((x.n.n:Int)=(↑(0:Nat):Int)))=HH x s n)/\(¬x.hC=(0:Int)->decide ((0:Int)<(x.b.length:Int))=HH x s n))));grind[HH]
def aem:CK 233 (aD ij av λ(num,a,_) _=>⟨[],[.c (.own 0),.c (.int (kK num a))],some ([.row 5 .u8 (mm num a)]),true⟩):=ag λ(num,a,_) _ _=>by
 refine bU eT [] func233 (?_:(λd=>W num->W a->((num<1\/1000<num)\/¬a=0/\¬a=2->1=kK num a/\mm num a=[])/\((1<=num/\num<=1000)/\(a=0\/a=2)->W (8*num)/\W d/\0<=d/\0=kK num a/\bm d.toNat=mm num a)) (8*num+a));repeat' first|(with_reducible first|apply aH|refine aI ?_|intro)|exact aZ|exact(pY N)|exact(ni N)|exact(tL N).symm|exact(tL N)|exact(Da N)
theorem ET:CK 179 (aD uB av λ(c,v,_) _=>{rs:=[.c (.bool (.atom (fh c v)))]}):=ag λ(c,v,_) _ _=>by
 refine al eT (JC c v) func179 (?_:(λ(j:Prop)(d:Nat)(e:Int)(a:Int)(o:List Int)=>(λ(q:List (l7 Sh.int))=>bf c (W v->W e->((c.kind<1\/99<c.kind)\/¬e=a/\e<=v->j)/\((1<=c.kind/\c.kind<=99)/\(e=a\/v<e)->∃(p:Nat),(v=v/\c.a6=c.a6/\c.seq=c.seq/\c.set=c.set/\c.id=c.id/\c.n=c.n/\a=(p:Int)/\aQ c c)/\(p<=d/\((take p o).all λ(n:Int)=>aM n a 1048576)=true)/\∀(s:Nat),(λ(g:l7 Sh.int)=>s<=d/\((take s o).all λ(n:Int)=>aM n a 1048576)=true->((s:Int)<5->a<=(s:Int)/\(s:Int)<(d:Int)/\(W g->(g<a\/1048576<g->j)/\(a<=g/\g<=1048576->W ((s:Int)+1)/\∃(h:Nat),(v=v/\c.a6=c.a6/\c.seq=c.seq/\c.set=c.set/\c.id=c.id/\c.n=c.n/\(s:Int)+1=(h:Int)/\aQ c c)/\(h<=d/\((take h o).all λ(n:Int)=>aM n a 1048576)=true)/\d-h<d-s)))/\(5<=(s:Int)->(a<(c.c6.length:Int)/\bO c.c6=false->j)/\((c.c6.length:Int)<=a\/bO c.c6=true->(v<3->decide (c.text=n9.mk [])=fh c v)/\(3<=v->decide ((c.text.b.length:Int)<=16)=fh c v)))) (q.getD s (c4 Sh.int))))) [c.a6,c.seq,c.set,c.id,c.n]) (false=fh c v) 5 (br c.kind) 0 [c.a6,c.seq,c.set,c.id,c.n]);repeat' first|(with_reducible first|apply aH|refine aI ?_|intro)|exact aZ|exact rfl|exact(UI N)|exact(al6 (akP N) Y)|exact(apj Y (akP N) Y Y)|exact(XB (And.intro Y Y))|exact(adB N (ai9 Y N) (alM ap) N)|exact(ad0 N (ai9 Y N) (alM ap) N)|refine⟨‹Nat›+1,?_⟩|refine⟨0,?_⟩
def pH:=(ae ET (ae aem (ae acN (ae aix (ae aiO (ae aid (ae ahn (ae Ss (ae SL (ae TT (ae QI (ae Zd eT))))))))))))
theorem ja(h:m<9223372036854775808):cF m=(m:Int):=by rw[cF,O h]
def GM:(b.drop k).take (b.length-k)=b.drop k:=take_of_length_le (by rw[length_drop];exact tw _)
theorem uk1(c:(k:Int)<(b.length:Int))(a:(c7 (b.drop k)).2.2=0)(d:(((c7 (b.drop k)).1:Nat):Int)<=((64:Nat):Int)):∃x,b[k]? =some x/\c7 (b.drop k)=(x.toNat,1,0)/\x.toNat<=64:=by
 have h:=tk1 (b:=b) (k:=k) N (by rw[GM];exact a) (by rw[GM];omega);rw[GM]at h;exact h
theorem ukS(a:(k:Int)<(b.length:Int))(c:(c7 (b.drop k)).2.2=0)(d:(((c7 (b.drop k)).1:Nat):Int)<=((64:Nat):Int)):(k:Int)+((c7 (b.drop k)).2.1:Nat)=((k+1:Nat):Int)/\bN (b.take k)++[cF (c7 (b.drop k)).1]=bN (b.take (k+1)):=by grind[uk1,HK,ja]
def ukR(a:(k:Int)<(b.length:Int))(h:(¬(c7 (b.drop k)).2.2=0)\/((64:Nat):Int)<(((c7 (b.drop k)).1:Nat):Int)):bO (bN b)=false:=aec (k:=k) N (by rw[GM];exact h)
def Qz(h:k<=b.length)(a:b.length<=100000):((bN (b.take k)).length+1)*8<=140737488355328:=by
 unfold bN;rw[K9,sh];omega
def aiS(b:List UInt8):List (Nat×LI):=[(3,{σ:=Nat,F:=λk=>([(0,one (.fz .u8 b)),(4,one (.own 0)),(5,one (.int k))],[.row 3 .int (bN (b.take k))]),J:=λk=>k<=b.length,μ:=λk=>b.length-k})]
def ab9:CK 348 (aD gl av λ(b,_) _=>{rs:=[.c (.int ((aE b).num)),.c (.int ((aE b).hC)),.c (.int ((aE b).k:Nat)),.c (.int ((aE b).e))]}):=ag λ(b,_) _ _=>by
 refine al pH [] func348 (?_:(λ(p:Int)(j:Int)(a:Q1)(d:Int)(g:Prop)(o:Nat)=>(λ(q:Prop)(h:Int)=>(λ(s:Prop)=>b.length*(1:Nat)<=(140737488355328:Nat)->(c7 b).1<(18446744073709551616:Nat)->W (↑(c7 b).2.1:Int)->W j->(¬j=d->d=a.num/\d=a.hC/\d=(a.k:Int)/\j=a.e)/\(j=d->g/\(p<=h->g)/\(s->g/\(¬q->g))/\((h<p\/(↑(1000:Nat):Int)<h)\/¬q/\¬(o:Int)=(↑(2:Nat):Int)->d=a.num/\d=a.hC/\d=(a.k:Int)/\(6:Int)=a.e)/\(s/\(q\/(o:Int)=(↑(2:Nat):Int))->g/\g/\cF ((c7 b).1/(8:Nat))=a.num/\cF o=a.hC/\(↑(c7 b).2.1:Int)=(a.k:Int)/\d=a.e))) (p<=h/\h<=(↑(1000:Nat):Int))) ((o:Int)=(↑(0:Nat):Int)) (↑((c7 b).1/(8:Nat)):Int)) (↑(1:Nat):Int) (c7 b).2.2 (aE b) (0:Int) ((0:Nat)<(8:Nat)) ((c7 b).1%(8:Nat)));repeat' first|(with_reducible first|apply aH|refine aI ?_|intro)|exact aZ|(rw[zS Y]<;>rfl)|(rw[zG Y N]<;>rfl)|(rw[EC Y N]<;>first|rfl|exact ja N)|(have:=(lr (l:=b) (k:=0) (n:=0) N).1;change(c7 b).2.1<=11 at this;omega)
def acO:CK 209 (aD (ak qo bS) av λ(f,_) _=>⟨[f.b.length<=16384],[.c (.own 0)],some ([.row 5 .u8 (bW f)]),true⟩):=ag λ(f,_) _ e=>by
 have g:=bw e;refine bU pH [] func209 (?_:(λ(a:Nat)(d:List UInt8)=>W f.num->W f.hC->f.n.n<18446744073709551616->a*1<=140737488355328->W (kK f.num f.hC)->(f.hC=0->(d.length+(bm f.n.n).length)*1<=140737488355328/\d++bm f.n.n=bW f)/\(¬f.hC=0->0<=(a:Int)/\(d.length+(bm a).length)*1<=140737488355328/\((d++bm a).length+a)*1<=140737488355328/\d++bm a++f.b=bW f)) f.b.length (mm f.num f.hC));repeat' first|(with_reducible first|apply aH|refine aI ?_|intro)|exact aZ|exact(GH Y)|exact(Gu Y)|(have:=kV f.num f.hC;have:=cH (n:=f.n.n) Y;omega)|(have:=kV f.num f.hC;have:=cH (n:=f.b.length) N;(try simp only[s8]);omega)
def ab4:CK 230 (aD fj av λ(q,_) _=>{pre:=[q=1],rs:=[.c (.fz (.nm .spec) a_)]}):=ag λ(q,_) _ A=>by
 have B:=bw A;refine al pH [] func230 (?_:(λy v s p w=>(λt j=>(λe h=>(λd g=>(λz u o a=>W q->a->d->a->a->d->a->e->d->a->t->d->a->W p->d->a->W s->d->a->W v->d->a->W y->e->a->W 8->e->t->a->d->a->a->d->a->e->d->a->e->d->a->t->e->a->t->e->a->W p->d->e->W s->e->t->a->d->a->a->d->a->e->d->a->e->d->a->a->d->a->a->d->a->e->d->a->t->d->a->W p->d->a->a->d->a->a->d->a->e->d->a->e->d->a->t->d->a->W p->e->a->W p->e->a->W s->e->a->W s->e->a->W v->e->a->W v->e->a->W y->d->t->a->d->a->a->d->a->e->d->a->e->d->a->t->d->a->t->d->a->W p->d->a->W p->d->a->W s->d->a->W v->d->a->W y->d->a->W 8->d->a->W 9->d->a->W 10->e->a->W 10->e->a->a->d->a->a->d->a->e->e->a->(if q=y then some [o,l4.mk j j g false false]else if q=v then some [o,u,l4.mk w h g true false,l4.mk p h g true false,l4.mk s h g false false,l4.mk v h g false false,l4.mk y h g false false,l4.mk 8 h g false false,l4.mk 9 h g false false,l4.mk 10 j g false true]else if q=s then some [o,u,z,l4.mk p j g false true,l4.mk s j g false true,l4.mk v j g false true,l4.mk y h w false false]else if q=p then some [o,l4.mk j h g false false,z,l4.mk p h g false false]else if q=w then some [o,u]else if q=j then some [o,u,l4.mk w j g true false,l4.mk p h j false false,l4.mk s j w false false]else if q=g then some [o,l4.mk j h g false false,z,l4.mk p h g false false,l4.mk s h g false false,l4.mk v h g false false,l4.mk y j g false false,l4.mk 8 j w false false]else none).getD (c4 (Sh.nm NT.spec).F9)=a_) (l4.mk w h g false false) (l4.mk j h g true false) (l4.mk g h g true false) (W g)) (W h) (1:Int)) (W j) (0:Int)) (W w) (2:Int)) (7:Int) (6:Int) (5:Int) (4:Int) (3:Int));subst B;(repeat' with_reducible first|apply aH|refine aI ?_|intro);all_goals(first|exact aZ|exact rfl)
theorem abG:CK 326 (aD gl av λ(b,_) _=>{pre:=[b.length<=100000],rs:=[.c (.fz .int (gj b)),.c (.int (jr b))]}):=ag λ(b,_) _ j=>by
 have o:=bw j;refine al pH (aiS b) func326 (?_:(λ(h:Prop)=>b.length*(1:Nat)<=(140737488355328:Nat)->∃(g:Nat),(b=b/\(0:Int)=(g:Int)/\bN (take g b)=[])/\g<=b.length/\∀(s:Nat),(λ(d:List Int)(a:Nat×Nat×Int)=>s<=b.length->((s:Int)<(b.length:Int)->(0:Int)<=(s:Int)/\(s:Int)<=(b.length:Int)/\(a.1<(18446744073709551616:Nat)->W (a.2.1:Int)->W a.2.2->(¬a.2.2=(0:Int)\/(↑(64:Nat):Int)<(a.1:Int)->h)/\(a.2.2=(0:Int)/\(a.1:Int)<=(↑(64:Nat):Int)->(d.length+[cF a.1].length)*(8:Nat)<=(140737488355328:Nat)/\W ((s:Int)+(a.2.1:Int))/\∃(e:Nat),(b=b/\(s:Int)+(a.2.1:Int)=(e:Int)/\d++[cF a.1]=bN (take e b))/\e<=b.length/\b.length-e<b.length-s)))/\((b.length:Int)<=(s:Int)->(bO d=false->h)/\(bO d=true->d=gj b/\(0:Int)=jr b))) (bN (take s b)) (c7 (drop s b))) (gj b=[]/\(6:Int)=jr b));repeat' first|(with_reducible first|apply aH|refine aI ?_|intro)|exact aZ|exact rfl|exact(sB (ukR Y ap))|exact(FR (ukR Y ap))|exact(sB (ukR Y ap)).symm|exact(sB (Fe (k:=‹Nat›) N Y)).symm|exact(sB (Fe (k:=‹Nat›) N Y))|exact(FR (Fe (k:=‹Nat›) N Y))|exact(GB N Y)|exact(HO (k:=‹Nat›) N Y)|exact(ukS Y Y Y).1|exact(ukS Y Y Y).2|exact(Qz N N)|(have:=(ukS Y Y Y).1;refine aY ?_ ?_<;>omega)|refine⟨‹Nat›+1,?_⟩|refine⟨0,?_⟩
def lP:=(ae abG (ae ab4 (ae acO (ae ab9 pH))))
def acD(a:k<=l.length)(c:0<(k:Int)):l[k-1]? =some (l.getD ((k:Int)-1).toNat (c4 (.nm .field))):=by
 rw[show((k:Int)-1).toNat=k-1 by omega,getD_eq_getElem?_getD,r5 N];rfl
variable{x:Field}
def Gk(h:(k:Int)<=0\/dM (l.getD ((k:Int)-1).toNat (c4 (.nm .field))) x=true)(a:k<=l.length):zd l k x:=by
 by_cases c:0<(k:Int)
 .exact .inr ⟨_,acD a c,h.resolve_left N⟩
 exact .inl N
def ajG{v:Int}:(((a_.take k).filter (λs=>decide (s.since<=v))).length+1)*32<=140737488355328:=by
 have:=Br (v:=v) (k:=k);omega
theorem aa6{v:Int}(a:1<=v)(c:v<=3)(d:8<=(k:Int)):(a_.take k).filter (λs=>decide (s.since<=v))=aJ v:=Ul N (by show 8<=k;omega)
def ak7{v:Int}:bT (l.take 0) v=[]:=rfl
def aiW{v:Int}:dr (l.take 0) v=[]:=rfl
def akX{v:Int}(a:l[k]? =some x)(h:x.num<=v):bT (l.take k) v++[x]=bT (l.take (k+1)) v:=Wt a h
def agE{v:Int}(a:l[k]? =some x)(h:¬x.num<=v):bT (l.take k) v=bT (l.take (k+1)) v:=abZ a h
def aks{v:Int}(a:l[k]? =some x)(h:¬x.num<=v):dr (l.take k) v++[x]=dr (l.take (k+1)) v:=VH a h
def aiF{v:Int}(a:l[k]? =some x)(h:x.num<=v):dr (l.take k) v=dr (l.take (k+1)) v:=aej a h
def ahy{v:Int}(a:l.length<=k):bT (l.take k) v=bT l v:=KY a
def ajT{v:Int}(a:l.length<=k):dr (l.take k) v=dr l v:=TD a
attribute [local irreducible] bT dr
def adO(l:List Field):List (Nat×LI):=[(3,{σ:=Nat,F:=λk=>([(0,one (.fz (.nm .field) l)),(3,one (.int (fO (l.take k):Nat))),(6,one (.fz (.nm .field) l)),(7,one (.int l.length)),(8,one (.int k))],[]),J:=λk=>k<=l.length/\dT none l=dT (ft l k) (l.drop k)/\fO (l.take k)<=k*16404,μ:=λk=>l.length-k})]
def ad1(q:Int)(v:Int):List (Nat×LI):=[(5,{σ:=Nat,F:=λk=>([(1,one (.int v)),(5,one (.own 0)),(15,one (.fz (.nm .spec) a_)),(16,one (.int 8)),(17,one (.int k))],[.row 235 (.nm .spec) ((a_.take k).filter (λ(s:l4)=>decide (s.since<=v)))]),J:=λk=>k<=8,μ:=λk=>8-k})]
def XS(l:List Field)(v:Int):List (Nat×LI):=[(2,{σ:=Nat,F:=λk=>([(1,one (.int v)),(4,one (.own 0)),(5,one (.own 1)),(8,one (.fz (.nm .field) l)),(9,one (.int l.length)),(10,one (.int k))],[.row 216 (.nm .field) (bT (l.take k) v),.row 216 (.nm .field) (dr (l.take k) v)]),J:=λk=>k<=l.length,μ:=λk=>l.length-k})]
def abc(l:List Field):List (Nat×LI):=[(3,{σ:=Nat,F:=λk=>([(2,one (.ptr 0 0)),(3,one (.ptr 1 0)),(6,one (.fz (.nm .field) l)),(7,one (.int l.length)),(8,one (.int k))],[.box 37 (cellsOf (.nm .command) bV),.box 37 (cellsOf (.nm .command) (cw (l.take k)))]),J:=λk=>k<=l.length,μ:=λk=>l.length-k})]
def Va:CK 349 (aD wH (bl (iX 60 (bg (cL .u8) jf)) (bl xk av)) λ_ ((b,_),(s,_),_)=>⟨[0<=s,s<=(b.length:Int),b.length*1<=140737488355328],[.c (.u64 (z8.mk (c7 (b.drop s.toNat)).1).n),.c (.int ((c7 (b.drop s.toNat)).2.2))],some ([.box 60 ([.fz .u8 b]),.box 3 ([.int (s+((c7 (b.drop s.toNat)).2.1:Nat))])]),false⟩):=ag λ_ ((b,_),(s,_),_) d=>by
 have e:=bw d;have g:=bw (de d);have h:=bw (de (de d));refine bh lP [] func349 (?_:(λa=>0<=s/\s<=(b.length:Int)/\(a.1<18446744073709551616->W (a.2.1:Int)->W a.2.2->W (s+(a.2.1:Int))/\a.1=(c7 (drop s.toNat b)).1/\a.2.2=(c7 (drop s.toNat b)).2.2/\b=b/\s+(a.2.1:Int)=s+(↑(c7 (drop s.toNat b)).2.1:Int))) (c7 (drop s.toNat b)));repeat' first|(with_reducible first|apply aH|refine aI ?_|intro)|exact aZ|(have:=(ke b s.toNat).1;refine aY ?_ ?_<;>omega)
def OY:CK 323 (aD gl av λ(b,_) _=>{rs:=[.agg (cellsOf (.nm .field) (gI b))]}):=ag λ(b,_) _ _=>by
 refine al lP [] func323 (?_:(λa=>(λc=>(λd=>b.length*1<=140737488355328->W a.num->W a.hC->W (a.k:Int)->W a.e->0<=(a.k:Int)/\(a.k:Int)<=(b.length:Int)/\(c.1<18446744073709551616->W (c.2.1:Int)->W c.2.2->(a.hC=0->a.num=(gI b).num/\a.hC=(gI b).hC/\c.1=(gI b).n.n/\(gI b).b=[])/\(¬a.hC=0->W d/\0<=d/\d<=(b.length:Int)/\(drop d.toNat b).length*1<=140737488355328/\a.num=(gI b).num/\a.hC=(gI b).hC/\0=(gI b).n.n/\drop d.toNat b=(gI b).b))) ((a.k:Int)+(c.2.1:Int))) (c7 (drop a.k b))) (aE b));repeat' first|(with_reducible first|apply aH|refine aI ?_|intro)|exact aZ|exact(o9 Field.num (GX Y))|exact(o9 Field.hC (GX Y))|exact(o9 (λf=>f.n.n) (GX Y))|exact(o9 Field.b (GX Y)).symm|exact(o9 Field.num (Hx Y))|exact(o9 Field.hC (Hx Y))|exact(o9 (λf=>f.n.n) (Hx Y))|exact(o9 Field.b (Hx Y))|(have g:=lC b;have h:=ke b (aE b).k;first|omega|(refine aY ?_ ?_<;>omega)|(rw[length_drop];omega))
def Cv:=kC (cL (.nm .field))
def uH:=ak Cv bS
theorem XC:CK 208 (aD uH av λ(l,_) _=>{rs:=[.c (.int (ck l))]}):=ag λ(l,_) _ _=>by
 refine al lP (adO l) func208 (?_:(λt v e w j=>(λp g=>l.length*48<=140737488355328->∃h,(l=l/\e=(↑(fO (take h l)):Int)/\l=l/\(l.length:Int)=p/\e=(h:Int))/\(h<=j/\dT none l=dT (ft l h) (drop h l)/\fO (take h l)<=h*16404)/\∀(s:Nat),(λa u=>(λo=>s<=j/\dT none l=dT (ft l s) (drop s l)/\fO (take s l)<=s*16404->(a<p->e<=a/\a<(l.length:Int)/\∀(x:Field),(λq=>l[s]? =some x->W x.num->W x.hC->x.n.n<18446744073709551616->x.b.length*1<=140737488355328->(du x=false->g=ck l)/\(du x=true->(e<a->W (a-g)/\(e<=a-g/\a-g<(l.length:Int))/\(W o.num->W o.hC->o.n.n<18446744073709551616->o.b.length*1<=140737488355328->(dM o x=false->5=ck l)/\(dM o x=true->q)))/\(a<=e->q))) ((t<(x.b.length:Int)->v)/\((x.b.length:Int)<=t->x.b.length<=16384/\W (u+(↑(bW x).length:Int))/\W (a+g)/\∃d,(l=l/\u+(↑(bW x).length:Int)=(↑(fO (take d l)):Int)/\l=l/\p=p/\a+g=(d:Int))/\(d<=j/\dT none l=dT (ft l d) (drop d l)/\fO (take d l)<=d*16404)/\j-d<j-s)))/\(p<=a->(t<u->v)/\(u<=t->e=ck l))) (l.getD (a-g).toNat w)) (s:Int) (↑(fO (take s l)):Int)) (j:Int) (1:Int)) (16384:Int) (4=ck l) (0:Int) (c4 (Sh.nm NT.field)) l.length);repeat' first|(with_reducible first|apply aH|refine aI ?_|intro)|exact aZ|exact rfl|exact(tw 0)|exact(Ok Y Y Y)|exact(Nw Y Y Y N (acD N Y) Y)|exact(Rg Y Y Y (Gk (by first|assumption|exact .inl ap|exact .inr ap) N) Y)|exact(Ax Y Y Y (Gk (by first|assumption|exact .inl ap|exact .inr ap) N) N)|exact(PD Y N Y)|exact(Tt Y N N)|(have y:=lI (f:=‹Field›) N Y;have z:=Bm (show l[_]? =some ‹Field› by with_reducible assumption);first|omega|(refine aY ?_ ?_<;>omega))|refine⟨‹Nat›+1,?_⟩|refine⟨0,?_⟩
theorem Zj:CK 207 (aD ij av λ(q,v,_) _=>{pre:=[q=1],rs:=[.c (.fz (.nm .spec) (aJ v))]}):=ag λ(q,v,_) _ p=>by
 have t:=bw p;refine al lP (ad1 q v) func207 (?_:(λ(e:Int)(g:Int)(d:Nat)=>W q->W v->(v<g\/3<v->aJ v=[])/\(g<=v/\v<=3->q=g/\(a_.length*32<=140737488355328->∃(o:Nat),(v=v/\a_=a_/\(a_.length:Int)=e/\0=(o:Int)/\filter (λ(s:l4)=>decide (s.since<=v)) (take o a_)=[])/\o<=d/\∀(s:Nat),(λ(h:Int)=>(λ(j:List (l7 (Sh.nm NT.spec)))=>s<=d->((s:Int)<e->0<=(s:Int)/\(s:Int)<(a_.length:Int)/\∀(x:l4),a_[s]? =some x->kj x ((x.since<=v->(j.length+[x].length)*32<=140737488355328/\W h/\∃(a:Nat),(v=v/\a_=a_/\e=e/\h=(a:Int)/\j++[x]=filter (λ(s:l4)=>decide (s.since<=v)) (take a a_))/\a<=d/\d-a<d-s)/\(v<x.since->W h/\∃(a:Nat),(v=v/\a_=a_/\e=e/\h=(a:Int)/\j=filter (λ(s:l4)=>decide (s.since<=v)) (take a a_))/\a<=d/\d-a<d-s)))/\(e<=(s:Int)->j=aJ v)) (filter (λ(s:l4)=>decide (s.since<=v)) (take s a_))) ((s:Int)+g)))) 8 1 8);repeat' first|(with_reducible first|apply aH|refine aI ?_|intro)|exact aZ|exact rfl|exact(JJ Y).symm|exact(Aw Y Y)|exact(Hv Y N)|exact ajG|exact(aa6 N N N)|(have u:a_.length=8:=rfl;omega)|refine⟨‹Nat›+1,?_⟩|refine⟨0,?_⟩
theorem PV:CK 272 (aD (ak Cv fj) av λ(l,v,_) _=>{rs:=[.c (.fz (.nm .field) (bT l v)),.c (.fz (.nm .field) (dr l v))]}):=ag λ(l,v,_) _ _=>by
 refine al lP (XS l v) func272 (?_:(λ(d:Nat)=>(λ(g:Int)=>l.length*48<=140737488355328->W v->∃(h:Nat),(v=v/\l=l/\(l.length:Int)=g/\0=(h:Int)/\bT (take h l) v=[]/\dr (take h l) v=[])/\h<=d/\∀(s:Nat),(λ(e:List Field)(j:Int)=>s<=d->((s:Int)<g->0<=(s:Int)/\(s:Int)<(l.length:Int)/\∀(x:Field),(λ(o:Prop)=>l[s]? =some x->W x.num->W x.hC->x.n.n<18446744073709551616->o->o->(x.num<=v->((bT e v).length+[x].length)*48<=140737488355328/\W j/\∃(a:Nat),(v=v/\l=l/\g=g/\j=(a:Int)/\bT e v++[x]=bT (take a l) v/\dr e v=dr (take a l) v)/\a<=d/\d-a<d-s)/\(v<x.num->((dr e v).length+[x].length)*48<=140737488355328/\W j/\∃(a:Nat),(v=v/\l=l/\g=g/\j=(a:Int)/\bT e v=bT (take a l) v/\dr e v++[x]=dr (take a l) v)/\a<=d/\d-a<d-s)) (x.b.length*1<=140737488355328))/\(g<=(s:Int)->bT e v=bT l v/\dr e v=dr l v)) (take s l) ((s:Int)+1)) (d:Int)) l.length);repeat' first|(with_reducible first|apply aH|refine aI ?_|intro)|exact aZ|exact ak7|exact aiW|exact(akX Y Y)|exact(agE Y N)|exact(aks Y N)|exact(aiF Y Y)|exact(ahy N)|exact(ajT N)|(have p:=IH (l.take ‹Nat›) v;have q:=tY (l.take ‹Nat›) v;rw[sh]at p q;simp only[x7,B2];omega)|refine⟨‹Nat›+1,?_⟩|refine⟨0,?_⟩
theorem Wn:CK 273 (aD uH av λ(l,_) _=>{pre:=[∀f∈l,f.b.length<=16384],rs:=[.agg (cellsOf (.nm .command) (cw l))]}):=ag λ(l,_) _ C=>by
 have D:=bw C;refine al lP (abc l) func273 (?_:(λ(t:Prop)(p:Int)(A:Int)(e:Nat)=>(λ(v:Prop)=>l.length*48<=140737488355328->∃(B:Nat),(λ(z:b6)=>(t/\(l.length:Int)=(e:Int)/\p=(B:Int)/\p=bV.kind/\p=bV.a6/\p=bV.seq/\p=bV.set/\p=bV.id/\p=bV.n/\bV.c6=[]/\n9.mk []=bV.text/\p=z.kind/\p=z.a6/\p=z.seq/\p=z.set/\p=z.id/\p=z.n/\z.c6=[]/\n9.mk []=z.text)/\B<=e/\∀(s:Nat),(λ(w:Nat)(u:Int)=>(λ(y:Prop)(d:b6)=>(λ(g:n9)(h:Int)(j:List Int)(o:Int)=>s<=e->((s:Int)<(e:Int)->p<=(s:Int)/\(s:Int)<(l.length:Int)/\∀(x:Field),(λ(q:Int)(c:Int)=>l[s]? =some x->W c->W x.hC->x.n.n<18446744073709551616->x.b.length*1<=140737488355328->(c=A->y/\∃(a:Nat),(t/\v/\u=(a:Int)/\bc bV bV (aQ (b6.mk q o d.seq d.set d.id d.n j g) (cw (take a l))))/\a<=e/\e-a<w)/\(¬c=A->(c=2->y/\∃(a:Nat),(t/\v/\u=(a:Int)/\bc bV bV (aQ (b6.mk h q d.seq d.set d.id d.n j g) (cw (take a l))))/\a<=e/\e-a<w)/\(¬c=2->(c=3->y/\∃(a:Nat),(t/\v/\u=(a:Int)/\bc bV bV (aQ (b6.mk h o q d.set d.id d.n j g) (cw (take a l))))/\a<=e/\e-a<w)/\(¬c=3->(c=4->y/\∃(a:Nat),(t/\v/\u=(a:Int)/\bc bV bV (aQ (b6.mk h o d.seq q d.id d.n j g) (cw (take a l))))/\a<=e/\e-a<w)/\(¬c=4->(c=5->y/\∃(a:Nat),(t/\v/\u=(a:Int)/\bc bV bV (aQ (b6.mk h o d.seq d.set q d.n j g) (cw (take a l))))/\a<=e/\e-a<w)/\(¬c=5->(c=6->y/\∃(a:Nat),(t/\v/\u=(a:Int)/\bc bV bV (aQ (b6.mk h o d.seq d.set d.id q j g) (cw (take a l))))/\a<=e/\e-a<w)/\(¬c=6->(c=7->x.b.length<=100000/\((gj x.b).length*8<=140737488355328->W (jr x.b)->y/\∃(a:Nat),(t/\v/\u=(a:Int)/\bc bV bV (aQ (b6.mk h o d.seq d.set d.id d.n (gj x.b) g) (cw (take a l))))/\a<=e/\e-a<w))/\(¬c=7->(c=8->y/\∃(a:Nat),(t/\v/\u=(a:Int)/\bc bV bV (aQ (b6.mk h o d.seq d.set d.id d.n j (n9.mk x.b)) (cw (take a l))))/\a<=e/\e-a<w)/\(¬c=8->y/\∃(a:Nat),(t/\v/\u=(a:Int)/\bc bV bV (aQ d (cw (take a l))))/\a<=e/\e-a<w))))))))) (cF x.n.n) x.num)/\((e:Int)<=(s:Int)->aQ d (cw l))) d.text d.kind d.c6 d.a6) (W u) (cw (take s l))) (e-s) ((s:Int)+A)) (cw (take B l))) ((e:Int)=(e:Int))) (l=l) 0 1 l.length);repeat' first|(with_reducible first|apply aH|refine aI ?_|intro)|exact aZ|exact rfl|(have:=D _ (C5 Y);omega)|(rw[eG Y,<-aqW Y]<;>first|rfl|exact(eU Y).symm)|(rw[eG Y,<-aqn Y]<;>first|rfl|exact(eU Y).symm)|(rw[eG Y,<-ao0 Y]<;>first|rfl|exact(eU Y).symm)|(rw[eG Y,<-ar6 Y]<;>first|rfl|exact(eU Y).symm)|(rw[eG Y,<-arP Y]<;>first|rfl|exact(eU Y).symm)|(rw[eG Y,<-aoJ Y]<;>first|rfl|exact(eU Y).symm)|(rw[eG Y,<-anq Y]<;>first|rfl|exact(eU Y).symm)|(rw[eG Y,<-arp Y]<;>first|rfl|exact(eU Y).symm)|(rw[eG Y,<-apC N]<;>first|rfl|exact(eU Y).symm)|(rw[take_of_length_le N])|refine⟨‹Nat›+1,?_⟩|refine⟨0,?_⟩
def py:=(ae Wn (ae PV (ae Zj (ae XC (ae OY (ae Va lP))))))
def Yp:CK 210 (aD (ak dj (ak dj dA)) (bl (iX 212 (bg (R4 true) jf)) av) λ(k,n,_,_) ((_,_),_)=>⟨[0<=n],[],some ([.box 212 ([.own 1]),.row 216 (.nm .field) (ou k n)]),false⟩):=ag λ(k,n,_,_) ((_,_),_) a=>by
 have c:=bw a;refine bh py [] func210 (?_:W k->W n->(¬n=0->0<=n/\[Field.mk k 0 (z8.mk n.toNat) []].length*48<=140737488355328/\[Field.mk k 0 (z8.mk n.toNat) []]=ou k n)/\(n=0->ou k n=[]));repeat' first|(with_reducible first|apply aH|refine aI ?_|intro)|exact aZ|exact(CH Y)|exact(Bg Y)|exact(Bx Y)|exact(BH N)|exact(CH (xs:=[]) Y)|exact(Bg (xs:=[]) Y).symm|exact(Bx (xs:=[]) Y)|exact(BH (xs:=[]) N).symm|(simp only[x7,B2];omega)|decide
def QQ:=bl (iX 212 (bg (iY 1) jf)) (bl (jL 216 (.nm .field)) av)
def Yx:CK 210 (aD (ak dj (ak dj dA)) QQ λ(k,n,_,_) ((_,_),xs,_)=>⟨[0<=n,xs.length<=1000],[],some ([.box 212 ([.own 1]),.row 216 (.nm .field) (xs++ou k n)]),false⟩):=ag λ(k,n,_,_) ((_,_),xs,_) a=>by
 have c:=bw a;have d:=bw (de a);refine bh py [] func210 (?_:W k->W n->(¬n=0->0<=n/\(xs.length+[Field.mk k 0 (z8.mk n.toNat) []].length)*48<=140737488355328/\xs++[Field.mk k 0 (z8.mk n.toNat) []]=xs++ou k n)/\(n=0->xs=xs++ou k n));repeat' first|(with_reducible first|apply aH|refine aI ?_|intro)|exact aZ|exact(CH Y)|exact(Bg Y)|exact(Bx Y)|exact(BH N)|exact(CH (xs:=[]) Y)|exact(Bg (xs:=[]) Y).symm|exact(Bx (xs:=[]) Y)|exact(BH (xs:=[]) N).symm|(simp only[x7,B2];omega)|decide
def Wp:CK 211 (aD (ak dj (ak we dA)) (bl (iX 212 (bg (R4 true) jf)) av) λ(k,b,_,_) ((_,_),_)=>{rs:=[],out:=some ([.box 212 ([.own 1]),.row 216 (.nm .field) (sF k b)])}):=ag λ(k,b,_,_) ((_,_),_) _=>by
 refine bh py [] func211 (?_:W k->b.length*1<=140737488355328->(0<(b.length:Int)->[Field.mk k 2 (z8.mk 0) b].length*48<=140737488355328/\[Field.mk k 2 (z8.mk 0) b]=sF k b)/\((b.length:Int)<=0->sF k b=[]));repeat' first|(with_reducible first|apply aH|refine aI ?_|intro)|exact aZ|exact(CH Y)|exact(Bg Y)|exact(Bx Y)|exact(BH N)|exact(CH (xs:=[]) Y)|exact(Bg (xs:=[]) Y).symm|exact(Bx (xs:=[]) Y)|exact(BH (xs:=[]) N).symm|(simp only[x7,B2];omega)|decide
def XT:CK 211 (aD (ak dj (ak we dA)) QQ λ(k,b,_,_) ((_,_),xs,_)=>⟨[xs.length<=1000],[],some ([.box 212 ([.own 1]),.row 216 (.nm .field) (xs++sF k b)]),false⟩):=ag λ(k,b,_,_) ((_,_),xs,_) a=>by
 have c:=bw a;refine bh py [] func211 (?_:W k->b.length*1<=140737488355328->(0<(b.length:Int)->(xs.length+[Field.mk k 2 (z8.mk 0) b].length)*48<=140737488355328/\xs++[Field.mk k 2 (z8.mk 0) b]=xs++sF k b)/\((b.length:Int)<=0->xs=xs++sF k b));repeat' first|(with_reducible first|apply aH|refine aI ?_|intro)|exact aZ|exact(CH Y)|exact(Bg Y)|exact(Bx Y)|exact(BH N)|exact(CH (xs:=[]) Y)|exact(Bg (xs:=[]) Y).symm|exact(Bx (xs:=[]) Y)|exact(BH (xs:=[]) N).symm|(simp only[x7,B2];omega)|decide
def AU:=(ae XT (ae Wp (ae Yx (ae Yp py))))
def Lg:CK 182 (aD uB av λ(c,v,_) _=>⟨[0<=c.kind,0<=c.a6,0<=c.seq,0<=c.set,0<=c.id,0<=c.n],[.c (.own 0)],some ([.row 216 (.nm .field) (bI c v)]),true⟩):=ag λ(c,v,_) _ d=>by
 have y:=bw d;have q:=bw (de d);have s:=bw (de (de d));have t:=bw (de (de (de d)));have u:=bw (de (de (de (de d))));have w:=bw (de (de (de (de (de d)))));refine bU AU [] func182 (?_:(λe p a h j=>(λo=>(λg=>bf c (W v->e<=c.kind/\e<=c.a6/\(ou 1 c.kind).length<=a/\e<=c.seq/\p.length<=a/\e<=c.set/\o.length<=a/\e<=c.id/\(o++ou 4 c.set).length<=a/\e<=c.n/\g.length<=a/\((bK c.c6).length*1<=140737488355328->W (cO c.c6)->(g++h).length<=a/\(3<=v->(g++h++j).length<=a/\g++h++j++sF 8 c.text.b=bI c v)/\(v<3->g++h++j=bI c v)))) (o++ou 4 c.set++ou 5 c.id)) (p++ou 3 c.seq)) (0:Int) (ou 1 c.kind++ou 2 c.a6) (1000:Nat) (ou 6 c.n) (sF 7 (bK c.c6)));repeat' first|(with_reducible first|apply aH|refine aI ?_|intro)|exact aZ|(rw[bI,O N];rfl)|(rw[bI,X N];rfl)|(have q:=il 1 c.kind;have s:=il 2 c.a6;have t:=il 3 c.seq;have u:=il 4 c.set;have w:=il 5 c.id;have z:=il 6 c.n;have A:=FT 7 (bK c.c6);(try simp only[s8]);omega)
def pG:=(ae Lg AU)
def acB(h:(aE b).e=0)(a:(c7 (b.drop (aE b).k)).2.2=0)(c:¬(aE b).hC=0)(g:(c7 (b.drop (aE b).k)).1<=16384)(d:((b.length:Nat):Int)-(((aE b).k:Int)+((c7 (b.drop (aE b).k)).2.1:Nat))<cF (c7 (b.drop (aE b).k)).1):(0:Int)=((aT b).1:Nat)/\2=(aT b).2:=by
 rw[ja N]at d;rw[ams h a c N N];exact⟨rfl,rfl⟩
def ad2(h:(aE b).e=0)(a:(c7 (b.drop (aE b).k)).2.2=0)(c:¬(aE b).hC=0)(g:(c7 (b.drop (aE b).k)).1<=16384)(d:cF (c7 (b.drop (aE b).k)).1<=((b.length:Nat):Int)-(((aE b).k:Int)+((c7 (b.drop (aE b).k)).2.1:Nat))):((aE b).k:Int)+((c7 (b.drop (aE b).k)).2.1:Nat)+cF (c7 (b.drop (aE b).k)).1=((aT b).1:Nat)/\0=(aT b).2:=by
 rw[ja N]at d⊢;rw[ajo h a c N N];exact⟨rfl,rfl⟩
def akb(l:List Field):List (Nat×LI):=[(6,{σ:=Nat,F:=λk=>([(5,one (.own 0)),(13,one (.fz (.nm .field) l)),(14,one (.int l.length)),(15,one (.int k))],[.row 5 .u8 (((l.take k).map bW).flatten)]),J:=λk=>k<=l.length,μ:=λk=>l.length-k})]
def ahb(q:Int)(v:Int):List (Nat×LI):=[(3,{σ:=Nat,F:=λk=>([(5,one (.int (((aJ v).take k).foldl (λt s=>max t s.num) 0))),(10,one (.fz (.nm .spec) (aJ v))),(11,one (.int (aJ v).length)),(12,one (.int k))],[]),J:=λk=>k<=(aJ v).length,μ:=λk=>(aJ v).length-k})]
def Wf:CK 322 (aD gl av λ(b,_) _=>{rs:=[.c (.int ((aT b).1:Nat)),.c (.int ((aT b).2))]}):=ag λ(b,_) _ _=>by
 refine al pG [] func322 (?_:(λo s d h g=>(λp q a=>(λj=>s->W d.num->W d.hC->W q->W d.e->(¬d.e=g->p/\d.e=h)/\(d.e=g->g<=q/\q<=o/\s/\(a.1<(18446744073709551616:Nat)->W a.2.2->(¬a.2.2=g->p/\a.2.2=h)/\(a.2.2=g->(d.hC=g->j=(↑(aT b).1:Int)/\g=h)/\(¬d.hC=g->((↑(16384:Nat):Int)<(a.1:Int)->p/\(4:Int)=h)/\((a.1:Int)<=(↑(16384:Nat):Int)->W (o-j)/\(o-j<cF a.1->p/\(2:Int)=h)/\(cF a.1<=o-j->W (j+cF a.1)/\j+cF a.1=(↑(aT b).1:Int)/\g=h))))))) (q+(a.2.1:Int))) (g=(↑(aT b).1:Int)) (d.k:Int) (c7 (drop d.k b))) (b.length:Int) (b.length*(1:Nat)<=(140737488355328:Nat)) (aE b) (aT b).2 (0:Int));repeat' first|(with_reducible first|apply aH|refine aI ?_|intro)|exact aZ|(rw[acq Y]<;>rfl)|(rw[aeo Y Y]<;>rfl)|(rw[abK Y Y Y]<;>rfl)|(rw[aes Y Y Y N]<;>rfl)|exact(acB Y Y Y N Y).1|exact(acB Y Y Y N Y).2|exact(ad2 Y Y Y N Y).1|exact(ad2 Y Y Y N Y).2|(have t:=lC b;have u:=ke b (aE b).k;first|omega|(refine aY ?_ ?_<;>omega))|(have t:=lC b;have u:=ke b (aE b).k;have v:=ja (m:=(c7 (b.drop (aE b).k)).1) N;first|omega|(refine aY ?_ ?_<;>omega))
theorem acW:CK 181 (aD uH av λ(l,_) _=>⟨[],[.c (.own 0),.c (.int (ck l))],some ([.row 5 .u8 (jt l)]),true⟩):=ag λ(l,_) _ _=>by
 refine bU pG (akb l) func181 (?_:(λ(a:Nat)=>l.length*48<=140737488355328->W (ck l)->(¬ck l=0->ck l=ck l/\jt l=[])/\(ck l=0->∃(e:Nat),(l=l/\(l.length:Int)=(a:Int)/\0=(e:Int)/\(List.map bW (take e l)).flatten=[])/\e<=a/\∀(s:Nat),(λ(g:List UInt8)=>s<=a->((s:Int)<(a:Int)->0<=(s:Int)/\(s:Int)<(l.length:Int)/\∀(x:Field),l[s]? =some x->W x.num->W x.hC->x.n.n<18446744073709551616->x.b.length*1<=140737488355328->x.b.length<=16384/\(g.length+(bW x).length)*1<=140737488355328/\W ((s:Int)+1)/\∃(d:Nat),(l=l/\(a:Int)=(a:Int)/\(s:Int)+1=(d:Int)/\g++bW x=(List.map bW (take d l)).flatten)/\d<=a/\a-d<a-s)/\((a:Int)<=(s:Int)->0=ck l/\g=jt l)) (List.map bW (take s l)).flatten)) l.length);repeat' first|(with_reducible first|apply aH|refine aI ?_|intro)|exact aZ|exact rfl|exact(NM Y).symm|exact(Eq.symm Y)|exact(ym Y)|exact(pz Y (C5 Y))|exact(Ic Y N)|(have h:=Bf (k:=‹Nat›) (show ck l=0 by with_reducible assumption);have j:=lI (f:=‹Field›) (pz (show ck l=0 by with_reducible assumption) (C5 Y)) Y;omega)|refine⟨‹Nat›+1,?_⟩|refine⟨0,?_⟩
theorem abi:CK 180 (aD ij av λ(q,v,_) _=>{pre:=[q=1],rs:=[.c (.int (bE v))]}):=ag λ(q,v,_) _ o=>by
 have p:=bw o;refine al pG (ahb q v) func180 (?_:(λ(e:Int)(a:List l4)=>(λ(d:Nat)=>W q->W v->q=1/\(a.length*32<=140737488355328->∃(h:Nat),(e=foldl (λ(t:Int) (s:l4)=>max t s.num) e (take h a)/\a=a/\(a.length:Int)=(d:Int)/\e=(h:Int))/\h<=d/\∀(s:Nat),(λ(j:Int)=>s<=d->((s:Int)<(d:Int)->e<=(s:Int)/\(s:Int)<(a.length:Int)/\∀(x:l4),a[s]? =some x->kj x (W ((s:Int)+1)/\∃(g:Nat),(max j x.num=foldl (λ(t:Int) (s:l4)=>max t s.num) e (take g a)/\a=a/\(d:Int)=(d:Int)/\(s:Int)+1=(g:Int))/\g<=d/\d-g<d-s))/\((d:Int)<=(s:Int)->j=bE v)) (foldl (λ(t:Int) (s:l4)=>max t s.num) e (take s a)))) a.length) 0 (aJ v));repeat' first|(with_reducible first|apply aH|refine aI ?_|intro)|exact aZ|exact rfl|exact(DJ Y)|(rw[bE,take_of_length_le N])|refine⟨‹Nat›+1,?_⟩|refine⟨0,?_⟩
def tr:=(ae abi (ae acW (ae Wf pG)))
structure Wq(p:Prop):Prop where
 h:p
def gH(l:List Field):Int->Option Int:=λq=>if eH l q=0 then none else some ((eH l q:Nat):Int)
def oZ(rest:List Field)(v:Int)(k:Nat):Prop:=∀j y,j<k->rest[j]? =some y->¬y.num<=bE v
variable{xs:List Field}
theorem Pv(h:(xs.length:Int)=0):true=fF xs f:=by
 unfold fF;rw[M3 N]
theorem FE(h:¬(xs.length:Int)=0):dM (xs.getD ((xs.length:Int)-1).toNat (c4 (.nm .field))) f=fF xs f:=by
 unfold fF;rw[show((xs.length:Int)-1).toNat=xs.length-1 by omega,getD_eq_getElem?_getD,r5 N];rfl
theorem JD(l:List Field)(q:Int):(gH l q).getD (c4 .int)=((eH l q:Nat):Int):=by
 unfold gH;by_cases h:eH l q=0
 .rw[O h,h];rfl
 grind
def ae4:(λ_=>none)=gH (l.take 0):=rfl
def abt(h:l.length<=k):gH (l.take k)=gH l:=by rw[take_of_length_le h]
def WE(c:l[k]? =some x):(λj=>if j=x.num then some ((gH (l.take k) x.num).getD (c4 .int)+1)else gH (l.take k) j)=gH (l.take (k+1)):=by
 funext j;have h:=qM c j;by_cases a:j=x.num
 .rw[O a]at h⊢;rw[JD];unfold gH;rw[h,X N];rfl
 rw[X a]at h⊢;unfold gH;rw[h]
def Z1(a:l[k]? =some x):x=l.getD k (c4 (.nm .field)):=by rw[getD_eq_getElem?_getD,a];rfl
def R8(h:k<l.length):l[k]? =some (l.getD k (c4 (.nm .field))):=by
 rw[getD_eq_getElem?_getD,r5 h];rfl
def ao7{y:l4}(h:Wq (MY ss x ((eH l x.num:Nat):Int) m))(c:ss[m]? =some y)(a:¬y.num=x.num\/HH x y ((gH l x.num).getD (c4 .int))=true):Wq (MY ss x ((eH l x.num:Nat):Int) (m+1)):=
 ⟨Ol h.h c λe=>by rw[JD]at a;exact a.resolve_left (λh=>h e)⟩
def aol(h:Wq (wV l ss k))(a:k<l.length)(c:Wq (MY ss (l.getD k (c4 (.nm .field))) ((eH (l.take (k+1)) (l.getD k (c4 (.nm .field))).num:Nat):Int) m))(d:(ss.length:Int)<=(m:Int)):Wq (wV l ss (k+1)):=
 ⟨NL h.h (R8 a) c.h N rfl⟩
def apq(h:Wq (wV l ss k))(a:l.length<=k):Wq (wV l ss l.length):=⟨λj x c=>h.h j x N⟩
def arn{v:Int}{y:l4}(c:(aJ v)[m]? =some y)(d:y.y4=true)(a:(gH l y.num).getD (c4 .int)=0):¬vI l v:=YD c ⟨d,by rw[JD]at a;exact a⟩ rfl
theorem arK{y:l4}(h:Wq (Mj l ss m))(a:ss[m]? =some y)(hn:y.y4=false\/¬(gH l y.num).getD (c4 .int)=0):Wq (Mj l ss (m+1)):=
 ⟨Uo h.h a λc=>by
  rw[JD]at hn;rcases hn with hn|hn
  .grind
  omega⟩
def aoe{v:Int}(a:Wq (wV l (aJ v) l.length))(c:Wq (Mj l (aJ v) k))(d:(aJ v).length<=k):vI l v:=VP a.h (tw _) c.h d
def aaq{v:Int}:oZ rest v 0:=λj y h=>by omega
def aaL{v:Int}(h:Wq (oZ rest v k))(a:rest[k]? =some x)(c:¬x.num<=bE v):Wq (oZ rest v (k+1)):=⟨Lk h.h a c⟩
def pb1{c:b6}{v:Int}(h:dz v=false):dy c rest v=1:=apK (by show(!(dz v))=true;rw[h];rfl)
def pb2{c:b6}{v:Int}(h:dz v=true)(a:fh c v=false)(d:¬aO c v=0):dy c rest v=aO c v:=ao5 (by show(!(dz v))=false;rw[h];rfl) a d
def pb3{c:b6}{v:Int}(h:dz v=true)(a:fh c v=true\/aO c v=0)(d:rest[k]? =some x)(e:x.num<=bE v):dy c rest v=6:=apt (by show(!(dz v))=false;rw[h];rfl) a d e
def pb0{c:b6}{v:Int}(h:dz v=true)(a:fh c v=true\/aO c v=0)(d:Wq (oZ rest v k))(e:rest.length<=k):dy c rest v=0:=aoc (by show(!(dz v))=false;rw[h];rfl) a d.h e
def Vj(q:Int)(v:Int)(l:List Field):List (Nat×LI):=[(9,{σ:=Nat,F:=λk=>([(7,one (.fz (.nm .spec) (aJ v))),(9,one (.mq 0)),(28,one (.fz (.nm .field) l)),(29,one (.int l.length)),(30,one (.int k))],[.s6 .int (gH (l.take k))]),J:=λk=>k<=l.length/\Wq (wV l (aJ v) k),μ:=λk=>l.length-k}),(13,{σ:=Nat×Nat,F:=λq=>([(7,one (.fz (.nm .spec) (aJ v))),(9,one (.mq 0)),(11,one (.ptr 1 0)),(28,one (.fz (.nm .field) l)),(29,one (.int l.length)),(30,one (.int q.1)),(39,one (.fz (.nm .spec) (aJ v))),(40,one (.int (aJ v).length)),(41,one (.int q.2))],[.s6 .int (gH (l.take (q.1+1))),.box 216 (cellsOf (.nm .field) (l.getD q.1 (c4 (.nm .field))))]),J:=λq=>q.1<l.length/\q.2<=(aJ v).length/\Wq (wV l (aJ v) q.1)/\Wq (MY (aJ v) (l.getD q.1 (c4 (.nm .field))) ((eH (l.take (q.1+1)) (l.getD q.1 (c4 (.nm .field))).num:Nat):Int) q.2),μ:=λq=>(aJ v).length-q.2,R:=some λa q=>q.1=a.1}),(20,{σ:=Nat,F:=λk=>([(9,one (.mq 0)),(62,one (.fz (.nm .spec) (aJ v))),(63,one (.int (aJ v).length)),(64,one (.int k))],[.s6 .int (gH l)]),J:=λk=>k<=(aJ v).length/\Wq (wV l (aJ v) l.length)/\Wq (Mj l (aJ v) k),μ:=λk=>(aJ v).length-k})]
def ajx(c:b6)(rest:List Field)(v:Int):List (Nat×LI):=[(9,{σ:=Nat,F:=λk=>([(1,one (.fz (.nm .field) rest)),(2,one (.int v)),(3,one (.ptr 0 0)),(9,one (.int (bE v))),(27,one (.fz (.nm .field) rest)),(28,one (.int rest.length)),(29,one (.int k))],[.box 37 (cellsOf (.nm .command) c)]),J:=λk=>k<=rest.length/\Wq (oZ rest v k),μ:=λk=>rest.length-k})]
def U_:CK 321 (aD (ak qo dA) QQ λ(f,_,_) ((_,_),xs,_)=>{pre:=[xs.length<=20000],rs:=[.c (.bool (.atom (fF xs f)))]}):=ag λ(f,_,_) ((_,_),xs,_) g=>by
 have h:=bw g;refine al tr [] func321 (?_:(λd=>(λe=>(λa=>W f.num->W f.hC->f.n.n<18446744073709551616->f.b.length*1<=140737488355328->(d=0->true=fF xs f)/\(¬d=0->W e/\(0<=e/\e<d)/\(W a.num->W a.hC->a.n.n<18446744073709551616->a.b.length*1<=140737488355328->dM a f=fF xs f))) (xs.getD e.toNat (c4 (Sh.nm NT.field)))) (d-1)) (xs.length:Int));repeat' first|(with_reducible first|apply aH|refine aI ?_|intro)|exact aZ|exact(Pv Y)|exact(FE Y)
theorem ML:CK 271 (aD (ak dj (ak dj uH)) av λ(q,v,l,_) _=>{pre:=[q=1],rs:=[.c (.int (fg l v))]}):=ag λ(q,v,l,_) _ b=>by
 have c:=bw b;refine al tr (Vj q v l) func271 (?_:(λ(G:Nat)(B:Int)(y:Int)(z:Nat)=>(λ(C:Int)=>(λ(L:l7 (Sh.nm NT.field))=>(λ(d:List l4)=>(λ(F:Prop)(H:Int)(A:Nat)=>(λ(g:Int)=>W q->W v->l.length*48<=140737488355328->q=B/\(d.length*32<=140737488355328->(H=y->B=fg l v)/\(¬H=y->W (ck l)->(¬ck l=y->ck l=fg l v)/\(ck l=y->∃(p:Nat),(F/\l=l/\(l.length:Int)=C/\y=(p:Int)/\(λ(_:Int)=>none)=gH (take p l))/\(p<=z/\Wq (wV l d p))/\∀(s:Nat),s<=z/\Wq (wV l d s)->((s:Int)<C->y<=(s:Int)/\(s:Int)<(l.length:Int)/\∀(x:Field),(λ(I:Int)=>l[s]? =some x->W x.num->W x.hC->x.n.n<18446744073709551616->x.b.length*G<=140737488355328->W I/\∃(p:Nat×Nat),(λ(h:Nat)=>(λ(t:Field)=>(F/\l=l/\C=C/\(s:Int)=(h:Int)/\F/\H=g/\y=(p.2:Int)/\(λ(j:Int)=>if j=x.num then some I else gH (take s l) j)=gH (take (h+G) l)/\x.num=t.num/\x.hC=t.hC/\x.n.n=t.n.n/\x.b=t.b)/\(h<z/\p.2<=A/\Wq (wV l d h)/\Wq (MY d t (↑(eH (take (h+G) l) t.num):Int) p.2))/\h=h/\∀(a:Nat×Nat),(λ(u:Int)(D:List Field)(o:Field)=>a.1<z/\a.2<=A/\Wq (wV l d a.1)/\Wq (MY d o (↑(eH D o.num):Int) a.2)->a.1=h->(u<g->y<=u/\u<H/\∀(x:l4),(λ(J:Bool)=>d[a.2]? =some x->kj x ((x.num=o.num/\J=false->6=fg l v)/\(¬x.num=o.num\/J=true->W (u+B)/\∃(e:Nat×Nat),(λ(w:Field)=>(F/\l=l/\C=C/\(a.1:Int)=(e.1:Int)/\F/\g=g/\u+B=(e.2:Int)/\gH D=gH (take (e.1+G) l)/\o.num=w.num/\o.hC=w.hC/\o.n.n=w.n.n/\o.b=w.b)/\(e.1<z/\e.2<=A/\Wq (wV l d e.1)/\Wq (MY d w (↑(eH (take (e.1+G) l) w.num):Int) e.2))/\e.1=h/\A-e.2<A-a.2) (l.getD e.1 L)))) (HH o x ((gH D o.num).getD (c4 Sh.int))))/\(g<=u->W ((a.1:Int)+B)/\∃(e:Nat),(F/\l=l/\C=C/\(a.1:Int)+B=(e:Int)/\gH D=gH (take e l))/\(e<=z/\Wq (wV l d e))/\z-e<z-s)) (a.2:Int) (take (a.1+G) l) (l.getD a.1 L)) (l.getD h L)) p.1) ((gH (take s l) x.num).getD (c4 Sh.int)+B))/\(C<=(s:Int)->∃(p:Nat),(F/\H=g/\y=(p:Int)/\gH (take s l)=gH l)/\(p<=A/\Wq (wV l d z)/\Wq (Mj l d p))/\∀(s:Nat),s<=A/\Wq (wV l d z)/\Wq (Mj l d s)->((s:Int)<g->y<=(s:Int)/\(s:Int)<H/\∀(x:l4),(λ(K:Prop)=>d[s]? =some x->kj x ((x.y4=true/\K->6=fg l v)/\(x.y4=false\/¬K->W ((s:Int)+B)/\∃(e:Nat),(F/\g=g/\(s:Int)+B=(e:Int)/\gH l=gH l)/\(e<=A/\Wq (wV l d z)/\Wq (Mj l d e))/\A-e<A-s))) ((gH l x.num).getD (c4 Sh.int)=y))/\(g<=(s:Int)->y=fg l v)))))) (A:Int)) (d=d) (d.length:Int) d.length) (aJ v)) (c4 (Sh.nm NT.field))) (z:Int)) 1 1 0 l.length);(repeat' with_reducible first|apply aH|refine aI ?_|intro)
 all_goals try(refine⟨0,?_⟩;(repeat' with_reducible first|apply aH|refine aI ?_|intro))
 all_goals try(refine⟨(‹Nat›,0),?_⟩;(repeat' with_reducible first|apply aH|refine aI ?_|intro))
 all_goals try(refine⟨(‹Nat×Nat›.1,‹Nat×Nat›.2+1),?_⟩;(repeat' with_reducible first|apply aH|refine aI ?_|intro))
 all_goals try(refine⟨‹Nat×Nat›.1+1,?_⟩;(repeat' with_reducible first|apply aH|refine aI ?_|intro))
 all_goals try(refine⟨0,?_⟩;(repeat' with_reducible first|apply aH|refine aI ?_|intro))
 all_goals try(refine⟨‹Nat›+1,?_⟩;(repeat' with_reducible first|apply aH|refine aI ?_|intro))
 all_goals(first|exact aZ|exact rfl|exact(ahm N)|exact(aiB N Y)|exact ae4|exact⟨ajO⟩|exact⟨agp⟩|exact⟨aly⟩|exact(WE Y)|exact(o9 Field.num (Z1 Y))|exact(o9 Field.hC (Z1 Y))|exact(o9 (λf=>f.n.n) (Z1 Y))|exact(o9 Field.b (Z1 Y))|exact(WI N Y (Zk (R8 Y) Y (And.intro Y Y) (JD _ _)))|exact(ao7 Y Y ap)|exact(aol Y Y Y Y)|exact(apq Y N)|exact(abt N)|exact(WI N Y (arn Y Y Y))|exact(arK Y Y ap)|exact(aiL N Y (aoe Y Y N))|(have P:=IG (l:=l) (k:=‹Nat›) ‹Field›.num;have Q:=JD (l.take ‹Nat›) ‹Field›.num;refine aY ?_ ?_<;>omega))
theorem ab6:CK 126 (aD (ak JP (ak Cv fj)) av λ(c,rest,v,_) _=>⟨[rest.length<=20000],[.c (.own 0),.c (.int (dG c rest v))],some ([.row 5 .u8 (eO c rest v)]),true⟩):=ag λ(c,rest,v,_) _ q=>by
 have t:=bw q;refine bU tr (ajx c rest v) func126 (?_:(λ(e:Int)(j:Prop)(a:Int)(d:Nat)=>(λ(p:Prop)=>bf c (rest.length*48<=140737488355328->W v->(dz v=false->1=e/\j)/\(dz v=true->(fh c v=false->W (aO c v)->(¬aO c v=a->aO c v=e/\j)/\(aO c v=a->p))/\(fh c v=true->p)))) ((1:Int)=1/\(W (bE v)->∃(o:Nat),(rest=rest/\v=v/\bE v=bE v/\rest=rest/\(rest.length:Int)=(d:Int)/\a=(o:Int)/\aQ c c)/\(o<=d/\Wq (oZ rest v o))/\∀(s:Nat),s<=d/\Wq (oZ rest v s)->((s:Int)<(d:Int)->a<=(s:Int)/\(s:Int)<(rest.length:Int)/\∀(x:Field),rest[s]? =some x->W x.num->W x.hC->x.n.n<18446744073709551616->x.b.length*1<=140737488355328->(x.num<=bE v->6=e/\j)/\(bE v<x.num->W ((s:Int)+1)/\∃(g:Nat),(rest=rest/\v=v/\bE v=bE v/\rest=rest/\(d:Int)=(d:Int)/\(s:Int)+1=(g:Int)/\aQ c c)/\(g<=d/\Wq (oZ rest v g))/\d-g<d-s))/\((d:Int)<=(s:Int)->a<=c.kind/\a<=c.a6/\a<=c.seq/\a<=c.set/\a<=c.id/\a<=c.n/\((bI c v).length+rest.length)*48<=140737488355328/\(W (ck (bI c v++rest))->ck (bI c v++rest)=e/\jt (bI c v++rest)=eO c rest v))))) (dG c rest v) (eO c rest v=[]) 0 rest.length);repeat' first|(with_reducible first|apply aH|refine aI ?_|intro)|exact aZ|exact rfl|exact⟨aaq⟩|exact(aaL Y Y N)|exact(sC (pb1 Y) am)|exact(sq (pb1 Y) am).symm|exact(sC (pb2 Y Y Y) Y)|exact(sq (pb2 Y Y Y) Y).symm|exact(sC (pb3 Y (by first|exact .inl Y|exact .inr Y) Y Y) am)|exact(sq (pb3 Y (by first|exact .inl Y|exact .inr Y) Y Y) am).symm|exact(aa8 (pb0 Y (by first|exact .inl Y|exact .inr Y) Y N))|exact(aba (pb0 Y (by first|exact .inl Y|exact .inr Y) Y N))|(have h:0<=c.kind/\0<=c.a6/\0<=c.seq/\0<=c.set/\0<=c.id/\0<=c.n:=(by first|exact Rr Y|exact Og Y);omega)|(have h:=wv c v;omega)|refine⟨‹Nat›+1,?_⟩|refine⟨0,?_⟩
def Hp:=(ae ab6 (ae ML (ae U_ tr)))
def Ih(b:List UInt8)(s:Nat×List Field):Nat×List Field:=(s.1+(aT (b.drop s.1)).1,s.2++[gI ((b.drop s.1).take (((s.1:Int)+((aT (b.drop s.1)).1:Nat)).toNat-s.1))])
def ND{s:Nat×List Field}:(Ih b s).2=s.2++[gI ((b.drop s.1).take (aT (b.drop s.1)).1)]:=by
 unfold Ih;rw[show((s.1:Int)+((aT (b.drop s.1)).1:Nat)).toNat-s.1=(aT (b.drop s.1)).1 by omega]
def tlB(h:16384<(b.length:Int)):aV b=([],4):=aci N
def tlS{s:Nat×List Field}(h:Wq (fI b s.1 s.2))(c:(s.1:Int)<(b.length:Int))(a:¬(aT (b.drop s.1)).2=0):aV b=([],(aT (b.drop s.1)).2):=ZE h.h N a
theorem tlL{s:Nat×List Field}(h:Wq (fI b s.1 s.2))(a:(s.1:Int)<(b.length:Int))(c:(aT (b.drop s.1)).2=0)(d:fF s.2 (gI ((b.drop s.1).take (((s.1:Int)+((aT (b.drop s.1)).1:Nat)).toNat-s.1)))=false):aV b=([],5):=by
 obtain⟨f,_,e⟩:=SM h.h (show s.1<b.length by omega);grind
def tlN{s:Nat×List Field}(h:Wq (fI b s.1 s.2))(d:(s.1:Int)<(b.length:Int))(a:(aT (b.drop s.1)).2=0)(c:fF s.2 (gI ((b.drop s.1).take (((s.1:Int)+((aT (b.drop s.1)).1:Nat)).toNat-s.1)))=true):Wq (fI b (Ih b s).1 (Ih b s).2):=by
 rw[show((s.1:Int)+((aT (b.drop s.1)).1:Nat)).toNat-s.1=(aT (b.drop s.1)).1 by omega]at c;obtain⟨f,g,e⟩:=SM h.h (show s.1<b.length by omega);have j:=qW a;rw[ND];refine⟨f,by show b.length-(s.1+(aT (b.drop s.1)).1)<=f;omega,?_⟩;rw[e,O a,c,O rfl,J1];rfl
def tlE{s:Nat×List Field}(h:Wq (fI b s.1 s.2))(a:(b.length:Int)<=(s.1:Int)):aV b=(s.2,0):=acM h.h N
def nx1{s:Nat×List Field}(a:s.1<=b.length):(Ih b s).1<=b.length:=by
 have:=qp (b.drop s.1);rw[length_drop]at this;show s.1+_<=_;omega
def nx2{s:Nat×List Field}(c:s.2.length<=s.1)(a:(aT (b.drop s.1)).2=0):(Ih b s).2.length<=(Ih b s).1:=by
 have d:=qW a;rw[ND,s8];simp;show _<=s.1+_;omega
def nx3{s:Nat×List Field}(c:(s.1:Int)<(b.length:Int))(a:(aT (b.drop s.1)).2=0):b.length-(Ih b s).1<b.length-s.1:=by
 have d:=qW a;show b.length-(s.1+_)<_;omega
def acR(b:List UInt8):List (Nat×LI):=[(6,{σ:=Nat×List Field,F:=λs=>([(0,one (.fz .u8 b)),(4,one (.ptr 0 0)),(5,one (.fn 321 [] [(0,0)])),(6,one (.int s.1))],[.box 212 ([.own 1]),.row 216 (.nm .field) (s.2)]),J:=λs=>Wq (fI b s.1 s.2)/\s.1<=b.length/\s.2.length<=s.1,μ:=λs=>b.length-s.1})]
theorem Vb:CK 270 (aD gl av λ(b,_) _=>{rs:=[.c (.fz (.nm .field) ((aV b).1)),.c (.int ((aV b).2))]}):=ag λ(b,_) _ _=>by
 refine al Hp (acR b) func270 (?_:(λ(t:Prop)(j:Int)(o:Int)=>b.length*1<=140737488355328->(16384<o->t/\4=(aV b).2)/\(o<=16384->∃(e:Nat×List Field),(b=b/\j=(e.1:Int)/\e.2=[])/\(Wq (fI b e.1 e.2)/\e.1<=b.length/\e.2.length<=e.1)/\∀(s:Nat×List Field),(λ(g:Int)(p:Nat×Int)=>(λ(q:Int)=>(λ(a:Field)=>Wq (fI b s.1 s.2)/\s.1<=b.length/\s.2.length<=s.1->(g<o->j<=g/\g<=o/\(W (p.1:Int)->W p.2->(¬p.2=j->t/\p.2=(aV b).2)/\(p.2=j->W q/\j<=g/\g<=q/\q<=o/\(W a.num->W a.hC->a.n.n<18446744073709551616->a.b.length*1<=140737488355328->s.2.length<=20000/\(fF s.2 a=false->t/\5=(aV b).2)/\(fF s.2 a=true->(s.2.length+[a].length)*48<=140737488355328/\W q/\∃(d:Nat×List Field),(b=b/\q=(d.1:Int)/\s.2++[a]=d.2)/\(Wq (fI b d.1 d.2)/\d.1<=b.length/\d.2.length<=d.1)/\b.length-d.1<b.length-s.1)))))/\(o<=g->s.2=(aV b).1/\j=(aV b).2)) (gI (take (q.toNat-s.1) (drop s.1 b)))) (g+(p.1:Int))) (s.1:Int) (aT (drop s.1 b)))) ((aV b).1=[]) 0 (b.length:Int));repeat' first|(with_reducible first|apply aH|refine aI ?_|intro)|exact aZ|exact rfl|exact⟨Dh N⟩|(rw[tlB Y]<;>rfl)|(rw[tlS Y Y Y]<;>rfl)|(rw[tlL Y Y Y Y]<;>rfl)|(rw[tlE Y Y]<;>rfl)|exact(tlN Y Y Y Y)|exact(nx1 Y)|exact(nx2 Y Y)|exact(nx3 Y Y)|(have h:=qp (b.drop ‹Nat×List Field›.1);rw[length_drop]at h;first|omega|(refine aY ?_ ?_<;>omega))|(simp only[x7,B2];omega)|refine⟨Ih b ‹Nat×List Field›,?_⟩|refine⟨(0,[]),?_⟩
def Gh:=(ae Vb Hp)
def tin{v:Int}(h:dz v=true):1<=v/\v<=3:=by
 unfold dz at h;simpa using h
def S2{v:Int}(a:(aV b).2=0)(c:fg (aV b).1 v=0):oF b v=0:=by rw[oF,O a,c]
def tq1{v:Int}(h:dz v=false):cP b v=⟨bV,[],1⟩:=ann (λa=>by unfold dz at h;simp only[a,decide_true,Bool.and_self]at h;cases h)
def tq2{v:Int}(h:dz v=true)(a:(aV b).2=0)(c:¬fg (aV b).1 v=0):cP b v=⟨bV,[],fg (aV b).1 v⟩:=by
 have e:oF b v=fg (aV b).1 v:=by rw[oF,O a]
 rw[ajD (tin h) (by rw[e];exact c),e]
def tq3{v:Int}(h:dz v=true)(a:¬(aV b).2=0):cP b v=⟨bV,[],(aV b).2⟩:=by
 have e:oF b v=(aV b).2:=by rw[oF,X a]
 rw[ajD (tin h) (by rw[e];exact a),e]
def tq4{v:Int}(h:dz v=true)(a:(aV b).2=0)(c:fg (aV b).1 v=0)(d:¬dG (cw (bT (aV b).1 (bE v))) (dr (aV b).1 (bE v)) v=0\/decide (eO (cw (bT (aV b).1 (bE v))) (dr (aV b).1 (bE v)) v=b)=false):cP b v=⟨bV,[],6⟩:=
 alC (tin h) (S2 a c) (d.imp_right λh=>by simpa using h)
def tq5{v:Int}(h:dz v=true)(a:(aV b).2=0)(c:fg (aV b).1 v=0)(d:dG (cw (bT (aV b).1 (bE v))) (dr (aV b).1 (bE v)) v=0)(e:decide (eO (cw (bT (aV b).1 (bE v))) (dr (aV b).1 (bE v)) v=b)=true):cP b v=⟨cw (bT (aV b).1 (bE v)),dr (aV b).1 (bE v),0⟩:=
 alD (tin h) (S2 a c) ⟨d,C6 e⟩
def Vd:CK 243 (aD (ak we fj) av λ(b,v,_) _=>{rs:=[.agg (cellsOf (.nm .command) ((cP b v).c)),.c (.fz (.nm .field) ((cP b v).r)),.c (.int ((cP b v).e))]}):=ag λ(b,v,_) _ _=>by
 refine al Gh [] func243 (?_:(λw y g h=>(λt u a d=>(λj o p q s z=>(λA=>b.length*1<=140737488355328->W v->(dz v=false->p/\q/\o/\j/\a=d.id/\a=d.n/\s/\z/\g.r=[]/\1=g.e)/\(dz v=true->h.length*48<=140737488355328->W w->(w=a->(1:Int)=1/\(W (fg h v)->(¬fg h v=a->p/\q/\o/\j/\a=d.id/\a=d.n/\s/\z/\g.r=[]/\fg h v=g.e)/\(fg h v=a->A)))/\(¬w=a->(¬w=a->p/\q/\o/\j/\a=d.id/\a=d.n/\s/\z/\g.r=[]/\w=g.e)/\(w=a->A)))) ((1:Int)=1/\(W y->(bT h y).length*48<=140737488355328->t.length*48<=140737488355328->(∀(f:Field),Mem f (bT h y)->f.b.length<=16384)/\bf u (t.length<=20000/\(W (dG u t v)->(¬dG u t v=a\/decide (eO u t v=b)=false->p/\q/\o/\j/\a=d.id/\a=d.n/\s/\z/\g.r=[]/\6=g.e)/\(dG u t v=a/\decide (eO u t v=b)=true->bc u d (t=g.r/\a=g.e))))))) (a=d.set) (a=d.seq) (a=d.kind) (a=d.a6) (d.c6=[]) (n9.mk []=d.text)) (dr h y) (cw (bT h y)) (0:Int) g.c) (aV b).2 (bE v) (cP b v) (aV b).1);repeat' first|(with_reducible first|apply aH|refine aI ?_|intro)|exact aZ|(rw[tq1 Y]<;>rfl)|(rw[tq2 Y Y Y]<;>rfl)|(rw[tq3 Y Y]<;>rfl)|(rw[tq4 Y Y Y ap]<;>rfl)|(rw[tq5 Y Y Y Y Y]<;>rfl)|exact(Uc (S2 Y Y) _ ap)|(have B:=tY (aV b).1 (bE v);have C:=HX b;omega)
def pO:=(ae Vd Gh)
def p1n{p:List UInt8}(h:p++bm r=bm n)(a:¬r<128):(p++[ofNat ((r%128+128)%18446744073709551616)])++bm (r/128)=bm n:=by
 rw[E9 (show r%128+128<18446744073709551616 by omega)];exact Ma h a
variable{x:UInt8}
def p1l{p:List UInt8}(h:p++bm r=bm n)(a:n<18446744073709551616):(p.length+[x].length)*1<=140737488355328:=by
 have:=Nu h a;rw[Q5];omega
def aj_(n:z8):List (Nat×LI):=[(2,{σ:=List UInt8×Nat,F:=λs=>([(0,one (.u64 s.2)),(3,one (.own 0))],[.row 5 .u8 (s.1)]),J:=λs=>s.1++bm s.2=bm n.n/\s.2<18446744073709551616/\n.n<18446744073709551616,μ:=λs=>s.2})]
theorem abe:CK 186 (aD (ak (kC cU) bS) av λ(n,_) _=>⟨[],[.c (.own 0)],some ([.row 5 .u8 (bm n.n)]),true⟩):=ag λ(n,_) _ _=>by
 refine bU pO (aj_ n) func186 (?_:(λ(a:Nat)(d:Nat)=>n.n<a->∃(g:List UInt8×Nat),(n.n=g.2/\g.1=[])/\(g.1++bm g.2=bm n.n/\g.2<a/\n.n<a)/\∀(s:List UInt8×Nat),(λ(h:List (l7 Sh.u8))=>s.1++bm s.2=bm n.n/\s.2<a/\n.n<a->((d:Int)<=(s.2:Int)->0<d/\(s.1.length+h.length)*1<=140737488355328/\0<d/\∃(e:List UInt8×Nat),(s.2/d=e.2/\s.1++h=e.1)/\(e.1++bm e.2=bm n.n/\e.2<a/\n.n<a)/\e.2<s.2)/\((s.2:Int)<(d:Int)->(s.1.length+[ofNat s.2].length)*1<=140737488355328/\s.1++[ofNat s.2]=bm n.n)) [ofNat ((s.2%d+d)%a)]) 18446744073709551616 128);repeat' first|(with_reducible first|apply aH|refine aI ?_|intro)|exact aZ|exact(p1n Y N)|exact(TN Y N)|exact rfl|exact(p1l Y Y)|refine⟨(‹List UInt8×Nat›.1++[ofNat ((‹List UInt8×Nat›.2%128+128)%18446744073709551616)],‹List UInt8×Nat›.2/128),?_⟩|refine⟨([],n.n),?_⟩
theorem Us:CK 242 (aD (ak qo (ak qo bS)) av λ(a,f,_) _=>{rs:=[.c (.bool (.atom (!dM a f)))]}):=ag λ(a,f,_) _ _=>by
 refine al pO [] func242 (?_:W a.num->W a.hC->a.n.n<18446744073709551616->a.b.length*1<=140737488355328->W f.num->W f.hC->f.n.n<18446744073709551616->f.b.length*1<=140737488355328->(decide (f.num<a.num)||decide (f.num=a.num)&&(!decide (a.hC=2)|| !decide (f.hC=2)))= !dM a f);grind[dM]
theorem ad3:CK 268 (aD OO av λ(a,b,n,_) _=>{rs:=[.agg (cellsOf (.nm .spec) (⟨a,0,b,n,false⟩))]}):=ag λ(a,b,n,_) _ _=>by
 refine al pO [] func268 (?_:W a->W b->a=a/\(0:Int)=0/\b=b/\n=n/\false=false);grind
theorem ade:CK 269 (aD (ak dj (ak dj (ak (kC cB) (ak (kC cB) bS)))) av λ(a,b,n,m,_) _=>{rs:=[.agg (cellsOf (.nm .spec) (⟨a,2,b,n,m⟩))]}):=ag λ(a,b,n,m,_) _ _=>by
 refine al pO [] func269 (?_:W a->W b->a=a/\(2:Int)=2/\b=b/\n=n/\m=m);grind
def pt:=(ae ade (ae ad3 (ae Us (ae abe pO))))
def q_(b:List UInt8):Nat->Nat
 |0=>0
 |k+1=>(q_ b k+(b.getD k 0).toNat%128*2^(7*k)%18446744073709551616)%18446744073709551616
def vN(b:List UInt8)(k:Nat)(x:UInt8):Nat:=(q_ b k+(x%ofNat 128).toNat*2^(7*(k:Int)).toNat%18446744073709551616)%18446744073709551616
theorem L3:∀{l:List UInt8} {k n v e:Nat},cd k n l=(v,e,0)->∃u j,v=n+u*2^(7*k)/\e=k+j/\bm u=l.take j/\(0<k->u≠0)
 |[],k,n,v,e,h=>by rw[cd]at h;split at h<;>cases h
 |x::r,k,n,v,e,h=>by
  rw[cd]at h;split at h
  .cases h
  split at h
  .cases h
  rename_i q d;split at h
  .rename_i a;cases h;refine⟨x.toNat,1,by rw[yi a],rfl,?_,λg e=>d (.inl ⟨g,e⟩)⟩;rw[lT a];simp
  rename_i a;obtain⟨u,j,rfl,rfl,o,c⟩:=L3 h;refine⟨x.toNat%128+128*u,j+1,?_,N,?_,λ_ e=>by have:=c N;omega⟩
  .grind[mL]
  have p:=c N;rw[uA N,Ip,show(x.toNat%128+128*u)/128=u by omega,o,M4];congr 1;apply toNat_inj.1;have:=x.toNat_lt;rw[J7];omega
def UP(b:List UInt8)(k:Nat):Prop:=(k<=9->c7 b=cd k (q_ b k) (b.drop k)/\q_ b k<2^(7*k))/\(k=10->c7 b=(0,0,3))
def ao8(b:List UInt8):UP b 0:=⟨λ_=>⟨rfl,show(0:Nat)<2^(7*0) by decide⟩,λh=>by omega⟩
def ap6(h:Wq (UP b k))(a:(k:Int)<10)(c:(b.length:Int)<=(k:Int)):c7 b=(0,0,2):=(h.h.1 N).1.trans (OH N N)
def apO(h:Wq (UP b k))(c:10<=(k:Int))(a:k<=10):c7 b=(0,0,3):=h.h.2 N
def Z_(a:b[k]? =some x):vN b k x=q_ b (k+1):=by
 unfold vN;rw[q_,getD_eq_getElem?_getD,a,show(7*(k:Int)).toNat=7*k by omega,toNat_mod];rfl
def RZ(e:k<=9)(a:q_ b k<2^(7*k))(g:k=9->x.toNat<=1):vN b k x=q_ b k+(x&&&127).toNat*2^(7*k):=by
 have c:=EM e g;have h:=ER (k:=k) (m:=(x&&&127).toNat) a;have d:q_ b k|||(x&&&127).toNat*2^(7*k)<2^64:=O3 (y7 a (Nat.pow_le_pow_right am N)) c;rw[h]at d;unfold vN;rw[show(7*(k:Int)).toNat=7*k by omega,toNat_mod,show(ofNat 128).toNat=128 from rfl,<-mL,E9 c,E9 d]
def anH{y:UInt8}(h:Wq (UP b k))(p:(k:Int)<10)(a:b[k]? =some x)(c:b[k]? =some y)(j:((ofNat 128).toNat:Int)<=(y.toNat:Int)):Wq (UP b (k+1)):=by
 rw[a]at c;cases c;rw[show(ofNat 128).toNat=128 from rfl]at j;obtain⟨d,g⟩:=h.h.1 N;refine⟨λo=>?_,λo=>Ao d N a (.inr ⟨N,N⟩)⟩;have e:=RZ (x:=x) N g N;rw[<-Z_ a,e];exact⟨Ia d N a N N N,yK g⟩
def adD(h:n9.mk (bm (vN b k x))=n9.mk (b.take ((k:Int)+1).toNat))(a:b[k]? =some x):c7 b=(vN b k x,k+1,0):=by
 have c:bm (vN b k x)=b.take (k+1):=by have:=o9 n9.b h;rw[show((k:Int)+1).toNat=k+1 by omega]at this;exact this
 have d:vN b k x<18446744073709551616:=F6 _ am;have e:=jl d (b.drop (k+1));rw[c,E7,sh,I2 (oK a)]at e;exact e
def anw{y:UInt8}(q:¬n9.mk (bm (vN b k x))=n9.mk (b.take ((k:Int)+1).toNat))(h:Wq (UP b k))(A:(k:Int)<10)(a:b[k]? =some x)(d:b[k]? =some y)(s:(y.toNat:Int)<((ofNat 128).toNat:Int)):c7 b=(0,0,3):=by
 rw[a]at d;cases d;rw[show(ofNat 128).toNat=128 from rfl]at s;obtain⟨g,t⟩:=h.h.1 N;by_cases c:(0<k/\x.toNat=0)\/(k=9/\1<x.toNat)
 .exact Ao g N a c
 exfalso;have o:=Hq g N a (λh=>c (.inl h)) (λh=>c (.inr h)) N;have e:=RZ (b:=b) (x:=x) (show k<=9 by omega) t N;rw[<-e]at o;obtain⟨u,j,v,B,p,_⟩:=L3 (k:=0) (n:=0) o;have w:u=vN b k x:=by simpa using v.symm
 have z:j=k+1:=by omega
 rw[w,z]at p;exact q (by rw[show((k:Int)+1).toNat=k+1 by omega,p])
def Wi(b:List UInt8):List (Nat×LI):=[(3,{σ:=Nat,F:=λk=>([(0,one (.fz .u8 b)),(5,one (.u64 (q_ b k))),(6,one (.int k))],[]),J:=λk=>k<=10/\k<=b.length/\Wq (UP b k),μ:=λk=>10-k})]
def alZ(l:List Int):List (Nat×LI):=[(5,{σ:=Nat,F:=λk=>([(0,one (.fz .int l)),(4,one (.own 0)),(5,one (.int k))],[.row 5 .u8 (fP (l.take k))]),J:=λk=>k<=l.length/\bO l=true,μ:=λk=>l.length-k})]
theorem NG:CK 184 (aD gl av λ(b,_) _=>{rs:=[.c (.u64 (z8.mk (c7 b).1).n),.c (.int ((c7 b).2.1:Nat)),.c (.int ((c7 b).2.2))]}):=ag λ(b,_) _ _=>by
 refine al pt (Wi b) func184 (?_:(λv q j w d z u=>(λy=>b.length*1<=140737488355328->∃o,(b=b/\0=q_ b o/\d=(o:Int))/\(o<=10/\o<=b.length/\Wq (UP b o))/\∀(s:Nat),(λa=>(λA e=>s<=10/\s<=b.length/\Wq (UP b s)->(a<10->(j<=a->0=(c7 b).1/\d=v/\2=(c7 b).2.2)/\(a<j->d<=a/\a<j/\∀(x:UInt8),(λg=>(λp=>b[s]? =some x->0<u.toNat/\W (q*a)/\d<=q*a/\q*a<64/\d<=a/\a<j/\∀(x:UInt8),b[s]? =some x->((x.toNat:Int)<(u.toNat:Int)->W e/\(d<=e/\e<=j)/\(¬p->y)/\(p->W e/\g=(c7 b).1/\e=v/\d=(c7 b).2.2))/\((u.toNat:Int)<=(x.toNat:Int)->W e/\∃h,(b=b/\g=q_ b h/\e=(h:Int))/\(h<=10/\h<=b.length/\Wq (UP b h))/\10-h<10-s)) (n9.mk (bm g)=n9.mk (take e.toNat b))) ((q_ b s+(x%u).toNat*A%w)%w)))/\(10<=a->y)) ((2:Nat)^(q*a).toNat) (a+z)) (s:Int)) (0=(c7 b).1/\d=v/\3=(c7 b).2.2)) (↑(c7 b).2.1:Int) (7:Int) (b.length:Int) (18446744073709551616:Nat) (0:Int) (1:Int) (ofNat 128));(repeat' with_reducible first|apply aH|refine aI ?_|intro)
 all_goals try(refine⟨0,?_⟩;(repeat' with_reducible first|apply aH|refine aI ?_|intro))
 all_goals try(refine⟨‹Nat›+1,?_⟩;(repeat' with_reducible first|apply aH|refine aI ?_|intro))
 all_goals(first|exact aZ|exact rfl|exact⟨ao8 b⟩|(rw[ap6 Y Y Y]<;>rfl)|(rw[apO Y Y Y]<;>rfl)|(rw[anw ap Y Y Y Y Y]<;>rfl)|exact(o9 Prod.fst (adD ap Y)).symm|exact(o9 (λt=>((t.2.1:Nat):Int)) (adD ap Y)).symm|exact(o9 (λt=>t.2.2) (adD ap Y)).symm|exact(anH Y Y Y Y Y)|exact(Z_ Y)|decide)
def afC:CK 241 (aD ij av λ(num,a,_) _=>⟨[],[.c (.own 0),.c (.int (kK num a))],some ([.row 5 .u8 (mm num a)]),true⟩):=ag λ(num,a,_) _ _=>by
 refine bU pt [] func241 (?_:(λd=>W num->W a->((num<1\/1000<num)\/¬a=0/\¬a=2->1=kK num a/\mm num a=[])/\((1<=num/\num<=1000)/\(a=0\/a=2)->W (8*num)/\W d/\0<=d/\0=kK num a/\bm d.toNat=mm num a)) (8*num+a));repeat' first|(with_reducible first|apply aH|refine aI ?_|intro)|exact aZ|exact(pY N)|exact(ni N)|exact(tL N).symm|exact(tL N)|exact(Da N)
def adw:CK 240 (aD fj av λ(q,_) _=>{pre:=[q=1],rs:=[.c (.fz (.nm .spec) a_)]}):=ag λ(q,_) _ z=>by
 have A:=bw z;refine al pt [] func240 (?_:(λv w t s o h=>(λj g=>(λd e=>(λy u p a=>W q->(q=e->a->d->a->j->d->a->W o->d->a->W s->d->a->W t->d->a->W w->d->a->W v->j->a->W 8->j->W o->[p,l4.mk h g e false false,y,l4.mk s g e false false,l4.mk t g e false false,l4.mk w g e false false,l4.mk v h e false false,l4.mk 8 h o false false]=a_)/\(¬q=e->(q=h->a->d->a->j->d->a->W o->j->a->W s->d->j->W t->j->W o->[p,u,l4.mk o h e true false,l4.mk s g h false false,l4.mk t h o false false]=a_)/\(¬q=h->(q=o->a->d->a->j->d->a->[p,u]=a_)/\(¬q=o->(q=s->a->d->a->j->d->a->W o->d->a->W s->d->a->[p,l4.mk h g e false false,y,l4.mk s g e false false]=a_)/\(¬q=s->(q=t->a->d->a->j->d->a->W o->d->a->W s->j->a->W t->j->a->W w->j->a->W v->d->W o->[p,u,y,l4.mk s h e false true,l4.mk t h e false true,l4.mk w h e false true,l4.mk v g o false false]=a_)/\(¬q=t->(q=w->a->d->a->j->d->a->W o->d->a->W s->d->a->W t->d->a->W w->d->a->W v->d->a->W 8->d->a->W 9->d->a->W 10->j->a->[p,u,l4.mk o g e true false,l4.mk s g e true false,l4.mk t g e false false,l4.mk w g e false false,l4.mk v g e false false,l4.mk 8 g e false false,l4.mk 9 g e false false,l4.mk 10 h e false true]=a_)/\(¬q=w->(q=v->a->d->a->j->j->a->[p,l4.mk h h e false false]=a_)/\(¬q=v->a_=[])))))))) (l4.mk o g e false false) (l4.mk h g e true false) (l4.mk e g e true false) (W e)) (W g) (1:Int)) (W h) (0:Int)) (7:Int) (6:Int) (5:Int) (4:Int) (3:Int) (2:Int));subst A;(repeat' with_reducible first|apply aH|refine aI ?_|intro);all_goals(first|exact aZ|exact rfl)
theorem ad6:CK 220 (aD iS av λ(l,_) _=>⟨[],[.c (.own 0),.c (.int (cO l))],some ([.row 5 .u8 (bK l)]),true⟩):=ag λ(l,_) _ _=>by
 refine bU pt (alZ l) func220 (?_:(λ(a:Prop)=>l.length*8<=140737488355328->(bO l=false->1=cO l/\bK l=[])/\(a->∃(e:Nat),(l=l/\0=(e:Int)/\fP (take e l)=[])/\(e<=l.length/\a)/\∀(s:Nat),s<=l.length/\a->((s:Int)<(l.length:Int)->0<=(s:Int)/\(s:Int)<(l.length:Int)/\∀(x:Int),l[s]? =some x->W x->0<=x/\((fP (take s l)).length+(bm x.toNat).length)*1<=140737488355328/\W ((s:Int)+1)/\∃(d:Nat),(l=l/\(s:Int)+1=(d:Int)/\fP (take s l)++bm x.toNat=fP (take d l))/\(d<=l.length/\a)/\l.length-d<l.length-s)/\((l.length:Int)<=(s:Int)->0=cO l/\fP (take s l)=bK l))) (bO l=true));repeat' first|(with_reducible first|apply aH|refine aI ?_|intro)|exact aZ|exact rfl|exact(rA Y).symm|exact(rA Y)|exact(ly Y)|exact(mP Y)|exact(Az Y N)|exact(xC Y)|exact(ajp Y Y)|exact(PM Y Y)|refine⟨‹Nat›+1,?_⟩|refine⟨0,?_⟩
def jZ:=(ae ad6 (ae adw (ae afC (ae NG pt))))
def Av(c:b6)(k:Nat):List Field:=((List.range k).map λj=>ou (j+1:Nat) ([c.kind,c.a6,c.seq,c.set,c.id,c.n].getD j 0)).flatten
def qv{c:b6}:Av c (k+1)=Av c k++ou ((k:Int)+1) ([c.kind,c.a6,c.seq,c.set,c.id,c.n].getD k (c4 .int)):=by
 unfold Av;rw[K8,L0,List.flatten_append];simp;rfl
def alb{c:b6}(h:¬[c.kind,c.a6,c.seq,c.set,c.id,c.n].getD k (c4 .int)=0):Av c k++[Field.mk ((k:Int)+1) 0 (z8.mk ([c.kind,c.a6,c.seq,c.set,c.id,c.n].getD k (c4 .int)).toNat) []]=Av c (k+1):=by rw[qv,ou,X h]
def aka{c:b6}(h:[c.kind,c.a6,c.seq,c.set,c.id,c.n].getD k (c4 .int)=0):Av c k=Av c (k+1):=by rw[qv,ou,O h,A1]
theorem IE(c:b6):∀k,(Av c k).length<=k
 |0=>tw _
 |k+1=>by
  have:=IE c k;have:=il ((k:Int)+1) ([c.kind,c.a6,c.seq,c.set,c.id,c.n].getD k (c4 .int));rw[qv,s8];omega
def ai3{c:b6}(a:0<=c.kind)(d:0<=c.a6)(e:0<=c.seq)(g:0<=c.set)(h:0<=c.id)(j:0<=c.n):0<=[c.kind,c.a6,c.seq,c.set,c.id,c.n].getD k (c4 .int):=by
 match k with
 |0=>exact a
 |1=>exact d
 |2=>exact e
 |3=>exact g
 |4=>exact h
 |5=>exact j
 |k+6=>exact x5 0
theorem DI{c:b6}(a:k<=6)(h:(([c.kind,c.a6,c.seq,c.set,c.id,c.n].length:Nat):Int)<=(k:Int)):Av c k++sF 7 (bK c.c6)=px c:=by
 have d:6<=k:=Int.ofNat_le.1 h;have e:k=6:=by omega
 subst e;rw[qv,qv,qv,qv,qv,qv];rfl
def b7y{c:b6}(a:c.c6.length=0\/bO c.c6=true)(d:0<(c.c6.length:Int)):[Field.mk 7 2 (z8.mk 0) (bK c.c6)]=sF 7 (bK c.c6):=by
 have a:=a.resolve_left N;rw[sF,O];rw[(sd a).1,K9];exact d
theorem b7n{c:b6}(a:(c.c6.length:Int)<=0):sF 7 (bK c.c6)=[]:=by
 rw[A6 (l:=c.c6) N];rfl
def ahw{c:b6}{v:Int}(a:k<=6)(h:(([c.kind,c.a6,c.seq,c.set,c.id,c.n].length:Nat):Int)<=(k:Int))(d:c.c6.length=0\/bO c.c6=true)(e:0<(c.c6.length:Int))(g:0<(c.text.b.length:Int))(j:3<=v):Av c k++[Field.mk 7 2 (z8.mk 0) (bK c.c6)]++[Field.mk 8 2 (z8.mk 0) c.text.b]=bI c v:=by
 rw[b7y d e,DI a h,bI,O j,sF,O g]
def aku{c:b6}{v:Int}(a:k<=6)(h:(([c.kind,c.a6,c.seq,c.set,c.id,c.n].length:Nat):Int)<=(k:Int))(d:c.c6.length=0\/bO c.c6=true)(e:0<(c.c6.length:Int))(g:(c.text.b.length:Int)<=0\/v<3):Av c k++[Field.mk 7 2 (z8.mk 0) (bK c.c6)]=bI c v:=by
 rw[b7y d e,DI a h,bI];split
 .rw[sF,X N,A1]
 rfl
def ag1{c:b6}{v:Int}(a:k<=6)(h:(([c.kind,c.a6,c.seq,c.set,c.id,c.n].length:Nat):Int)<=(k:Int))(d:(c.c6.length:Int)<=0)(e:0<(c.text.b.length:Int))(g:3<=v):Av c k++[Field.mk 8 2 (z8.mk 0) c.text.b]=bI c v:=by
 rw[bI,O g,sF,O e,<-DI a h,b7n d,A1]
theorem ajC{c:b6}{v:Int}(a:k<=6)(h:(([c.kind,c.a6,c.seq,c.set,c.id,c.n].length:Nat):Int)<=(k:Int))(d:(c.c6.length:Int)<=0)(e:(c.text.b.length:Int)<=0\/v<3):Av c k=bI c v:=by
 rw[bI];split
 .rw[sF,X N,A1,<-DI a h,b7n d,A1]
 grind[DI,b7n]
theorem t2A(h:(c7 b).2.2=0)(a:(c7 b).1<8008)(c:¬kK (cF ((c7 b).1/8)) (cF ((c7 b).1%8))=0):aE b=⟨0,0,0,6⟩:=by grind[ja,zG,ni]
def t2B(h:(c7 b).2.2=0)(a:8008<=(c7 b).1):aE b=⟨0,0,0,6⟩:=zG h N
theorem t2C(h:(c7 b).2.2=0)(a:(c7 b).1<8008)(c:kK (cF ((c7 b).1/8)) (cF ((c7 b).1%8))=0):cF ((c7 b).1/8)=(aE b).num/\cF ((c7 b).1%8)=(aE b).hC/\(((c7 b).2.1:Nat):Int)=((aE b).k:Nat)/\0=(aE b).e:=by grind[ja,pY,EC]
variable{x:Field}
def ar2{v:Int}{y:Field}(h:y.num<=v)(a:l[k]? =some y)(c:l[k]? =some x):bT (l.take k) v++[x]=bT (l.take (k+1)) v:=by rw[a]at c;cases c;exact akX a h
def arH{v:Int}{y:Field}(h:v<y.num)(a:l[k]? =some y):bT (l.take k) v=bT (l.take (k+1)) v:=agE a N
def aqY{v:Int}{y:Field}(h:v<y.num)(a:l[k]? =some y)(c:l[k]? =some x):dr (l.take k) v++[x]=dr (l.take (k+1)) v:=by rw[a]at c;cases c;exact aks a N
def aqh{v:Int}{y:Field}(h:y.num<=v)(a:l[k]? =some y):dr (l.take k) v=dr (l.take (k+1)) v:=aiF a h
def xp(v:Int)(k:Nat):List l4:=if 1<=v/\v<=3 then(a_.take k).filter (λs=>decide (s.since<=v))else[]
def al7{v:Int}:xp v 0=[]:=by unfold xp;split<;>rfl
def ajR{v:Int}{x:l4}(a:1<=v)(c:v<=3)(h:(a_.getD k (c4 (.nm .spec))).since<=v)(d:a_[k]? =some x):xp v k++[x]=xp v (k+1):=by
 rw[getD_eq_getElem?_getD,d]at h;unfold xp;rw[O ⟨a,c⟩,O ⟨a,c⟩];exact Aw d h
theorem ajZ{v:Int}(h:(v<1\/3<v)\/v<(a_.getD k (c4 (.nm .spec))).since)(c:k<8):xp v k=xp v (k+1):=by
 unfold xp;have d:a_[k]? =some (a_.getD k (c4 (.nm .spec))):=by rw[getD_eq_getElem?_getD,r5 (show k<a_.length from c)];rfl
 by_cases a:1<=v/\v<=3
 .grind[Hv]
 rw[X a,X a]
theorem aiu{v:Int}{x:l4}:((xp v k).length+[x].length)*32<=140737488355328:=by
 unfold xp;split
 .have:=Br (v:=v) (k:=k);rw[Q5];omega
 grind
theorem akH{v:Int}(c:8<=(k:Int)):xp v k=aJ v:=by
 unfold xp;by_cases a:1<=v/\v<=3
 .grind[aa6]
 rw[X a,aJ,O N]
def Ys(q:Int)(v:Int):List (Nat×LI):=[(4,{σ:=Nat,F:=λk=>([(1,one (.int v)),(5,one (.own 0)),(6,one (.fz (.nm .spec) a_)),(7,one (.int k))],[.row 235 (.nm .spec) (xp v k)]),J:=λk=>k<=8,μ:=λk=>8-k})]
def aed(b:List UInt8):List (Nat×LI):=[(3,{σ:=Nat,F:=λk=>([(0,one (.fz .u8 b)),(4,one (.own 0)),(5,one (.int k))],[.row 3 .int (bN (b.take k))]),J:=λk=>k<=b.length,μ:=λk=>b.length-k})]
def XG(l:List Field)(v:Int):List (Nat×LI):=[(4,{σ:=Nat,F:=λk=>([(0,one (.fz (.nm .field) l)),(1,one (.int v)),(6,one (.own 0)),(7,one (.own 1)),(8,one (.int k))],[.row 216 (.nm .field) (bT (l.take k) v),.row 216 (.nm .field) (dr (l.take k) v)]),J:=λk=>k<=l.length,μ:=λk=>l.length-k})]
def QB(c:b6)(v:Int):List (Nat×LI):=[(4,{σ:=Nat,F:=λk=>([(1,one (.int v)),(2,one (.ptr 0 0)),(5,one (.own 2)),(6,one (.own 1)),(7,one (.int k))],[.box 37 (cellsOf (.nm .command) c),.row 3 .int ([c.kind,c.a6,c.seq,c.set,c.id,c.n]),.row 216 (.nm .field) (Av c k)]),J:=λk=>k<=6,μ:=λk=>6-k})]
def MD:CK 313 (aD gl av λ(b,_) _=>{rs:=[.c (.int ((aE b).num)),.c (.int ((aE b).hC)),.c (.int ((aE b).k:Nat)),.c (.int ((aE b).e))]}):=ag λ(b,_) _ _=>by
 refine al jZ [] func313 (?_:(λh j a g d=>(λp o=>b.length*(1:Nat)<=(140737488355328:Nat)->g<(18446744073709551616:Nat)->W (↑(c7 b).2.1:Int)->W j->(¬j=d->d=a.num/\d=a.hC/\d=(a.k:Int)/\j=a.e)/\(j=d->((↑(8008:Nat):Int)<=(g:Int)->p)/\((g:Int)<(↑(8008:Nat):Int)->(0:Nat)<h/\(0:Nat)<h/\(W o->(¬o=d->p)/\(o=d->cF (g/h)=a.num/\cF (g%h)=a.hC/\(↑(c7 b).2.1:Int)=(a.k:Int)/\d=a.e))))) (d=a.num/\d=a.hC/\d=(a.k:Int)/\(6:Int)=a.e) (kK (cF (g/h)) (cF (g%h)))) (8:Nat) (c7 b).2.2 (aE b) (c7 b).1 (0:Int));repeat' first|(with_reducible first|apply aH|refine aI ?_|intro)|exact aZ|(rw[zS Y]<;>rfl)|(rw[t2A Y N Y]<;>rfl)|(rw[t2B Y N]<;>rfl)|exact(t2C Y N Y).1|exact(t2C Y N Y).2.1|exact(t2C Y N Y).2.2.1|exact(t2C Y N Y).2.2.2|(have:=(lr (l:=b) (k:=0) (n:=0) N).1;change(c7 b).2.1<=11 at this;omega)|decide
def aeE:CK 219 (aD (ak qo bS) av λ(f,_) _=>⟨[f.b.length<=16384],[.c (.own 0)],some ([.row 5 .u8 (bW f)]),true⟩):=ag λ(f,_) _ e=>by
 have g:=bw e;refine bU jZ [] func219 (?_:(λ(a:Nat)(d:List UInt8)=>W f.num->W f.hC->f.n.n<18446744073709551616->a*1<=140737488355328->W (kK f.num f.hC)->(f.hC=0->(d.length+(bm f.n.n).length)*1<=140737488355328/\d++bm f.n.n=bW f)/\(¬f.hC=0->0<=(a:Int)/\(d.length+(bm a).length)*1<=140737488355328/\((d++bm a).length+a)*1<=140737488355328/\d++bm a++f.b=bW f)) f.b.length (mm f.num f.hC));repeat' first|(with_reducible first|apply aH|refine aI ?_|intro)|exact aZ|exact(GH Y)|exact(Gu Y)|(have:=kV f.num f.hC;have:=cH (n:=f.n.n) Y;omega)|(have:=kV f.num f.hC;have:=cH (n:=f.b.length) N;(try simp only[s8]);omega)
theorem Of:CK 217 (aD ij av λ(q,v,_) _=>{pre:=[q=1],rs:=[.c (.fz (.nm .spec) (aJ v))]}):=ag λ(q,v,_) _ u=>by
 have y:=bw u;refine al jZ (Ys q v) func217 (?_:(λ(w:l7 (Sh.nm NT.spec))=>(λ(g:Int)(j:Int)(e:Nat)=>(λ(o:Prop)=>W q->W v->q=g/\(a_.length*32<=140737488355328->∃(p:Nat),(v=v/\a_=a_/\0=(p:Int)/\xp v p=[])/\p<=e/\∀(s:Nat),(λ(a:Int)=>(λ(h:l7 (Sh.nm NT.spec))=>s<=e->(a<j->(o->0<=a/\a<j)/\((o->W h.num/\W h.hC/\W h.since)->(o/\h.since<=v->0<=a/\a<j/\∀(x:l4),a_[s]? =some x->kj x (((xp v s).length+[x].length)*32<=140737488355328/\W (a+g)/\∃(d:Nat),(v=v/\a_=a_/\a+g=(d:Int)/\xp v s++[x]=xp v d)/\d<=e/\e-d<e-s))/\((v<g\/3<v)\/v<h.since->W (a+g)/\∃(d:Nat),(v=v/\a_=a_/\a+g=(d:Int)/\xp v s=xp v d)/\d<=e/\e-d<e-s)))/\(j<=a->xp v s=aJ v)) (a_.getD s w)) (s:Int))) (g<=v/\v<=3)) 1 (a_.length:Int) 8) (c4 (Sh.nm NT.spec)));repeat' first|(with_reducible first|apply aH|refine aI ?_|intro)|exact aZ|exact al7|exact(ajR Y Y Y Y)|exact(ajZ ap (by have t:a_.length=8:=rfl;omega))|exact aiu|exact(akH (by have t:a_.length=8:=rfl;omega))|(have t:a_.length=8:=rfl;omega)|refine⟨‹Nat›+1,?_⟩|refine⟨0,?_⟩
theorem Vy:CK 259 (aD gl av λ(b,_) _=>{pre:=[b.length<=100000],rs:=[.c (.fz .int (gj b)),.c (.int (jr b))]}):=ag λ(b,_) _ g=>by
 have h:=bw g;refine al jZ (aed b) func259 (?_:b.length*1<=140737488355328->∃(e:Nat),(b=b/\0=(e:Int)/\bN (take e b)=[])/\e<=b.length/\∀(s:Nat),(λ(a:List Int)=>s<=b.length->((s:Int)<(b.length:Int)->0<=(s:Int)/\(s:Int)<(b.length:Int)/\∀(x:UInt8),b[s]? =some x->(a.length+[(x.toNat:Int)].length)*8<=140737488355328/\W ((s:Int)+1)/\∃(d:Nat),(b=b/\(s:Int)+1=(d:Int)/\a++[(x.toNat:Int)]=bN (take d b))/\d<=b.length/\b.length-d<b.length-s)/\((b.length:Int)<=(s:Int)->W (cO a)->(¬cO a=0\/¬n9.mk (bK a)=n9.mk b->gj b=[]/\6=jr b)/\(cO a=0/\n9.mk (bK a)=n9.mk b->a=gj b/\0=jr b))) (bN (take s b)));repeat' first|(with_reducible first|apply aH|refine aI ?_|intro)|exact aZ|exact rfl|exact(sB (yQ (k:=‹Nat›) N ap)).symm|exact(sB (yQ (k:=‹Nat›) N ap))|exact(FR (yQ (k:=‹Nat›) N ap))|exact(GB N (Qm Y))|exact(HO (k:=‹Nat›) N (Qm Y))|exact(Nl Y)|exact(Qz N N)|refine⟨‹Nat›+1,?_⟩|refine⟨0,?_⟩
def adE:CK 195 (aD uB av λ(c,v,_) _=>{rs:=[.c (.bool (.atom (fh c v)))]}):=ag λ(c,v,_) _ _=>by
 refine al jZ [] func195 (?_:(λa=>bf c (W v->W (br c.kind)->(aM c.kind 1 99&&(decide (br c.kind=a)||decide (v<br c.kind))&&(aM c.a6 a 1048576&&aM c.seq a 1048576&&aM c.set a 1048576&&aM c.id a 1048576&&aM c.n a 1048576)&&(decide ((c.c6.length:Int)=a)||bO c.c6)&&(decide ((c.text.b.length:Int)=a)||decide (3<=v)&&decide ((c.text.b.length:Int)<=16)))=fh c v)) (0:Int));repeat' first|(with_reducible first|apply aH|refine aI ?_|intro)|exact aZ|(unfold fh sI;rfl)
theorem Na:CK 258 (aD (ak Cv fj) av λ(l,v,_) _=>{rs:=[.c (.fz (.nm .field) (bT l v)),.c (.fz (.nm .field) (dr l v))]}):=ag λ(l,v,_) _ _=>by
 refine al jZ (XG l v) func258 (?_:(λ(g:Nat)(d:Nat)(q:Int)=>l.length*48<=g->W v->∃(h:Nat),(l=l/\v=v/\0=(h:Int)/\bT (take h l) v=[]/\dr (take h l) v=[])/\h<=d/\∀(s:Nat),(λ(j:Prop)(p:Prop)(e:List Field)(o:Int)=>s<=d->(j->p/\j/\∀(x:Field),l[s]? =some x->W x.num->W x.hC->x.n.n<18446744073709551616->x.b.length*1<=g->(x.num<=v->p/\j/\∀(x:Field),l[s]? =some x->W x.num->W x.hC->x.n.n<18446744073709551616->x.b.length*1<=g->((bT e v).length+[x].length)*48<=g/\W o/\∃(a:Nat),(l=l/\v=v/\o=(a:Int)/\bT e v++[x]=bT (take a l) v/\dr e v=dr (take a l) v)/\a<=d/\d-a<d-s)/\(v<x.num->p/\j/\∀(x:Field),l[s]? =some x->W x.num->W x.hC->x.n.n<18446744073709551616->x.b.length*1<=g->((dr e v).length+[x].length)*48<=g/\W o/\∃(a:Nat),(l=l/\v=v/\o=(a:Int)/\bT e v=bT (take a l) v/\dr e v++[x]=dr (take a l) v)/\a<=d/\d-a<d-s))/\(q<=(s:Int)->bT e v=bT l v/\dr e v=dr l v)) ((s:Int)<q) (0<=(s:Int)) (take s l) ((s:Int)+1)) 140737488355328 l.length (l.length:Int));repeat' first|(with_reducible first|apply aH|refine aI ?_|intro)|exact aZ|exact ak7|exact aiW|exact(ar2 Y Y Y)|exact(arH Y Y)|exact(aqY Y Y Y)|exact(aqh Y Y)|exact(ahy N)|exact(ajT N)|(have t:=IH (l.take ‹Nat›) v;have u:=tY (l.take ‹Nat›) v;rw[sh]at t u;simp only[x7,B2];omega)|refine⟨‹Nat›+1,?_⟩|refine⟨0,?_⟩
theorem KE:CK 198 (aD uB av λ(c,v,_) _=>⟨[0<=c.kind,0<=c.a6,0<=c.seq,0<=c.set,0<=c.id,0<=c.n,c.c6.length=0\/bO c.c6=true],[.c (.own 0)],some ([.row 216 (.nm .field) (bI c v)]),true⟩):=ag λ(c,v,_) _ o=>by
 have C:=bw o;have D:=bw (de o);have F:=bw (de (de o));have G:=bw (de (de (de o)));have H:=bw (de (de (de (de o))));have I:=bw (de (de (de (de (de o)))));have J:=bw (de (de (de (de (de (de o))))));refine bU jZ (QB c v) func198 (?_:(λ(z:l7 Sh.int)(A:Int)(h:Nat)(q:Int)(e:Int)=>(λ(t:List (l7 (Sh.nm NT.field)))=>(λ(u:List (l7 (Sh.nm NT.field)))=>(λ(j:List (l7 Sh.int))=>(λ(w:Int)=>bf c (W v->∃(y:Nat),(v=v/\e=(y:Int)/\bc c c (j=j/\Av c y=[]))/\y<=h/\∀(s:Nat),(λ(a:List Field)(d:l7 Sh.int)(p:Int)=>s<=h->((s:Int)<w->e<=(s:Int)/\(s:Int)<w/\(W d->(¬d=e->W p/\e<=(s:Int)/\(s:Int)<w/\(W d->e<=d/\(a.length+[Field.mk p e (z8.mk (Int.toNat d)) []].length)*48<=140737488355328/\W p/\∃(g:Nat),(v=v/\p=(g:Int)/\bc c c (j=j/\a++[Field.mk p e (z8.mk (Int.toNat d)) []]=Av c g))/\g<=h/\h-g<h-s))/\(d=e->W p/\∃(g:Nat),(v=v/\p=(g:Int)/\bc c c (j=j/\a=Av c g))/\g<=h/\h-g<h-s)))/\(w<=(s:Int)->(e<(c.c6.length:Int)->W (cO c.c6)->(a.length+u.length)*48<=140737488355328/\(e<q/\3<=v->((a++u).length+t.length)*48<=140737488355328/\a++u++t=bI c v)/\(q<=e\/v<3->a++u=bI c v))/\((c.c6.length:Int)<=e->(e<q/\3<=v->(a.length+t.length)*48<=140737488355328/\a++t=bI c v)/\(q<=e\/v<3->a=bI c v)))) (Av c s) (j.getD s z) ((s:Int)+A))) (j.length:Int)) [c.kind,c.a6,c.seq,c.set,c.id,c.n]) [Field.mk 7 2 (z8.mk 0) (bK c.c6)]) [Field.mk 8 2 (z8.mk 0) c.text.b]) (c4 Sh.int) 1 6 (c.text.b.length:Int) 0);repeat' first|(with_reducible first|apply aH|refine aI ?_|intro)|exact aZ|exact rfl|exact(alb Y)|exact(aka Y)|exact(ai3 Y Y Y Y Y Y)|exact(ahw Y Y Y Y Y Y)|exact(aku Y Y Y Y ap)|exact(ag1 Y Y Y Y Y)|exact(ajC Y Y Y ap)|(have B:((‹Nat›:Nat):Int)<(([c.kind,c.a6,c.seq,c.set,c.id,c.n].length:Nat):Int):=Y;simp only[x7,B2]at B;omega)|(have:=IE c ‹Nat›;(try simp only[s8]);simp only[x7,B2];omega)|refine⟨‹Nat›+1,?_⟩|refine⟨0,?_⟩
def tM:=(ae KE (ae Na (ae adE (ae Vy (ae Of (ae aeE (ae MD jZ)))))))
def pU(l:List Field)(k:Nat):Prop:=∀j y,j<k->l[j]? =some y->y.b.length<=16384
def aqS:pU l 0:=λj y h=>by omega
theorem aof(h:Wq (pU l k))(d:l[k]? =some x)(e:(x.b.length:Int)<=16384):Wq (pU l (k+1)):=⟨λj y g a=>by
 by_cases c:j=k
 .grind
 exact h.h j y N a⟩
def aqu(h:Wq (pU l k))(a:l.length<=k):Wq (pU l l.length):=⟨λj y c=>h.h j y N⟩
def aij(h:Wq (pU l l.length))(a:l[k]? =some x):x.b.length<=16384:=h.h k x (oK a) a
def m3e(x:Field):((¬kK x.num x.hC=0\/x.hC=0/\0<((x.b.length:Nat):Int))\/x.hC=2/\¬((x.n.n:Nat):Int)=0)↔du x=false:=by
 have e:=RL (f:=x);rw[E8]at e;simpa only[H2,r3,S9,u9,J2] using e
def m3a(h:(¬kK x.num x.hC=0\/x.hC=0/\0<((x.b.length:Nat):Int))\/x.hC=2/\¬((x.n.n:Nat):Int)=((0:Nat):Int)):du x=false:=(m3e x).1 h
def m3b(a:kK x.num x.hC=0)(c:¬x.hC=0\/((x.b.length:Nat):Int)<=0)(d:¬x.hC=2\/((x.n.n:Nat):Int)=((0:Nat):Int)):du x=true:=by
 rw[<-Bool.not_eq_false,<-m3e];omega
def m3r{b:Bool}(h:(!b)=true):b=false:=by simpa using h
def m3p{n:Int}{b:Bool}(h:n<=0\/(!b)=false):n<=0\/b=true:=h.imp_right aa
def aoY(h:dT none l=0)(c:l.length<=k)(a:(16384:Int)<((fO (l.take k):Nat):Int)):4=ck l:=by
 rw[take_of_length_le c]at a;rw[ck,O h,O a]
def ar1(h:dT none l=0)(c:l.length<=k)(a:¬(16384:Int)<((fO (l.take k):Nat):Int)):0=ck l:=by
 rw[take_of_length_le c]at a;rw[ck,O h,X a]
def ahB(h:(aE b).e=0)(a:(c7 (b.drop (aE b).k)).2.2=0)(c:¬(aE b).hC=0)(d:(c7 (b.drop (aE b).k)).1<=16384)(g:((b.length:Nat):Int)-((aE b).k:Int)-((c7 (b.drop (aE b).k)).2.1:Nat)<cF (c7 (b.drop (aE b).k)).1):(0:Int)=((aT b).1:Nat)/\2=(aT b).2:=acB h a c d N
def aj6(h:(aE b).e=0)(a:(c7 (b.drop (aE b).k)).2.2=0)(c:¬(aE b).hC=0)(d:(c7 (b.drop (aE b).k)).1<=16384)(g:cF (c7 (b.drop (aE b).k)).1<=((b.length:Nat):Int)-((aE b).k:Int)-((c7 (b.drop (aE b).k)).2.1:Nat)):((aE b).k:Int)+((c7 (b.drop (aE b).k)).2.1:Nat)+cF (c7 (b.drop (aE b).k)).1=((aT b).1:Nat)/\0=(aT b).2:=ad2 h a c d N
def ag4(l:List Field):List (Nat×LI):=[(2,{σ:=Nat,F:=λk=>([(0,one (.fz (.nm .field) l)),(3,one (.int k))],[]),J:=λk=>k<=l.length/\dT none l=dT (ft l k) (l.drop k)/\Wq (pU l k),μ:=λk=>l.length-k}),(14,{σ:=Nat,F:=λk=>([(0,one (.fz (.nm .field) l)),(7,one (.int (fO (l.take k):Nat))),(8,one (.int k))],[]),J:=λk=>k<=l.length/\dT none l=0/\fO (l.take k)<=k*16404/\Wq (pU l l.length),μ:=λk=>l.length-k})]
def ajk(q:Int)(v:Int):List (Nat×LI):=[(4,{σ:=Nat,F:=λk=>([(5,one (.int (((aJ v).take k).foldl (λt s=>max t s.num) 0))),(6,one (.fz (.nm .spec) (aJ v))),(7,one (.int k))],[]),J:=λk=>k<=(aJ v).length,μ:=λk=>(aJ v).length-k})]
def VJ:CK 312 (aD gl av λ(b,_) _=>{rs:=[.c (.int ((aT b).1:Nat)),.c (.int ((aT b).2))]}):=ag λ(b,_) _ _=>by
 refine al tM [] func312 (?_:(λd q h g=>(λp j a=>(λs=>(λt o=>b.length*(1:Nat)<=(140737488355328:Nat)->W d.num->W d.hC->W j->W d.e->(¬d.e=g->p/\d.e=h)/\(d.e=g->g<=j/\j<=q/\(a.1<(18446744073709551616:Nat)->W s->W a.2.2->(¬a.2.2=g->p/\a.2.2=h)/\(a.2.2=g->(d.hC=g->W o/\o=(↑(aT b).1:Int)/\g=h)/\(¬d.hC=g->((↑(16384:Nat):Int)<(a.1:Int)->p/\(4:Int)=h)/\((a.1:Int)<=(↑(16384:Nat):Int)->W (q-j)/\W t/\(t<cF a.1->p/\(2:Int)=h)/\(cF a.1<=t->W o/\W (o+cF a.1)/\o+cF a.1=(↑(aT b).1:Int)/\g=h))))))) (q-j-s) (j+s)) (a.2.1:Int)) (g=(↑(aT b).1:Int)) (d.k:Int) (c7 (drop d.k b))) (aE b) (b.length:Int) (aT b).2 (0:Int));repeat' first|(with_reducible first|apply aH|refine aI ?_|intro)|exact aZ|(rw[acq Y]<;>rfl)|(rw[aeo Y Y]<;>rfl)|(rw[abK Y Y Y]<;>rfl)|(rw[aes Y Y Y N]<;>rfl)|exact(ahB Y Y Y N Y).1|exact(ahB Y Y Y N Y).2|exact(aj6 Y Y Y N Y).1|exact(aj6 Y Y Y N Y).2|(have u:=lC b;have v:=ke b (aE b).k;first|omega|(refine aY ?_ ?_<;>omega))|(have u:=lC b;have v:=ke b (aE b).k;have w:=ja (m:=(c7 (b.drop (aE b).k)).1) N;first|omega|(refine aY ?_ ?_<;>omega))
theorem adn:CK 218 (aD uH av λ(l,_) _=>{rs:=[.c (.int (ck l))]}):=ag λ(l,_) _ _=>by
 refine al tM (ag4 l) func218 (?_:(λ(y:Int)(z:Prop)=>(λ(A:l7 (Sh.nm NT.field))=>(λ(u:Int)(q:Int)(e:Nat)(j:Int)(d:Int)=>l.length*(48:Nat)<=(140737488355328:Nat)->∃(h:Nat),(l=l/\d=(h:Int))/\(h<=e/\u=dT (ft l h) (drop h l)/\Wq (pU l h))/\∀(s:Nat),(λ(a:Int)=>(λ(v:l7 (Sh.nm NT.field))=>(λ(B:Prop)=>s<=e/\u=dT (ft l s) (drop s l)/\Wq (pU l s)->(a<q->d<=a/\a<q/\∀(x:Field),(λ(t:Int)(o:Int)=>(λ(w:Prop)=>l[s]? =some x->W x.num->W x.hC->x.n.n<(18446744073709551616:Nat)->x.b.length*(1:Nat)<=(140737488355328:Nat)->W t->((¬t=d\/x.hC=d/\d<o)\/x.hC=(2:Int)/\¬(x.n.n:Int)=(↑(0:Nat):Int)->j=ck l)/\((t=d/\(¬x.hC=d\/o<=d))/\(¬x.hC=(2:Int)\/(x.n.n:Int)=(↑(0:Nat):Int))->(d<a->W (a-j)/\(d<=a-j/\a-j<q)/\(W v.num->W v.hC->v.n.n<(18446744073709551616:Nat)->v.b.length*(1:Nat)<=(140737488355328:Nat)->((!dM v x)=true->(5:Int)=ck l)/\((!dM v x)=false->w)))/\(a<=d->w))) ((y<o->z)/\(o<=y->B))) (kK x.num x.hC) (x.b.length:Int))/\(q<=a->∃(h:Nat),(l=l/\d=(↑(fO (take h l)):Int)/\d=(h:Int))/\(h<=e/\u=d/\fO (take h l)<=h*(16404:Nat)/\Wq (pU l e))/\∀(s:Nat),(λ(p:Int)=>s<=e/\u=d/\fO (take s l)<=s*(16404:Nat)/\Wq (pU l e)->((s:Int)<q->d<=(s:Int)/\(s:Int)<q/\∀(x:Field),l[s]? =some x->W x.num->W x.hC->x.n.n<(18446744073709551616:Nat)->x.b.length*(1:Nat)<=(140737488355328:Nat)->x.b.length<=(16384:Nat)/\W (p+(↑(bW x).length:Int))/\W ((s:Int)+j)/\∃(g:Nat),(l=l/\p+(↑(bW x).length:Int)=(↑(fO (take g l)):Int)/\(s:Int)+j=(g:Int))/\(g<=e/\u=d/\fO (take g l)<=g*(16404:Nat)/\Wq (pU l e))/\e-g<e-s)/\(q<=(s:Int)->(y<p->z)/\(p<=y->d=ck l))) (↑(fO (take s l)):Int))) (W (a+j)/\∃(g:Nat),(l=l/\a+j=(g:Int))/\(g<=e/\u=dT (ft l g) (drop g l)/\Wq (pU l g))/\e-g<e-s)) (l.getD (a-j).toNat A)) (s:Int)) (dT none l) (l.length:Int) l.length (1:Int) (0:Int)) (c4 (Sh.nm NT.field))) (16384:Int) ((4:Int)=ck l));(repeat' with_reducible first|apply aH|refine aI ?_|intro)
 all_goals try(refine⟨0,?_⟩;(repeat' with_reducible first|apply aH|refine aI ?_|intro))
 all_goals try(have C:((‹Nat›:Nat):Int)<(l.length:Int):=N;clear C;refine⟨‹Nat›+1,?_⟩;(repeat' with_reducible first|apply aH|refine aI ?_|intro))
 all_goals try(refine⟨0,?_⟩;(repeat' with_reducible first|apply aH|refine aI ?_|intro))
 all_goals try(refine⟨‹Nat›+1,?_⟩;(repeat' with_reducible first|apply aH|refine aI ?_|intro))
 all_goals(first|exact aZ|exact rfl|exact(tw 0)|exact⟨aqS⟩|exact(Ok Y Y (m3a (by first|assumption|exact .inl ap|exact .inr ap)))|exact(Nw Y Y (m3b Y ap ap) N (acD N Y) (m3r Y))|exact(Rg Y Y (m3b Y ap ap) (Gk (m3p (by first|assumption|exact .inl ap|exact .inr ap)) N) Y)|exact(Ax Y Y (m3b Y ap ap) (Gk (m3p (by first|assumption|exact .inl ap|exact .inr ap)) N) N)|exact(aof Y Y Y)|exact(aqu Y N)|exact(aij Y Y)|exact(yE Y N)|exact(aoY (k:=‹Nat›) Y N N)|exact(ar1 (k:=‹Nat›) Y N N)|(have D:=lI (f:=‹Field›) (aij Y Y) Y;have F:=Bm (show l[_]? =some ‹Field› by with_reducible assumption);first|omega|(refine aY ?_ ?_<;>omega)))
theorem abp:CK 196 (aD ij av λ(q,v,_) _=>{pre:=[q=1],rs:=[.c (.int (bE v))]}):=ag λ(q,v,_) _ j=>by
 have o:=bw j;refine al tM (ajk q v) func196 (?_:(λd a=>W q->W v->q=1/\(a.length*32<=140737488355328->∃g,(d=foldl (λt s=>max t s.num) d (take g a)/\a=a/\d=(g:Int))/\g<=a.length/\∀(s:Nat),(λh=>s<=a.length->((s:Int)<(a.length:Int)->d<=(s:Int)/\(s:Int)<(a.length:Int)/\∀(x:l4),a[s]? =some x->kj x (W ((s:Int)+1)/\∃e,(max h x.num=foldl (λt s=>max t s.num) d (take e a)/\a=a/\(s:Int)+1=(e:Int))/\e<=a.length/\a.length-e<a.length-s))/\((a.length:Int)<=(s:Int)->h=bE v)) (foldl (λt s=>max t s.num) d (take s a)))) (0:Int) (aJ v));repeat' first|(with_reducible first|apply aH|refine aI ?_|intro)|exact aZ|exact rfl|exact(DJ Y)|(rw[bE,take_of_length_le N])|refine⟨‹Nat›+1,?_⟩|refine⟨0,?_⟩
def tE:=(ae abp (ae adn (ae VJ tM)))
