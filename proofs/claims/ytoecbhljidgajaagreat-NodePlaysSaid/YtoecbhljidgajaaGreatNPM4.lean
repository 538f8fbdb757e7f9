/- What leads to the law, part 4. Conditions: each lemma's own. -/
import Derived.Laws.CopyRow
import Derived.Lib.AppendZerosOnto
import Derived.Lib.Overlaps
import Derived.RangeFuncLeaves
import Derived.RangeFuncRecord
import Derived.Test.YtoecbhljidgajaaGreatNPM3
set_option linter.unusedVariables false
set_option linter.unusedSimpArgs false
set_option maxHeartbeats 2000000
set_option linter.defProp false
open List (count drop getD_eq_getElem?_getD length_drop range replicate take take_left' take_of_length_le toArray)
open UInt8 (ofNat)
namespace Go.Proofs.YtoecbhljidgajaaGreat
open Go.Proofs.Tryz
open Go.RowKit
def N7:=@Go.World.putObj_heap_other
def K7:=@List.all_cons
def T0:=@of_decide_eq_false
def K0:=@List.foldl_append
def Y0:=@List.getElem_of_mem
def O6:=@Bool.and_true
def x5:=@Int.le_refl
def S7:=@Bool.and_eq_false_iff
def K1:=@List.all_append
def L0:=@List.map_append
def S5:=@List.findIdx?_eq_some_iff_getElem
def F5:=@decide_eq_true
def aso:=@List.mem_take_iff_getElem
def N8:=@List.length_filter_le
def F4:=@List.filter_append
def V2(a b:oh):Prop:=∀c d v,eh c d a v->eh c d b v
def I6:List oh->List oh->Prop
 |[],[]=>True
 |a::r,b::l=>V2 a b/\I6 r l
 |_,_=>False
def I6.rd{c:Cx}{a:List RE}:∀{b d:List oh} {e:List Value},I6 b d->hY (eh c a) b e->hY (eh c a) d e
 |[],[],_,_,h=>h
 |_::_,_::_,_,h,k=>by cases k with|cons f g=>exact .cons (h.1 _ _ _ f) (I6.rd h.2 g)
structure PU(α:Type) where
 p:oh->Option α
 u:α->oh
 ok:∀a y,p a=some y->V2 a (u y)
def kT(s:Sh):PU (l7 s):=⟨λ|.agg l=>iG s l|_=>none,λx=>.agg (cellsOf s x),λa y h=>by
 cases a with
 |c a=>cases h
 |agg l=>exact λc f v ⟨b,e,d⟩=>⟨b,e,jb (ba h (d.imp λ_ _ h=>Rd.qd h))⟩⟩
def kAp(s:Sh)(n:Nat):oh->Option (List (l7 s))
 |.agg l=>match wg s l with
  |some a=>bif Nat.beq a.length n&&Nat.beq s.size 1 then some a else none
  |none=>none
 |.c _=>none
theorem xv{s:Sh}{a:List (l7 s)}:∀(n k:Nat),k+n=a.length->zn s a k n=(a.drop k).flatMap (cellsOf s)
 |0,k,h=>by rw[M1 N];rfl
 |n+1,k,h=>by
  have b:k<a.length:=by omega
  rw[zn,xv n (k+1) N,K6 b,G9,getD_eq_getElem?_getD,r5 b];rfl
def kA(s:Sh)(n:Nat):PU (List (l7 s)):=⟨kAp s n,λb=>.agg (zn s b 0 n),λa y h=>by
 cases a with
 |c a=>cases h
 |agg l=>
  simp only[kAp]at h
  split at h
  .rename_i b g
   cases d:(Nat.beq b.length n&&Nat.beq s.size 1)<;>rw[d]at h<;>cases h
   simp only[r3]at d
   intro c k v i
   obtain⟨f,e,j⟩:=i
   refine⟨f,e,?_⟩
   show hY _ (zn s y 0 n) f
   have:=ts d.1
   rw[xv n 0 N]
   exact jb (mA g j)
  .cases h⟩
def DU(s:Sh)(a:List (l7 s)):Nat->Nat->List (l7 s)
 |_,0=>[]
 |k,n+1=>a.getD k (c4 s)::DU s a (k+1) n
theorem ud{s:Sh}{a:List (l7 s)}:∀(n k:Nat),(DU s a k n).length=n
 |0,_=>rfl
 |n+1,k=>by rw[DU,x7,ud n]
theorem AG{s:Sh}{a:List (l7 s)}:∀(n k:Nat),k+n=a.length->DU s a k n=a.drop k
 |0,k,h=>by rw[M1 N];rfl
 |n+1,k,h=>by
  have b:k<a.length:=by omega
  rw[DU,AG n (k+1) N,K6 b,getD_eq_getElem?_getD,r5 b];rfl
def lR{s:Sh}{xs:List (l7 s)}{n:Nat}(h:xs.length=n):DU s xs 0 n=xs:=AG n 0 N
structure PC(α:Type) where
 p:AV->Option α
 u:α->AV
 ok:∀a y,p a=some y->∀c ρ v,Rd c ρ a v->Rd c ρ (u y) v
def qC{A:AV}{y:AV}(h:∀c v,Qd c A v->Pd c y v):∀c a v,Rd c a A v->Rd c a y v:=λc a v b=>mF (h c v (Rd.qd b))
def cI:PC Int:=⟨AV.bu,.int,λ_ _ h=>qC λ_ _=>Pd.bu h⟩
def cU:PC z8:=⟨AV.P6,λn=>.u64 n.n,λ_ _ h=>qC λ_ _=>Pd.P6 h⟩
def cB:PC Bool:=⟨AV.wW,λb=>.bool (.atom b),λ_ _ h=>qC λ_ _=>Pd.wW h⟩
def cL(s:Sh):PC (List (l7 s)):=⟨AV.iu s,.fz s,λ_ _ h=>qC λ_ _=>Pd.iu h⟩
def Cq:List (Nat×Nat)->List (Nat×Nat)->Bool
 |[],[]=>true
 |(i,o)::r,(j,k)::l=>Nat.beq i j&&Nat.beq o k&&Cq r l
 |_,_=>false
theorem vU:∀{a b:List (Nat×Nat)},Cq a b=true->a=b
 |[],[],_=>rfl
 |(i,o)::r,(j,k)::l,h=>by
  simp only[Cq,r3]at h;rw[ts h.1.1,ts h.1.2,vU h.2]
def cQ(e:AV->Bool)(x:AV)(h:∀a,e a=true->a=x):PC Unit:=⟨λa=>bif e a then some ()else none,λ_=>x,λa y k c f v b=>by
 cases d:e a<;>rw[d]at k
 .cases k
 .rw[h a d]at b;exact b⟩
def iY(i:Nat):PC Unit:=cQ (λ|.own j=>Nat.beq j i|_=>false) (.own i) λa h=>by cases a<;>first|cases h|rw[ts h]
def tk(i o:Nat):PC Unit:=cQ (λ|.ptr j k=>Nat.beq j i&&Nat.beq k o|_=>false) (.ptr i o) λa h=>by
 cases a<;>first|cases h|(simp only[r3]at h;rw[ts h.1,ts h.2])
def ub(f:Nat)(b d:List (Nat×Nat)):PC Unit:=cQ (λ|.fn g e c=>Nat.beq g f&&Cq e b&&Cq c d|_=>false) (.fn f b d) λa h=>by
 cases a<;>first|cases h|(simp only[r3]at h;rw[ts h.1.1,vU h.1.2,vU h.2])
def R4(b:Bool):PC Unit:=cQ (λ|.em c=>c==b|_=>false) (.em b) λa h=>by cases a<;>first|cases h|rw[beq_iff_eq.1 h]
structure PL(α:Type) where
 p:List AV->Option α
 u:α->List AV
 ok:∀l y,p l=some y->∀c ρ vs,hY (Rd c ρ) l vs->hY (Rd c ρ) (u y) vs
def jf:PL Unit:=⟨λ|[]=>some ()|_=>none,λ_=>[],λl y h c b d a=>by cases l<;>first|exact a|cases h⟩
def bg{b d:Type}(A:PC b)(R:PL d):PL (b×d):=⟨λ
 |a::r=>match A.p a,R.p r with
  |some x,some y=>some (x,y)
  |_,_=>none
 |_=>none,λq=>A.u q.1::R.u q.2,λl y h c k m e=>by
 cases l with
 |nil=>cases h
 |cons a r=>
  dsimp only at h
  split at h
  .rename_i f g
   cases h
   cases e with
   |cons i j=>exact .cons (A.ok _ _ f _ _ _ i) (R.ok _ _ g _ _ _ j)
  .cases h⟩
def W6{a:Type}(s:Sh)(R:PL a):PL (l7 s×a):=⟨λl=>match iG s (l.take s.size),R.p (l.drop s.size)with
 |some x,some y=>some (x,y)
 |_,_=>none,λq=>cellsOf s q.1++R.u q.2,λl y h c ρ i b=>by
 split at h
 .rename_i d e
  cases h
  have f:=jb (ρ:=ρ) (ba d ((b.take s.size).imp λ_ _ h=>Rd.qd h))
  have g:=R.ok _ _ e _ _ _ (b.drop s.size)
  have:=f.append g
  rwa[E7]at this
 .cases h⟩
def PL.UQ{b d:Type}(A:PL b)(f:b->d)(g:d->b)(h:∀a,g (f a)=a:=by intros;rfl):PL d:=⟨λl=>(A.p l).map f,λy=>A.u (g y),λl y i c j e k=>by
 obtain⟨a,m,rfl⟩:=I0.1 i
 show hY _ (A.u (g (f a))) e
 rw[h];exact A.ok l a m c j e k⟩
def kC{b:Type}(A:PC b):PU b:=⟨λ|.c a=>A.p a|_=>none,λy=>.c (A.u y),λa y h=>by
 cases a with
 |c a=>exact λc d v e=>A.ok _ _ h c d v e
 |agg l=>cases h⟩
def kG{b:Type}(R:PL b):PU b:=⟨λ|.agg l=>R.p l|_=>none,λy=>.agg (R.u y),λa y h=>by
 cases a with
 |c a=>cases h
 |agg l=>exact λc g v ⟨d,e,f⟩=>⟨d,e,R.ok _ _ h _ _ _ f⟩⟩
structure PT(α:Type) where
 p:List oh->Option α
 u:α->List oh
 ok:∀l y,p l=some y->I6 l (u y)
def bS:PT Unit:=⟨λ|[]=>some ()|_=>none,λ_=>[],λl y h=>by cases l<;>first|exact trivial|cases h⟩
def ak{b c:Type}(A:PU b)(R:PT c):PT (b×c):=⟨λ
 |a::r=>match A.p a,R.p r with
  |some x,some y=>some (x,y)
  |_,_=>none
 |_=>none,λq=>A.u q.1::R.u q.2,λl y h=>by
 cases l with
 |nil=>cases h
 |cons a r=>
  dsimp only at h
  split at h
  .rename_i d e
   cases h
   exact⟨A.ok _ _ d,R.ok _ _ e⟩
  .cases h⟩
structure PO(α:Type) where
 p:AO->Option α
 u:α->AO
 ok:∀o y,p o=some y->∀c ρ r,OR c ρ o r->OR c ρ (u y) r
def iX{b:Type}(t:TypeId)(R:PL b):PO b:=⟨λ|.box a d=>bif Nat.beq a t then R.p d else none|_=>none,λy=>.box t (R.u y),λo y h c m r i=>by
 cases o<;>dsimp only at h<;>try cases h
 rename_i a d
 cases f:Nat.beq a t<;>rw[f]at h
 .cases h
 .have:=ts f
  subst this
  obtain⟨g,j,e,k,l⟩:=i
  exact⟨g,j,e,k,R.ok _ _ h _ _ _ l⟩⟩
def jL(t:TypeId)(s:Sh):PO (List (l7 s)):=⟨λ|.row b d a=>bif Nat.beq b t then(if h:d=s then some (h▸a)else none)else none|_=>none,λa=>.row t s a,λo y h c i r g=>by
 cases o<;>dsimp only at h<;>try cases h
 rename_i b d a
 cases f:Nat.beq b t<;>rw[f]at h
 .cases h
 .have:=ts f
  subst this
  simp only[cond_true]at h
  split at h
  .rename_i e
   subst e
   cases h
   exact g
  .cases h⟩
def afa(t:TypeId)(s:Sh)(n:Nat):PO (List (l7 s)):=⟨λ|.A8 d g f a=>bif Nat.beq d t&&Nat.beq f n then(if h:g=s then some (h▸a)else none)else none|_=>none,λa=>.A8 t s n a,λo y h c j r i=>by
 cases o<;>dsimp only at h<;>try cases h
 rename_i d g f a
 cases b:(Nat.beq d t&&Nat.beq f n)<;>rw[b]at h
 .cases h
 .simp only[r3]at b
  have:=ts b.1
  subst this
  have:=ts b.2
  subst this
  simp only[cond_true]at h
  split at h
  .rename_i e
   subst e
   cases h
   exact i
  .cases h⟩
structure PH(α:Type) where
 p:AH->Option α
 u:α->AH
 ok:∀H y,p H=some y->∀c ρ ρ',hY (OR c ρ) H ρ'->hY (OR c ρ) (u y) ρ'
def av:PH Unit:=⟨λ|[]=>some ()|_=>none,λ_=>[],λl y h c d a b=>by cases l<;>first|exact b|cases h⟩
def bl{b d:Type}(A:PO b)(R:PH d):PH (b×d):=⟨λ
 |a::r=>match A.p a,R.p r with
  |some x,some y=>some (x,y)
  |_,_=>none
 |_=>none,λq=>A.u q.1::R.u q.2,λl y h c m e f=>by
 cases l with
 |nil=>cases h
 |cons a r=>
  dsimp only at h
  split at h
  .rename_i g i
   cases h
   cases f with
   |cons j k=>exact .cons (A.ok _ _ g _ _ _ j) (R.ok _ _ i _ _ _ k)
  .cases h⟩
def PH.UQ{b d:Type}(A:PH b)(f:b->d)(g:d->b)(h:∀a,g (f a)=a:=by intros;rfl):PH d:=⟨λl=>(A.p l).map f,λy=>A.u (g y),λl y i c j e k=>by
 obtain⟨a,m,rfl⟩:=I0.1 i
 show hY _ (A.u (g (f a))) e
 rw[h];exact A.ok l a m c j e k⟩
def oSt(t:TypeId)(s:Sh):PO (l7 s):=iX t (PL.UQ (W6 s jf) (·.1) (λx=>(x,())))
def wN(k:Nat)(s:c5):AH:=[.box 56 [.int s.bo,.int s.next,.int s.dc,.int s.eR,.own (k+1),.own (k+2),.own (k+3)],.row 119 (.nm .c8) s.c8,.row 122 (.nm .opn) s.eb,.row 125 (.nm .snap) s.c3]
def Mi{a:Type}(k:Nat)(R:PH a):PH (c5×a):=PH.UQ (bl (iX 56 (bg cI (bg cI (bg cI (bg cI (bg (iY (k+1)) (bg (iY (k+2)) (bg (iY (k+3)) jf)))))))) (bl (jL 119 (.nm .c8)) (bl (jL 122 (.nm .opn)) (bl (jL 125 (.nm .snap)) R))))
 (λq=>(⟨q.1.1,q.1.2.1,q.1.2.2.1,q.1.2.2.2.1,q.2.1,q.2.2.1,q.2.2.2.1⟩,q.2.2.2.2)) (λq=>((q.1.bo,q.1.next,q.1.dc,q.1.eR,(),(),(),()),q.1.c8,q.1.eb,q.1.c3,q.2))
variable{H H':AH}{f:Nat}
def r8.apo{P:Program}{shp:TypeId->Option Sh}{e g:List oh}{r:B5}(h:r8 P shp f g H' r)(i:I6 e g)(j:∀c d b,hY (OR c d) H b->hY (OR c d) H' b):r8 P shp f e H r:=
 ⟨h.1,λG d w k l a m=>h.2 G d w k l ⟨j _ _ _ a.obj,a.inj,a.u0,a.z,a.b0,a.tb⟩ (i.rd m)⟩
section
variable{α β:Type}{P:Program}{shp:TypeId->Option Sh}{f:Nat}
def aD(A:PT α)(B:PH β)(r:α->β->B5):List oh->AH->Option B5:=λa H=>match A.p a,B.p H with
 |some x,some y=>some (r x y)
 |_,_=>none
def Rs(P:Program)(shp:TypeId->Option Sh)(f:Nat)(k:List oh->AH->Option B5):Prop:=∀args H r,k args H=some r->(∀p∈r.pre,p)->r8 P shp f args H r
def ag{A:PT α}{B:PH β}{r:α->β->B5}(h:∀x y,(∀p∈(r x y).pre,p)->r8 P shp f (A.u x) (B.u y) (r x y)):Rs P shp f (aD A B r):=λargs H R e b=>by
 unfold aD at e;split at e
 .rename_i d g;cases e;exact(h _ _ b).apo (A.ok _ _ d) λc i a j=>B.ok _ _ g c i a j
 cases e
def orc(f:Nat)(k:List oh->AH->Option B5)(b:ic):ic:=λg a H=>bif Nat.beq f g then(match k a H with
 |some r=>some r
 |none=>b g a H)else b g a H
variable{m3:ic}
def ae{k:List oh->AH->Option B5}(e:Rs P shp f k)(c:dN P shp m3):dN P shp (orc f k m3):=λg args H r h a=>by
 unfold orc at h;cases d:Nat.beq f g<;>rw[d]at h
 .exact c g args H r h a
 have:=ts d;subst this;split at h
 .rename_i b;cases h;exact e _ _ _ b a
 exact c f args H r h a
def aoI:ic:=λ_ _ _=>none
def ai8(m3:ic):ic:=λg a H=>bif Nat.beq g 1000000000 then some {pre:=[False],rs:=[]}else m3 g a H
def IS(b:dN P shp m3):dN P shp (ai8 m3):=λg args H r h a=>by
 unfold ai8 at h;cases c:Nat.beq g 1000000000<;>rw[c]at h
 .exact b g args H r h a
 cases h;exact(a False aa).elim
def alr(m3:ic):ic:=λg a H=>bif Nat.beq g 1000000002 then some {pre:=[False],rs:=[]}else m3 g a H
def yR(b:dN P shp m3):dN P shp (alr m3):=λg args H r h a=>by
 unfold alr at h;cases c:Nat.beq g 1000000002<;>rw[c]at h
 .exact b g args H r h a
 cases h;exact(a False aa).elim
def fU:dN P shp aoI:=λ_ _ _ _ h=>by cases h
variable{l:List Prop}
def bw{p:Prop}(h:∀q∈p::l,q):p:=h _ (.head _)
def de{p:Prop}(h:∀q∈p::l,q):∀q∈l,q:=λq a=>h q (.tail _ a)
end
abbrev Kn:=List oh->AH->Option B5
abbrev CK(f:Nat)(k:Kn):Prop:=Rs prog (bj p6) f k
variable{fn:Func}{t:Prop}{rs args:List oh}{m3:ic}{pre:List Prop}
def al(d:dN prog (bj p6) m3)(L:List (Nat×LI))(a:prog.funcs[f]? =some fn)(h:t)(e:t=P8 p6 m3 L fn args H rs:=by kernel_rfl)(b:(fn.name== "runtime.NumGoroutine")=false:=by decide)
  (g:(match fn.body with
   |some c=>fH fn.ntmps c&&Nat.ble args.length fn.ntmps
   |none=>false)=true:=by kernel_rfl):r8 prog (bj p6) f args H ⟨pre,rs,none,false⟩:=r8.aeY fa d (pW fa d pf) a b g (e▸h)
def bh(d:dN prog (bj p6) m3)(L:List (Nat×LI))(a:prog.funcs[f]? =some fn)(h:t)(e:t=wpE p6 m3 L fn args H rs H':=by kernel_rfl)(b:(fn.name== "runtime.NumGoroutine")=false:=by decide)
  (g:(match fn.body with
   |some c=>fH fn.ntmps c&&Nat.ble args.length fn.ntmps
   |none=>false)=true:=by kernel_rfl):r8 prog (bj p6) f args H ⟨pre,rs,some H',false⟩:=r8.NA fa d (pW fa d pf) a b g (e▸h)
def bU(d:dN prog (bj p6) m3)(L:List (Nat×LI))(a:prog.funcs[f]? =some fn)(h:t)(e:t=wpN p6 m3 L fn args H rs H':=by kernel_rfl)(b:(fn.name== "runtime.NumGoroutine")=false:=by decide)
  (g:(match fn.body with
   |some c=>fH fn.ntmps c&&Nat.ble args.length fn.ntmps
   |none=>false)=true:=by kernel_rfl):r8 prog (bj p6) f args H ⟨pre,rs,some H',true⟩:=r8.NA fa d (pW fa d pf) a b g (e▸h)
abbrev af6(a b:eS):Prop:=a.a6=b.a6/\a.seq=b.seq/\a.last.code=b.last.code/\a.last.n=b.last.n
abbrev Ej(a b:eS)(p:Prop):Prop:=a.a6=b.a6/\a.seq=b.seq/\a.last.code=b.last.code/\a.last.n=b.last.n/\p
abbrev dL(a:eS)(p:Prop):Prop:=W a.a6->W a.seq->W a.last.code->W a.last.n->p
abbrev bY(a:ie)(p:Prop):Prop:=W a.id->W a.set->a.c6.length*8<=140737488355328->a.tag.b.length<=140737488355328->p
abbrev cg(a b:c5):Prop:=a.bo=b.bo/\a.next=b.next/\a.dc=b.dc/\a.eR=b.eR/\a.c8=b.c8/\a.eb=b.eb/\a.c3=b.c3
abbrev aw(a b:c5)(p:Prop):Prop:=a.bo=b.bo/\a.next=b.next/\a.dc=b.dc/\a.eR=b.eR/\a.c8=b.c8/\a.eb=b.eb/\a.c3=b.c3/\p
abbrev cK(a:c5)(p:Prop):Prop:=W a.bo->W a.next->W a.dc->W a.eR->a.c8.length*32<=140737488355328->a.eb.length*16<=140737488355328->a.c3.length*64<=140737488355328->p
abbrev aQ(a b:b6):Prop:=a.kind=b.kind/\a.a6=b.a6/\a.seq=b.seq/\a.set=b.set/\a.id=b.id/\a.n=b.n/\a.c6=b.c6/\a.text=b.text
abbrev bc(a b:b6)(p:Prop):Prop:=a.kind=b.kind/\a.a6=b.a6/\a.seq=b.seq/\a.set=b.set/\a.id=b.id/\a.n=b.n/\a.c6=b.c6/\a.text=b.text/\p
abbrev bf(a:b6)(p:Prop):Prop:=W a.kind->W a.a6->W a.seq->W a.set->W a.id->W a.n->a.c6.length*8<=140737488355328->a.text.b.length<=140737488355328->p
abbrev Fw(a b:l4):Prop:=a.num=b.num/\a.hC=b.hC/\a.since=b.since/\a.y4=b.y4/\a.ea=b.ea
abbrev kj(a:l4)(p:Prop):Prop:=W a.num->W a.hC->W a.since->p
abbrev mE(a b:dm)(p:Prop):Prop:=a.kind=b.kind/\a.a=b.a/\a.b=b.b/\a.x=b.x/\p
abbrev cD(a:dm)(p:Prop):Prop:=W a.kind->W a.a->W a.b->a.x.length*1<=140737488355328->p
abbrev um(a b:ep):Prop:=a.kind=b.kind/\a.l5=b.l5/\a.to=b.to/\a.a8=b.a8/\a.a=b.a/\a.b=b.b/\a.c=b.c/\a.bin=b.bin/\a.ok=b.ok/\a.l=b.l
abbrev fk(a b:ep)(p:Prop):Prop:=a.kind=b.kind/\a.l5=b.l5/\a.to=b.to/\a.a8=b.a8/\a.a=b.a/\a.b=b.b/\a.c=b.c/\a.bin=b.bin/\a.ok=b.ok/\a.l=b.l/\p
abbrev aP(a:ep)(p:Prop):Prop:=W a.kind->W a.l5->W a.to->W a.a8->W a.a->W a.b->W a.c->W a.bin->a.l.length*32<=140737488355328->p
abbrev dZ(a b:b9):Prop:=a.floor=b.floor/\a.a8=b.a8/\a.hQ=b.hQ/\a.log=b.log
abbrev ai(a b:b9)(p:Prop):Prop:=a.floor=b.floor/\a.a8=b.a8/\a.hQ=b.hQ/\a.log=b.log/\p
abbrev bz(a:b9)(p:Prop):Prop:=W a.floor->W a.a8->W a.hQ->a.log.length*32<=140737488355328->p
abbrev HP(a:vo)(p:Prop):Prop:=W a.l5->W a.to->W a.next->W a.b8->W a.bin->p
abbrev Oo(a b:Site):Prop:=a.up=b.up/\a.ee=b.ee/\a.binary=b.binary/\a.floor=b.floor/\a.a8=b.a8/\a.hQ=b.hQ/\a.b8=b.b8/\a.b5=b.b5/\a.log=b.log/\a.state.bo=b.state.bo/\a.state.next=b.state.next/\a.state.dc=b.state.dc/\a.state.eR=b.state.eR/\a.state.c8=b.state.c8/\a.state.eb=b.state.eb/\a.state.c3=b.state.c3
abbrev zu(a:Site)(p:Prop):Prop:=W a.ee->W a.binary->W a.floor->W a.a8->W a.hQ->W a.b8->W a.b5->a.log.length*32<=140737488355328->W a.state.bo->W a.state.next->W a.state.dc->W a.state.eR->a.state.c8.length*32<=140737488355328->a.state.eb.length*16<=140737488355328->a.state.c3.length*64<=140737488355328->p
abbrev vE(a:A5)(p:Prop):Prop:=W a.n->W a.x.kind->W a.x.l5->W a.x.to->W a.x.a8->W a.x.a->W a.x.b->W a.x.c->W a.x.bin->a.x.l.length*32<=140737488355328->W a.c.kind->W a.c.a6->W a.c.seq->W a.c.set->W a.c.id->W a.c.n->a.c.c6.length*8<=140737488355328->a.c.text.b.length<=140737488355328->p
def GZ(G:Gl)(a b:Nat):Gl:=⟨G.shp,G.B0,λx=>G.Z x\/x=a\/x=b⟩
structure B6(Z:Nat->Prop)(ρ:List RE)(w:World)(ρ':List RE)(w':World):Prop where
 os:w'.os=w.os
 tape:w'.tape=w.tape
 output:w'.output=w.output
 size:w.heap.size<=w'.heap.size
 z7:∀b,b<w.heap.size->¬live ρ b->¬live ρ' b/\(¬Z b->w'.heap[b]? =w.heap[b]?)
 bx:∀(i g:Nat),ρ[i]? =some (.blk g)->ρ'[i]? =some (.blk g)
section
variable{Z:Nat->Prop}{G:Gl}{H:AH}{ρ ρ0 ρ1 ρ2 ρ':List RE}{w w' wa wb wc:World}
def B6.trans(h:B6 Z ρ0 wa ρ1 wb)(k:B6 Z ρ1 wb ρ2 wc):B6 Z ρ0 wa ρ2 wc:=
 ⟨k.os.trans h.os,k.tape.trans h.tape,k.output.trans h.output,zc h.size k.size,λx a c=>by
  obtain⟨d,e⟩:=h.z7 x a c;obtain⟨j,l⟩:=k.z7 x (y7 a h.size) d;exact⟨j,λb=>(l b).trans (e b)⟩,λi g m=>k.bx i g (h.bx i g m)⟩
def B6.yM(h:u7 ρ w ρ' w')(a:∀(i g:Nat),ρ[i]? =some (.blk g)->ρ'[i]? =some (.blk g)):B6 Z ρ w ρ' w':=
 ⟨h.os,h.tape,h.output,h.size,λb a c=>⟨(h.z7 b a c).1,λ_=>(h.z7 b a c).2⟩,a⟩
variable{l:Nat}
theorem B6.put(o:Obj)(a:Z l):B6 Z ρ w ρ (w.putObj l o):=
 ⟨rfl,rfl,rfl,aa,λb _ h=>⟨h,λc=>N7 (λe=>c (e▸a))⟩,λ_ _ h=>h⟩
def B6.le(e:∀b,Z b->G.Z b)(c:∀b,b<G.B0->b<w.heap.size/\¬live ρ b)(g:∀b,Z b->G.B0<=b)(h:B6 Z ρ w ρ' w'):(cx G ρ w).le (cx G ρ' w'):=
 ⟨rfl,rfl,λb a=>⟨⟨y7 a.1 h.size,(h.z7 b a.1 a.2.1).1,a.2.2⟩,(h.z7 b a.1 a.2.1).2 λd=>a.2.2 (e b d)⟩,λb a i=>(h.z7 b i (c b a).2).2 λd=>Nat.lt_irrefl _ (y7 a (g b d))⟩
theorem pe.KM(h:pe G ρ H w)(o:Obj)(k:G.Z l)(n:G.B0<=l):pe G ρ H (w.putObj l o):=by
 have a:(cx G ρ w).le (cx G ρ (w.putObj l o)):=B6.le (Z:=λb=>b=l) (λb c=>c▸k) h.lo (λb c=>c▸n) (B6.put o rfl);refine⟨dw h.obj.length λi v r p m=>?_,h.inj,λi r g q s=>?_,λb c=>by have:=h.z b c;simpa using this,by have:=h.b0;simpa using this,h.tb.ed a⟩
 .obtain⟨x,d,j⟩:=h.at_ p;rw[m]at d;cases d;exact j.ed a (mz.refl _) λg u=>N7 (λe=>(h.u0 i r g m u).2.2 (e▸k))
 have:=h.u0 i r g q s;simp_all
theorem pe.enter(h:pe G ρ H w)(a d:Obj):pe (GZ G w.heap.size (w.heap.size+1)) ρ H ((w.alloc a).alloc d)/\(cx G ρ w).le (cx (GZ G w.heap.size (w.heap.size+1)) ρ ((w.alloc a).alloc d))/\Kp [] w ((w.alloc a).alloc d):=by
 have c:Kp [] w ((w.alloc a).alloc d):=by
  have p:=World.grownBy_alloc w a none;have q:=World.grownBy_alloc (w.alloc a) d none;refine⟨rfl,rfl,rfl,by simp;omega,λb hb _=>?_⟩;exact(q.block b (by simp;omega) aa).trans (p.block b hb aa)
 have e:(cx G ρ w).le (cx (GZ G w.heap.size (w.heap.size+1)) ρ ((w.alloc a).alloc d)):=⟨rfl,rfl,λb hb=>by
  have s:b<w.heap.size:=hb.1;exact⟨⟨y7 hb.1 c.size,hb.2.1,λhz=>by
   rcases hz with hz|hz|hz
   .exact hb.2.2 hz
   .omega
   omega⟩,c.block b hb.1 aa⟩,λb _ m=>c.block b m aa⟩
 refine⟨⟨dw h.obj.length λi o r u n=>?_,h.inj,λi r g v x=>?_,λb hb=>?_,zc h.b0 c.size,h.tb.ed e⟩,e,c⟩
 .obtain⟨A,j,k⟩:=h.at_ u;rw[n]at j;cases j;exact k.ed e (mz.refl _) λg y=>c.block g (h.u0 i r g n y).2.1 aa
 .have:=h.u0 i r g v x;refine⟨this.1,y7 this.2.1 c.size,λhz=>?_⟩;rcases hz with hz|hz|hz
  .grind
  .grind
  have:=this.2.1;omega
 have m:((w.alloc a).alloc d).heap.size=w.heap.size+1+1:=by simp
 rcases hb with hb|hb|hb
 .exact y7 (h.z b hb) c.size
 .omega
 omega
def pe.W7{a b:Nat}(h:pe (GZ G a b) ρ H w)(e:∀x,G.Z x->x<w.heap.size):pe G ρ H w/\(cx (GZ G a b) ρ w).le (cx G ρ w):=by
 have c:(cx (GZ G a b) ρ w).le (cx G ρ w):=⟨rfl,rfl,λx j=>⟨⟨j.1,j.2.1,λh=>j.2.2 (.inl h)⟩,rfl⟩,λ_ _ _=>rfl⟩;refine⟨⟨dw h.obj.length λi o r m n=>?_,h.inj,λi r g p q=>?_,e,h.b0,h.tb.ed c⟩,c⟩
 .obtain⟨s,d,k⟩:=h.at_ m;rw[n]at d;cases d;exact k.ed c (mz.refl _) λg _=>rfl
 have:=h.u0 i r g p q;exact⟨this.1,this.2.1,λe=>this.2.2 (.inl e)⟩
def HF:AV->Bool
 |.own _=>false
 |.sub _ _ _=>false
 |.y8 _ _ _=>false
 |_=>true
def alv:oh->Bool
 |.c a=>HF a
 |.agg l=>l.all HF
def IF:lg->Bool
 |[]=>true
 |(_,.one t)::r=>alv t&&IF r
 |_::_=>false
def fw.ga{q:Nat×Nat}{v:Value}(h:fw ρ q v)(k:∀(i g:Nat),ρ[i]? =some (.blk g)->ρ'[i]? =some (.blk g)):fw ρ' q v:=by
 obtain⟨g,a,b⟩:=h;exact⟨g,k _ _ a,b⟩
def Rd.ga{c p:Cx}{a:AV}{v:Value}(h:Rd c ρ a v)(n:HF a=true)(j:c.le p)(k:∀(i g:Nat),ρ[i]? =some (.blk g)->ρ'[i]? =some (.blk g)):Rd p ρ' a v:=by
 cases a;case own=>cases n
 case sub=>cases n
 case y8=>cases n
 case ptr=>exact fw.ga h k
 case np=>exact h
 case fe=>
  obtain⟨A,d,b,m,q,e⟩:=h;exact⟨A,d,(j.S _ b).1,m.dc (j.S _ b).2,q.ed j,e⟩
 case fn=>
  obtain⟨r,o,b,m,e⟩:=h;exact⟨r,o,b.imp λ_ _ h=>h.ga k,m.imp λ_ _ h=>h.ga k,e⟩
 case nf=>exact h
 case yl=>exact h
 case xx=>
  obtain⟨o,b,m⟩:=h;exact⟨o,b.imp λ_ _ h=>h.ga k,m.le j⟩
 case mq=>
  obtain⟨g,b,e⟩:=h;exact⟨g,k _ _ b,e⟩
 case dead=>exact h
 all_goals exact Pd.ed h j
def N2.ga{c b:Cx}:∀{l:List AV} {d:List Value},hY (Rd c ρ) l d->l.all HF=true->c.le b->(∀(i g:Nat),ρ[i]? =some (.blk g)->ρ'[i]? =some (.blk g))->hY (Rd b ρ') l d
 |[],_,h,_,_,_=>by cases h;exact .nil
 |_::_,_,h,a,e,k=>by
  cases h with|cons j m=>
  simp only[K7,r3]at a;exact .cons (j.ga a.1 e k) (N2.ga m a.2 e k)
def r7.ga{c m:Cx}:∀{fr:lg} {F:Fr},r7 c ρ fr F->IF fr=true->c.le m->(∀(i g:Nat),ρ[i]? =some (.blk g)->ρ'[i]? =some (.blk g))->r7 m ρ' fr F
 |[],_,h,_,_,_=>by cases h;exact .nil
 |(i,t)::r,_,h,b,d,k=>by
  cases h with|cons j n=>
  cases t with
  |one t=>
   simp[IF]at b;refine .cons ⟨j.1,?_⟩ (r7.ga n b.2 d k);cases t with
   |c a=>exact Rd.ga j.2 b.1 d k
   |agg l=>obtain⟨o,e,p⟩:=j.2;exact⟨o,e,N2.ga p b.1 d k⟩
  |_=>cases b
end
section
variable{P:Program}{Q:Exit->Act->World->Prop}{n:Nat}{F:Fr}{w:World}{a:Act}
def Np(h:a.defers=[]):kr a []=a:=by rw[kr,<-h]
variable{m:Nat}{ro:Option Nat}
def Sc{c:Code}(h:c.wpIn (jd ro) 0 P Q a w):c.wpIn (jd ro) m P Q a w:=λb k d e g _=>h b k d e g ahg
def mf.U1{c:Code}(d:a.defers=[])(h:mf P c Q a w):c.wpIn (jd ro) m P Q a w:=by
 have b:=h ro [];rw[Np d]at b;exact Sc (wpIn_mono b λe k l ⟨a0,g,i,j⟩=>by rw[i,Np g];exact j)
variable{l:List Oper}
theorem WO.qs{d g:List Oper}(h:WO P (λe a w=>match e with|.normal=>OP P l.toArray Q g a w|e=>Q e a w) n l d F w):WO P Q n l (d++g) F w:=λa j ro i=>
 ju (λe k o p b=>by
  obtain⟨a0,q,c,b⟩:=b;refine⟨a0,q,c,?_⟩;cases e with
  |normal=>exact absurd rfl p
  |_=>exact b) (λk o ⟨a0,_,c,b⟩=>by rw[c];exact b ro i) _ (h a j ro i)
variable{body:Code}{L:Nat}{tmps:Array Value}
def WO.yield{b:List Oper}{d:Nat}{o:Op}{p:TypeId}{c:String}{j:Array Edge}{assign:Code}{q:Value->World->Prop}
  (h:∀a d c j g,M n F a->(execOp a.eval ⟨d,o,p,c,j,g⟩).run P w=.ok (.round L f tmps assign body) w)(s:Nat.blt d n=true)
  (u:∀ro m,RoundIn (jd ro) m P L f tmps assign body w λe i=>∃v,e=.returned v/\q v i)(k:∀v i,q v i->WO P Q n l b ((d,v)::F) i):WO P Q n l (⟨some d,o,p,c,j,none⟩::b) F w:=λa r ro x=>
 wpListIn_plain rfl λK hK=>by
  refine⟨λ_ _=>trivial,?_⟩;rw[pJ,akn (h a _ _ _ _ r) (λd=>by simp)];refine⟨(λh=>by cases h),(u ro _).mono λe i ⟨v,y,z⟩=>?_⟩;subst y;refine hK _ _ ?_;exact k v i z _ (r.put s) ro x
def Tb{b:Code}{R:Ending->World->Prop}
  (h:mf P b (Exit.then (λd g=>∃c,(Instr.beginRound L).run P g=.ok () c/\mf P body (roundPost P L R) d c/\d.defers=[]) (λ_ _ _=>False)) {tmps:=tmps,defers:=[]} w):RoundIn (jd ro) m P L f tmps b body w R:=by
 refine roundIn_of_wpIn (F:=jd ro) trivial (wpIn_mono (mf.U1 (ro:=some L) rfl h) λe d g i=>?_);cases e with
 |normal=>
  obtain⟨c,j,k,o⟩:=i;exact⟨c,j,mf.U1 (ro:=some L) o k⟩
 |_=>exact i
end
def amj(T:List (Nat×TI))(a:AH)(b:Nat)(H':AH)(H:AH):List Prop:=
 match KN a b H [] [] H' 3 []with
 |σ=>same (oN H.length σ)++R7 T H H.length σ σ H'
section
variable{P:Program}{T:List (Nat×TI)}{G:Gl}{ρ ρ0:List RE}{H H0 H':AH}{w w0:World}{k0:Nat}
def SU(hT:bG P G.shp T)(e:pe G ρ H w)(hE:u7 ρ0 w0 ρ w)(j:∀(i g:Nat),ρ0[i]? =some (.blk g)->ρ[i]? =some (.blk g))(k:∀(i g:Nat),i<k0->ρ0[i]? =some (.blk g)->nC (l9 H0 i)=false)(h:lu (amj T H0 k0 H' H)):
  ∃a,pe G a H' w/\u7 ρ0 w0 a w/\∀(i g:Nat),i<k0->ρ0[i]? =some (.blk g)->a[i]? =some (.blk g):=by
 replace h:=gW.1 h;refine⟨dU ρ (KN H0 k0 H [] [] H' 3 []),qa hT e rfl (ct.1 λp b=>h p (D3 _ b)) λp b=>h p (E3 _ b),p_ hE,λi g c d=>?_⟩;exact eC (qJ c (k i g c d) _ _) (j i g d)
end
section
variable{P:Program}{n:Nat}{fr:Fr}{w:World}{x y:Operand}{t t' ty e:TypeId}
variable{m:Nat}
def R.agX{a:Option Addr}{c:Nat}(b:ev fr x=some (.slice a m c))(d:P.underlying t=some (.slice e)):aW P n fr w (.call {callee:=.builtin .cap,args:=#[x],argTypes:=#[t]}) ty (.int .i64 (c:Int)) w:=λ_ _ _ _ _ g=>by
 simp[execOp,resolve,invoke,builtin,g.ev b,Builtin.cap_,C0 d,goInt]
variable{k sc:Nat}{zv:Value}{ti:TypeInfo}
def R.apm{base:Option Addr}{a:Nat}{b:List Value}(o:ev fr x=some (.slice base a sc))(p:ev fr y=some (.int .i64 (k:Int)))(q:P.underlying t=some (.slice e))(g:P.underlying t'=some (.int .i64))(r:P.info? e=some ti)(s:ti.zero=some zv)
  (c:(Builtin.firstCells ti.size a (.slice base a sc)).run P w.drew=.ok b.toArray w.drew)(u:0<k)(v:0<ti.size)(z:sc<a+k)(i:((a+k:Nat):Int)<=9223372036854775807)(j:k*ti.bytes<=281474976710656)(d:Builtin.nextslicecap (a+k) sc*ti.bytes<=281474976710656):
  aW P n fr w (.call {callee:=.builtin .append,args:=#[x,y],argTypes:=#[t,t']}) ty (.slice (some ⟨w.heap.size,0,none⟩) (a+k) (grownCap w (a+k) sc e))
   (w.drew.alloc (.cells (b.toArray++Builtin.zeroCells zv.cells k++Builtin.zeroCells zv.cells (grownCap w (a+k) sc e-(a+k))) e)):=λ_ _ _ _ _ l=>by
 have h:=Lib.run_append_grow_zeros w t t' ty e ti zv .i64 .i64 q g r s base a sc b c k u v z i j d;simp[execOp,resolve,invoke,builtin,l.ev o,l.ev p,h]
variable{b a:Addr}{la z ca cb lb:Nat}{curB curA:Array Value}{fA:Nat×Nat}{tB tS tR tA:TypeId}
def Zw(A:P.underlying tS=some (.slice e))(B:(P.info? e).map (·.size)=some z)(c:a.block≠b.block)
  (F:w.heap[a.block]? =some (.cells curA tA fA))(l:curA.size≠0)(o:w.heap[b.block]? =some (.cells curB tB (0,0))):
  (Extern.SlicesOverlaps.overlaps #[tS,tS] #[tR] #[.slice (some a) la ca,.slice (some b) lb cb]).run P w=.ok (.bool false) w:=by
 have p:(a.block !=b.block)=true:=by simpa using c
 have d:(a.block==b.block)=false:=by simpa using c
 have q:w.frozen? b=false:=by
  simp[World.frozen?,o]
 have r:w.frozen? {block:=b.block,off:=curB.size}=false:=by
  simp[World.frozen?,o]
 have g:w.shape? a.block=some (tA,curA.size):=by simp[World.shape?,F]
 have s:w.shape? b.block=some (tB,curB.size):=by simp[World.shape?,o]
 have h:(sizeOf e).run P w=.ok z w:=by
  cases u:P.info? e with
  |none=>simp[u]at B
  |some i=>
   have G:i.size=z:=by simpa[u] using B
   simp[sizeOf,typeInfo,u,G]
 change Sem.run P (α:=Value) (do
  let some t:=(#[tS,tS]:Array TypeId)[0]? |stuck "slices.overlaps: no parameter types"
  let .slice elem <-underlying t|stuck "slices.overlaps: slice type expected"
  let size <-sizeOf elem
  match(some a:Option Addr),(some b:Option Addr)with
  |some a,some b=>
   if la=0\/lb=0\/size=0 then pure (Value.bool false)
   else if a.block !=b.block&&(<-frozen a)&&(<-frozen b)then unsupported .addressObserved
   else do
    if a.block !=b.block then do
     noView a;noView b
     if<-mayBeOne a b then return Value.bool ((<-choose (.extern "sameAddr.stringBytes" 2))==1)
    pure (Value.bool (a.block==b.block&&a.off<b.off+lb*size&&b.off<a.off+la*size))
  |_,_=>pure (Value.bool false)) w=_
 by_cases C:la=0\/lb=0\/z=0
 .simp[C0 A,h,C]
 cases D:curA.size with
 |zero=>exact absurd D l
 |succ k=>
  rw[D]at g;cases v:w.frozen? a<;>cases j:w.frozen? {block:=a.block,off:=k+1}<;>
   simp[C0 A,h,C,p,d,frozen,noView,viewAt,mayBeOne,stringish,shape,Sem.run,g,s,v,q,r,j]
def R.ovl{f:FuncId}{d:Array TypeId}(l:P.funcs[f]? =some fn)(c:(fn.name== "runtime.NumGoroutine")=false)(o:fn.body.isNone=true)(p:Extern.findNext fn=none)(q:Extern.find fn=some (Extern.SlicesOverlaps.overlaps #[tS,tS] #[tR]))
  (r:P.underlying tS=some (.slice e))(s:(P.info? e).map (·.size)=some z)(g:a.block≠b.block)
  (u:w.heap[a.block]? =some (.cells curA tA fA))(h:curA.size≠0)(v:w.heap[b.block]? =some (.cells curB tB (0,0)))(A:ev fr x=some (.slice (some a) la ca))(B:ev fr y=some (.slice (some b) lb cb)):
  aW P n fr w (.call {callee:=.value (.func f),args:=#[x,y],argTypes:=d}) ty (.bool false) w:=λac _ _ _ _ i=>by
 have j:=run_callFunc_extern l c o p q #[.slice (some a) la ca,.slice (some b) lb cb] w;rw[Zw r s g u h v]at j;have C:ac.eval (.func f)=.func (.func f) #[] #[]:=rfl;simp[execOp,resolve,C,Deferred.ofValue,invoke,i.ev A,i.ev B,j]
def WO.ve{Q:Exit->Act->World->Prop}{l c:List Oper}{d:Nat}{j:Op}{i:String}{p:Array Edge}{o:Value->World->Prop}(h:∃v g,aW P n fr w j ty v g/\o v g)(q:Nat.blt d n=true)(k:∀v g,o v g->WO P Q n l c ((d,v)::fr) g):WO P Q n l (⟨some d,j,ty,i,p,none⟩::c) fr w:=by
 obtain⟨v,g,r,s⟩:=h;exact WO.v r q (k v g s)
def R.WT{u l v:Value}{o:World}{p:Array TypeId}(h:aW P n [] w (.call {callee:=.builtin .append,args:=#[.const u,.const l],argTypes:=p}) ty v o)(r:ev fr x=some u)(s:ev fr y=some l):aW P n fr w (.call {callee:=.builtin .append,args:=#[x,y],argTypes:=p}) ty v o:=λa d c A g j=>by
 have q:=h a d c A g (j.sub λi v B=>by cases B);simp[execOp,resolve,j.ev r,j.ev s]at q⊢;exact q
variable{ad:Addr}{cur:List Value}
def R.Wo{g sl c:Nat}{d:List Value}(p:ev fr x=some (.slice (some ⟨g,0,none⟩) sl sc))(q:ev fr y=some (.slice (some ad) m c))(r:P.underlying t=some (.slice e))(s:P.info? e=some ti)(v:w.heap[g]? =some (.cells cur.toArray e (0,0)))
  (A:d.length=m*ti.size)(j:j0 w ad d)(B:∀u∈d,u.oneCell'=true)(i:sl+m<=sc)(l:sl*ti.size+d.length<=cur.length):
  aW P n fr w (.call {callee:=.builtin .append,args:=#[x,y],argTypes:=#[t,t]}) ty (.slice (some ⟨g,0,none⟩) (sl+m) sc) (w.setRow g (cur.take (sl*ti.size)++d++cur.drop (sl*ti.size+d.length)).toArray):=λ_ _ _ _ _ o=>by
 have h:=run_append_room (P:=P) w t ty e ti r s g sl sc cur.toArray v ad m c d A j B i (by simpa using l);simp[execOp,resolve,invoke,builtin,o.ev p,o.ev q,h]
variable{o:Nat}
def R.clr{g c:Nat}{i:TypeId}(j:ev fr x=some (.slice (some ⟨g,o,none⟩) m c))(l:m=1)(p:P.underlying t=some (.slice e))(q:P.info? e=some ti)(r:ti.zero=some zv)(s:∀u∈(Builtin.zeroCells zv.cells 1).toList,u.oneCell'=true)(v:w.heap[g]? =some (.cells cur.toArray i (0,0)))(d:o+(Builtin.zeroCells zv.cells 1).toList.length<=cur.length):
  aW P n fr w (.call {callee:=.builtin .clear,args:=#[x],argTypes:=#[t]}) ty (.tuple #[]) (w.setRow g (cur.take o++(Builtin.zeroCells zv.cells 1).toList++cur.drop (o+(Builtin.zeroCells zv.cells 1).toList.length)).toArray):=λ_ _ _ _ _ A=>by
 subst l;have h:=run_storeCells_at P g o i (Builtin.zeroCells zv.cells 1).toList 0 cur.toArray w v (by simpa using d) s;have B:(Builtin.clear_ #[t] ty #[.slice (some ⟨g,o,none⟩) 1 c]).run P w=.ok (.tuple #[]) (w.setRow g (cur.take o++(Builtin.zeroCells zv.cells 1).toList++cur.drop (o+(Builtin.zeroCells zv.cells 1).toList.length)).toArray):=by
  simp[Builtin.clear_,C0 p,zeroValue,typeInfo,q,r,h]
 simp[execOp,resolve,invoke,builtin,A.ev j,B]
variable{i:Nat}
def aea{A:Addr}{c:Nat}:(if c=i then(some A:Option Addr)else(some A:Option Addr).map (·.add (i*z)))=some (if c=i then A else A.add (i*z)):=by
 split<;>rfl
theorem xT{v:Value}(h:w.cell? a=some v):∃cur t f,w.heap[a.block]? =some (.cells cur t f)/\cur.size≠0:=by
 unfold World.cell? at h;grind
theorem aeX{c:Cx}{s:Sh}{d:List (l7 s)}(h:Pd c (.fz s d) (.slice (some ad) m k))(g:d.length≠0):c.at s ad.block:=by
 cases h with
 |fz j l p q r=>
  grind
variable{α:Type}
def akv{c g d:List α}(j:o+z<=c.length)(l:d.length=z):((c++g).take (o+z)++c.drop o++(c++g).drop (o+z+(c.drop o).length)).take o++d++((c++g).take (o+z)++c.drop o++(c++g).drop (o+z+(c.drop o).length)).drop (o+d.length)=c.take o++d++c.drop o++g.drop z:=by
 have p:(c++g).take (o+z)=c.take (o+z):=N6 j;have q:(c++g).drop (o+z+(c.drop o).length)=g.drop z:=by
  rw[length_drop,show o+z+(c.length-o)=c.length+z by omega,List.drop_append];simp
 have r:(c.take (o+z)).length=o+z:=by rw[sh];omega
 rw[p,q,l];generalize s:c.take (o+z)=A at*;have h:A.take o=c.take o:=by rw[<-s,T3,I2 N]
 rw[J9 A,N6 N,h,List.drop_left' r];simp
def akM{cur cells d c:List α}(p:o+z<=cur.length)(g:c.length=z)(j:cur.take o=cells.take o):(cur.take o++c++cur.drop (o+c.length)).take (o+z)++d++(cur.take o++c++cur.drop (o+c.length)).drop (o+z+d.length)=cells.take o++c++d++cur.drop (o+z+d.length):=by
 have h:(cur.take o++c).length=o+z:=by rw[s8,sh,g];omega
 have l:(cur.take o++c++cur.drop (o+z)).drop (o+z+d.length)=cur.drop (o+z+d.length):=by
  rw[<-J1,List.drop_left' h,J1]
 rw[g,take_left' h,l,j]
def nE{g c:Nat}(h:¬c=i):(if c=i then(some ⟨g,0,none⟩:Option Addr)else(some ⟨g,0,none⟩:Option Addr).map (·.add (i*z)))=some ⟨g,i*z,none⟩:=by
 rw[X h,E5,add_lit,A3]
end
end Go.Proofs.YtoecbhljidgajaaGreat
set_option linter.defProp false
namespace Go.Proofs.YtoecbhljidgajaaGreat
open Go.Proofs.Tryz
open Go.RowKit
section
variable{P:Program}{Q:Exit->Act->World->Prop}{n d:Nat}{l rest:List Oper}{fr:Fr}{w:World}{x:Operand}{v:Value}
variable{ty:TypeId}{pos:String}{af:Array Edge}
def fB(h:ev fr x=some v)(a:Nat.blt d n=true)(k:WO P Q n l rest ((d,v)::fr) w):WO P Q n l (⟨some d,.move x,ty,pos,af,none⟩::rest) fr w:=WO.v (R.move h) a k
def At(h:ev fr x=some v)(a:Nat.blt d n=true)(k:WO P Q n l rest ((d,v)::fr) w):WO P Q n l (⟨some d,.assign x,ty,pos,af,none⟩::rest) fr w:=WO.v (R.assign h) a k
def nW{y:Code}{id:Nat}(h:WO P (Exit.then (mf P y Q) Q) n l l fr w):WC P Q n (.seq (.region id l.toArray false) y) fr w:=WC.seq (WC.region h)
def my{y:Code}(h:WC P Q n y fr w):WO P (Exit.then (mf P y Q) Q) n l [] fr w:=WO.nil (WX.next h)
end
def FK(z:Array Value)(n:Nat):(Builtin.zeroCells z n).toList.length=n*z.size:=by rw[Array.length_toList,size_zeroCells]
variable{w:World}
def mc{g:Nat}{o:Obj}(h:w.heap[g]? =some o):g<w.heap.size:=(S6.1 h).1
def TW(a:NT)(E S f z y:Nat)(b:List Value):Prop:=(a=.c8/\E=119/\S=52/\f=226/\z=4/\y=32/\b=[.int .i64 0,.int .i64 0,.int .i64 0,.int .i64 0])\/(a=.opn/\E=122/\S=53/\f=334/\z=2/\y=16/\b=[.int .i64 0,.int .i64 0])
variable{nt:NT}{z S f:Nat}{zs:List Value}
def twU{E y:Nat}(a:TW nt E S f z y zs):prog.underlying S=some (.slice E):=by
 rcases a with⟨rfl,rfl,rfl,rfl,rfl,rfl,rfl⟩|⟨rfl,rfl,rfl,rfl,rfl,rfl,rfl⟩
 .exact underlying52
 exact underlying53
def twZ{E y:Nat}(a:TW nt E S f z y zs):(prog.info? E).map (·.size)=some z:=by
 rcases a with⟨rfl,rfl,rfl,rfl,rfl,rfl,rfl⟩|⟨rfl,rfl,rfl,rfl,rfl,rfl,rfl⟩<;>kernel_rfl
def twI{E y:Nat}(a:TW nt E S f z y zs):(prog.info? E).map (λi=>(i.zero,i.size,i.bytes))=some (some (.agg zs.toArray),z,y):=by
 rcases a with⟨rfl,rfl,rfl,rfl,rfl,rfl,rfl⟩|⟨rfl,rfl,rfl,rfl,rfl,rfl,rfl⟩<;>kernel_rfl
def twT{E y:Nat}(a:TW nt E S f z y zs):bt p6 S=some ⟨.sl E (some (.nm nt)),1,[.em true]⟩:=by
 rcases a with⟨rfl,rfl,rfl,rfl,rfl,rfl,rfl⟩|⟨rfl,rfl,rfl,rfl,rfl,rfl,rfl⟩<;>kernel_rfl
def twN{E y:Nat}(a:TW nt E S f z y zs):(z=4/\y=32)\/(z=2/\y=16):=by
 rcases a with⟨rfl,rfl,rfl,rfl,rfl,rfl,rfl⟩|⟨rfl,rfl,rfl,rfl,rfl,rfl,rfl⟩<;>decide
def twS{E y:Nat}(a:TW nt E S f z y zs):(Sh.nm nt).size=z/\(Sh.nm nt).bytes=y/\(Value.agg zs.toArray).cells.size=z:=by
 rcases a with⟨rfl,rfl,rfl,rfl,rfl,rfl,rfl⟩|⟨rfl,rfl,rfl,rfl,rfl,rfl,rfl⟩<;>exact⟨rfl,rfl,rfl⟩
variable{vc n:Nat}
set_option maxRecDepth 100000 in
def ab2{E y:Nat}(b:TW nt E S f z y zs){c:Nat}{A:Option Addr}{B:Option Addr}{i:Value->World->Prop}(a:∀(F:Fr) (x y:Operand) (j:TypeId),ev F x=some (.slice A n c)->ev F y=some (.slice B 1 vc)->∃d e,aW prog 95 F w (.call {callee:=.builtin .append,args:=#[x,y],argTypes:=#[S,S]}) j d e/\i d e):
  mT prog f [.slice A n c,.int .i64 (n:Int),.slice B 1 vc].toArray w i:=by
 have g:=twU b;have k:=twZ b;rcases b with⟨-,-,rfl,rfl,-,-⟩|⟨-,-,rfl,rfl,-,-⟩;rotate_left
 refine mT.enter func334 rfl rfl rfl rfl ?_;rotate_left
 refine mT.enter func226 rfl rfl rfl rfl ?_;all_goals
  refine nW (At rfl rfl (my (nW (fB rfl rfl (fB rfl rfl (WO.v (R.iZ rfl rfl g k rfl N) rfl (my (nW (fB rfl rfl (WO.v (R.len rfl g) rfl (At rfl rfl (my (WC.seq (nW (fB rfl rfl (WO.v (R.eql rfl rfl) rfl (my (WC.cond rfl (λq=>absurd (C6 q) N) (λ_=>?_)))))))))))))))))));refine WC.skip (WX.next (nW (fB rfl rfl (WO.v (R.len rfl g) rfl (At rfl rfl (my (WC.seq (nW (fB rfl rfl (fB rfl rfl (WO.v (R.eql rfl rfl) rfl (my (WC.cond rfl (λ_=>?_) (λq=>absurd rfl (T0 q)))))))))))))));refine nW (fB rfl rfl (fB rfl rfl (WO.ve (a _ _ _ _ rfl rfl) rfl λd e h=>(At rfl rfl (my (WC.ret (WX.y_ (WX.SW rfl rfl ?_))))))));exact h
variable{ds vs cur:List Value}{ad:Addr}{i:Nat}
set_option maxRecDepth 100000 in
def YB{E y:Nat}(t:TW nt E S f z y zs){e:World}{g b c G:Nat}(hi:i<n)(P:n<=c)(hc:c<n+1)(m:c<=maxLen)(hG:n+1<=G)(o:G<=maxLen)
  (p:∀(F:Fr) (x y:Operand) (Q:TypeId),ev F x=some (.slice (some ⟨g,0*z,none⟩) i c)->ev F y=some (.int .i64 ((n+1-i:Nat):Int))->aW prog 95 F w (.call {callee:=.builtin .append,args:=#[x,y],argTypes:=#[S,3]}) Q (.slice (some ⟨b,0,none⟩) (n+1) G) e)
  (a:e.heap[b]? =some (.cells cur.toArray E (0,0)))(m3:(n+1)*z<=cur.length)(T:j0 e ad vs)(A:vs.length=z)(U:j0 e ⟨g,i*z,none⟩ ds)(B:g≠b)(r:g<e.heap.size)(C:ds.length=(n-i)*z)
  (D:∀u∈vs,u.oneCell'=true)(H:∀u∈ds,u.oneCell'=true):
  mT prog f [.slice (some ⟨g,0,none⟩) n c,.int .i64 (i:Int),.slice (some ad) 1 vc].toArray w λv V=>v=.slice (some ⟨b,0,none⟩) (n+1) G/\∃j,Kp [] (e.setRow b (cur.take (i*z)++vs++cur.drop (i*z+vs.length)).toArray) j/\V=j.setRow b ((cur.take (i*z)++vs++cur.drop (i*z+vs.length)).take ((i+1)*z)++ds++(cur.take (i*z)++vs++cur.drop (i*z+vs.length)).drop ((i+1)*z+ds.length)).toArray:=by
 have o:G<=9223372036854775807:=o;have m:c<=9223372036854775807:=m;have I:vs.length=Nat.min 1 (n+1-i)*z:=by rw[show Nat.min 1 (n+1-i)=1 from I2 N,Nat.one_mul];exact A
 have J:ds.length=Nat.min (n-i) (n+1-(i+1))*z:=by rw[show Nat.min (n-i) (n+1-(i+1))=n-i from I2 N];exact C
 have d:=twU t;have k:=twZ t;rcases t with⟨-,-,rfl,rfl,K,-⟩|⟨-,-,rfl,rfl,K,-⟩;rotate_left
 refine mT.enter func334 rfl rfl rfl rfl ?_;rotate_left
 refine mT.enter func226 rfl rfl rfl rfl ?_;all_goals
  refine nW (At rfl rfl (my (nW (fB rfl rfl (fB rfl rfl (WO.v (R.iZ rfl rfl d k rfl N) rfl (my (nW (fB rfl rfl (WO.v (R.len rfl d) rfl (At rfl rfl (my (WC.seq (nW (fB rfl rfl (WO.v (R.eql rfl rfl) rfl (my (WC.cond rfl (λq=>absurd (C6 q) N) (λ_=>?_)))))))))))))))))));refine WC.skip (WX.next (nW (fB rfl rfl (WO.v (R.len rfl d) rfl (At rfl rfl (my (WC.seq (nW (fB rfl rfl (fB rfl rfl (WO.v (R.eql rfl rfl) rfl (my (WC.cond rfl (λq=>absurd (C6 q) N) (λ_=>?_))))))))))))));refine WC.skip (WX.next (WC.seq (nW (fB rfl rfl (fB rfl rfl (WO.v (R.Ee rfl rfl N) rfl (fB rfl rfl (WO.v (R.agX rfl d) rfl (WO.v (R.gtr rfl rfl) rfl (my (WC.cond rfl (λ_=>?_) (λq=>absurd N (T0 q)))))))))))));refine nW (fB rfl rfl (fB rfl rfl (WO.v (R.rY rfl rfl d k (nE (i:=0) N) N) rfl (fB rfl rfl (fB rfl rfl (WO.v (R.Ee rfl rfl N) rfl (fB rfl rfl (WO.v (R.arl rfl rfl N N) rfl (WO.v (p _ _ _ _ rfl rfl) rfl (At rfl rfl (my (nW (fB rfl rfl (fB rfl rfl (WO.v (R.iZ rfl rfl d k (nE N) N) rfl (fB rfl rfl ?_))))))))))))))));refine WO.v (R.BJ rfl rfl d k a I T (by subst K;omega) D) rfl ?_;refine my (WC.seq (WC.TG pf [.ex [] (.slice (some ⟨b,0,none⟩) (n+1) G),.ex [] (.int .i64 ((i:Nat):Int)),.ex [] (.int .i64 ((1:Nat):Int)),.ex [1,2] (.int .i64 ((i+1:Nat):Int)),.ex [0,3] (.slice (some ⟨b,(i+1)*z,none⟩) (n+1-(i+1)) (G-(i+1))),.ex [] (.slice (some ⟨g,0,none⟩) n c),.ex [] (.int .i64 ((i:Nat):Int)),.ex [5,6] (.slice (some ⟨g,i*z,none⟩) (n-i) (c-i))] 8 cj ⟨λ_ _ _ h _=>h,λ_ _ _ h _=>h,λ_ _ _ h _=>h,λ_ _ _ h _=>h,λ_ _ _ h _=>h,λ_ _ _ h _=>h,λ_ _ _ h _=>h,λ_ _ _ h _=>h,trivial⟩ ⟨?_,?_,?_,?_,?_,?_,?_,?_,trivial⟩ ?_))
  .rintro vs l kd ⟨-⟩;refine WO.fq (fr':=[(9,.slice (some ⟨b,0,none⟩) (n+1) G)]) ⟨⟨_,rfl,rfl⟩,trivial⟩ (fB rfl rfl (WO.nil ?_));exact WX.cE rfl rfl (Kp.refl _)
  .rintro vs l kd ⟨-⟩;refine WO.fq (fr':=[(1,.int .i64 ((i:Nat):Int))]) ⟨⟨_,rfl,rfl⟩,trivial⟩ (fB rfl rfl (WO.nil ?_));exact WX.cE rfl rfl (Kp.refl _)
  .rintro vs l kd ⟨-⟩;refine WO.fq (fr':=[(7,.int .i64 ((1:Nat):Int))]) ⟨⟨_,rfl,rfl⟩,trivial⟩ (fB rfl rfl (WO.nil ?_));exact WX.cE rfl rfl (Kp.refl _)
  .rintro vs l kd ⟨v2,m1,-⟩;refine WO.fq (fr':=[(47,.int .i64 ((i:Nat):Int)),(48,.int .i64 ((1:Nat):Int))]) ⟨⟨_,rfl,v2⟩,⟨_,rfl,m1⟩,trivial⟩ (WO.v (R.Ee rfl rfl N) rfl (WO.nil ?_));exact WX.cE rfl rfl (Kp.refl _)
  .rintro vs l kd ⟨z2,Z,-⟩;refine WO.fq (fr':=[(46,.slice (some ⟨b,0,none⟩) (n+1) G),(49,.int .i64 ((i+1:Nat):Int))]) ⟨⟨_,rfl,z2⟩,⟨_,rfl,Z⟩,trivial⟩ (WO.v (R.iZ rfl rfl d k (nE N) N) rfl (WO.nil ?_));exact WX.cE rfl rfl (Kp.refl _)
  .rintro vs l kd ⟨-⟩;refine WO.fq (fr':=[(0,.slice (some ⟨g,0,none⟩) n c)]) ⟨⟨_,rfl,rfl⟩,trivial⟩ (fB rfl rfl (WO.nil ?_));exact WX.cE rfl rfl (Kp.refl _)
  .rintro vs l kd ⟨-⟩;refine WO.fq (fr':=[(1,.int .i64 ((i:Nat):Int))]) ⟨⟨_,rfl,rfl⟩,trivial⟩ (fB rfl rfl (WO.nil ?_));exact WX.cE rfl rfl (Kp.refl _)
  .rintro vs l kd ⟨e5,e6,-⟩;refine WO.fq (fr':=[(51,.slice (some ⟨g,0,none⟩) n c),(52,.int .i64 ((i:Nat):Int))]) ⟨⟨_,rfl,e5⟩,⟨_,rfl,e6⟩,trivial⟩ (WO.v (R.iZ rfl rfl d k (nE N) N) rfl (WO.nil ?_));exact WX.cE rfl rfl (Kp.refl _)
  rintro vsx j s ⟨-,-,-,-,e4,-,-,e7,-⟩;replace s:Kp [] (e.setRow b (cur.take (i*z)++vs++cur.drop (i*z+vs.length)).toArray) j:=s;refine WO.fq (fr':=[(50,.slice (some ⟨b,(i+1)*z,none⟩) (n+1-(i+1)) (G-(i+1))),(53,.slice (some ⟨g,i*z,none⟩) (n-i) (c-i)),(9,.slice (some ⟨b,0,none⟩) (n+1) G)]) ⟨⟨_,rfl,e4⟩,⟨_,rfl,e7⟩,⟨_,rfl,rfl⟩,trivial⟩ ?_;have L:j.heap[b]? =some (.cells (toArray (cur.take (i*z)++vs++cur.drop (i*z+vs.length))) E (0,0)):=by rw[s.block b (by simpa using mc a) aa];exact I3 e b _ _ E _ a
  have v6:j0 j ⟨g,i*z,none⟩ ds:=(U.kp (Kp.setRow e b _) r (by simpa using B.symm)).kp s (by simpa using r) aa;refine WO.v (R.BJ rfl rfl d k L J v6 (by subst K;simp only[s8,sh,length_drop];omega) H) rfl ?_;refine my (nW (fB rfl rfl (At rfl rfl (my (WC.ret (WX.y_ (WX.SW rfl rfl ?_)))))));exact⟨rfl,j,s,rfl⟩
variable{fA:Nat×Nat}{curA:Array Value}{tA:TypeId}
set_option maxRecDepth 100000 in
def Pj{E y:Nat}(s:TW nt E S f z y zs){g c:Nat}(z2:i<n)(Z:n+1<=c)(p:c<=maxLen)
  (a:w.heap[g]? =some (.cells cur.toArray E (0,0)))(I:(n+1)*z<=cur.length)(J:j0 w ad vs)(j:w.heap[ad.block]? =some (.cells curA tA fA))(k:curA.size≠0)(l:ad.block≠g)(t:vs.length=z)(K:j0 w ⟨g,i*z,none⟩ ds)(x:ds.length=(n-i)*z)
  (A:∀u∈vs,u.oneCell'=true)(B:∀u∈ds,u.oneCell'=true):
  mT prog f [.slice (some ⟨g,0,none⟩) n c,.int .i64 (i:Int),.slice (some ad) 1 vc].toArray w λv L=>v=.slice (some ⟨g,0,none⟩) (n+1) c/\∃d,Kp [] w d/\L=(d.setRow g (cur.take ((i+1)*z)++ds++cur.drop ((i+1)*z+ds.length)).toArray).setRow g ((cur.take ((i+1)*z)++ds++cur.drop ((i+1)*z+ds.length)).take (i*z)++vs++(cur.take ((i+1)*z)++ds++cur.drop ((i+1)*z+ds.length)).drop (i*z+vs.length)).toArray:=by
 have p:c<=9223372036854775807:=p;have C:vs.length=Nat.min 1 (n+1-i)*z:=by rw[show Nat.min 1 (n+1-i)=1 from I2 N,Nat.one_mul];exact t
 have D:ds.length=Nat.min (n+1-i) (n+1-(i+1))*z:=by rw[show Nat.min (n+1-i) (n+1-(i+1))=n+1-(i+1)from V8 N,x];congr 1;omega
 have b:=twU s;have e:=twZ s;rcases s with⟨-,-,rfl,rfl,F,-⟩|⟨-,-,rfl,rfl,F,-⟩;rotate_left
 refine mT.enter func334 rfl rfl rfl rfl ?_;rotate_left
 refine mT.enter func226 rfl rfl rfl rfl ?_;all_goals
  refine nW (At rfl rfl (my (nW (fB rfl rfl (fB rfl rfl (WO.v (R.iZ rfl rfl b e rfl N) rfl (my (nW (fB rfl rfl (WO.v (R.len rfl b) rfl (At rfl rfl (my (WC.seq (nW (fB rfl rfl (WO.v (R.eql rfl rfl) rfl (my (WC.cond rfl (λq=>absurd (C6 q) N) (λ_=>?_)))))))))))))))))));refine WC.skip (WX.next (nW (fB rfl rfl (WO.v (R.len rfl b) rfl (At rfl rfl (my (WC.seq (nW (fB rfl rfl (fB rfl rfl (WO.v (R.eql rfl rfl) rfl (my (WC.cond rfl (λq=>absurd (C6 q) N) (λ_=>?_))))))))))))));refine WC.skip (WX.next (WC.seq (nW (fB rfl rfl (fB rfl rfl (WO.v (R.Ee rfl rfl N) rfl (fB rfl rfl (WO.v (R.agX rfl b) rfl (WO.v (R.gtr rfl rfl) rfl (my (WC.cond rfl (λq=>absurd (C6 q) N) (λ_=>?_))))))))))));refine WC.skip (WX.next (nW (fB rfl rfl (fB rfl rfl (fB rfl rfl (WO.v (R.Ee rfl rfl N) rfl (WO.v (R.rY (a':=some ⟨g,0,none⟩) rfl rfl b e ((nE (i:=0) N).trans (by rw[O7])) N) rfl (At rfl rfl (my (WC.seq (nW (fB rfl rfl (fB rfl rfl (fB rfl rfl (fB rfl rfl (WO.v (R.Ee rfl rfl N) rfl (WO.v (R.iZ rfl rfl b e (nE N) N) rfl ?_)))))))))))))))));first|refine(WO.v (R.ovl (tR:=4) func247 rfl rfl cj cj b e l j k a rfl rfl) rfl ?_)|refine(WO.v (R.ovl (tR:=4) func351 rfl rfl cj cj b e l j k a rfl rfl) rfl ?_)
  refine WO.v (R.not rfl) rfl (my (WC.Ob rfl (WC.seq (WC.TG pf [.ex [] (.slice (some ⟨g,0,none⟩) (n+1) c),.ex [] (.int .i64 ((i:Nat):Int)),.ex [] (.int .i64 ((1:Nat):Int)),.ex [1,2] (.int .i64 ((i+1:Nat):Int)),.ex [0,3] (.slice (some ⟨g,(i+1)*z,none⟩) (n+1-(i+1)) (c-(i+1))),.ex [] (.slice (some ⟨g,0,none⟩) (n+1) c),.ex [] (.int .i64 ((i:Nat):Int)),.ex [5,6] (.slice (some ⟨g,i*z,none⟩) (n+1-i) (c-i))] 8 cj ⟨λ_ _ _ h _=>h,λ_ _ _ h _=>h,λ_ _ _ h _=>h,λ_ _ _ h _=>h,λ_ _ _ h _=>h,λ_ _ _ h _=>h,λ_ _ _ h _=>h,λ_ _ _ h _=>h,trivial⟩ ⟨?_,?_,?_,?_,?_,?_,?_,?_,trivial⟩ ?_))))
  .rintro vs m kd ⟨-⟩;refine WO.fq (fr':=[(0,.slice (some ⟨g,0,none⟩) (n+1) c)]) ⟨⟨_,rfl,rfl⟩,trivial⟩ (fB rfl rfl (WO.nil ?_));exact WX.cE rfl rfl (Kp.refl _)
  .rintro vs m kd ⟨-⟩;refine WO.fq (fr':=[(1,.int .i64 ((i:Nat):Int))]) ⟨⟨_,rfl,rfl⟩,trivial⟩ (fB rfl rfl (WO.nil ?_));exact WX.cE rfl rfl (Kp.refl _)
  .rintro vs m kd ⟨-⟩;refine WO.fq (fr':=[(7,.int .i64 ((1:Nat):Int))]) ⟨⟨_,rfl,rfl⟩,trivial⟩ (fB rfl rfl (WO.nil ?_));exact WX.cE rfl rfl (Kp.refl _)
  .rintro vs m kd ⟨v6,m3,-⟩;refine WO.fq (fr':=[(70,.int .i64 ((i:Nat):Int)),(71,.int .i64 ((1:Nat):Int))]) ⟨⟨_,rfl,v6⟩,⟨_,rfl,m3⟩,trivial⟩ (WO.v (R.Ee rfl rfl N) rfl (WO.nil ?_));exact WX.cE rfl rfl (Kp.refl _)
  .rintro vs m kd ⟨P,Q,-⟩;refine WO.fq (fr':=[(69,.slice (some ⟨g,0,none⟩) (n+1) c),(72,.int .i64 ((i+1:Nat):Int))]) ⟨⟨_,rfl,P⟩,⟨_,rfl,Q⟩,trivial⟩ (WO.v (R.iZ rfl rfl b e (nE N) N) rfl (WO.nil ?_));exact WX.cE rfl rfl (Kp.refl _)
  .rintro vs m kd ⟨-⟩;refine WO.fq (fr':=[(0,.slice (some ⟨g,0,none⟩) (n+1) c)]) ⟨⟨_,rfl,rfl⟩,trivial⟩ (fB rfl rfl (WO.nil ?_));exact WX.cE rfl rfl (Kp.refl _)
  .rintro vs m kd ⟨-⟩;refine WO.fq (fr':=[(1,.int .i64 ((i:Nat):Int))]) ⟨⟨_,rfl,rfl⟩,trivial⟩ (fB rfl rfl (WO.nil ?_));exact WX.cE rfl rfl (Kp.refl _)
  .rintro vs m kd ⟨T,U,-⟩;refine WO.fq (fr':=[(74,.slice (some ⟨g,0,none⟩) (n+1) c),(75,.int .i64 ((i:Nat):Int))]) ⟨⟨_,rfl,T⟩,⟨_,rfl,U⟩,trivial⟩ (WO.v (R.iZ rfl rfl b e (nE N) N) rfl (WO.nil ?_));exact WX.cE rfl rfl (Kp.refl _)
  rintro V d o ⟨-,-,-,-,v2,-,-,m1,-⟩;replace o:Kp [] w d:=o;refine WO.fq (fr':=[(73,.slice (some ⟨g,(i+1)*z,none⟩) (n+1-(i+1)) (c-(i+1))),(76,.slice (some ⟨g,i*z,none⟩) (n+1-i) (c-i)),(0,.slice (some ⟨g,0,none⟩) (n+1) c),(1,.int .i64 ((i:Nat):Int)),(2,.slice (some ad) 1 vc)]) ⟨⟨_,rfl,v2⟩,⟨_,rfl,m1⟩,⟨_,rfl,rfl⟩,⟨_,rfl,rfl⟩,⟨_,rfl,rfl⟩,trivial⟩ ?_;have r:d.heap[g]? =some (.cells (toArray cur) E (0,0)):=by rw[o.block g (mc a) aa];exact a
  refine WO.v (R.BJ rfl rfl b e r D (K.kp o (mc a) aa) (by subst F;omega) B) rfl ?_;refine my ?_;have G:(d.setRow g (cur.take ((i+1)*z)++ds++cur.drop ((i+1)*z+ds.length)).toArray).heap[g]? =some (.cells (toArray (cur.take ((i+1)*z)++ds++cur.drop ((i+1)*z+ds.length))) E (0,0)):=I3 d g _ _ E _ r;have H:j0 (d.setRow g (cur.take ((i+1)*z)++ds++cur.drop ((i+1)*z+ds.length)).toArray) ad vs:=(J.kp o (mc j) aa).kp (Kp.setRow d g _) (y7 (mc j) o.size) (by simpa using λh=>l h.symm);refine nW (fB rfl rfl (fB rfl rfl (WO.v (R.iZ rfl rfl b e (nE N) N) rfl (fB rfl rfl ?_))));refine WO.v (R.BJ rfl rfl b e G C H (by subst F;simp only[s8,sh,length_drop];omega) A) rfl ?_;refine my (nW (fB rfl rfl (At rfl rfl (my (WC.ret (WX.y_ (WX.SW rfl rfl ?_)))))));exact⟨rfl,d,o,rfl⟩
variable{k:Nat}
def UG{E y:Nat}(m3:TW nt E S f z y zs){G:Gl}{v6:List RE}{H:AH}(hs:G.shp=bj p6)(Z:pe G v6 H w){l m:List (l7 (.nm nt))}(hH:l9 H 0=.row E (.nm nt) l)(hl:l.length<1048576)(hi:i<=l.length){v0:Value}(h0:Rd (cx G v6 w) v6 (.own 0) v0)
  {o:List Value}{bAV:AV}(hm:m.length=1)(hb:Rd (cx G v6 w) v6 bAV (.slice (some ad) 1 k))(hbv:(bAV.vw H).iu (.nm nt)=some m)(hv:j0 w ad o)(C:o.length=z)(h1v:∀u∈o,u.oneCell'=true)(hp:r6 (cx G v6 w) (m.flatMap (cellsOf (.nm nt))) o)
  (hne:∀g c n z,v6[0]? =some (.row g c n z)->ad.block≠g)(hvb:w.heap[ad.block]? =some (.cells curA tA fA))(hvb0:curA.size≠0):
  mT prog f [v0,.int .i64 (i:Int),.slice (some ad) 1 k].toArray w λv s=>∃q,u6 (jR 0) v6 w q s/\pe G q ((kW (AV.kill 0) H).set 0 (.row E (.nm nt) (l.take i++m++l.drop i))) s/\Rd (cx G q s) q (.own 0) v:=by
 have US:=twU m3;obtain⟨hz,hby,hzs⟩:=twS m3;have r:=twN m3;have hT:bG prog G.shp p6:=hs▸fa;obtain⟨hshp,hlen⟩:=fu Z hH;have hl64:l.length<=9223372036854775807:=by omega
 have hin:((l.length:Nat):Int)<=9223372036854775807:=by omega
 by_cases hie:i=l.length
 .subst hie;have hc:∃A c,v0=.slice A l.length c:=by
   rcases h0 with⟨g,d,len,_,B,rfl⟩|⟨B,a,rfl⟩
   .rcases cS Z hH with⟨t,_⟩|⟨g',V,cells,sp,t,_⟩
    .rw[B]at t;cases t
    rw[B]at t;cases t;exact⟨_,_,rfl⟩
   rcases cS Z hH with⟨_,t⟩|⟨g',V,cells,sp,t,_⟩
   .subst t;exact⟨_,_,rfl⟩
   rw[B]at t;cases t
  obtain⟨A,c,rfl⟩:=hc;refine ab2 m3 λF x y ty hx hy=>?_;have D:qk p6 (jR 0) ([]:lg) H S (.own 0) bAV=some ⟨one (.own 0),[],(kW (AV.kill 0) H).set 0 (.row E (.nm nt) (l++m)),[(l.length+m.length)*(Sh.nm nt).bytes<=140737488355328],[]⟩:=by
   have h5:=twT m3;rcases m3 with⟨rfl,rfl,-⟩|⟨rfl,rfl,-⟩<;>(unfold qk;rw[h5];simp only[hbv,qV,hH];rfl)
  obtain⟨v,s,B,q,t,h3,_,h5,_⟩:=qT (P:=prog) (n:=95) (F:=[]) (ty:=ty) (fr:=[]) (x:=.const (.slice A l.length c)) (y:=.const (.slice (some ad) 1 k)) hT Z .nil D (by
   intro p hp;rw[D0]at hp;subst hp;show(l.length+m.length)*_<=_;rw[hby];(rcases r with⟨rfl,rfl⟩|⟨rfl,rfl⟩<;>omega)) h0 hb rfl rfl
  refine⟨v,s,R.WT B hx hy,q,t,?_,h5⟩;rw[O1,List.drop_length,A1];exact h3
 have hlt:i<l.length:=by omega
 rcases cS Z hH with⟨_,t⟩|⟨g,d,cells,sp,I,hg,Q,hsz,hcap,J⟩
 .subst t;simp at hlt
 obtain⟨hnb,hil,hiH⟩:=rJ Z hH;have hv0:v0=.slice (some ⟨g,0,none⟩) l.length d:=by
  rcases h0 with⟨g',V,len,_,B,rfl⟩|⟨B,a,rfl⟩
  .rw[I]at B;cases B;rfl
  rw[I]at B;cases B
 subst hv0;have hcl:cells.length=l.length*z:=by rw[<-Q.length,cX,hz]
 rw[hz,s8]at hsz;have v2:∀u∈cells.drop (i*z),u.oneCell'=true:=λu hu=>Q.ZH u (List.mem_of_mem_drop hu);have hd:j0 w ⟨g,i*z,none⟩ (cells.drop (i*z)):=by
  have:=(dW hg).shift (i*z);rwa[add_lit,A3]at this
 have hdl:(cells.drop (i*z)).length=(l.length-i)*z:=by rw[length_drop,hcl];(rcases r with⟨rfl,rfl⟩|⟨rfl,rfl⟩<;>omega)
 have hgl:=mc hg;have hzl:(l.take i++m++l.drop i).length=l.length+1:=by
  rw[s8,s8,sh,length_drop,hm];omega
 have hnew:∀{c:Cx},(cx G v6 w).le c->r6 c ((l.take i++m++l.drop i).flatMap (cellsOf (.nm nt))) (cells.take (i*z)++o++cells.drop (i*z)):=λ{c} hle=>by
  rw[Q8,Q8,<-hz];exact(((cz Q i).append hp).append (c_ Q i)).ed hle
 have hnl:(cells.take (i*z)++o++cells.drop (i*z)).length=(l.length+1)*z:=by
  rw[s8,s8,sh,length_drop,hcl,C];(rcases r with⟨rfl,rfl⟩|⟨rfl,rfl⟩<;>omega)
 have hbig:(l.take i++m++l.drop i).length*(Sh.nm nt).bytes<=140737488355328:=by rw[hzl,hby];(rcases r with⟨rfl,rfl⟩|⟨rfl,rfl⟩<;>omega)
 have fin:∀(S:List Nat) (m1 j:Nat) (T:List Value) (s:World),Kp S w s->(∀b∈S,b=g)->(m1=g\/w.heap.size<=m1)->s.heap[m1]? =some (.cells (toArray (cells.take (i*z)++o++cells.drop (i*z)++T)) E (0,0))->(l.length+1)*z+T.length=j*z->l.length+1<=j->j<=maxLen->
   ∃q,u6 (jR 0) v6 w q s/\pe G q ((kW (AV.kill 0) H).set 0 (.row E (.nm nt) (l.take i++m++l.drop i))) s/\Rd (cx G q s) q (.own 0) (.slice (some ⟨m1,0,none⟩) (l.length+1) j):=by
  intro S m1 j T s hk hS hg2 hh hlen2 hle2 hmax2;obtain⟨k1,k2,_⟩:=mM (ro:=jR 0) (s':=.nm nt) (e':=E) (zs:=l.take i++m++l.drop i) Z hH ⟨rfl,rfl⟩ hk (λb hb=>⟨_,I,by rw[hS b hb];rfl⟩) (r':=.row m1 j (l.take i++m++l.drop i).length (Sh.nm nt).size) (λb hb=>by
   cases hb;rcases hg2 with rfl|hg2
   .exact .inl ⟨_,I,rfl⟩
   exact .inr ⟨hg2,mc hh⟩) (λhle=>⟨hshp,hbig,.inr ⟨m1,j,_,T,rfl,hh,hnew hle,by rw[s8,hnl,hz];exact hlen2,by rw[hzl];exact hle2,hmax2⟩⟩)
  exact⟨_,k1,k2,.inl ⟨m1,j,_,_,G5 hil,by rw[hzl]⟩⟩
 have eo:(i+1)*z=i*z+z:=Nat.succ_mul ..;by_cases K:l.length+1<=d
 .refine(Pj m3 hlt K J hg (by rw[s8];(rcases r with⟨rfl,rfl⟩|⟨rfl,rfl⟩<;>omega)) hv hvb hvb0 (hne _ _ _ _ I) C hd hdl h1v v2).mono λv s ⟨e1,z2,k1,e2⟩=>?_;subst e1;subst e2;rw[eo,akv (by(rcases r with⟨rfl,rfl⟩|⟨rfl,rfl⟩<;>omega)) C];have hk:Kp [g] w ((z2.setRow g ((cells++sp).take (i*z+z)++cells.drop (i*z)++(cells++sp).drop (i*z+z+(cells.drop (i*z)).length)).toArray).setRow g (cells.take (i*z)++o++cells.drop (i*z)++sp.drop z).toArray):=((k1.sub aa).step (Kp.setRow z2 g _) aa).step (Kp.setRow _ g _) aa;have hg1:z2.heap[g]? =some (.cells (toArray (cells++sp)) E (0,0)):=by rw[k1.block g hgl aa];exact hg
  exact fin [g] g d (sp.drop z) _ hk aa (.inl rfl) (I3 _ g _ _ E _ (I3 z2 g _ _ E _ hg1)) (by rw[length_drop];(rcases r with⟨rfl,rfl⟩|⟨rfl,rfl⟩<;>omega)) K J
 obtain⟨ti,hi0,hz0,hz1,hz2⟩:=info_parts (twI m3);have eik:i+(l.length+1-i)=l.length+1:=by omega
 have hge:=grownCap_ge w (l.length+1) d E;have hgm:=grownCap_le_maxLen w (l.length+1) d E (by simp[maxLen];omega);have hold:(Builtin.firstCells ti.size i (.slice (some ⟨g,0*z,none⟩) i d)).run prog w.drew=.ok (cells.take (i*z)).toArray w.drew:=by
  have h:=Y2 (P:=prog) w.drew ⟨g,0*z,none⟩ (cells.take (i*z)) (by rw[O7];exact(dW hg).take _);rw[sh,I2 (by(rcases r with⟨rfl,rfl⟩|⟨rfl,rfl⟩<;>omega))]at h;rw[hz1];exact h
 have D:∀(F:Fr) (x y:Operand) (ty:TypeId),ev F x=some (.slice (some ⟨g,0*z,none⟩) i d)->ev F y=some (.int .i64 ((l.length+1-i:Nat):Int))->aW prog 95 F w (.call {callee:=.builtin .append,args:=#[x,y],argTypes:=#[S,3]}) ty (.slice (some ⟨w.heap.size,0,none⟩) (l.length+1) (grownCap w (l.length+1) d E)) (w.drew.alloc (.cells (toArray (cells.take (i*z)++((Builtin.zeroCells (Value.agg zs.toArray).cells (l.length+1-i)).toList++(Builtin.zeroCells (Value.agg zs.toArray).cells (grownCap w (l.length+1) d E-(l.length+1))).toList))) E)):=λF x y ty hx hy=>by
  have h:=R.apm (P:=prog) (n:=95) (ty:=ty) hx hy US underlying3 hi0 hz0 hold N (by rw[hz1];(rcases r with⟨rfl,rfl⟩|⟨rfl,rfl⟩<;>omega)) N N (by rw[hz2];(rcases r with⟨rfl,rfl⟩|⟨rfl,rfl⟩<;>omega)) (by rw[hz2,eik];exact growslice_fits N (by(rcases r with⟨rfl,rfl⟩|⟨rfl,rfl⟩<;>omega)));rw[eik]at h;have e:∀(a:List Value) (b c:Array Value),a.toArray++b++c=(a++(b.toList++c.toList)).toArray:=λa b c=>by apply J4;simp
  rw[e]at h;exact h
 have hcurl:(cells.take (i*z)++((Builtin.zeroCells (Value.agg zs.toArray).cells (l.length+1-i)).toList++(Builtin.zeroCells (Value.agg zs.toArray).cells (grownCap w (l.length+1) d E-(l.length+1))).toList)).length=grownCap w (l.length+1) d E*z:=by
  rw[s8,s8,sh,FK,FK,hzs];(rcases r with⟨rfl,rfl⟩|⟨rfl,rfl⟩<;>omega)
 have htk:(cells.take (i*z)++((Builtin.zeroCells (Value.agg zs.toArray).cells (l.length+1-i)).toList++(Builtin.zeroCells (Value.agg zs.toArray).cells (grownCap w (l.length+1) d E-(l.length+1))).toList)).take (i*z)=cells.take (i*z):=take_left' (by rw[sh];(rcases r with⟨rfl,rfl⟩|⟨rfl,rfl⟩<;>omega));generalize grownCap w (l.length+1) d E=GC at*;generalize cells.take (i*z)++((Builtin.zeroCells (Value.agg zs.toArray).cells (l.length+1-i)).toList++(Builtin.zeroCells (Value.agg zs.toArray).cells (GC-(l.length+1))).toList)=cur at*;have U:Kp [] w (w.drew.alloc (.cells (toArray cur) E)):=((Kp.refl w).drew).step (Kp.alloc w.drew _) aa;have L:(w.drew.alloc (.cells (toArray cur) E)).heap[w.heap.size]? =some (.cells (toArray cur) E (0,0)):=M5 w.drew _;generalize w.drew.alloc (.cells (toArray cur) E)=W1 at*;refine(YB m3 hlt hcap N J hge hgm D L (by(rcases r with⟨rfl,rfl⟩|⟨rfl,rfl⟩<;>omega)) (hv.kp U (mc hvb) aa) C (hd.kp U hgl aa) N (y7 hgl U.size) hdl h1v v2).mono λv s ⟨e1,z2,k1,e2⟩=>?_;subst e1;subst e2;rw[eo,akM (cells:=cells) (by(rcases r with⟨rfl,rfl⟩|⟨rfl,rfl⟩<;>omega)) C htk];have hs1:∀b∈[w.heap.size],b∈([]:List Nat)\/w.heap.size<=b:=λb hb=>.inr (by rw[D0]at hb;omega);have hk:Kp [] w (z2.setRow w.heap.size (cells.take (i*z)++o++cells.drop (i*z)++cur.drop (i*z+z+(cells.drop (i*z)).length)).toArray):=((U.step (Kp.setRow W1 w.heap.size _) hs1).step k1 aa).step (Kp.setRow z2 w.heap.size _) hs1;have hg1:=(k1.block w.heap.size (by simpa using mc L) aa).trans (I3 W1 w.heap.size _ (cur.take (i*z)++o++cur.drop (i*z+o.length)).toArray E _ L);exact fin [] w.heap.size GC _ _ hk aa (.inr (tw _)) (I3 z2 w.heap.size _ _ E _ hg1) (by rw[length_drop];(rcases r with⟨rfl,rfl⟩|⟨rfl,rfl⟩<;>omega)) hge hgm
def Sj{nt:NT}{E S f z y:Nat}{zs:List Value}(p:TW nt E S f z y zs)(i:Int)(l m:List (l7 (.nm nt)))(h:0<=i/\i<=(l.length:Int))(L:l.length<1048576)(q:m.length=1):r8 prog (bj p6) f [.c (.own 0),.c (.int i),.c (.fz (.nm nt) m)] [.row E (.nm nt) l] ⟨[0<=i/\i<=(l.length:Int),l.length<1048576,m.length=1],[.c (.own 0)],some [.row E (.nm nt) (l.take i.toNat++m++l.drop i.toNat)],false⟩:=by
 refine⟨by rcases p with⟨-,-,-,rfl,-⟩|⟨-,-,-,rfl,-⟩;exact⟨_,func226,am,rfl⟩;exact⟨_,func334,am,rfl⟩,λG d w vs v6 F a=>?_⟩;obtain⟨i,rfl⟩:=y6 h.1;cases a with|cons r a=>
 cases a with|cons s a=>
 cases a with|cons b a=>
 cases a;have s:Pd (cx G d w) (.int (i:Int)) _:=s;cases s;have r:Rd (cx G d w) d (.own 0) _:=r;have b:Rd (cx G d w) d (.fz (.nm nt) m) _:=b;have m3:l9 [AO.row E (.nm nt) l] 0=.row E (.nm nt) l:=rfl;have j:(AV.vw [AO.row E (.nm nt) l] (.fz (.nm nt) m)).iu (.nm nt)=some m:=by simp[AV.vw,AV.iu,l9]
 obtain⟨A,k,o,rfl,x,P,H,Q⟩:=po F j b;rw[q]at b x H;rw[q];obtain⟨ad,rfl,I⟩:∃ad,A=some ad/\j0 w ad o:=H.resolve_left am;obtain⟨T,U,-⟩:=twS p;have V:=twN p;rw[T]at x;obtain⟨u,v2⟩:∃u,o[0]? =some u:=⟨_,r5 (by(rcases V with⟨rfl,rfl⟩|⟨rfl,rfl⟩<;>omega))⟩;obtain⟨cur,t,f1,J,B⟩:=xT (I 0 u v2);have C:∀g c n z,d[0]? =some (.row g c n z)->ad.block≠g:=λg c n z m1 e=>by
  have b:Pd (cx G d w) (.fz (.nm nt) m) (.slice (some ad) 1 k):=b;have R:=aeX b (by rw[q];decide);exact R.1.2.1 ⟨0,_,m1,by rw[e];rfl⟩
 rw[iq]at J;refine(UG p v6 F m3 L N r q b j I (x.trans (Nat.one_mul z)) P Q C J B).mono λv w' ⟨D,K,Z,k3⟩=>?_;exact⟨[v],rfl,D,Z,K.ext,K.bx,.cons k3 .nil,λhb=>by cases hb⟩
def yv:=@Sj .opn 122 53 334 2 16 [.int .i64 0,.int .i64 0] (.inr ⟨rfl,rfl,rfl,rfl,rfl,rfl,rfl⟩)
def ZP{nt:NT}{E S f z y:Nat}{zs:List Value}(q:TW nt E S f z y zs)(i:Int)(l m:List (l7 (.nm nt)))(h:0<=i/\i<=(l.length:Int))(Q:l.length<1048576)(r:m.length=1):r8 prog (bj p6) f [.c (.own 0),.c (.int i),.c (.own 1)] [.row E (.nm nt) l,.row E (.nm nt) m] ⟨[0<=i/\i<=(l.length:Int),l.length<1048576,m.length=1],[.c (.own 0)],some [.row E (.nm nt) (l.take i.toNat++m++l.drop i.toNat),.row E (.nm nt) m],false⟩:=by
 refine⟨by rcases q with⟨-,-,-,rfl,-⟩|⟨-,-,-,rfl,-⟩;exact⟨_,func226,am,rfl⟩;exact⟨_,func334,am,rfl⟩,λG d w vs T s b=>?_⟩;obtain⟨i,rfl⟩:=y6 h.1;cases b with|cons x b=>
 cases b with|cons B b=>
 cases b with|cons j b=>
 cases b;have B:Pd (cx G d w) (.int (i:Int)) _:=B;cases B;have x:Rd (cx G d w) d (.own 0) _:=x;have j:Rd (cx G d w) d (.own 1) _:=j;have U:l9 [AO.row E (.nm nt) l,.row E (.nm nt) m] 0=.row E (.nm nt) l:=rfl;have o:(AV.vw [AO.row E (.nm nt) l,.row E (.nm nt) m] (.own 1)).iu (.nm nt)=some m:=by simp[AV.vw,AV.iu,l9]
 obtain⟨A,k,p,rfl,C,V,J,v2⟩:=po s o j;rw[r]at j C J;rw[r];obtain⟨ad,rfl,K⟩:∃ad,A=some ad/\j0 w ad p:=J.resolve_left am;obtain⟨m1,R,-⟩:=twS q;have Z:=twN q;rw[m1]at C;obtain⟨u,hu⟩:∃u,p[0]? =some u:=⟨_,r5 (by(rcases Z with⟨rfl,rfl⟩|⟨rfl,rfl⟩<;>omega))⟩;obtain⟨cur,t,f1,L,D⟩:=xT (K 0 u hu);have F:∀g c n z,d[0]? =some (.row g c n z)->ad.block≠g:=λg c n z hg e=>by
  rcases j with⟨g',v6,len,z',m3,H⟩|⟨m3,a,H⟩
  .cases H;have:=s.inj 0 1 _ _ g hg m3 rfl (by rw[<-e];rfl);omega
  cases H
 rw[iq]at L;refine(UG q T s U Q N x r j o K (C.trans (Nat.one_mul z)) V v2 F L D).mono λv w' ⟨I,P,k2,k3⟩=>?_;exact⟨[v],rfl,I,k2,P.ext,P.bx,.cons k3 .nil,λhb=>by cases hb⟩
def zt:=@ZP .c8 119 52 226 4 32 [.int .i64 0,.int .i64 0,.int .i64 0,.int .i64 0] (.inl ⟨rfl,rfl,rfl,rfl,rfl,rfl,rfl⟩)
def Xl:(prog.info? 122).map (λi=>(i.zero,i.size,i.bytes))=some (some (.agg #[.int .i64 0,.int .i64 0]),2,16):=cj
def zk:(prog.info? 122).map (·.size)=some 2:=cj
def TP:(Builtin.zeroCells (Value.agg #[.int .i64 0,.int .i64 0]).cells 1).toList=[.int .i64 0,.int .i64 0]:=cj
set_option maxRecDepth 100000 in
def Qi{g c:Nat}{a:TypeInfo}(f:i<n)(B:n<=c)(e:c<=maxLen)(p:w.heap[g]? =some (.cells cur.toArray 122 (0,0)))(A:n*2<=cur.length)(r:ds.length=(n-(i+1))*2)(C:j0 w (if c=i+1 then⟨g,0,none⟩ else(⟨g,0,none⟩:Addr).add ((i+1)*2)) ds)(s:∀u∈ds,u.oneCell'=true)
  (j:prog.info? 122=some a)(t:a.zero=some (.agg #[.int .i64 0,.int .i64 0]))(d:a.size=2):
  mT prog 337 [.slice (some ⟨g,0,none⟩) n c,.int .i64 (i:Int),.int .i64 ((i+1:Nat):Int)].toArray w λv D=>v=.slice (some ⟨g,0,none⟩) (i+(n-(i+1))) c/\∃b,Kp [] w b/\D=(b.setRow g (cur.take (i*a.size)++ds++cur.drop (i*a.size+ds.length)).toArray).setRow g ((cur.take (i*a.size)++ds++cur.drop (i*a.size+ds.length)).take ((i+(n-(i+1)))*2)++(Builtin.zeroCells (Value.agg #[.int .i64 0,.int .i64 0]).cells 1).toList++(cur.take (i*a.size)++ds++cur.drop (i*a.size+ds.length)).drop ((i+(n-(i+1)))*2+(Builtin.zeroCells (Value.agg #[.int .i64 0,.int .i64 0]).cells 1).toList.length)).toArray:=by
 have e:c<=9223372036854775807:=e;refine mT.enter func337 rfl rfl rfl rfl (nW (At rfl rfl (my (nW (fB rfl rfl (fB rfl rfl (fB rfl rfl (fB rfl rfl (WO.v (R.len rfl underlying53) rfl (WO.v (R.slice3 rfl rfl rfl rfl underlying53 zk N N N) rfl (my (WC.seq (nW (fB rfl rfl (fB rfl rfl (WO.v (R.eql rfl rfl) rfl (my (WC.cond rfl (λq=>absurd (C6 q) N) (λ_=>?_)))))))))))))))))));refine WC.skip (WX.next (nW (fB rfl rfl (WO.v (R.len rfl underlying53) rfl (At rfl rfl (my (WC.seq (WC.TG pf [.ex [] (.slice (some ⟨g,0,none⟩) n c),.ex [] (.int .i64 ((i:Nat):Int)),.ex [0,1] (.slice (some ⟨g,0*2,none⟩) (i-0) (c-0)),.ex [] (.slice (some ⟨g,0,none⟩) n c),.ex [] (.int .i64 ((i+1:Nat):Int)),.ex [3,4] (.slice (some (if c=i+1 then⟨g,0,none⟩else(⟨g,0,none⟩:Addr).add ((i+1)*2))) (n-(i+1)) (c-(i+1)))] 6 cj ⟨λ_ _ _ h _=>h,λ_ _ _ h _=>h,λ_ _ _ h _=>h,λ_ _ _ h _=>h,λ_ _ _ h _=>h,λ_ _ _ h _=>h,trivial⟩ ⟨?_,?_,?_,?_,?_,?_,trivial⟩ ?_))))))))
 .rintro vs l kd ⟨-⟩;refine WO.fq (fr':=[(0,.slice (some ⟨g,0,none⟩) n c)]) ⟨⟨_,rfl,rfl⟩,trivial⟩ (fB rfl rfl (WO.nil ?_));exact WX.cE rfl rfl (Kp.refl _)
 .rintro vs l kd ⟨-⟩;refine WO.fq (fr':=[(1,.int .i64 ((i:Nat):Int))]) ⟨⟨_,rfl,rfl⟩,trivial⟩ (fB rfl rfl (WO.nil ?_));exact WX.cE rfl rfl (Kp.refl _)
 .rintro vs l kd ⟨F,G,-⟩;refine WO.fq (fr':=[(20,.slice (some ⟨g,0,none⟩) n c),(21,.int .i64 ((i:Nat):Int))]) ⟨⟨_,rfl,F⟩,⟨_,rfl,G⟩,trivial⟩ (WO.v (R.rY rfl rfl underlying53 zk (nE (i:=0) N) N) rfl (WO.nil ?_));exact WX.cE rfl rfl (Kp.refl _)
 .rintro vs l kd ⟨-⟩;refine WO.fq (fr':=[(0,.slice (some ⟨g,0,none⟩) n c)]) ⟨⟨_,rfl,rfl⟩,trivial⟩ (fB rfl rfl (WO.nil ?_));exact WX.cE rfl rfl (Kp.refl _)
 .rintro vs l kd ⟨-⟩;refine WO.fq (fr':=[(2,.int .i64 ((i+1:Nat):Int))]) ⟨⟨_,rfl,rfl⟩,trivial⟩ (fB rfl rfl (WO.nil ?_));exact WX.cE rfl rfl (Kp.refl _)
 .rintro vs l kd ⟨H,I,-⟩;refine WO.fq (fr':=[(23,.slice (some ⟨g,0,none⟩) n c),(24,.int .i64 ((i+1:Nat):Int))]) ⟨⟨_,rfl,H⟩,⟨_,rfl,I⟩,trivial⟩ (WO.v (R.iZ rfl rfl underlying53 zk aea N) rfl (WO.nil ?_));exact WX.cE rfl rfl (Kp.refl _)
 rintro J b m ⟨-,-,K,-,-,L,-⟩;replace m:Kp [] w b:=m;refine WO.fq (fr':=[(22,.slice (some ⟨g,0*2,none⟩) (i-0) (c-0)),(25,.slice (some (if c=i+1 then⟨g,0,none⟩else(⟨g,0,none⟩:Addr).add ((i+1)*2))) (n-(i+1)) (c-(i+1))),(7,.int .i64 ((n:Nat):Int))]) ⟨⟨_,rfl,K⟩,⟨_,rfl,L⟩,⟨_,rfl,rfl⟩,trivial⟩ ?_;have o:b.heap[g]? =some (.cells (toArray cur) 122 (0,0)):=by rw[m.block g (mc p) aa];exact p
 have x:j0 b (if c=i+1 then⟨g,0,none⟩else(⟨g,0,none⟩:Addr).add ((i+1)*2)) ds:=C.dc (m.block _ (by split<;>exact mc p) aa);refine WO.v (R.Wo (sl:=i) (sc:=c) rfl rfl underlying53 j o (by rw[d];exact r) x s N (by rw[d];omega)) rfl ?_;refine At rfl rfl (my ?_);have y:=I3 b g _ (cur.take (i*a.size)++ds++cur.drop (i*a.size+ds.length)).toArray 122 _ o;refine nW (fB rfl rfl (fB rfl rfl (WO.v (R.len rfl underlying53) rfl (fB rfl rfl (WO.v (R.I_ rfl rfl rfl underlying53 zk (nE N) N N) rfl ?_)))));refine WO.v0 (R.clr rfl N underlying53 j t (by rw[TP];simp[Value.oneCell']) y (by rw[FK,d];simp only[s8,sh,length_drop];show _+1*2<=_;omega)) ?_;refine my (nW (fB rfl rfl (At rfl rfl (my (WC.ret (WX.SW rfl rfl ?_))))));exact⟨rfl,b,m,rfl⟩
def AE(i j:Int)(l:List (l7 (.nm .opn)))(h:0<=i/\i<(l.length:Int)/\j=i+1):r8 prog (bj p6) 337 [.c (.own 0),.c (.int i),.c (.int j)] [.row 122 (.nm .opn) l] ⟨[0<=i/\i<(l.length:Int)/\j=i+1],[.c (.own 0)],some [.row 122 (.nm .opn) (l.take i.toNat++l.drop j.toNat)],false⟩:=by
 refine⟨⟨_,func337,am,rfl⟩,λG y w vs hs R e=>?_⟩;obtain⟨s,hi1,rfl⟩:=h;obtain⟨i,rfl⟩:=y6 s;have B:i<l.length:=by omega
 cases e with|cons C e=>
 cases e with|cons o e=>
 cases e with|cons D e=>
 cases e;have o:Pd (cx G y w) (.int (i:Int)) _:=o;have D:Pd (cx G y w) (.int ((i:Int)+1)) _:=D;cases o;cases D;have C:Rd (cx G y w) y (.own 0) _:=C;have m1:l9 [AO.row 122 (.nm .opn) l] 0=.row 122 (.nm .opn) l:=rfl;obtain⟨F,H⟩:=fu R m1;rcases cS R m1 with⟨_,D⟩|⟨g,m,d,t,p,c,q,Z,I,r⟩
 .subst D;simp at B
 obtain⟨hnb,f,hiH⟩:=rJ R m1;have k:(Sh.nm NT.opn).size=2:=rfl;have J:(Sh.nm NT.opn).bytes=16:=rfl;have n:d.length=l.length*2:=by rw[<-q.length,cX,k]
 rw[k,s8]at Z;rw[J]at H;obtain⟨ti,s,S,K,hz2⟩:=info_parts Xl;have L:∀u∈d.drop ((i+1)*2),u.oneCell'=true:=λu hu=>q.ZH u (List.mem_of_mem_drop hu);have hd:j0 w (if m=i+1 then⟨g,0,none⟩else(⟨g,0,none⟩:Addr).add ((i+1)*2)) (d.drop ((i+1)*2)):=by
  split
  .rw[M1 N];exact j0.nil
  exact(dW c).shift _
 have hv0:∀v,Rd (cx G y w) y (.own 0) v->v=.slice (some ⟨g,0,none⟩) l.length m:=λv C=>by
  rcases C with⟨g',cap',len,z,o,rfl⟩|⟨o,a,rfl⟩
  .rw[p]at o;cases o;rfl
  rw[p]at o;cases o
 obtain rfl:=hv0 _ C;have e0:((i:Int)+1)=((i+1:Nat):Int):=by omega
 rw[e0];refine(Qi B I r c (by rw[s8];omega) (by rw[length_drop,n];omega) hd L s S K).mono λv w' ⟨e1,w1,k1,E⟩=>?_;subst e1;have hq:i+(l.length-(i+1))=l.length-1:=by omega
 rw[hq,K,TP]at E;rw[hq];have m3:(l.take i++l.drop (i+1)).length=l.length-1:=by rw[s8,sh,length_drop];omega
 have P:(d.take (i*2)++d.drop ((i+1)*2)).length=(l.length-1)*2:=by rw[s8,sh,length_drop];omega
 have Q:((d++t).take (i*2)++d.drop ((i+1)*2)++(d++t).drop (i*2+(d.drop ((i+1)*2)).length)).take ((l.length-1)*2)=d.take (i*2)++d.drop ((i+1)*2):=by
  rw[N6 (l₁:=d) N];exact take_left' P
 have U:((d++t).take (i*2)++d.drop ((i+1)*2)++(d++t).drop (i*2+(d.drop ((i+1)*2)).length)).length=m*2:=by
  simp only[s8,length_drop,sh];omega
 generalize(d++t).take (i*2)++d.drop ((i+1)*2)++(d++t).drop (i*2+(d.drop ((i+1)*2)).length)=r1 at E Q U;rw[Q,J9]at E;generalize V:([.int .i64 0,.int .i64 0]:List Value)++drop ((l.length-1)*2+([.int .i64 0,.int .i64 0]:List Value).length) r1=sp2 at E;have x:(l.length-1)*2+sp2.length=m*2:=by
  rw[<-V];simp only[s8,x7,B2,length_drop];omega
 have hg1:w1.heap[g]? =some (.cells (toArray (d++t)) 122 (0,0)):=by rw[k1.block g (mc c) aa];exact c
 have hh:=I3 _ g _ (d.take (i*2)++d.drop ((i+1)*2)++sp2).toArray 122 _ (I3 w1 g _ r1.toArray 122 _ hg1);have hk:=((k1.sub (T:=[g]) aa).step (Kp.setRow w1 g r1.toArray) aa).step (Kp.setRow _ g (d.take (i*2)++d.drop ((i+1)*2)++sp2).toArray) aa;subst E;obtain⟨k2,k3,_⟩:=mM (ro:=jR 0) (s':=.nm .opn) (e':=122) (zs:=l.take i++l.drop (i+1)) R m1 ⟨rfl,rfl⟩ hk (λb A=>⟨_,p,by rw[D0]at A;subst A;rfl⟩) (r':=.row g m (l.take i++l.drop (i+1)).length (Sh.nm NT.opn).size) (λb A=>by
  cases A;exact .inl ⟨_,p,rfl⟩) (λhle=>⟨F,by rw[m3,J];omega,.inr ⟨g,m,_,sp2,rfl,hh,by
   rw[Q8];exact((cz q i).append (c_ q (i+1))).ed hle,by rw[s8,P,k];exact x,N,r⟩⟩)
 exact⟨[_],rfl,_,k3,k2.ext,k2.bx,.cons (.inl ⟨g,m,_,_,G5 f,by rw[m3]⟩) .nil,λA=>by cases A⟩
def sT{a:Type}(z:a)(k:Int):List (Int×a)->a
 |[]=>z
 |p::r=>if k=p.1 then p.2 else sT z k r
def bH(a b:Int):Int:=if(1<=a/\a<=3)/\(1<=b/\b<=3)then(if a<b then 32 else 0)else 1
def n8(n:Int):Bool:=decide (1<=n)&&decide (n<=3)
def jW(l:List Int)(k:Nat):Int:=((l.take k).tail).foldl min (l.headD 0)
def Ap(l:List Int):Int:=l.tail.foldl min (l.headD 0)
def dK(l:List Int):Int:=if decide (l.length=0)|| !l.all n8 then 0 else Ap l
def eQ(v:Int)(l:List Int):Bool:=(decide (1<=v)&&decide (v<3))&&decide (v<dK l)
variable{α:Type}
theorem ah{l:List α}{x:α}(a:l[k]? =some x):l.take (k+1)=l.take k++[x]:=by
 rw[List.take_add_one,a];rfl
variable{l:List Int}{x:Int}
theorem Fb(h:∀j y,j<k->l[j]? =some y->n8 y=true)(c:l[k]? =some x)(d:n8 x=true):∀j y,j<k+1->l[j]? =some y->n8 y=true:=by
 intro j y e a;by_cases b:j=k
 .grind
 exact h j y N a
variable{z:Int}
def ED(a:l[k]? =some x):min ((l.take k).foldl min z) x=(l.take (k+1)).foldl min z:=by
 rw[ah a,K0];rfl
theorem FL(b:1<=k)(a:l[k]? =some x):min (jW l k) x=jW l (k+1):=by
 unfold jW;rw[ah a,List.tail_append_of_ne_nil,K0]
 .rfl
 grind[List.length_take]
def LG(b:l[0]? =some x):x=jW l 1:=by
 cases l with
 |nil=>simp at b
 |cons a r=>simp at b;simp[jW,b]
def Lh(a:l.length<=k):jW l k=Ap l:=by
 unfold jW Ap;rw[take_of_length_le a]
def Fm(h:((l.length:Nat):Int)=0):dK l=0:=by
 have:l=[]:=A6 N;simp[dK,this]
theorem FZ(a:l[k]? =some x)(h:n8 x=false):dK l=0:=by
 have:l.all n8=false:=by grind
 simp[dK,this]
def Ki(h:∀j y,j<k->l[j]? =some y->n8 y=true)(c:l.length<=k)(d:¬((l.length:Nat):Int)=0):dK l=(l.take k).foldl min 3:=by
 have b:l.all n8=true:=by
  rw[Hm];intro x g;obtain⟨j,m,rfl⟩:=Y0 g;exact h j _ N (r5 m)
 rw[take_of_length_le c];cases l with
 |nil=>simp at d
 |cons a r=>
  have o:n8 a=true:=h 0 a (by simp at c;omega) rfl;simp[n8]at o;have e:min 3 a=a:=by omega
  simp[dK,b,Ap,e]
def abv[DecidableEq α]{l m:List α}(h:¬((l.length:Nat):Int)=((m.length:Nat):Int)):false=decide (l=m):=by
 symm;apply D7;rintro rfl;exact h rfl
theorem OI[DecidableEq α]{l m:List α}(a:l.length=m.length)(h:l.take k=m.take k)(b:l.length<=k):true=decide (l=m):=by grind[take_of_length_le]
def aM(n a b:Int):Bool:=decide (a<=n)&&decide (n<=b)
def au{α:Type}(c:α->Int)(b:Int):Int->List α->Bool
 |_,[]=>true
 |a,x::r=>aM (c x) (a+1) b&&au c b (c x) r
def bJ{α:Type}(b:α->Int)(a:Int)(l:List α):Int:=l.foldl (λ_ x=>b x) a
theorem iH{α:Type}{c:α->Int}{b:Int}{x:α}:∀(p:List α) (a:Int),au c b a (p++[x])=(au c b a p&&aM (c x) (bJ c a p+1) b)
 |[],a=>by simp[au,bJ]
 |y::p,a=>by
  rw[E4,au,au,iH p,Bool.and_assoc];rfl
theorem oy{α:Type}{c:α->Int}{b:Int}(q:List α):∀(p:List α) (a:Int),au c b a (p++q)=true->au c b a p=true
 |[],a,_=>rfl
 |y::p,a,h=>by
  rw[E4,au,r3]at h;rw[au,r3];exact⟨h.1,oy q p _ h.2⟩
variable{a:Int}
def gz{key:α->Int}{l:List α}{x:α}(b:l[k]? =some x):key x=bJ key a (l.take (k+1)):=by
 rw[ah b,bJ,K0];rfl
def kM{b:α->Int}{l:List α}{x:α}(h:0<k)(c:l[k-1]? =some x):bJ b a (l.take k)=b x:=by
 obtain⟨j,rfl⟩:∃j,k=j+1:=⟨k-1,N⟩;exact(gz (by simpa using c)).symm
variable{most:Int}
def mD{key:α->Int}{l:List α}{x:α}(h:au key most a (l.take k)=true)(b:l[k]? =some x)(d:bJ key a (l.take k)<key x)(c:key x<=most):au key most a (l.take (k+1))=true:=by
 rw[ah b,iH,h,Bool.true_and,aM,r3,u9,u9];exact⟨N,c⟩
def sN{key:α->Int}{l:List α}{x:α}(c:l[k]? =some x)(h:¬(bJ key a (l.take k)<key x/\key x<=most)):au key most a l=false:=by
 cases d:au key most a l with
 |false=>rfl
 |true=>
  have b:=oy (l.drop (k+1)) (l.take (k+1)) a (by rw[E7];exact d);rw[ah c,iH,r3,aM,r3,u9,u9]at b;exact absurd ⟨N,b.2.2⟩ h
def mN{b:α->Int}{l:List α}(h:au b most a (l.take k)=true)(c:l.length<=k):au b most a l=true:=by
 rwa[take_of_length_le c]at h
def bO(l:List Int):Bool:=(decide ((1:Int)<=((l.length:Nat):Int))&&decide (((l.length:Nat):Int)<=8))&&au id 64 0 l
theorem nL(b:l[k]? =some x)(h:¬(bJ id 0 (l.take k)<x/\x<=64)):false=bO l:=by
 rw[bO,sN (key:=id) b h,Bool.and_false]
def KR(h:au id 64 0 (l.take k)=true)(b:l.length<=k):(decide ((1:Int)<=((l.length:Nat):Int))&&decide (((l.length:Nat):Int)<=8))=bO l:=by
 rw[bO,mN h b,O6]
def JN(h:au id 64 0 (l.take k)=true):0<=bJ id 0 (l.take k):=by
 by_cases m:k=0
 .subst m;exact x5 _
 by_cases o:k-1<l.length
 .have j:=r5 o;rw[kM N j];have e:l.take k=l.take (k-1)++[l[k-1]]:=by
   have:=ah j;rwa[show k-1+1=k by omega]at this
  rw[e,iH,r3,aM,r3,u9]at h;have d:∀(p:List Int) (a:Int),0<=a->au id 64 a p=true->0<=bJ id a p:=by
   intro p;induction p with
   |nil=>intro a b _;exact b
   |cons y p g=>
    intro a b c;rw[au,r3,aM,r3,u9]at c;exact g (id y) N c.2
  have:=d _ _ (x5 0) h.1;omega
 have d:∀(p:List Int) (a:Int),0<=a->au id 64 a p=true->0<=bJ id a p:=by
  intro p;induction p with
  |nil=>intro a b _;exact b
  |cons y p g=>
   intro a b c;rw[au,r3,aM,r3,u9]at c;exact g (id y) N c.2
 exact d _ _ (x5 0) h
theorem oP(h:au id 64 0 (l.take k)=true)(b:l.length<=k)(c:1<=l.length/\l.length<=8):true=bO l:=by
 rw[bO,mN h b,O6];symm;rw[r3,u9,u9];omega
theorem uE(b:¬(1<=l.length/\l.length<=8)):false=bO l:=by
 symm;rw[bO,S7];left;rw[S7,J2,J2];omega
def bB(x:eS):Bool:=(aM x.seq 0 1048576&&aM x.last.code 0 99)&&aM x.last.n 0 1048576
def bC(x:n7):Bool:=aM x.a6 1 8
def vp{p:α->Bool}{l:List α}{x:α}(h:(l.take k).all p=true)(b:l[k]? =some x)(c:p x=true):(l.take (k+1)).all p=true:=by
 rw[ah b,K1,h];simp[c]
def RS{p:α->Bool}{l:List α}{x:α}(b:l[k]? =some x)(c:p x=false):l.all p=false:=by
 rw[List.all_eq_false];exact⟨x,C5 b,by simp[c]⟩
def Nj{p:α->Bool}{l:List α}(h:(l.take k).all p=true)(b:l.length<=k):l.all p=true:=by
 rwa[take_of_length_le b]at h
def bD(n:Nat):Nat:=if h:n<128 then 1 else bD (n/128)+1
termination_by n
decreasing_by omega
def oD(h:¬n<128):bD n=bD (n/128)+1:=by rw[bD,dif_neg h]
def lM(h:n<128):bD n=1:=by rw[bD,dif_pos h]
def kN(n:Nat):1<=bD n:=by rw[bD];split<;>omega
theorem CC:∀(k n:Nat),n<128^(k+1)->bD n<=k+1
 |0,n,h=>by rw[lM (by simpa using h)];omega
 |k+1,n,h=>by
  by_cases b:n<128
  .rw[lM b];omega
  rw[oD b];have:=CC k (n/128) (by rw[Nat.div_lt_iff_lt_mul N,<-Nat.pow_succ];exact h);omega
def vZ(h:n<18446744073709551616):bD n<=10:=CC 9 n (y7 h am)
def oo(n i:Nat):UInt8:=ofNat (n/128^i)|||128
def gD(n k:Nat):List UInt8:=(range k).map (oo n)++replicate (bD n-k) 0
def bm(n:Nat):List UInt8:=(gD n (bD n)).set (bD n-1) (oo n (bD n-1)&&&127)
def rG(h:k<=bD n):(gD n k).length=bD n:=by simp[gD];omega
def FH(h:k<bD n):(gD n k).set k (oo n k)=gD n (k+1):=by
 unfold gD;rw[List.set_append_right _ _ aa,K8,L0,J9];congr 1;obtain⟨j,b⟩:∃j,bD n-k=j+1:=⟨bD n-k-1,N⟩;rw[b,show bD n-(k+1)=j by omega];simp[List.replicate_succ]
def Fl(n:Nat):replicate (bD n) (0:UInt8)=gD n 0:=by simp[gD]
def EH{x:UInt8}(h:(gD n (bD n))[bD n-1]? =some x):x=oo n (bD n-1):=by
 have b:=kN n;unfold gD at h;rw[E0 (by simp;omega)]at h;simp[List.getElem?_range (show bD n-1<bD n by omega)]at h;exact h.symm
def div_pow:n/128^k/2^7=n/128^(k+1):=by show n/128^k/128=_;rw[Nat.div_div_eq_div_mul,Nat.pow_succ]
def Pg(n:Nat):(bm n).length=bD n:=by rw[bm,B1,rG (tw _)]
theorem cH(h:n<18446744073709551616):(bm n).length<=10:=by rw[Pg];exact vZ h
def fP(l:List Int):List UInt8:=l.flatMap λx=>bm x.toNat
def xC(b:l[k]? =some x):fP (l.take k)++bm x.toNat=fP (l.take (k+1)):=by
 rw[ah b];simp[fP]
def Dx(h:∀x∈l,x<=64):(fP l).length<=10*l.length:=by
 induction l with
 |nil=>simp[fP]
 |cons a l b=>
  have d:=b λx c=>h x (x9 _ c);have e:=cH (n:=a.toNat) (by have:=h a aa;omega);simp[fP]at*;omega
theorem nF(h:bO l=true):∀x∈l,0<x/\x<=64:=by
 rw[bO,r3]at h;have:∀(l:List Int) (a:Int),0<=a->au id 64 a l=true->∀x∈l,0<x/\x<=64:=by
  intro l;induction l with
  |nil=>intro a _ _ x hx;cases hx
  |cons y l c=>
   intro a d b x hx;rw[au,r3,aM,r3,u9,u9]at b;have e:a+1<=y:=b.1.1;have g:y<=64:=b.1.2;rcases v7.1 hx with rfl|hx
   .omega
   grind
 exact this l 0 N h.2
def tz(h:bO l=true):1<=l.length/\l.length<=8:=by
 rw[bO,r3,r3,u9,u9]at h;omega
def bK(l:List Int):List UInt8:=if bO l then fP l else[]
def cO(l:List Int):Int:=if bO l then 0 else 1
def Az(b:bO l=true)(c:l.length<=k):fP (l.take k)=bK l:=by rw[take_of_length_le c,bK,O b]
def rA(b:bO l=false):[]=bK l:=by rw[bK,b];rfl
def mP(b:bO l=true):0=cO l:=by rw[cO,b];rfl
theorem ly(b:bO l=false):1=cO l:=by rw[cO,b];rfl
def dY(v t:Int)(x:ie):Bool:=((decide (cO x.c6=0)&&aM x.set 1 8)&&(!x.held||decide (2<=v)))&&decide (((x.tag.b.length:Nat):Int)<=t)
def ny(v:Int):Int:=if v<3 then 0 else 16
def f_(s:c5)(v:Int):Bool:=!(decide (16<((s.c3.length:Nat):Int))|| !(au ie.id (s.next-1) 0 s.c3))&&s.c3.all (dY v (ny v))
def gk(s:c5)(v:Int):Bool:=((aM s.bo 1 3&&aM s.next 1 1048576)&&aM s.dc 0 8)&&aM s.eR 0 (if v<3 then 0 else 64)
def pI(s:c5):Bool:=au eS.a6 8 0 s.c8&&s.c8.all bB
def nB(s:c5):Bool:=au n7.set 8 0 s.eb&&s.eb.all bC
def bP(s:c5)(v:Int):Int:=if !(aM v 1 3)then 1 else if(((!gk s v|| !pI s)|| !nB s)|| !f_ s v)then 6 else 0
def anf{s:c5}{v:Int}(h:(!(aM v 1 3))=true):1=bP s v:=by rw[bP,O h]
def iP(next v:Int)(x:ie):Bool:=((((bO x.c6&&aM x.id 1 (IntKind.i64.wrap (next-1)))&&aM x.set 1 8)&&(!x.held||decide (2<=v)))&&decide (((x.tag.b.length:Nat):Int)<=16))&&(decide (x.tag=⟨[]⟩)||decide (3<=v))
def bA{α:Type}(p:α->Bool)(b:α->Int)(most:Int)(l:List α):Bool:=au b most 0 l&&l.all p
def pA(s:c5)(v:Int):Bool:=((((((decide ((1:Int)<=s.bo))&&(decide (s.bo<=(3:Int))))&&((decide ((1:Int)<=s.next))&&(decide (s.next<=(1048576:Int)))))&&((decide ((0:Int)<=s.dc))&&(decide (s.dc<=(8:Int)))))&&((decide ((0:Int)<=s.eR))&&(decide (s.eR<=(64:Int)))))&&(decide (s.eR=(0:Int))||decide ((3:Int)<=v)))&&decide (((s.c3.length:Nat):Int)<=(16:Int))
theorem su{p:α->Bool}{b:α->Int}{l:List α}{x:α}(g:l[k]? =some x):bA p b most (l.take (k+1))=(bA p b most (l.take k)&&(aM (b x) 1 most&&p x)&&(decide (((k:Nat):Int)=(0:Int))||decide (bJ b 0 (l.take k)<b x))):=by
 unfold bA;rw[ah g,iH,K1];have e:aM (b x) (bJ b 0 (l.take k)+1) most=true↔(bJ b 0 (l.take k)<b x/\b x<=most):=by
  unfold aM;rw[r3,u9,u9];omega
 have C:aM (b x) 1 most=true↔(1<=b x/\b x<=most):=by
  unfold aM;rw[r3,u9,u9]
 have m:∀(q:List α) (a:Int),0<=a->au b most a q=true->q≠[]->1<=bJ b a q:=by
  intro q;induction q with
  |nil=>intro a _ _ h;exact absurd rfl h
  |cons y q o=>
   intro a D j _;rw[au,r3,aM,r3,u9]at j;cases q with
   |nil=>show 1<=b y;omega
   |cons z q=>exact o (b y) N j.2 aa
 cases r:au b most 0 (l.take k)with
 |false=>simp
 |true=>
  by_cases s:k=0
  .subst s;have t:bJ b 0 (l.take 0)=0:=rfl;have u:aM (b x) (bJ b 0 (l.take 0)+1) most=aM (b x) 1 most:=by rw[t];rfl
   rw[u];simp
  have c:l.take k≠[]:=by
   intro h;have v:(l.take k).length=0:=by rw[h];rfl
   have F:=oK g;rw[sh]at v;omega
  have G:=m _ _ (x5 0) r c;have A:aM (b x) (bJ b 0 (l.take k)+1) most=(aM (b x) 1 most&&decide (bJ b 0 (l.take k)<b x)):=by grind
  have B:decide (((k:Nat):Int)=(0:Int))=false:=D7 N;rw[A,B];cases aM (b x) 1 most<;>cases decide (bJ b 0 (l.take k)<b x)<;>cases(l.take k).all p<;>cases d:p x<;>simp[d]
variable{B:Bool}
def Lt{l:List eS}{x:eS}(b:l[k]? =some x):(B&&bA bB eS.a6 8 (l.take (k+1)))=((((((B&&bA bB eS.a6 8 (l.take k))&&((decide ((1:Int)<=x.a6))&&(decide (x.a6<=(8:Int)))))&&((decide ((0:Int)<=x.seq))&&(decide (x.seq<=(1048576:Int)))))&&((decide ((0:Int)<=x.last.code))&&(decide (x.last.code<=(99:Int)))))&&((decide ((0:Int)<=x.last.n))&&(decide (x.last.n<=(1048576:Int)))))&&(decide (((k:Nat):Int)=(0:Int))||decide (bJ eS.a6 0 (l.take k)<x.a6))):=by
 rw[su b];show(B&&(_&&(((decide ((1:Int)<=x.a6))&&(decide (x.a6<=(8:Int))))&&((((decide ((0:Int)<=x.seq))&&(decide (x.seq<=(1048576:Int))))&&((decide ((0:Int)<=x.last.code))&&(decide (x.last.code<=(99:Int)))))&&((decide ((0:Int)<=x.last.n))&&(decide (x.last.n<=(1048576:Int))))))&&_))=_;cases B<;>cases bA bB eS.a6 8 (l.take k)<;>cases((decide ((1:Int)<=x.a6))&&(decide (x.a6<=(8:Int))))<;>cases((decide ((0:Int)<=x.seq))&&(decide (x.seq<=(1048576:Int))))<;>cases((decide ((0:Int)<=x.last.code))&&(decide (x.last.code<=(99:Int))))<;>cases((decide ((0:Int)<=x.last.n))&&(decide (x.last.n<=(1048576:Int))))<;>rfl
def LO{l:List n7}{x:n7}(b:l[k]? =some x):(B&&bA bC n7.set 8 (l.take (k+1)))=((((B&&bA bC n7.set 8 (l.take k))&&((decide ((1:Int)<=x.set))&&(decide (x.set<=(8:Int)))))&&((decide ((1:Int)<=x.a6))&&(decide (x.a6<=(8:Int)))))&&(decide (((k:Nat):Int)=(0:Int))||decide (bJ n7.set 0 (l.take k)<x.set))):=by
 rw[su b];show(B&&(_&&(((decide ((1:Int)<=x.set))&&(decide (x.set<=(8:Int))))&&((decide ((1:Int)<=x.a6))&&(decide (x.a6<=(8:Int)))))&&_))=_;cases B<;>cases bA bC n7.set 8 (l.take k)<;>cases((decide ((1:Int)<=x.set))&&(decide (x.set<=(8:Int))))<;>cases((decide ((1:Int)<=x.a6))&&(decide (x.a6<=(8:Int))))<;>rfl
def fp(s:c5)(v:Int)(l:List ie):Bool:=bA (iP s.next v) ie.id (IntKind.i64.wrap (s.next-1)) l
variable{x:ie}
def oi{s:c5}{v:Int}{l:List ie}(b:l[k]? =some x):(B&&fp s v (l.take (k+1)))=(((B&&fp s v (l.take k))&&iP s.next v x)&&(decide (((k:Nat):Int)=(0:Int))||decide (bJ ie.id 0 (l.take k)<x.id))):=by
 unfold fp;rw[su b];have e:(aM x.id 1 (IntKind.i64.wrap (s.next-1))&&iP s.next v x)=iP s.next v x:=by
  unfold iP;cases aM x.id 1 (IntKind.i64.wrap (s.next-1))<;>simp
 rw[e];cases B<;>cases bA (iP s.next v) ie.id (IntKind.i64.wrap (s.next-1)) (l.take k)<;>cases iP s.next v x<;>rfl
theorem oE{α:Type}{b:α->Int}{most:Int}:∀{l:List α} {a:Int},0<=a->au b most a l=true->∀x∈l,1<=b x/\b x<=most
 |[],_,_,_,x,hx=>by cases hx
 |y::l,a,c,h,x,hx=>by
  rw[au,r3,aM,r3,u9,u9]at h;rcases v7.1 hx with rfl|hx
  .omega
  exact oE N h.2 x hx
def YQ(h:W z):IntKind.i64.wrap z=z:=W.wrap h
def afW{v:Int}:(decide (((x.tag.b.length:Nat):Int)<=16)&&(decide (x.tag=⟨[]⟩)||decide (3<=v)))=decide (((x.tag.b.length:Nat):Int)<=ny v):=by
 have e:x.tag=⟨[]⟩↔x.tag.b.length=0:=by
  constructor
  .intro h;rw[h];rfl
  intro h;cases c:x.tag with|mk b=>rw[c]at h;simp at h;rw[h]
 rw[E8,r3,H2,u9,u9,u9,u9,e,ny];split<;>omega
def Eg(l:List Int):decide (cO l=0)=bO l:=by
 unfold cO;cases bO l<;>rfl
def Cr{next v:Int}(b:IntKind.i64.wrap (next-1)=next-1)(h:1<=x.id/\x.id<=next-1):iP next v x=dY v (ny v) x:=by
 have e:aM x.id 1 (next-1)=true:=by rw[aM,r3,u9,u9];exact h
 unfold iP dY;rw[b,e,Eg,<-afW];cases bO x.c6<;>cases aM x.set 1 8<;>cases(!x.held||decide (2<=v))<;>simp
def Rx{q v:Int}:(((decide ((0:Int)<=q))&&(decide (q<=(64:Int))))&&(decide (q=(0:Int))||decide ((3:Int)<=v)))=aM q 0 (if v<3 then 0 else 64):=by
 rw[E8,aM];simp;split<;>omega
variable{k3 k2:Nat}
theorem aj9{s:c5}{v:Int}(g:s.c8.length<=k)(j:s.eb.length<=k2)(m:s.c3.length<=k3):
  (((pA s v&&bA bB eS.a6 8 (s.c8.take k))&&bA bC n7.set 8 (s.eb.take k2))&&fp s v (s.c3.take k3))= !(((!gk s v|| !pI s)|| !nB s)|| !f_ s v):=by
 rw[take_of_length_le g,take_of_length_le j,take_of_length_le m];have o:pA s v=(gk s v&&decide (((s.c3.length:Nat):Int)<=(16:Int))):=by
  unfold pA gk;rw[<-Rx];show((((_&&aM s.next 1 1048576)&&_)&&_)&&_&&_)=_;simp[aM,Bool.and_assoc]
 have p:bA bB eS.a6 8 s.c8=pI s:=rfl;have q:bA bC n7.set 8 s.eb=nB s:=rfl;rw[o,p,q];cases c:gk s v with
 |false=>simp
 |true=>
  have r:1<=s.next/\s.next<=1048576:=by
   unfold gk at c;simp[aM]at c;exact c.1.1.2
  have d:IntKind.i64.wrap (s.next-1)=s.next-1:=YQ ⟨N,N⟩
  have t:(decide (((s.c3.length:Nat):Int)<=(16:Int))&&fp s v s.c3)=f_ s v:=by
   unfold fp bA f_;rw[d];have u:decide (16<((s.c3.length:Nat):Int))= !decide (((s.c3.length:Nat):Int)<=(16:Int)):=by grind
   rw[u];cases e:au ie.id (s.next-1) 0 s.c3 with
   |false=>simp
   |true=>
    have:s.c3.all (iP s.next v)=s.c3.all (dY v (ny v)):=by
     rw[E8,Hm,Hm];constructor
     .intro h x b;rw[<-Cr d (oE (x5 0) e x b)];exact h x b
     intro h x b;rw[Cr d (oE (x5 0) e x b)];exact h x b
    rw[this];cases decide (((s.c3.length:Nat):Int)<=(16:Int))<;>simp
  rw[<-t];cases pI s<;>cases nB s<;>cases decide (((s.c3.length:Nat):Int)<=(16:Int))<;>cases fp s v s.c3<;>rfl
def agv{s:c5}{v:Int}(b:(!(aM v 1 3))=false)(c:s.c8.length<=k)(d:s.eb.length<=k2)(e:s.c3.length<=k3)
  (h:(!(((pA s v&&bA bB eS.a6 8 (s.c8.take k))&&bA bC n7.set 8 (s.eb.take k2))&&fp s v (s.c3.take k3)))=true):6=bP s v:=by
 rw[aj9 c d e,Bool.not_not]at h;rw[bP,b,X am,O h]
def ajV{s:c5}{v:Int}(b:(!(aM v 1 3))=false)(c:s.c8.length<=k)(d:s.eb.length<=k2)(e:s.c3.length<=k3)
  (h:(!(((pA s v&&bA bB eS.a6 8 (s.c8.take k))&&bA bC n7.set 8 (s.eb.take k2))&&fp s v (s.c3.take k3)))=false):0=bP s v:=by
 rw[aj9 c d e,Bool.not_not]at h;rw[bP,b,X am,h,X am]
def br(k:Int):Int:=sT 0 k [((1:Int),(1:Int)),((2:Int),(1:Int)),((3:Int),(1:Int)),((4:Int),(1:Int)),((5:Int),(1:Int)),((6:Int),(1:Int)),((7:Int),(1:Int)),((8:Int),(1:Int)),((9:Int),(2:Int)),((10:Int),(2:Int)),((11:Int),(3:Int)),((12:Int),(3:Int))]
variable{k:Int}
def Yu(h:1<=k/\k<=12):br k=if k<=8 then 1 else if k<=10 then 2 else 3:=by
 have:k=1\/k=2\/k=3\/k=4\/k=5\/k=6\/k=7\/k=8\/k=9\/k=10\/k=11\/k=12:=by omega
 rcases this with rfl|rfl|rfl|rfl|rfl|rfl|rfl|rfl|rfl|rfl|rfl|rfl<;>rfl
def Ir(h:¬(1<=k/\k<=12)):br k=0:=by
 unfold br;simp[sT];repeat rw[X N]
variable{b n:Int}
def wT(h:aM n a b=true):a<=n/\n<=b:=by unfold aM at h;rw[r3,u9,u9]at h;exact h
def inF(h:aM n a b=false):¬(a<=n/\n<=b):=λc=>by
 have:aM n a b=true:=by unfold aM;rw[r3,u9,u9];exact c
 rw[h]at this;cases this
def ku(x:Int)(l:List Int):Int:=match l.findIdx? (λy=>decide (x=y))with|some i=>(i:Int)|none=>-1
variable{x:Int}
def RV{y:Int}{k:Nat}(h:∀j y,j<k->l[j]? =some y->¬x=y)(d:l[k]? =some y)(c:x=y):(k:Int)=ku x l:=by
 have:l.findIdx? (λy=>decide (x=y))=some k:=by
  obtain⟨e,rfl⟩:=sy.1 d;rw[S5];exact⟨e,F5 c,λj g=>by simpa using h j _ g (r5 N)⟩
 simp[ku,this]
theorem QN(x:Int)(l:List Int):decide (0<=ku x l)=l.contains x:=by
 unfold ku;cases h:l.findIdx? (λy=>decide (x=y))with
 |none=>
  rw[List.findIdx?_eq_none_iff]at h;have:l.contains x=false:=by grind
  rw[this];rfl
 |some i=>
  rw[S5]at h;obtain⟨c,d,_⟩:=h;have:l.contains x=true:=by grind
  rw[this];simp
def lq(n most:Int)(c:Bool):Bool:=if c then(decide (1<=n)&&decide (n<=most))else decide (n=0)
def kI(k:Int):Int×Int:=sT (0,0) k [((6:Int),((0:Int),(8:Int))),((8:Int),((2:Int),(3:Int))),((12:Int),((0:Int),(64:Int)))]
def Au(c:b6):Bool:=if c.kind=3 then bO c.c6 else decide (((c.c6.length:Nat):Int)=0)
def U7(c:b6):Bool:=if c.kind=11 then decide (((c.text.b.length:Nat):Int)<=16)else decide (c.text=⟨[]⟩)
def fX(c:b6):Bool:=(((((((decide ((kI c.kind).1<=c.n)&&decide (c.n<=(kI c.kind).2))&&Au c)&&U7 c)&&lq c.a6 8 (!([(8:Int)].contains c.kind)))&&lq c.seq 1048576 (!([(1:Int),8].contains c.kind)))&&lq c.set 8 ([(2:Int),3,4].contains c.kind))&&lq c.id 1048576 ([(5:Int),7,9,10,11].contains c.kind))
def aO(c:b6)(v:Int):Int:=if !(aM v 1 3)||decide (br c.kind=0)then 1 else if v<br c.kind then 10 else if !fX c then 1 else 0
def R9(n:Int)(c:Bool)(lo d:Int):Bool:=if c then(decide (lo<=n)&&decide (n<=d))else decide (n=0)
def mo(k:Int):Int×Int:=(if k=8 then 2 else 0,if k=8 then 3 else if k=12 then 64 else 8)
def Hj{s:n9}:decide (((s.b.length:Nat):Int)=0)=decide (s=⟨[]⟩):=by
 cases s with|mk b=>
 cases b with
 |nil=>simp
 |cons a t=>rw[E8];simp;omega
def BZ:(!decide (k=8))=(!([(8:Int)].contains k)):=by
 rw[E8];simp
def QG:(!decide (k=8)&& !decide (k=1))=(!([(1:Int),8].contains k)):=by
 rw[E8];simp;omega
def Uz:(decide (2<=k)&&decide (k<=4))=([(2:Int),3,4].contains k):=by
 rw[E8];simp;omega
def WU:((decide (k=5)||decide (k=7))||(decide (9<=k)&&decide (k<=11)))=([(5:Int),7,9,10,11].contains k):=by
 rw[E8];simp;omega
def afo:R9 n ((decide (k=6)||decide (k=8))||decide (k=12)) (mo k).1 (mo k).2=(decide ((kI k).1<=n)&&decide (n<=(kI k).2)):=by
 by_cases d:k=6
 .subst d;rfl
 by_cases g:k=8
 .subst g;rfl
 by_cases c:k=12
 .subst c;rfl
 have e:kI k=(0,0):=by simp[kI,sT,d,g,c]
 rw[e,E8];simp[R9,d,g,c];omega
theorem adl{c:b6}:(decide (((c.text.b.length:Nat):Int)=0)||(decide (c.kind=11)&&decide (((c.text.b.length:Nat):Int)<=16)))=U7 c:=by
 unfold U7;by_cases h:c.kind=11
 .grind
 rw[X h,Hj];simp[h]
def QH{c:b6}:
  ((((((R9 c.a6 (!decide (c.kind=8)) 1 8&&R9 c.seq (!decide (c.kind=8)&& !decide (c.kind=1)) 1 1048576)&&R9 c.set (decide (2<=c.kind)&&decide (c.kind<=4)) 1 8)&&
   R9 c.id ((decide (c.kind=5)||decide (c.kind=7))||(decide (9<=c.kind)&&decide (c.kind<=11))) 1 1048576)&&
   R9 c.n ((decide (c.kind=6)||decide (c.kind=8))||decide (c.kind=12)) (mo c.kind).1 (mo c.kind).2)&&Au c)&&
   (decide (((c.text.b.length:Nat):Int)=0)||(decide (c.kind=11)&&decide (((c.text.b.length:Nat):Int)<=16))))=fX c:=by
 rw[QG,BZ,Uz,WU,afo,adl];unfold fX;simp;ac_rfl
def ajb{c:b6}{v:Int}(h:(!(aM v 1 3)||decide (br c.kind=0))=true):1=aO c v:=by rw[aO,O h]
def ae7{c:b6}{v:Int}(h:(!(aM v 1 3)||decide (br c.kind=0))=false)(d:v<br c.kind):10=aO c v:=by rw[aO,h,X am,O d]
theorem acJ{c:b6}{v:Int}(h:(!(aM v 1 3)||decide (br c.kind=0))=false)(d:¬v<br c.kind)(e:(!fX c)=true):1=aO c v:=by rw[aO,h,X am,X d,O e]
theorem alG{c:b6}{v:Int}(h:(!(aM v 1 3)||decide (br c.kind=0))=false)(d:¬v<br c.kind)(e:(!fX c)=false):0=aO c v:=by rw[aO,h,X am,X d,e,X am]
def sI(c:b6):Bool:=(((aM c.a6 0 1048576&&aM c.seq 0 1048576)&&aM c.set 0 1048576)&&aM c.id 0 1048576)&&aM c.n 0 1048576
def fh(c:b6)(v:Int):Bool:=(((aM c.kind 1 99&&(decide (br c.kind=0)||decide (v<br c.kind)))&&sI c)&&(decide (((c.c6.length:Nat):Int)=0)||bO c.c6))&&(decide (((c.text.b.length:Nat):Int)=0)||(decide (3<=v)&&decide (((c.text.b.length:Nat):Int)<=16)))
def UI{c:b6}{v:Int}(h:((c.kind<1\/99<c.kind)\/(¬br c.kind=0/\br c.kind<=v))):false=fh c v:=by
 have:(aM c.kind 1 99&&(decide (br c.kind=0)||decide (v<br c.kind)))=false:=by
  rw[<-Bool.not_eq_true];simp[aM];omega
 unfold fh;rw[this];rfl
def Xt{c:b6}{v:Int}(h:(c.a6<0\/1048576<c.a6)\/(c.seq<0\/1048576<c.seq)\/(c.set<0\/1048576<c.set)\/(c.id<0\/1048576<c.id)\/(c.n<0\/1048576<c.n)):false=fh c v:=by
 have:sI c=false:=by
  rw[<-Bool.not_eq_true];unfold sI;simp[aM];omega
 unfold fh;rw[this,Bool.and_false];rfl
theorem XB{c:b6}{v:Int}(h:0<((c.c6.length:Nat):Int)/\bO c.c6=false):false=fh c v:=by
 have:(decide (((c.c6.length:Nat):Int)=0)||bO c.c6)=false:=by grind
 unfold fh;rw[this,Bool.and_false];rfl
theorem Iq{c:b6}{v:Int}(h:¬((c.kind<1\/99<c.kind)\/(¬br c.kind=0/\br c.kind<=v)))(j:¬((c.a6<0\/1048576<c.a6)\/(c.seq<0\/1048576<c.seq)\/(c.set<0\/1048576<c.set)\/(c.id<0\/1048576<c.id)\/(c.n<0\/1048576<c.n)))
  (m:(¬(0<((c.c6.length:Nat):Int)))\/bO c.c6=true):fh c v=(decide (((c.text.b.length:Nat):Int)=0)||(decide (3<=v)&&decide (((c.text.b.length:Nat):Int)<=16))):=by
 have d:(aM c.kind 1 99&&(decide (br c.kind=0)||decide (v<br c.kind)))=true:=by
  simp[aM];omega
 have e:sI c=true:=by unfold sI;simp[aM];omega
 have g:(decide (((c.c6.length:Nat):Int)=0)||bO c.c6)=true:=by grind
 unfold fh;rw[d,e,g];rfl
def adB{c:b6}{v:Int}(d:¬((c.kind<1\/99<c.kind)\/(¬br c.kind=0/\br c.kind<=v)))(e:¬((c.a6<0\/1048576<c.a6)\/(c.seq<0\/1048576<c.seq)\/(c.set<0\/1048576<c.set)\/(c.id<0\/1048576<c.id)\/(c.n<0\/1048576<c.n)))
  (g:(¬(0<((c.c6.length:Nat):Int)))\/bO c.c6=true)(h:v<3):decide (c.text=⟨[]⟩)=fh c v:=by
 rw[Iq d e g,Hj,D7 (show¬(3:Int)<=v by omega)];simp
def ad0{c:b6}{v:Int}(d:¬((c.kind<1\/99<c.kind)\/(¬br c.kind=0/\br c.kind<=v)))(e:¬((c.a6<0\/1048576<c.a6)\/(c.seq<0\/1048576<c.seq)\/(c.set<0\/1048576<c.set)\/(c.id<0\/1048576<c.id)\/(c.n<0\/1048576<c.n)))
  (g:(¬(0<((c.c6.length:Nat):Int)))\/bO c.c6=true)(h:¬v<3):decide (((c.text.b.length:Nat):Int)<=16)=fh c v:=by
 rw[Iq d e g,E8];simp only[H2,r3,u9];omega
def dz(k:Int):Bool:=decide (1<=k)&&decide (k<=3)
variable{k:Nat}
def xL{a b:List α}{d:α}(h:a.take k=b.take k)(c:k<a.length)(g:k<b.length)(e:a.getD k d=b.getD k d):a.take (k+1)=b.take (k+1):=by
 have j:a[k]? =some (a.getD k d):=by rw[getD_eq_getElem?_getD,r5 c];rfl
 have m:b[k]? =some (b.getD k d):=by rw[getD_eq_getElem?_getD,r5 g];rfl
 rw[ah j,ah m,h,e]
variable{n:Nat}
def Qb{s:n9}(h:(s.b.length:Int)<=n):s=⟨s.b.take n⟩:=by
 cases s;rw[take_of_length_le (by simpa using h)]
theorem abR(c:l[k]? =some x):x=bJ id 0 (l.take (k+1)):=gz (key:=id) c
theorem To(h:au id 64 0 (l.take k)=true)(c:l[k]? =some x)(d:bJ id 0 (l.take k)<x)(e:x<=64):au id 64 0 (l.take (k+1))=true:=mD (key:=id) h c (by dsimp only[id];omega) (by dsimp only[id];omega)
def ao2(l:List Int):List (Nat×LI):=[(5,{σ:=Nat,F:=λk=>([(3,one (.int (bJ id 0 (l.take k)))),(14,one (.fz .int l)),(15,one (.int l.length)),(16,one (.int k))],[]),J:=λk=>k<=l.length/\au id 64 0 (l.take k)=true/\1<=l.length/\l.length<=8,μ:=λk=>l.length-k})]
def alF(a:List Int)(b:List Int):List (Nat×LI):=[(4,{σ:=Nat,F:=λk=>([(0,one (.fz .int a)),(1,one (.fz .int b)),(5,one (.int k))],[]),J:=λk=>k<=a.length/\a.length=b.length/\a.take k=b.take k,μ:=λk=>a.length-k})]
def dj:=kC cI
def fj:=ak dj bS
theorem Vq:CK 123 (aD fj av λ(k,_) _=>{rs:=[.c (.bool (.atom (dz k)))]}):=ag λ(k,_) _ _=>by
 refine al fU [] func123 (?_:W k->(decide (1<=k)&&decide (k<=3))=dz k);grind[dz]
def pw:=kC (cL .int)
def iS:=ak pw bS
theorem amn:CK 175 (aD iS av λ(l,_) _=>{rs:=[.c (.bool (.atom (bO l)))]}):=ag λ(l,_) _ _=>by
 refine al fU (ao2 l) func175 (?_:(λ(g:Int)(e:Int)(d:Nat)=>(λ(m:Prop)=>l.length*8<=140737488355328->(g<1\/8<g->false=bO l)/\(1<=g/\g<=8->∃(j:Nat),(e=bJ id e (take j l)/\l=l/\g=(d:Int)/\e=(j:Int))/\(j<=d/\au id 64 e (take j l)=true/\m)/\∀(s:Nat),s<=d/\au id 64 e (take s l)=true/\m->((s:Int)<(d:Int)->e<=(s:Int)/\(s:Int)<g/\∀(x:Int),l[s]? =some x->W x->(x<=bJ id e (take s l)\/64<x->false=bO l)/\(bJ id e (take s l)<x/\x<=64->W ((s:Int)+1)/\∃(h:Nat),(x=bJ id e (take h l)/\l=l/\(d:Int)=(d:Int)/\(s:Int)+1=(h:Int))/\(h<=d/\au id 64 e (take h l)=true/\m)/\d-h<d-s))/\((d:Int)<=(s:Int)->true=bO l))) (1<=d/\d<=8)) (l.length:Int) 0 l.length);(repeat'(first|refine And.intro ?_ ?_|intro))
 all_goals try(grind[uE,nL,oP,abR,To,au,bJ])
 all_goals(refine⟨0,?_⟩;(repeat'(first|refine And.intro ?_ ?_|intro)))
 all_goals try(grind[uE,nL,oP,abR,To,au,bJ])
 all_goals(refine⟨‹Nat›+1,?_⟩;(repeat'(first|refine And.intro ?_ ?_|intro)))
 all_goals grind[uE,nL,oP,abR,To,au,bJ]
theorem ae2:CK 199 (aD (ak pw iS) av λ(a,b,_) _=>{rs:=[.c (.bool (.atom (decide (a=b))))]}):=ag λ(a,b,_) _ _=>by
 refine al fU (alF a b) func199 (?_:(λ(d:Nat)(e:Int)=>a.length*8<=140737488355328->b.length*8<=140737488355328->(¬e=(b.length:Int)->false=decide (a=b))/\(e=(b.length:Int)->∃(h:Nat),(a=a/\b=b/\0=(h:Int))/\(h<=d/\d=b.length/\take h a=take h b)/\∀(s:Nat),(λ(j:Prop)=>s<=d/\d=b.length/\take s a=take s b->((s:Int)<e->(0<=(s:Int)/\(s:Int)<e)/\(0<=(s:Int)/\(s:Int)<(b.length:Int))/\(W (a.getD s (c4 Sh.int))->W (b.getD s (c4 Sh.int))->(¬j->false=decide (a=b))/\(j->W ((s:Int)+1)/\∃(g:Nat),(a=a/\b=b/\(s:Int)+1=(g:Int))/\(g<=d/\d=b.length/\take g a=take g b)/\d-g<d-s)))/\(e<=(s:Int)->true=decide (a=b))) (a.getD s (c4 Sh.int)=b.getD s (c4 Sh.int)))) a.length (a.length:Int));(repeat'(first|refine And.intro ?_ ?_|intro))
 all_goals try(grind[ah])
 all_goals(refine⟨0,?_⟩;(repeat'(first|refine And.intro ?_ ?_|intro)))
 all_goals try(grind[ah])
 all_goals(refine⟨‹Nat›+1,?_⟩;(repeat'(first|refine And.intro ?_ ?_|intro)))
 all_goals first|exact xL (by grind) N N Y|grind
def aeS:CK 122 (aD fj av λ(x,_) _=>{rs:=[.c (.int (br x))]}):=ag λ(x,_) _ _=>by
 refine al fU [] func122 (?_:(λd=>W x->(if x=12 then some 3 else if x=11 then some 3 else if x=10 then some 2 else if x=9 then some 2 else if x=8 then d else if x=7 then d else if x=6 then d else if x=5 then d else if x=4 then d else if x=3 then d else if x=2 then d else if x=1 then d else none).getD (c4 Sh.int)=br x) (some (1:Int)));intro _;simp only[br,sT];by_cases h:1<=x/\x<=12
 .have e:x=1\/x=2\/x=3\/x=4\/x=5\/x=6\/x=7\/x=8\/x=9\/x=10\/x=11\/x=12:=by omega
  rcases e with rfl|rfl|rfl|rfl|rfl|rfl|rfl|rfl|rfl|rfl|rfl|rfl<;>rfl
 have o:¬x=1:=by omega
 have e:¬x=2:=by omega
 have p:¬x=3:=by omega
 have q:¬x=4:=by omega
 have r:¬x=5:=by omega
 have s:¬x=6:=by omega
 have t:¬x=7:=by omega
 have u:¬x=8:=by omega
 have v:¬x=9:=by omega
 have g:¬x=10:=by omega
 have j:¬x=11:=by omega
 have m:¬x=12:=by omega
 simp[o,e,p,q,r,s,t,u,v,g,j,m,c4]
theorem alY:CK 174 (aD (ak (kT (.nm .span)) fj) av λ(s,k,_) _=>{rs:=[.c (.bool (.atom (decide (s.lo<=k)&&decide (k<=s.hi))))]}):=ag λ(s,k,_) _ _=>by
 refine al fU [] func174 (?_:(λd=>W s.lo->W s.hi->W k->d=d) (decide (s.lo<=k)&&decide (k<=s.hi)));grind
def ij:=ak dj fj
def xj:=ak dj ij
theorem Tu:CK 274 (aD xj av λ(n,a,b,_) _=>{rs:=[.c (.bool (.atom (aM n a b)))]}):=ag λ(n,a,b,_) _ _=>by
 refine al fU [] func274 (?_:W n->W a->W b->(decide (a<=n)&&decide (n<=b))=aM n a b);grind[aM]
theorem agH:CK 314 (aD xj av λ(n,a,b,_) _=>{rs:=[.c (.bool (.atom (aM n a b)))]}):=ag λ(n,a,b,_) _ _=>by
 refine al fU [] func314 (?_:W n->W a->W b->(decide (a<=n)&&decide (n<=b))=aM n a b);grind[aM]
theorem amk:CK 143 (aD xj av λ(n,a,b,_) _=>{rs:=[.c (.bool (.atom (aM n a b)))]}):=ag λ(n,a,b,_) _ _=>by
 refine al fU [] func143 (?_:W n->W a->W b->(decide (a<=n)&&decide (n<=b))=aM n a b);grind[aM]
def Rb:=ak (kT (.nm .c8)) bS
theorem Fz:CK 246 (aD Rb av λ(x,_) _=>{rs:=[.c (.int x.a6)]}):=ag λ(x,_) _ _=>by
 refine al fU [] func246 (?_:dL x (x.a6=x.a6));grind
def UC:=ak (kT (.nm .opn)) bS
theorem Yg:CK 279 (aD UC av λ(x,_) _=>{rs:=[.c (.int x.set)]}):=ag λ(x,_) _ _=>by
 refine al fU [] func279 (?_:W x.set->W x.a6->x.set=x.set);grind
def CM:=kT (.nm .snap)
theorem ads:CK 328 (aD (ak CM bS) av λ(x,_) _=>{rs:=[.c (.int x.id)]}):=ag λ(x,_) _ _=>by
 refine al fU [] func328 (?_:bY x (x.id=x.id));grind
theorem Jd:CK 224 (aD fj av λ(e,_) _=>{rs:=[.agg (cellsOf (.nm .l8) (⟨e,0⟩))]}):=ag λ(e,_) _ _=>by
 refine al fU [] func224 (?_:W e->e=e/\(0:Int)=0);grind
def tC:=(ae Jd (ae ads (ae Yg (ae Fz (ae amk (ae agH (ae Tu (ae alY (ae aeS (ae ae2 (ae amn (ae Vq fU))))))))))))
theorem aY{n:Int}(c:-9223372036854775808<=n)(d:n<=9223372036854775807):W n:=⟨c,d⟩
def aj{α:Type}(d:α->Int)(c:Int)(l:List α):Int:=match l.findIdx? (λx=>decide (d x=c))with
 |some i=>(i:Int)
 |none=>-1
section
variable{α:Type}{key:α->Int}{want:Int}{l:List α}{k:Nat}{x:α}
theorem pc:aj key want l= -1↔∀x∈l,¬key x=want:=by
 unfold aj;grind
def nK:aj key want (l.take 0)= -1:=rfl
theorem jx(h:aj key want (l.take k)= -1)(c:l[k]? =some x)(d:¬key x=want):aj key want (l.take (k+1))= -1:=by
 rw[pc]at h⊢;rw[ah c];grind
def lh(h:aj key want (l.take k)= -1)(c:l.length<=k):-1=aj key want l:=by
 rw[take_of_length_le c]at h;exact h.symm
theorem im(h:aj key want (l.take k)= -1)(c:l[k]? =some x)(d:key x=want):(k:Int)=aj key want l:=by
 have:l.findIdx? (λx=>decide (key x=want))=some k:=by
  rw[pc]at h;obtain⟨e,rfl⟩:=sy.1 c;rw[S5];refine⟨e,F5 d,λj g=>?_⟩;have:=h l[j] (by rw[aso];exact⟨j,N,rfl⟩);grind
 rw[aj,this]
end
def EO(l:List eS)(c:Int):List (Nat×LI):=[(2,{σ:=Nat,F:=λk=>([(1,one (.int c)),(2,one (.fn 246 [] [])),(9,one (.fz (.nm .c8) l)),(10,one (.int l.length)),(11,one (.int k))],[]),J:=λk=>k<=l.length/\aj eS.a6 c (l.take k)= -1,μ:=λk=>l.length-k})]
def Eu(l:List n7)(c:Int):List (Nat×LI):=[(2,{σ:=Nat,F:=λk=>([(1,one (.int c)),(2,one (.fn 279 [] [])),(9,one (.fz (.nm .opn) l)),(10,one (.int l.length)),(11,one (.int k))],[]),J:=λk=>k<=l.length/\aj n7.set c (l.take k)= -1,μ:=λk=>l.length-k})]
def FU(l:List ie)(c:Int):List (Nat×LI):=[(2,{σ:=Nat,F:=λk=>([(1,one (.int c)),(2,one (.fn 328 [] [])),(9,one (.fz (.nm .snap) l)),(10,one (.int l.length)),(11,one (.int k))],[]),J:=λk=>k<=l.length/\aj ie.id c (l.take k)= -1,μ:=λk=>l.length-k})]
def Cl:=kC (cL (.nm .c8))
theorem Dm:CK 245 (aD (ak Cl (ak dj (ak (kC (ub 246 [] [])) bS))) av λ(l,d,_,_) _=>{rs:=[.c (.int (aj eS.a6 d l))]}):=ag λ(l,d,_,_) _ _=>by
 refine al tC (EO l d) func245 (?_:(λ(g:Int)(e:Nat)=>l.length*32<=140737488355328->W d->∃(j:Nat),(d=d/\l=l/\(l.length:Int)=(e:Int)/\0=(j:Int))/\(j<=e/\aj eS.a6 d (take j l)= -g)/\∀(s:Nat),s<=e/\aj eS.a6 d (take s l)= -g->((s:Int)<(e:Int)->0<=(s:Int)/\(s:Int)<(l.length:Int)/\∀(x:eS),l[s]? =some x->dL x (W x.a6->(x.a6=d->(s:Int)=aj eS.a6 d l)/\(¬x.a6=d->W ((s:Int)+g)/\∃(h:Nat),(d=d/\l=l/\(e:Int)=(e:Int)/\(s:Int)+g=(h:Int))/\(h<=e/\aj eS.a6 d (take h l)= -g)/\e-h<e-s)))/\((e:Int)<=(s:Int)-> -g=aj eS.a6 d l)) 1 l.length);repeat' first|(with_reducible first|apply aH|refine aI ?_|intro)|exact aZ|exact(nK (key:=eS.a6))|exact(im (key:=eS.a6) Y Y Y)|exact(lh (key:=eS.a6) Y N)|exact(jx (key:=eS.a6) Y Y Y)|refine⟨‹Nat›+1,?_⟩|refine⟨0,?_⟩
def uL:=kC (cL (.nm .opn))
theorem BD:CK 350 (aD (ak uL (ak dj (ak (kC (ub 279 [] [])) bS))) av λ(l,d,_,_) _=>{rs:=[.c (.int (aj n7.set d l))]}):=ag λ(l,d,_,_) _ _=>by
 refine al tC (Eu l d) func350 (?_:(λ(g:Int)(e:Nat)=>l.length*16<=140737488355328->W d->∃(j:Nat),(d=d/\l=l/\(l.length:Int)=(e:Int)/\0=(j:Int))/\(j<=e/\aj n7.set d (take j l)= -g)/\∀(s:Nat),s<=e/\aj n7.set d (take s l)= -g->((s:Int)<(e:Int)->0<=(s:Int)/\(s:Int)<(l.length:Int)/\∀(x:n7),l[s]? =some x->W x.set->W x.a6->W x.set->(x.set=d->(s:Int)=aj n7.set d l)/\(¬x.set=d->W ((s:Int)+g)/\∃(h:Nat),(d=d/\l=l/\(e:Int)=(e:Int)/\(s:Int)+g=(h:Int))/\(h<=e/\aj n7.set d (take h l)= -g)/\e-h<e-s))/\((e:Int)<=(s:Int)-> -g=aj n7.set d l)) 1 l.length);repeat' first|(with_reducible first|apply aH|refine aI ?_|intro)|exact aZ|exact(nK (key:=n7.set))|exact(im (key:=n7.set) Y Y Y)|exact(lh (key:=n7.set) Y N)|exact(jx (key:=n7.set) Y Y Y)|refine⟨‹Nat›+1,?_⟩|refine⟨0,?_⟩
def l_:=kC (cL (.nm .snap))
theorem Cg:CK 332 (aD (ak l_ (ak dj (ak (kC (ub 328 [] [])) bS))) av λ(l,d,_,_) _=>{rs:=[.c (.int (aj ie.id d l))]}):=ag λ(l,d,_,_) _ _=>by
 refine al tC (FU l d) func332 (?_:(λ(g:Int)(e:Nat)=>l.length*64<=140737488355328->W d->∃(j:Nat),(d=d/\l=l/\(l.length:Int)=(e:Int)/\0=(j:Int))/\(j<=e/\aj ie.id d (take j l)= -g)/\∀(s:Nat),s<=e/\aj ie.id d (take s l)= -g->((s:Int)<(e:Int)->0<=(s:Int)/\(s:Int)<(l.length:Int)/\∀(x:ie),l[s]? =some x->bY x (W x.id->(x.id=d->(s:Int)=aj ie.id d l)/\(¬x.id=d->W ((s:Int)+g)/\∃(h:Nat),(d=d/\l=l/\(e:Int)=(e:Int)/\(s:Int)+g=(h:Int))/\(h<=e/\aj ie.id d (take h l)= -g)/\e-h<e-s)))/\((e:Int)<=(s:Int)-> -g=aj ie.id d l)) 1 l.length);repeat' first|(with_reducible first|apply aH|refine aI ?_|intro)|exact aZ|exact(nK (key:=ie.id))|exact(im (key:=ie.id) Y Y Y)|exact(lh (key:=ie.id) Y N)|exact(jx (key:=ie.id) Y Y Y)|refine⟨‹Nat›+1,?_⟩|refine⟨0,?_⟩
def lG:=(ae Cg (ae BD (ae Dm tC)))
variable{m r:Nat}
def YT(h:bD n+1=bD r+m)(c:128<=r):bD n+1=bD (r/128)+(m+1):=by
 have:=oD (n:=r) N;omega
def Ye(h:bD n+1=bD r+m)(c:n<18446744073709551616):m<=10:=by
 have:=vZ c;have:=kN r;omega
def NC(h:bD n+1=bD r+m)(c:r<128):m=bD n:=by
 have:=lM c;omega
section
variable{α:Type}{key:α->Int}{most:Int}{l:List α}{k:Nat}{x:α}
def Sv(h:au key most 0 (l.take k)=true)(d:l[k]? =some x)(c:aM (key x) (bJ key 0 (l.take k)+1) most=true):au key most 0 (l.take (k+1))=true:=
 mD h d (by have:=wT c;omega) (wT c).2
def MB(c:l[k]? =some x)(d:aM (key x) (bJ key 0 (l.take k)+1) most=false):false=au key most 0 l:=
 (sN c (by have:=inF d;omega)).symm
def Oc(h:au key most 0 (l.take k)=true)(c:l.length<=k):true=au key most 0 l:=(mN h c).symm
def Nn(c:l[k]? =some x)(e:0<=bJ key 0 (l.take k))(d:aM (key x) (bJ key 0 (l.take k)+1) most=true):0<=bJ key 0 (l.take (k+1)):=by
 have:=wT d;rw[<-gz c];omega
def Pt(c:l[k]? =some x)(d:aM (key x) (bJ key 0 (l.take k)+1) most=true)(e:most<=1048576):bJ key 0 (l.take (k+1))<=1048576:=by
 have:=wT d;rw[<-gz c];omega
variable{p:α->Bool}
def MF(c:l[k]? =some x)(d:p x=false):false=l.all p:=(RS c d).symm
def Pa(h:(l.take k).all p=true)(c:l.length<=k):true=l.all p:=(Nj h c).symm
end
def ajH(n:z8):List (Nat×LI):=[(2,{σ:=Nat×Nat,F:=λs=>([(0,one (.u64 s.1)),(3,one (.int s.2))],[]),J:=λs=>s.1<18446744073709551616/\bD n.n+1=bD s.1+s.2,μ:=λs=>s.1})]
def DL(l:List eS)(most:Int):List (Nat×LI):=[(3,{σ:=Nat,F:=λk=>([(1,one (.int most)),(2,one (.fn 246 [] [])),(7,one (.int (bJ eS.a6 0 (l.take k)))),(10,one (.fz (.nm .c8) l)),(11,one (.int l.length)),(12,one (.int k))],[]),J:=λk=>k<=l.length/\au eS.a6 most 0 (l.take k)=true/\0<=bJ eS.a6 0 (l.take k)/\bJ eS.a6 0 (l.take k)<=1048576,μ:=λk=>l.length-k})]
def AT(l:List n7)(most:Int):List (Nat×LI):=[(3,{σ:=Nat,F:=λk=>([(1,one (.int most)),(2,one (.fn 279 [] [])),(7,one (.int (bJ n7.set 0 (l.take k)))),(10,one (.fz (.nm .opn) l)),(11,one (.int l.length)),(12,one (.int k))],[]),J:=λk=>k<=l.length/\au n7.set most 0 (l.take k)=true/\0<=bJ n7.set 0 (l.take k)/\bJ n7.set 0 (l.take k)<=1048576,μ:=λk=>l.length-k})]
def AD(l:List ie)(most:Int):List (Nat×LI):=[(3,{σ:=Nat,F:=λk=>([(1,one (.int most)),(2,one (.fn 328 [] [])),(7,one (.int (bJ ie.id 0 (l.take k)))),(10,one (.fz (.nm .snap) l)),(11,one (.int l.length)),(12,one (.int k))],[]),J:=λk=>k<=l.length/\au ie.id most 0 (l.take k)=true/\0<=bJ ie.id 0 (l.take k)/\bJ ie.id 0 (l.take k)<=1048576,μ:=λk=>l.length-k})]
def afl:CK 200 (aD (ak (kC cU) bS) av λ(n,_) _=>{rs:=[.c (.int (bD n.n:Int))]}):=ag λ(n,_) _ _=>by
 refine al lG (ajH n) func200 (?_:(λ(g:Nat)=>n.n<(18446744073709551616:Nat)->∃(e:Nat×Nat),(n.n=e.1/\(1:Int)=(e.2:Int))/\(e.1<(18446744073709551616:Nat)/\g=bD e.1+e.2)/\∀(s:Nat×Nat),s.1<(18446744073709551616:Nat)/\g=bD s.1+s.2->((↑(128:Nat):Int)<=(s.1:Int)->(7:Nat)<(64:Nat)/\W ((s.2:Int)+(1:Int))/\∃(d:Nat×Nat),(s.1/(2:Nat)^(7:Nat)=d.1/\(s.2:Int)+(1:Int)=(d.2:Int))/\(d.1<(18446744073709551616:Nat)/\g=bD d.1+d.2)/\d.1<s.1)/\((s.1:Int)<(↑(128:Nat):Int)->(s.2:Int)=(↑(bD n.n):Int))) (bD n.n+(1:Nat)));intro o;refine⟨(n.n,1),⟨rfl,rfl⟩,⟨o,rfl⟩,λs j=>⟨λh=>?_,λh=>?_⟩⟩
 .have p:=YT j.2 N;have q:=Ye j.2 o;exact⟨N,by constructor<;>omega,(s.1/128,s.2+1),⟨rfl,aa⟩,⟨by show s.1/128<_;omega,p⟩,by show s.1/128<s.1;omega⟩
 exact o9 Int.ofNat (NC j.2 N)
theorem zx:CK 275 (aD (ak Cl (ak dj (ak (kC (ub 246 [] [])) bS))) av λ(l,most,_,_) _=>{pre:=[most<=1048576],rs:=[.c (.bool (.atom (au eS.a6 most 0 l)))]}):=ag λ(l,most,_,_) _ t=>by
 have u:=bw t;refine al lG (DL l most) func275 (?_:(λ(e:Nat)(d:Int)=>l.length*32<=140737488355328->W most->∃(h:Nat),(λ(j:Int)=>(most=most/\d=j/\l=l/\(l.length:Int)=(e:Int)/\d=(h:Int))/\(h<=e/\au eS.a6 most d (take h l)=true/\d<=j/\j<=1048576)/\∀(s:Nat),(λ(o:Int)=>(λ(p:Int)=>s<=e/\au eS.a6 most d (take s l)=true/\d<=o/\o<=1048576->((s:Int)<(e:Int)->d<=(s:Int)/\(s:Int)<(l.length:Int)/\∀(x:eS),l[s]? =some x->dL x (W x.a6->W p/\(aM x.a6 p most=false->false=au eS.a6 most d l)/\(aM x.a6 p most=true->W x.a6->W ((s:Int)+1)/\∃(g:Nat),(λ(q:Int)=>(most=most/\x.a6=q/\l=l/\(e:Int)=(e:Int)/\(s:Int)+1=(g:Int))/\(g<=e/\au eS.a6 most d (take g l)=true/\d<=q/\q<=1048576)/\e-g<e-s) (bJ eS.a6 d (take g l)))))/\((e:Int)<=(s:Int)->true=au eS.a6 most d l)) (o+1)) (bJ eS.a6 d (take s l))) (bJ eS.a6 d (take h l))) l.length 0);repeat' first|(with_reducible first|apply aH|refine aI ?_|intro)|exact aZ|exact(Sv (key:=eS.a6) Y Y Y)|exact(MB (key:=eS.a6) Y Y)|exact(Oc (key:=eS.a6) Y N)|exact(gz (key:=eS.a6) Y)|exact(Nn (key:=eS.a6) Y Y Y)|exact(Pt (key:=eS.a6) Y Y Y)|exact rfl|exact x5 _|exact(show(0:Int)<=1048576 by omega)|refine⟨‹Nat›+1,?_⟩|refine⟨0,?_⟩
theorem An:CK 278 (aD (ak uL (ak dj (ak (kC (ub 279 [] [])) bS))) av λ(l,most,_,_) _=>{pre:=[most<=1048576],rs:=[.c (.bool (.atom (au n7.set most 0 l)))]}):=ag λ(l,most,_,_) _ t=>by
 have u:=bw t;refine al lG (AT l most) func278 (?_:(λ(e:Nat)(d:Int)=>l.length*16<=140737488355328->W most->∃(h:Nat),(λ(j:Int)=>(most=most/\d=j/\l=l/\(l.length:Int)=(e:Int)/\d=(h:Int))/\(h<=e/\au n7.set most d (take h l)=true/\d<=j/\j<=1048576)/\∀(s:Nat),(λ(o:Int)=>(λ(p:Int)=>s<=e/\au n7.set most d (take s l)=true/\d<=o/\o<=1048576->((s:Int)<(e:Int)->d<=(s:Int)/\(s:Int)<(l.length:Int)/\∀(x:n7),l[s]? =some x->W x.set->W x.a6->W x.set->W p/\(aM x.set p most=false->false=au n7.set most d l)/\(aM x.set p most=true->W x.set->W ((s:Int)+1)/\∃(g:Nat),(λ(q:Int)=>(most=most/\x.set=q/\l=l/\(e:Int)=(e:Int)/\(s:Int)+1=(g:Int))/\(g<=e/\au n7.set most d (take g l)=true/\d<=q/\q<=1048576)/\e-g<e-s) (bJ n7.set d (take g l))))/\((e:Int)<=(s:Int)->true=au n7.set most d l)) (o+1)) (bJ n7.set d (take s l))) (bJ n7.set d (take h l))) l.length 0);repeat' first|(with_reducible first|apply aH|refine aI ?_|intro)|exact aZ|exact(Sv (key:=n7.set) Y Y Y)|exact(MB (key:=n7.set) Y Y)|exact(Oc (key:=n7.set) Y N)|exact(gz (key:=n7.set) Y)|exact(Nn (key:=n7.set) Y Y Y)|exact(Pt (key:=n7.set) Y Y Y)|exact rfl|exact x5 _|exact(show(0:Int)<=1048576 by omega)|refine⟨‹Nat›+1,?_⟩|refine⟨0,?_⟩
theorem zT:CK 327 (aD (ak l_ (ak dj (ak (kC (ub 328 [] [])) bS))) av λ(l,most,_,_) _=>{pre:=[most<=1048576],rs:=[.c (.bool (.atom (au ie.id most 0 l)))]}):=ag λ(l,most,_,_) _ t=>by
 have u:=bw t;refine al lG (AD l most) func327 (?_:(λ(e:Nat)(d:Int)=>l.length*64<=140737488355328->W most->∃(h:Nat),(λ(j:Int)=>(most=most/\d=j/\l=l/\(l.length:Int)=(e:Int)/\d=(h:Int))/\(h<=e/\au ie.id most d (take h l)=true/\d<=j/\j<=1048576)/\∀(s:Nat),(λ(o:Int)=>(λ(p:Int)=>s<=e/\au ie.id most d (take s l)=true/\d<=o/\o<=1048576->((s:Int)<(e:Int)->d<=(s:Int)/\(s:Int)<(l.length:Int)/\∀(x:ie),l[s]? =some x->bY x (W x.id->W p/\(aM x.id p most=false->false=au ie.id most d l)/\(aM x.id p most=true->W x.id->W ((s:Int)+1)/\∃(g:Nat),(λ(q:Int)=>(most=most/\x.id=q/\l=l/\(e:Int)=(e:Int)/\(s:Int)+1=(g:Int))/\(g<=e/\au ie.id most d (take g l)=true/\d<=q/\q<=1048576)/\e-g<e-s) (bJ ie.id d (take g l)))))/\((e:Int)<=(s:Int)->true=au ie.id most d l)) (o+1)) (bJ ie.id d (take s l))) (bJ ie.id d (take h l))) l.length 0);repeat' first|(with_reducible first|apply aH|refine aI ?_|intro)|exact aZ|exact(Sv (key:=ie.id) Y Y Y)|exact(MB (key:=ie.id) Y Y)|exact(Oc (key:=ie.id) Y N)|exact(gz (key:=ie.id) Y)|exact(Nn (key:=ie.id) Y Y Y)|exact(Pt (key:=ie.id) Y Y Y)|exact rfl|exact x5 _|exact(show(0:Int)<=1048576 by omega)|refine⟨‹Nat›+1,?_⟩|refine⟨0,?_⟩
theorem ac6:CK 277 (aD Rb av λ(x,_) _=>{rs:=[.c (.bool (.atom (bB x)))]}):=ag λ(x,_) _ _=>by
 refine al lG [] func277 (?_:dL x ((aM x.seq 0 1048576&&aM x.last.code 0 99&&aM x.last.n 0 1048576)=bB x));grind[bB,aM]
theorem adM:CK 281 (aD UC av λ(x,_) _=>{rs:=[.c (.bool (.atom (bC x)))]}):=ag λ(x,_) _ _=>by
 refine al lG [] func281 (?_:W x.set->W x.a6->aM x.a6 1 8=bC x);grind[bC,aM]
def jV:=(ae adM (ae ac6 (ae zT (ae An (ae zx (ae afl lG))))))
def adL(h:(k:Int)<bD n):(gD n k).set k (ofNat (n/128^k)|||ofNat 128)=gD n (k+1):=FH N
def YJ(g:k<=bD n)(h:(bD n:Int)<=(k:Int)):(gD n k).set ((bD n:Int)-1).toNat ((gD n k).getD ((bD n:Int)-1).toNat (c4 Sh.u8)&&&ofNat 127)=bm n:=by
 have e:k=bD n:=by omega
 have d:((bD n:Int)-1).toNat=bD n-1:=by omega
 have j:=rG (n:=n) (tw _);have o:=kN n;subst e;have c:bD n-1<(gD n (bD n)).length:=by omega
 rw[d,getD_eq_getElem?_getD,r5 c,O2,EH (r5 c)];rfl
def anr(n:z8):List (Nat×LI):=[(4,{σ:=Nat,F:=λk=>([(0,one (.u64 (n.n/128^k))),(3,one (.int (bD n.n))),(4,one (.own 0)),(10,one (.int (bD n.n))),(11,one (.int k))],[.row 5 .u8 (gD n.n k)]),J:=λk=>k<=bD n.n,μ:=λk=>bD n.n-k})]
def OX(l:List eS):List (Nat×LI):=[(2,{σ:=Nat,F:=λk=>([(1,one (.fn 277 [] [])),(7,one (.fz (.nm .c8) l)),(8,one (.int l.length)),(9,one (.int k))],[]),J:=λk=>k<=l.length/\(l.take k).all (bB)=true,μ:=λk=>l.length-k})]
def TO(l:List n7):List (Nat×LI):=[(2,{σ:=Nat,F:=λk=>([(1,one (.fn 281 [] [])),(7,one (.fz (.nm .opn) l)),(8,one (.int l.length)),(9,one (.int k))],[]),J:=λk=>k<=l.length/\(l.take k).all (bC)=true,μ:=λk=>l.length-k})]
theorem agq:CK 150 (aD (ak (kC cU) bS) av λ(n,_) _=>⟨[],[.c (.own 0)],some ([.row 5 .u8 (bm n.n)]),true⟩):=ag λ(n,_) _ _=>by
 refine bU jV (anr n) func150 (?_:(λ(e:Nat)(p:Int)=>(λ(d:Int)=>(λ(g:Int)=>n.n<(18446744073709551616:Nat)->W d->(0:Int)<=d/\d*(↑(1:Nat):Int)<=(140737488355328:Int)/\d=d/\∃(o:Nat),(n.n=n.n/(128:Nat)^o/\d=d/\d=d/\(0:Int)=(o:Int)/\replicate e (c4 Sh.u8)=gD n.n o)/\o<=e/\∀(s:Nat),(λ(h:List UInt8)=>s<=e->((s:Int)<d->(0:Int)<=(s:Int)/\(s:Int)<(h.length:Int)/\(7:Nat)<(64:Nat)/\W ((s:Int)+p)/\∃(j:Nat),(n.n/(128:Nat)^s/(2:Nat)^(7:Nat)=n.n/(128:Nat)^j/\d=d/\d=d/\(s:Int)+p=(j:Int)/\h.set s (ofNat (n.n/(128:Nat)^s)|||ofNat (128:Nat))=gD n.n j)/\j<=e/\e-j<e-s)/\(d<=(s:Int)->W g/\(0:Int)<=g/\g<(h.length:Int)/\(0:Int)<=g/\g<(h.length:Int)/\h.set g.toNat (h.getD g.toNat (c4 Sh.u8)&&&ofNat (127:Nat))=bm n.n)) (gD n.n s)) (d-p)) (e:Int)) (bD n.n) (1:Int));intro q;have u:=kN n.n;have t:=vZ q;repeat' first|(with_reducible first|apply aH|refine aI ?_|intro)|exact aZ|exact(Fl n.n)|exact(adL N)|exact(YJ N N)|exact div_pow|exact(by rw[Nat.pow_zero,Nat.div_one])|exact(by rw[rG N];omega)|refine⟨‹Nat›+1,?_⟩|refine⟨0,?_⟩
theorem JE:CK 276 (aD (ak Cl (ak (kC (ub 277 [] [])) bS)) av λ(l,_,_) _=>{rs:=[.c (.bool (.atom (l.all bB)))]}):=ag λ(l,_,_) _ _=>by
 refine al jV (OX l) func276 (?_:(λ(d:Nat)=>l.length*32<=140737488355328->∃(g:Nat),(l=l/\(l.length:Int)=(d:Int)/\0=(g:Int))/\(g<=d/\(take g l).all bB=true)/\∀(s:Nat),s<=d/\(take s l).all bB=true->((s:Int)<(d:Int)->0<=(s:Int)/\(s:Int)<(l.length:Int)/\∀(x:eS),l[s]? =some x->dL x ((bB x=false->false=l.all bB)/\(bB x=true->W ((s:Int)+1)/\∃(e:Nat),(l=l/\(d:Int)=(d:Int)/\(s:Int)+1=(e:Int))/\(e<=d/\(take e l).all bB=true)/\d-e<d-s)))/\((d:Int)<=(s:Int)->true=l.all bB)) l.length);repeat' first|(with_reducible first|apply aH|refine aI ?_|intro)|exact aZ|exact(vp (p:=bB) Y Y Y)|exact(MF (p:=bB) Y Y)|exact(Pa (p:=bB) Y N)|exact rfl|refine⟨‹Nat›+1,?_⟩|refine⟨0,?_⟩
theorem LV:CK 280 (aD (ak uL (ak (kC (ub 281 [] [])) bS)) av λ(l,_,_) _=>{rs:=[.c (.bool (.atom (l.all bC)))]}):=ag λ(l,_,_) _ _=>by
 refine al jV (TO l) func280 (?_:(λ(d:Nat)=>l.length*16<=140737488355328->∃(g:Nat),(l=l/\(l.length:Int)=(d:Int)/\0=(g:Int))/\(g<=d/\(take g l).all bC=true)/\∀(s:Nat),s<=d/\(take s l).all bC=true->((s:Int)<(d:Int)->0<=(s:Int)/\(s:Int)<(l.length:Int)/\∀(x:n7),l[s]? =some x->W x.set->W x.a6->(bC x=false->false=l.all bC)/\(bC x=true->W ((s:Int)+1)/\∃(e:Nat),(l=l/\(d:Int)=(d:Int)/\(s:Int)+1=(e:Int))/\(e<=d/\(take e l).all bC=true)/\d-e<d-s))/\((d:Int)<=(s:Int)->true=l.all bC)) l.length);repeat' first|(with_reducible first|apply aH|refine aI ?_|intro)|exact aZ|exact(vp (p:=bC) Y Y Y)|exact(MF (p:=bC) Y Y)|exact(Pa (p:=bC) Y N)|exact rfl|refine⟨‹Nat›+1,?_⟩|refine⟨0,?_⟩
def yC:CK 58 (aD (ak Cl bS) av λ(l,_) _=>⟨[],[.c (.own 0)],some ([.row 119 (.nm .c8) l]),true⟩):=ag λ(l,_) _ _=>by
 refine bU jV [] func58 (?_:(λd=>d->∀(b:Bool),(b=true->l=[])->(b=true->l=[])/\(b=false->d/\l=l)) (l.length*32<=140737488355328));exact λh b e=>⟨e,λ_=>⟨h,rfl⟩⟩
def BV:CK 59 (aD (ak uL bS) av λ(l,_) _=>⟨[],[.c (.own 0)],some ([.row 122 (.nm .opn) l]),true⟩):=ag λ(l,_) _ _=>by
 refine bU jV [] func59 (?_:(λd=>d->∀(b:Bool),(b=true->l=[])->(b=true->l=[])/\(b=false->d/\l=l)) (l.length*16<=140737488355328));exact λh b e=>⟨e,λ_=>⟨h,rfl⟩⟩
def yO:CK 60 (aD (ak l_ bS) av λ(l,_) _=>⟨[],[.c (.own 0)],some ([.row 125 (.nm .snap) l]),true⟩):=ag λ(l,_) _ _=>by
 refine bU jV [] func60 (?_:(λd=>d->∀(b:Bool),(b=true->l=[])->(b=true->l=[])/\(b=false->d/\l=l)) (l.length*64<=140737488355328));exact λh b e=>⟨e,λ_=>⟨h,rfl⟩⟩
theorem AF:CK 28 (aD iS av λ(l,_) _=>{rs:=[.c (.fz .int l)]}):=ag λ(l,_) _ _=>by
 refine al jV [] func28 (?_:(λd=>d->∀(b:Bool),(b=true->l=[])->(b=true->l=[])/\(b=false->d/\l=l)) (l.length*8<=140737488355328));intros;repeat'(first|refine And.intro ?_ ?_|intro)
 all_goals first|rfl|assumption|simp_all
def lK:=(ae AF (ae yO (ae BV (ae yC (ae LV (ae JE (ae agq jV)))))))
def abm(h:ku x (l.take k)= -1)(c:l.length<=k):-1=ku x l:=by rw[take_of_length_le c]at h;exact h.symm
theorem Ze{y:Int}(h:ku x (l.take k)= -1)(c:l[k]? =some y)(e:x=y):(k:Int)=ku x l:=by
 refine RV (λj z q d g=>?_) c e;have o:z∈l.take k:=by
  obtain⟨s,p⟩:=sy.1 d;rw[aso];exact⟨j,N,p⟩
 have:decide (0<=ku x (l.take k))=true:=by rw[QN,List.contains_iff_mem,g];exact o
 grind
theorem acK{y:Int}(h:ku x (l.take k)= -1)(d:l[k]? =some y)(e:¬x=y):ku x (l.take (k+1))= -1:=by
 have g:(l.take k).contains x=false:=by
  have:=QN x (l.take k);grind
 have c:(l.take (k+1)).contains x=false:=by simp_all[ah]
 unfold ku at c⊢;grind
def ajp(c:bO l=true)(d:l[k]? =some x):0<=x:=Int.le_of_lt (nF c x (C5 d)).1
theorem PM(c:bO l=true)(d:l[k]? =some x):((fP (l.take k)).length+(bm x.toNat).length)*1<=140737488355328:=by
 have e:=Dx (l:=l.take k) (λx d=>(nF c x (X8 d)).2);have g:=tz c;have h:=nF c x (C5 d);have j:=cH (n:=x.toNat) N;grind
def aeg(l:List Int)(x:Int):List (Nat×LI):=[(2,{σ:=Nat,F:=λk=>([(0,one (.fz .int l)),(1,one (.int x)),(7,one (.int l.length)),(8,one (.int k))],[]),J:=λk=>k<=l.length/\ku x (l.take k)= -1,μ:=λk=>l.length-k})]
def VW(l:List Int):List (Nat×LI):=[(5,{σ:=Nat,F:=λk=>([(4,one (.own 0)),(10,one (.fz .int l)),(11,one (.int l.length)),(12,one (.int k))],[.row 5 .u8 (fP (l.take k))]),J:=λk=>k<=l.length/\bO l=true,μ:=λk=>l.length-k})]
theorem Yk:CK 205 (aD (ak pw fj) av λ(l,x,_) _=>{rs:=[.c (.int (ku x l))]}):=ag λ(l,x,_) _ _=>by
 refine al lK (aeg l x) func205 (?_:(λ(g:Int)(d:Nat)=>l.length*8<=140737488355328->W x->∃(j:Nat),(l=l/\x=x/\(l.length:Int)=(d:Int)/\0=(j:Int))/\(j<=d/\ku x (take j l)= -g)/\∀(s:Nat),s<=d/\ku x (take s l)= -g->((s:Int)<(d:Int)->0<=(s:Int)/\(s:Int)<(l.length:Int)/\∀(e:Int),l[s]? =some e->W e->(x=e->(s:Int)=ku x l)/\(¬x=e->W ((s:Int)+g)/\∃(h:Nat),(l=l/\x=x/\(d:Int)=(d:Int)/\(s:Int)+g=(h:Int))/\(h<=d/\ku x (take h l)= -g)/\d-h<d-s))/\((d:Int)<=(s:Int)-> -g=ku x l)) 1 l.length);repeat' first|(with_reducible first|apply aH|refine aI ?_|intro)|exact aZ|exact rfl|exact(abm Y N)|exact(Ze Y Y Y)|exact(acK Y Y Y)|refine⟨‹Nat›+1,?_⟩|refine⟨0,?_⟩
def OO:=ak dj (ak dj (ak (kC cB) bS))
theorem VF:CK 173 (aD OO av λ(n,most,d,_) _=>{rs:=[.c (.bool (.atom (lq n most d)))]}):=ag λ(n,most,d,_) _ _=>by
 refine al lK [] func173 (?_:W n->W most->(d=true->(decide (1<=n)&&decide (n<=most))=lq n most d)/\(d=false->decide (n=0)=lq n most d));grind[lq]
theorem QP:CK 212 (aD iS av λ(l,_) _=>{rs:=[.c (.fz .u8 (bK l)),.c (.int (cO l))]}):=ag λ(l,_) _ _=>by
 refine al lK (VW l) func212 (?_:(λ(e:Prop)(d:Nat)=>l.length*8<=140737488355328->(bO l=false->bK l=[]/\1=cO l)/\(e->∃(h:Nat),(l=l/\(l.length:Int)=(d:Int)/\0=(h:Int)/\fP (take h l)=[])/\(h<=d/\e)/\∀(s:Nat),s<=d/\e->((s:Int)<(d:Int)->0<=(s:Int)/\(s:Int)<(l.length:Int)/\∀(x:Int),l[s]? =some x->W x->0<=x/\((fP (take s l)).length+(bm x.toNat).length)*1<=140737488355328/\W ((s:Int)+1)/\∃(g:Nat),(l=l/\(d:Int)=(d:Int)/\(s:Int)+1=(g:Int)/\fP (take s l)++bm x.toNat=fP (take g l))/\(g<=d/\e)/\d-g<d-s)/\((d:Int)<=(s:Int)->fP (take s l)=bK l/\0=cO l))) (bO l=true) l.length);repeat' first|(with_reducible first|apply aH|refine aI ?_|intro)|exact aZ|exact rfl|exact(rA Y).symm|exact(ly Y)|exact(mP Y)|exact(Az Y N)|exact(xC Y)|exact(ajp Y Y)|exact(PM Y Y)|refine⟨‹Nat›+1,?_⟩|refine⟨0,?_⟩
def qK:=kT (.nm .state)
def mj:=ak qK fj
theorem T_:CK 225 (aD mj av λ(s,x,_) _=>{rs:=[.c (.int (aj eS.a6 x s.c8))]}):=ag λ(s,x,_) _ _=>by
 refine al lK [] func225 (?_:(λd=>cK s (W x->W d->d=d)) (aj eS.a6 x s.c8));grind
theorem Ux:CK 333 (aD mj av λ(s,x,_) _=>{rs:=[.c (.int (aj n7.set x s.eb))]}):=ag λ(s,x,_) _ _=>by
 refine al lK [] func333 (?_:(λd=>cK s (W x->W d->d=d)) (aj n7.set x s.eb));grind
theorem RB:CK 286 (aD mj av λ(s,x,_) _=>{rs:=[.c (.int (aj ie.id x s.c3))]}):=ag λ(s,x,_) _ _=>by
 refine al lK [] func286 (?_:(λd=>cK s (W x->W d->d=d)) (aj ie.id x s.c3));grind
def Ah:=(ae RB (ae Ux (ae T_ (ae QP (ae VF (ae Yk lK))))))
def H5:CK 172 (aD (ak pw fj) av λ(l,x,_) _=>{rs:=[.c (.bool (.atom (l.contains x)))]}):=ag λ(l,x,_) _ _=>by
 refine al Ah [] func172 (?_:l.length*8<=140737488355328->W x->W (ku x l)->decide (0<=ku x l)=l.contains x);intros;exact QN _ _
def iD:=kC (tk 0 0)
def wH:=ak iD (ak (kC (tk 1 0)) bS)
def xk:=iX 3 (bg cI jf)
def Sw:CK 330 (aD (ak CM wH) (bl xk (bl xk av)) λ(x,_,_,_) ((v,_),(t,_),_)=>{rs:=[.c (.bool (.atom (dY v t x)))]}):=ag λ(x,_,_,_) ((v,_),(t,_),_) _=>by
 refine al Ah [] func330 (?_:bY x ((bK x.c6).length*1<=140737488355328->W (cO x.c6)->(decide (cO x.c6=0)&&aM x.set 1 8&&(!x.held||decide (2<=v))&&decide ((x.tag.b.length:Int)<=t))=dY v t x));(repeat intro);rfl
def Ai:=(ae Sw (ae H5 Ah))
def SF(l:List ie)(v:Int)(t:Int):List (Nat×LI):=[(2,{σ:=Nat,F:=λk=>([(1,one (.fn 330 [] [(0,0),(1,0)])),(7,one (.fz (.nm .snap) l)),(8,one (.int l.length)),(9,one (.int k))],[.box 3 ([.int v]),.box 3 ([.int t])]),J:=λk=>k<=l.length/\(l.take k).all (dY v t)=true,μ:=λk=>l.length-k})]
def dA:=ak iD bS
def qg:=oSt 37 (.nm .command)
theorem Wb:CK 171 (aD (ak pw dA) (bl qg av) λ(l,_,_) (c,_)=>{rs:=[.c (.bool (.atom (l.contains c.kind)))]}):=ag λ(l,_,_) (c,_) _=>by
 refine al Ai [] func171 (?_:l.length*8<=140737488355328->l.contains c.kind=l.contains c.kind);grind
theorem JS:CK 329 (aD (ak l_ (ak (kC (ub 330 [] [(0,0),(1,0)])) bS)) (bl xk (bl xk av)) λ(l,_,_) ((v,_),(t,_),_)=>{rs:=[.c (.bool (.atom (l.all (dY v t))))]}):=ag λ(l,_,_) ((v,_),(t,_),_) _=>by
 refine al Ai (SF l v t) func329 (?_:(λ(d:Nat)=>l.length*64<=140737488355328->∃(g:Nat),(l=l/\(l.length:Int)=(d:Int)/\0=(g:Int)/\v=v/\t=t)/\(g<=d/\(take g l).all (dY v t)=true)/\∀(s:Nat),s<=d/\(take s l).all (dY v t)=true->((s:Int)<(d:Int)->0<=(s:Int)/\(s:Int)<(l.length:Int)/\∀(x:ie),l[s]? =some x->bY x ((dY v t x=false->false=l.all (dY v t))/\(dY v t x=true->W ((s:Int)+1)/\∃(e:Nat),(l=l/\(d:Int)=(d:Int)/\(s:Int)+1=(e:Int)/\v=v/\t=t)/\(e<=d/\(take e l).all (dY v t)=true)/\d-e<d-s)))/\((d:Int)<=(s:Int)->true=l.all (dY v t))) l.length);repeat' first|(with_reducible first|apply aH|refine aI ?_|intro)|exact aZ|exact(vp (p:=(dY v t)) Y Y Y)|exact(MF (p:=(dY v t)) Y Y)|exact(Pa (p:=(dY v t)) Y N)|exact rfl|refine⟨‹Nat›+1,?_⟩|refine⟨0,?_⟩
def yJ:=(ae JS (ae Wb Ai))
theorem amg(k:Int):(if k=12 then some (Span.mk 0 64)else if k=8 then some (Span.mk 2 3)else if k=6 then some (Span.mk 0 8)else none).getD (c4 (.nm .span))=⟨(kI k).1,(kI k).2⟩:=by
 by_cases c:k=12
 .subst c;rfl
 by_cases d:k=8
 .subst d;rfl
 by_cases e:k=6
 .subst e;rfl
 simp[kI,sT,c,d,e];rfl
def JP:=kT (.nm .command)
def Ct:=ak JP bS
theorem ad7:CK 124 (aD Ct av λ(c,_) _=>{rs:=[.c (.bool (.atom (fX c)))]}):=ag λ(c,_) _ _=>by
 refine al yJ [] func124 (?_:(λd e p=>(λq s t o g u=>(λv=>(λj h=>bf c ((e=3->(h=true->(bO c.c6=true->j)/\(bO c.c6=false->g))/\(h=false->g))/\(¬e=3->(e=11->(h=true->(o->((c.text.b.length:Int)<=16->v)/\(16<(c.text.b.length:Int)->g))/\(¬o->g))/\(h=false->g))/\(¬e=11->(h=true->(o->j)/\(¬o->g))/\(h=false->g))))) ((p->v)/\(¬p->g)) (decide (u.lo<=c.n)&&decide (c.n<=u.hi))) ((q=true->(s=true->(t=true->lq c.id 1048576 ([5,7,9,10,11].contains e)=fX c)/\(t=false->g))/\(s=false->g))/\(q=false->g))) (lq c.a6 d ![d].contains e) (lq c.seq 1048576 ![1,d].contains e) (lq c.set d ([2,3,4].contains e)) ((c.c6.length:Int)=0) (false=fX c) ((if e=12 then some (Span.mk 0 64)else if e=d then some (Span.mk 2 3)else if e=6 then some (Span.mk 0 d)else none).getD (c4 (Sh.nm NT.span)))) (8:Int) c.kind (c.text=n9.mk []));simp only[amg];(repeat' with_reducible first|apply aH|refine aI ?_|intro)
 all_goals((unfold fX Au U7;simp_all)<;>(intros;omega))
theorem Yc:CK 282 (aD mj av λ(s,v,_) _=>{pre:=[1<=s.next/\s.next<=1048576],rs:=[.c (.bool (.atom (f_ s v)))]}):=ag λ(s,v,_) _ g=>by
 have h:=bw g;refine al yJ [] func282 (?_:(λe d=>cK s (W v->(e<=16->W d/\d<=1048576)/\(16<e\/au ie.id d 0 s.c3=false->false=f_ s v)/\(e<=16/\au ie.id d 0 s.c3=true->(v<3->s.c3.all (dY v 0)=f_ s v)/\(3<=v->s.c3.all (dY v 16)=f_ s v)))) (s.c3.length:Int) (s.next-1));repeat' first|(with_reducible first|apply aH|refine aI ?_|intro)|exact aZ|((simp only[f_,ny];simp_all)<;>(intros;omega))|(simp only[f_,ny];grind)
def gT:=(ae Yc (ae ad7 yJ))
def lA(n:Int)(c:Bool)(lo d:Int):Bool:=if c then aM n lo d else decide (n=0)
def eK(s:c5)(c:Nat)(k:Nat):Int:=(((s.c3.drop (c+1)).take k).filter λx=>decide (x.set=(s.c3.getD c (c4 (.nm .snap))).set)).length
def iN(s:c5)(c:Int):Bool:=if c<0\/(s.c3.length:Int)<=c then false else decide (eK s c.toNat s.c3.length<s.dc)
def tt(l:List ie):Nat:=(l.flatMap ie.c6).length
def dP(c:Int)(l:List ie):Nat:=(l.flatMap ie.c6).count c
def aU(id:Int)(l:List ie):List ie:=l.filter λx=>!decide (x.id=id)
def gd{l:List α}{d:α}(h:(k:Int)<l.length):l[k]? =some (l.getD k d):=by
 have c:k<l.length:=by omega
 rw[getD_eq_getElem?_getD,r5 c];rfl
def Gp(h:au id 64 0 (l.take k)=true)(e:(k:Int)<l.length)(c:aM (l.getD k (c4 .int)) 1 64=true/\((k:Int)<=0\/l.getD ((k:Int)-1).toNat (c4 .int)<l.getD k (c4 .int))):au id 64 0 (l.take (k+1))=true:=by
 have g:=wT c.1;refine mD (key:=id) h (gd e) ?_ g.2;by_cases j:k=0
 .subst j;show(0:Int)<l.getD 0 (c4 .int);omega
 rw[kM N (gd (d:=c4 .int) N)];have:=c.2.resolve_left N;rwa[show((k:Int)-1).toNat=k-1 by omega]at this
def Iu(g:(k:Int)<l.length)(c:aM (l.getD k (c4 .int)) 1 64=false\/0<(k:Int)/\l.getD k (c4 .int)<=l.getD ((k:Int)-1).toNat (c4 .int))(h:au id 64 0 (l.take k)=true):false=bO l:=by
 refine nL (gd (d:=c4 .int) g) λe=>?_;rcases c with c|⟨o,j⟩
 .have p:=inF c;have:=JN h;omega
 rw[kM N (gd (d:=c4 .int) N)]at e;rw[show((k:Int)-1).toNat=k-1 by omega]at j;have:=e.1;dsimp only[id]at this;omega
variable{a:Nat}
def PN{s:c5}:0=eK s a 0:=by simp[eK]
def VM{s:c5}:eK s a k<=(k:Int):=by
 have c:=N8 (λx:ie=>decide (x.set=(s.c3.getD a (c4 (.nm .snap))).set)) ((s.c3.drop (a+1)).take k);have d:((s.c3.drop (a+1)).take k).length<=k:=by rw[sh];omega
 unfold eK;omega
def XQ{s:c5}:0<=eK s a k:=by unfold eK;omega
def RW{s:c5}(h:a+1+k<=s.c3.length)(c:s.c3.length*64<=140737488355328):W (eK s a k+1):=by
 have d:=VM (s:=s) (a:=a) (k:=k);have e:=XQ (s:=s) (a:=a) (k:=k);constructor<;>omega
variable{x:ie}
def Pr{s:c5}(c:(s.c3.drop (a+1))[k]? =some x)(h:x.set=(s.c3.getD a (c4 (.nm .snap))).set):eK s a k+1=eK s a (k+1):=by
 unfold eK;rw[ah c,F4,s8];simp[h]
def Ph{s:c5}(c:(s.c3.drop (a+1))[k]? =some x)(h:¬x.set=(s.c3.getD a (c4 (.nm .snap))).set):eK s a k=eK s a (k+1):=by
 unfold eK;rw[ah c,F4,s8];rw[show List.filter (λx:ie=>decide (x.set=(s.c3.getD a (c4 (.nm .snap))).set)) [x]=[] by simp only[List.filter_cons,h,decide_false,List.filter_nil];rfl];simp
variable{a:Int}
def IT{s:c5}(c:0<=a)(h:a+1+k<s.c3.length):(s.c3.drop (a.toNat+1))[k]? =some (s.c3.getD (a+1+k).toNat (c4 (.nm .snap))):=by
 rw[D1,show(a+1+k).toNat=a.toNat+1+k by omega];exact gd N
def Dc{s:c5}(c:0<=a)(d:a<s.c3.length)(h:(s.c3.length:Int)<=a+1+k):decide (eK s a.toNat k<s.dc)=iN s a:=by
 unfold iN;rw[X N];have e:∀m:Nat,(s.c3.length:Int)<=a+1+m->eK s a.toNat m=eK s a.toNat s.c3.length:=λm g=>by
  unfold eK;rw[take_of_length_le (by rw[length_drop];omega),take_of_length_le (by rw[length_drop];omega)]
 rw[e k h]
def Cd{s:c5}(h:a<0\/(s.c3.length:Int)<=a):false=iN s a:=by unfold iN;rw[O h]
variable{l:List ie}
def QM{id:Int}{y:ie}(h:¬x.id=id)(c:l[k]? =some x)(d:l[k]? =some y):aU id (l.take k)++[y]=aU id (l.take (k+1)):=by
 rw[c]at d;cases d;unfold aU;rw[ah c,F4];simp[h]
def NF{id:Int}(c:l[k]? =some x)(h:x.id=id):aU id (l.take k)=aU id (l.take (k+1)):=by
 unfold aU;rw[ah c,F4];simp[h]
def EK{id:Int}(h:(l.length:Int)<=k):aU id (l.take k)=aU id l:=by rw[take_of_length_le N]
def Ff{id:Int}(h:(k:Int)<l.length)(d:l.length*64<=140737488355328):((aU id (l.take k)).length+[x].length)*64<=140737488355328:=by
 have c:=N8 (λx:ie=>!decide (x.id=id)) (l.take k);rw[sh]at c;unfold aU;simp;omega
def PB{c:Int}(d:l[k]? =some x):dP c (l.take (k+1))=dP c (l.take k)+x.c6.count c:=by
 unfold dP;rw[ah d];simp
def ae6{c:Int}{q:Nat}(g:tt l<=1048576)(h:k<l.length):dP c (l.take k)+((l.getD k (c4 (.nm .snap))).c6.take q).count c<=1048576:=by
 have e:=gd (d:=c4 (.nm .snap)) (l:=l) (k:=k) N;have j:=PB (c:=c) e;have o:dP c (l.take (k+1))<=tt l:=by
  unfold dP tt;refine zc List.count_le_length ?_;rw[<-E7 (k+1) l,Q8,s8,E7];omega
 have p:((l.getD k (c4 (.nm .snap))).c6.take q).count c<=(l.getD k (c4 (.nm .snap))).c6.count c:=(List.take_sublist _ _).count_le _;omega
def Ml(c:l[k]? =some x):l.getD k (c4 (.nm .snap))=x:=by rw[getD_eq_getElem?_getD,c];rfl
def ajL{c:Int}:(0:Int)=(dP c (l.take 0):Int):=rfl
def abb{c:Int}{m:List Int}:(dP c (l.take k):Int)=((dP c (l.take k)+(m.take 0).count c:Nat):Int):=rfl
def al_{c:Int}(h:(l.length:Int)<=k):(dP c (l.take k):Int)=(dP c l:Int):=by rw[take_of_length_le N]
def agO{q:Nat}{y:ie}(h:(q:Int)<x.c6.length)(d:l[k]? =some x)(c:l[k]? =some y):(q:Int)<y.c6.length:=by rw[d]at c;cases c;exact h
def alN{s:Nat}(h:k=(s,m).1)(c:k<n):n-(k+1)<n-s:=by dsimp only at h;omega
def ahz{c:Int}{q:Nat}(d:tt l<=1048576)(e:k<l.length):W (((dP c (l.take k)+((l.getD k (c4 (.nm .snap))).c6.take q).count c:Nat):Int)+1):=by
 have:=ae6 (c:=c) (q:=q) d e;constructor<;>omega
def ajy{c v:Int}{q:Nat}(h:v=c)(d:x.c6[q]? =some v)(e:l[k]? =some x):((dP c (l.take k)+((l.getD k (c4 (.nm .snap))).c6.take q).count c:Nat):Int)+1=((dP c (l.take k)+((l.getD k (c4 (.nm .snap))).c6.take (q+1)).count c:Nat):Int):=by
 rw[Ml e,ah d,List.count_append,h];simp;omega
def aim{c v:Int}{q:Nat}(h:¬v=c)(d:x.c6[q]? =some v)(e:l[k]? =some x):((dP c (l.take k)+((l.getD k (c4 (.nm .snap))).c6.take q).count c:Nat):Int)=((dP c (l.take k)+((l.getD k (c4 (.nm .snap))).c6.take (q+1)).count c:Nat):Int):=by
 have g:([v]:List Int).count c=0:=by simp[h]
 rw[Ml e,ah d,List.count_append,g];rfl
def ajg{c:Int}{q:Nat}(h:(x.c6.length:Int)<=q)(d:l[k]? =some x):((dP c (l.take k)+((l.getD k (c4 (.nm .snap))).c6.take q).count c:Nat):Int)=(dP c (l.take (k+1)):Int):=by
 rw[Ml d,take_of_length_le (i:=q) (l:=x.c6) N,PB d]
def ak0{q:Nat}(h:(q:Int)<x.c6.length)(c:l[k]? =some x):q+1<=(l.getD k (c4 (.nm .snap))).c6.length:=by rw[Ml c];omega
def aiE{q:Nat}(h:(q:Int)<x.c6.length)(c:l[k]? =some x):(l.getD k (c4 (.nm .snap))).c6.length-(q+1)<(l.getD k (c4 (.nm .snap))).c6.length-q:=by rw[Ml c];omega
def ajY(l:List Int):List (Nat×LI):=[(2,{σ:=Nat,F:=λk=>([(0,one (.fz .int l)),(3,one (.int k))],[]),J:=λk=>k<=l.length/\au id 64 0 (l.take k)=true,μ:=λk=>l.length-k})]
def Si(st:c5)(x:Int):List (Nat×LI):=[(2,{σ:=Nat,F:=λk=>([(1,one (.int x)),(2,one (.ptr 0 0)),(5,one (.int k))],[.box 56 (cellsOf (.nm .state) st)]),J:=λk=>k<=st.c8.length/\aj eS.a6 x (st.c8.take k)= -1,μ:=λk=>st.c8.length-k})]
def Rz(st:c5)(x:Int):List (Nat×LI):=[(2,{σ:=Nat,F:=λk=>([(1,one (.int x)),(2,one (.ptr 0 0)),(5,one (.int k))],[.box 56 (cellsOf (.nm .state) st)]),J:=λk=>k<=st.eb.length/\aj n7.set x (st.eb.take k)= -1,μ:=λk=>st.eb.length-k})]
def aeR(st:c5)(x:Int):List (Nat×LI):=[(2,{σ:=Nat,F:=λk=>([(1,one (.int x)),(2,one (.ptr 0 0)),(5,one (.int k))],[.box 56 (cellsOf (.nm .state) st)]),J:=λk=>k<=st.c3.length/\aj ie.id x (st.c3.take k)= -1,μ:=λk=>st.c3.length-k})]
def afp(st:c5)(c:Int):List (Nat×LI):=[(5,{σ:=Nat,F:=λk=>([(1,one (.int c)),(2,one (.ptr 0 0)),(5,one (.int (eK st c.toNat k))),(6,one (.int (c+1+k)))],[.box 56 (cellsOf (.nm .state) st)]),J:=λk=>c.toNat+1+k<=st.c3.length/\0<=c,μ:=λk=>st.c3.length-k})]
def alP(st:c5)(c:Int):List (Nat×LI):=[(5,{σ:=Nat,F:=λk=>([(1,one (.int c)),(2,one (.ptr 0 0)),(5,one (.int (eK st c.toNat k))),(21,one (.fz (.nm .snap) (st.c3.drop (c+1).toNat))),(22,one (.int (st.c3.drop (c+1).toNat).length)),(23,one (.int k))],[.box 56 (cellsOf (.nm .state) st)]),J:=λk=>c.toNat+1+k<=st.c3.length/\0<=c,μ:=λk=>st.c3.length-k})]
def Xd(l:List ie)(c:Int):List (Nat×LI):=[(3,{σ:=Nat,F:=λk=>([(0,one (.fz (.nm .snap) l)),(1,one (.int c)),(5,one (.int (dP c (l.take k)))),(6,one (.int k))],[]),J:=λk=>k<=l.length,μ:=λk=>l.length-k}),(6,{σ:=Nat×Nat,F:=λq=>([(0,one (.fz (.nm .snap) l)),(1,one (.int c)),(5,one (.int (dP c (l.take q.1)+((l.getD q.1 (c4 (.nm .snap))).c6.take q.2).count c:Nat))),(6,one (.int q.1)),(7,one (.int q.2))],[]),J:=λq=>q.1<l.length/\q.2<=(l.getD q.1 (c4 (.nm .snap))).c6.length,μ:=λq=>(l.getD q.1 (c4 (.nm .snap))).c6.length-q.2,R:=some λd q=>q.1=d.1})]
def Mb(l:List ie)(id:Int):List (Nat×LI):=[(3,{σ:=Nat,F:=λk=>([(0,one (.fz (.nm .snap) l)),(1,one (.int id)),(5,one (.own 0)),(6,one (.int k))],[.row 125 (.nm .snap) (aU id (l.take k))]),J:=λk=>k<=l.length,μ:=λk=>l.length-k})]
theorem aei:CK 146 (aD iS av λ(l,_) _=>{rs:=[.c (.bool (.atom (bO l)))]}):=ag λ(l,_) _ _=>by
 refine al gT (ajY l) func146 (?_:(λ(p:Int)(q:Nat)(t:l7 Sh.int)(g:Int)(h:Int)(j:Int)=>l.length*8<=140737488355328->∃(y:Nat),(l=l/\g=(y:Int))/\(y<=q/\au id p g (take y l)=true)/\∀(s:Nat),(λ(d:Int)=>(λ(o:Int)(u:Prop)(e:l7 Sh.int)(A:Prop)=>s<=q/\au id p g (take s l)=true->(d<j->(aM e h p=false->u/\(W e->false=bO l))/\(aM e h p=true->(g<d->u/\(W e->u)/\(W e->W o)/\(W e->g<=o/\o<j)/\(W e->W e->W (l.getD o.toNat t)->(e<=l.getD o.toNat t->false=bO l)/\(l.getD o.toNat t<e->A)))/\(d<=g->u/\(W e->A))))/\(j<=d->(decide (h<=j)&&decide (j<=8))=bO l)) (d-h) (g<=d/\d<j) (l.getD s t) (W (d+h)/\∃(v:Nat),(l=l/\d+h=(v:Int))/\(v<=q/\au id p g (take v l)=true)/\q-v<q-s)) (s:Int)) 64 l.length (c4 Sh.int) 0 1 (l.length:Int));repeat' first|(with_reducible first|apply aH|refine aI ?_|intro)|exact aZ|exact rfl|exact(Gp Y N ⟨Y,.inl Y⟩)|exact(Gp Y N ⟨Y,.inr Y⟩)|exact(Iu N (.inl Y) Y)|exact(Iu N (.inr ⟨Y,Y⟩) Y)|exact(KR Y N)|refine⟨‹Nat›+1,?_⟩|refine⟨0,?_⟩
def Wv:CK 144 (aD fj av λ(x,_) _=>{rs:=[.c (.int (br x))]}):=ag λ(x,_) _ _=>by
 refine al gT [] func144 (?_:W x->(aM x 1 8=true->1=br x)/\(aM x 1 8=false->(aM x 9 10=true->2=br x)/\(aM x 9 10=false->(aM x 11 12=true->3=br x)/\(aM x 11 12=false->0=br x))));intro _;by_cases h:1<=x/\x<=12
 .rw[Yu h];simp only[aM,r3,S7,u9,J2];(repeat' with_reducible first|apply aH|refine aI ?_|intro)<;>(repeat split)<;>omega
 rw[Ir h];exact⟨λd=>absurd (wT d) N,λ_=>⟨λd=>absurd (wT d) N,λ_=>⟨λd=>absurd (wT d) N,λ_=>rfl⟩⟩⟩
theorem Qt:CK 145 (aD (ak dj (ak (kC cB) ij)) av λ(n,d,lo,e,_) _=>{rs:=[.c (.bool (.atom (lA n d lo e)))]}):=ag λ(n,d,lo,e,_) _ _=>by
 refine al gT [] func145 (?_:W n->W lo->W e->(d=false->decide (n=0)=lA n d lo e)/\(d=true->aM n lo e=lA n d lo e));grind[lA]
theorem Kk:CK 237 (aD mj av λ(st,x,_) _=>{rs:=[.c (.int (aj eS.a6 x st.c8))]}):=ag λ(st,x,_) _ _=>by
 refine al gT (Si st x) func237 (?_:(λ(g:Int)(d:List eS)=>cK st (W x->∃(j:Nat),(x=x/\0=(j:Int)/\cg st st)/\(j<=d.length/\aj eS.a6 x (take j d)= -g)/\∀(s:Nat),s<=d.length/\aj eS.a6 x (take s d)= -g->((s:Int)<(d.length:Int)->0<=(s:Int)/\(s:Int)<(d.length:Int)/\∀(e:eS),d[s]? =some e->dL e ((e.a6=x->(s:Int)=aj eS.a6 x d)/\(¬e.a6=x->W ((s:Int)+g)/\∃(h:Nat),(x=x/\(s:Int)+g=(h:Int)/\cg st st)/\(h<=d.length/\aj eS.a6 x (take h d)= -g)/\d.length-h<d.length-s)))/\((d.length:Int)<=(s:Int)-> -g=aj eS.a6 x d))) 1 st.c8);repeat' first|(with_reducible first|apply aH|refine aI ?_|intro)|exact aZ|exact(nK (key:=eS.a6))|exact(im (key:=eS.a6) Y Y Y)|exact(lh (key:=eS.a6) Y N)|exact(jx (key:=eS.a6) Y Y Y)|refine⟨‹Nat›+1,?_⟩|refine⟨0,?_⟩
theorem LM:CK 261 (aD mj av λ(st,x,_) _=>{rs:=[.c (.int (aj n7.set x st.eb))]}):=ag λ(st,x,_) _ _=>by
 refine al gT (Rz st x) func261 (?_:(λ(g:Int)(d:List n7)=>cK st (W x->∃(j:Nat),(x=x/\0=(j:Int)/\cg st st)/\(j<=d.length/\aj n7.set x (take j d)= -g)/\∀(s:Nat),s<=d.length/\aj n7.set x (take s d)= -g->((s:Int)<(d.length:Int)->0<=(s:Int)/\(s:Int)<(d.length:Int)/\∀(e:n7),d[s]? =some e->W e.set->W e.a6->(e.set=x->(s:Int)=aj n7.set x d)/\(¬e.set=x->W ((s:Int)+g)/\∃(h:Nat),(x=x/\(s:Int)+g=(h:Int)/\cg st st)/\(h<=d.length/\aj n7.set x (take h d)= -g)/\d.length-h<d.length-s))/\((d.length:Int)<=(s:Int)-> -g=aj n7.set x d))) 1 st.eb);repeat' first|(with_reducible first|apply aH|refine aI ?_|intro)|exact aZ|exact(nK (key:=n7.set))|exact(im (key:=n7.set) Y Y Y)|exact(lh (key:=n7.set) Y N)|exact(jx (key:=n7.set) Y Y Y)|refine⟨‹Nat›+1,?_⟩|refine⟨0,?_⟩
theorem Yh:CK 266 (aD mj av λ(st,x,_) _=>{rs:=[.c (.int (aj ie.id x st.c3))]}):=ag λ(st,x,_) _ _=>by
 refine al gT (aeR st x) func266 (?_:(λ(g:Int)(d:List ie)=>cK st (W x->∃(j:Nat),(x=x/\0=(j:Int)/\cg st st)/\(j<=d.length/\aj ie.id x (take j d)= -g)/\∀(s:Nat),s<=d.length/\aj ie.id x (take s d)= -g->((s:Int)<(d.length:Int)->0<=(s:Int)/\(s:Int)<(d.length:Int)/\∀(e:ie),d[s]? =some e->bY e ((e.id=x->(s:Int)=aj ie.id x d)/\(¬e.id=x->W ((s:Int)+g)/\∃(h:Nat),(x=x/\(s:Int)+g=(h:Int)/\cg st st)/\(h<=d.length/\aj ie.id x (take h d)= -g)/\d.length-h<d.length-s)))/\((d.length:Int)<=(s:Int)-> -g=aj ie.id x d))) 1 st.c3);repeat' first|(with_reducible first|apply aH|refine aI ?_|intro)|exact aZ|exact(nK (key:=ie.id))|exact(im (key:=ie.id) Y Y Y)|exact(lh (key:=ie.id) Y N)|exact(jx (key:=ie.id) Y Y Y)|refine⟨‹Nat›+1,?_⟩|refine⟨0,?_⟩
theorem UX:CK 318 (aD mj av λ(st,d,_) _=>{rs:=[.c (.bool (.atom (iN st d)))]}):=ag λ(st,d,_) _ _=>by
 refine al gT (afp st d) func318 (?_:(λo A q p=>(λC t=>(λj u v=>cK st (W d->(d<0\/u<=d->false=iN st d)/\(q/\d<u->W v/\∃D,(d=d/\0=eK st p D/\v=v+(D:Int)/\cg st st)/\(C+D<=j/\q)/\∀(s:Nat),(λg e=>(λy=>C+s<=j/\q->(e<u->(0<=e/\e<u)/\(q/\d<u)/\bY (t.getD e.toNat A) (bY (t.getD p A) ((y->W (g+o)/\W (e+o)/\∃h,(d=d/\g+o=eK st p h/\e+o=v+(h:Int)/\cg st st)/\(C+h<=j/\q)/\j-h<j-s)/\(¬y->W (e+o)/\∃h,(d=d/\g=eK st p h/\e+o=v+(h:Int)/\cg st st)/\(C+h<=j/\q)/\j-h<j-s))))/\(u<=e->decide (g<st.dc)=iN st d)) ((t.getD e.toNat A).set=(t.getD p A).set)) (eK st p s) (v+(s:Int))))) t.length (t.length:Int) (d+o)) (p+1) st.c3) (1:Int) (c4 (Sh.nm NT.snap)) (0<=d) d.toNat);repeat' first|(with_reducible first|apply aH|refine aI ?_|intro)|exact aZ|exact PN|exact(Cd ap)|exact(RW N N)|exact(Dc N N N)|exact(Pr (IT N N) Y)|exact(Ph (IT N N) Y)|refine⟨‹Nat›+1,?_⟩|refine⟨0,?_⟩
theorem acQ:CK 340 (aD mj av λ(st,d,_) _=>{rs:=[.c (.bool (.atom (iN st d)))]}):=ag λ(st,d,_) _ _=>by
 refine al gT (alP st d) func340 (?_:(λt q=>(λu v=>(λA y=>(λD C p G=>(λe g=>cK st (W d->(d<t\/C<=d->false=iN st d)/\(u/\d<C->W (d+q)/\t<=d+q/\d+q<=C/\∃F,(d=d/\t=eK st v F/\e=e/\(e.length:Int)=g/\t=(F:Int)/\cg st st)/\(A+F<=p/\u)/\∀(s:Nat),(λh j=>A+s<=p/\u->((s:Int)<g->t<=(s:Int)/\(s:Int)<(e.length:Int)/\∀(x:ie),e[s]? =some x->bY x ((u/\d<C)/\bY D ((x.set=D.set->W (h+q)/\W j/\∃o,(d=d/\h+q=eK st v o/\e=e/\g=g/\j=(o:Int)/\cg st st)/\(A+o<=p/\u)/\p-o<p-s)/\(¬x.set=D.set->W j/\∃o,(d=d/\h=eK st v o/\e=e/\g=g/\j=(o:Int)/\cg st st)/\(A+o<=p/\u)/\p-o<p-s))))/\(g<=(s:Int)->decide (h<st.dc)=iN st d)) (eK st v s) ((s:Int)+q)))) (drop G y) (↑(drop G y).length:Int)) (y.getD v (c4 (Sh.nm NT.snap))) (y.length:Int) y.length (d+q).toNat) (v+1) st.c3) (t<=d) d.toNat) (0:Int) (1:Int));repeat' first|(with_reducible first|apply aH|refine aI ?_|intro)|exact aZ|exact PN|exact(Cd ap)|exact(RW N N)|exact(Dc N N (by rw[length_drop]at*;omega))|exact(Pr (by rw[show(d+1).toNat=d.toNat+1 by omega]at*;assumption) Y)|exact(by have:=‹_<((List.length (drop _ _):Nat):Int)›;rw[length_drop]at this;omega)|exact(Ph (by rw[show(d+1).toNat=d.toNat+1 by omega]at*;assumption) Y)|refine⟨‹Nat›+1,?_⟩|refine⟨0,?_⟩
def yc:=ak l_ fj
theorem No:CK 317 (aD yc av λ(l,c,_) _=>{pre:=[tt l<=1048576],rs:=[.c (.int (dP c l:Int))]}):=ag λ(l,c,_) _ G=>by
 have H:=bw G;refine al gT (Xd l c) func317 (?_:(λ(C:Int)(y:Int)(o:Int)(h:Nat)=>(λ(A:l7 (Sh.nm NT.snap))=>l.length*64<=140737488355328->W c->∃(p:Nat),(l=l/\c=c/\y=(↑(dP c (take p l)):Int)/\y=(p:Int))/\p<=h/\∀(s:Nat),s<=h->((s:Int)<C->∃(p:Nat×Nat),(λ(g:Nat)=>(l=l/\c=c/\(↑(dP c (take s l)):Int)=(↑(dP c (take g l)+count c (take p.2 (l.getD g A).c6)):Int)/\(s:Int)=(g:Int)/\y=(p.2:Int))/\(g<h/\p.2<=(l.getD g A).c6.length)/\g=g/\∀(d:Nat×Nat),(λ(D:List Int)(q:Int)(t:Int)=>(λ(F:Int)=>d.1<h/\d.2<=D.length->d.1=g->y<=t/\t<C/\∀(x:ie),l[d.1]? =some x->bY x ((q<(x.c6.length:Int)->y<=t/\t<C/\∀(x:ie),l[d.1]? =some x->bY x (y<=q/\q<(x.c6.length:Int)/\∀(j:Int),x.c6[d.2]? =some j->W j->(j=c->W (F+o)/\W (q+o)/\∃(e:Nat×Nat),(λ(u:List Int)=>(l=l/\c=c/\F+o=(↑(dP c (take e.1 l)+count c (take e.2 u)):Int)/\t=(e.1:Int)/\q+o=(e.2:Int))/\(e.1<h/\e.2<=u.length)/\e.1=g/\u.length-e.2<D.length-d.2) (l.getD e.1 A).c6)/\(¬j=c->W (q+o)/\∃(e:Nat×Nat),(λ(v:List Int)=>(l=l/\c=c/\F=(↑(dP c (take e.1 l)+count c (take e.2 v)):Int)/\t=(e.1:Int)/\q+o=(e.2:Int))/\(e.1<h/\e.2<=v.length)/\e.1=g/\v.length-e.2<D.length-d.2) (l.getD e.1 A).c6)))/\((x.c6.length:Int)<=q->W (t+o)/\∃(e:Nat),(l=l/\c=c/\F=(↑(dP c (take e l)):Int)/\t+o=(e:Int))/\e<=h/\h-e<h-s))) (↑(dP c (take d.1 l)+count c (take d.2 D)):Int)) (l.getD d.1 A).c6 (d.2:Int) (d.1:Int)) p.1)/\(C<=(s:Int)->(↑(dP c (take s l)):Int)=(↑(dP c l):Int))) (c4 (Sh.nm NT.snap))) (l.length:Int) 0 1 l.length);(repeat' with_reducible first|apply aH|refine aI ?_|intro)
 all_goals try(refine⟨0,?_⟩;(repeat' with_reducible first|apply aH|refine aI ?_|intro))
 all_goals try(refine⟨(‹Nat›,0),?_⟩;(repeat' with_reducible first|apply aH|refine aI ?_|intro))
 all_goals try(refine⟨(‹Nat×Nat›.1,‹Nat×Nat›.2+1),?_⟩;(repeat' with_reducible first|apply aH|refine aI ?_|intro))
 all_goals try(refine⟨‹Nat×Nat›.1+1,?_⟩;(repeat' with_reducible first|apply aH|refine aI ?_|intro))
 all_goals(first|exact aZ|exact ajL|exact abb|exact(ahz Y Y)|exact(ajy Y Y Y)|exact(aim Y Y Y)|exact(ajg Y Y)|exact(ak0 Y Y)|exact(aiE Y Y)|exact(al_ N)|exact(agO Y Y Y)|exact(alN Y N))
theorem FC:CK 320 (aD yc av λ(l,id,_) _=>{rs:=[.c (.fz (.nm .snap) (aU id l))]}):=ag λ(l,id,_) _ _=>by
 refine al gT (Mb l id) func320 (?_:(λ(g:Int)(e:Nat)=>l.length*64<=140737488355328->W id->∃(o:Nat),(l=l/\id=id/\0=(o:Int)/\aU id (take o l)=[])/\o<=e/\∀(s:Nat),(λ(h:List ie)(j:Int)=>s<=e->((s:Int)<g->0<=(s:Int)/\(s:Int)<g/\∀(x:ie),l[s]? =some x->bY x ((¬x.id=id->0<=(s:Int)/\(s:Int)<g/\∀(x:ie),l[s]? =some x->bY x ((h.length+[x].length)*64<=140737488355328/\W j/\∃(d:Nat),(l=l/\id=id/\j=(d:Int)/\h++[x]=aU id (take d l))/\d<=e/\e-d<e-s))/\(x.id=id->W j/\∃(d:Nat),(l=l/\id=id/\j=(d:Int)/\h=aU id (take d l))/\d<=e/\e-d<e-s)))/\(g<=(s:Int)->h=aU id l)) (aU id (take s l)) ((s:Int)+1)) (l.length:Int) l.length);repeat' first|(with_reducible first|apply aH|refine aI ?_|intro)|exact aZ|exact rfl|exact(QM Y Y Y)|exact(NF Y Y)|exact(EK N)|exact(Ff N N)|refine⟨‹Nat›+1,?_⟩|refine⟨0,?_⟩
def jU:=(ae FC (ae No (ae acQ (ae UX (ae Yh (ae LM (ae Kk (ae Qt (ae Wv (ae aei gT))))))))))
theorem abx{l:List α}{d:α}(h:(k:Int)<l.length):l.set k (l.getD k d)=l:=by simp_all
def ae0(h:(k:Int)<l.length)(c:l.length*64<=140737488355328):((l.take k).length+[x].length)*64<=140737488355328:=by
 rw[sh];simp;omega
def fG(l:List ie)(k:Nat):Nat:=((range k).filter λ(i:Nat)=>decide (0<dP ((i:Int)+1) l)).length
def eX(l:List ie):Nat:=fG l 64
theorem afK(h:0<((dP ((k:Int)+1) l:Nat):Int)):(fG l k:Int)+1=(fG l (k+1):Int):=by
 unfold fG;rw[K8,F4,s8];grind
theorem acA(h:((dP ((k:Int)+1) l:Nat):Int)<=0):(fG l k:Int)=(fG l (k+1):Int):=by
 unfold fG;rw[K8,F4,s8];grind
def YZ:fG l k<=k:=by
 unfold fG;refine zc (N8 _ _) ?_;simp
def aeb(h:k<=64):W ((fG l k:Int)+1):=by
 have:=YZ (l:=l) (k:=k);constructor<;>omega
def acT(h:k<=64)(c:64<(k:Int)+1):(fG l k:Int)=(eX l:Int):=by
 rw[show k=64 by omega];rfl
def afy(st:c5):List (Nat×LI):=[(5,{σ:=Nat,F:=λk=>([(1,one (.ptr 0 0)),(2,one (.ptr 1 0)),(18,one (.int st.c3.length)),(19,one (.int k))],[.box 56 ([.int st.bo,.int st.next,.int st.dc,.int st.eR,.own 2,.own 3,.own 4]),.box 56 ([.int (0),.int (0),.int (0),.int (0),.em true,.em true,.em true]),.row 119 (.nm .c8) st.c8,.row 122 (.nm .opn) st.eb,.row 125 (.nm .snap) st.c3]),J:=λk=>k<=st.c3.length,μ:=λk=>st.c3.length-k})]
def af0(st:c5):List (Nat×LI):=[(6,{σ:=Nat,F:=λk=>([(1,one (.ptr 0 0)),(2,one (.ptr 1 0)),(3,one (.ptr 2 0)),(4,one (.int k))],[.box 56 (cellsOf (.nm .state) st),.box 56 ([.int (0),.int (0),.int (0),.int (0),.em true,.em true,.em true]),.box 56 ([.int st.bo,.int st.next,.int st.dc,.int st.eR,.own 3,.own 4,.own 5]),.row 119 (.nm .c8) st.c8,.row 122 (.nm .opn) st.eb,.row 125 (.nm .snap) (st.c3.take k)]),J:=λk=>k<=st.c3.length,μ:=λk=>st.c3.length-k})]
def Fp(l:List ie):List (Nat×LI):=[(3,{σ:=Nat,F:=λk=>([(0,one (.fz (.nm .snap) l)),(3,one (.int (fG l k))),(4,one (.int (k+1)))],[]),J:=λk=>k<=64,μ:=λk=>64-k})]
theorem adq:CK 244 (aD mj av λ(st,v,_) _=>{rs:=[.c (.int (bP st v))]}):=ag λ(st,v,_) _ _=>by
 refine al jU [] func244 (?_:(λd p D o j h=>(λq g e=>(λs t u y F G H I=>(λA C=>cK st (W v->(aM v h o=false->h=d)/\(aM v h o=true->(v<o->g<=j/\g<=j/\(C->q)/\((((F\/s=false)\/y)\/u)\/f_ st v=false->6=d)/\(C/\f_ st v=true->e=d))/\(o<=v->g<=j/\g<=j/\(A->q)/\((((F\/t=false)\/y)\/u)\/f_ st v=false->6=d)/\(A/\f_ st v=true->e=d))))) (((I/\t=true)/\H)/\G) (((I/\s=true)/\H)/\G)) (aM st.eR e e) (aM st.eR e 64) (au n7.set g e st.eb=false\/D=false) (au eS.a6 g e st.c8=false\/p=false) ((aM st.bo h o=false\/aM st.next h j=false)\/aM st.dc e g=false) (au n7.set g e st.eb=true/\D=true) (au eS.a6 g e st.c8=true/\p=true) ((aM st.bo h o=true/\aM st.next h j=true)/\aM st.dc e g=true)) (h<=st.next/\st.next<=j) (8:Int) (0:Int)) (bP st v) (st.c8.all bB) (st.eb.all bC) (3:Int) (1048576:Int) (1:Int));repeat' first|(with_reducible first|apply aH|refine aI ?_|intro)|exact aZ|exact(wT (a:=1) (b:=1048576) Y).1|exact(wT (a:=1) (b:=1048576) Y).2|(simp only[bP,gk,pI,nB];grind)
def uB:=ak JP fj
theorem Zx:CK 73 (aD uB av λ(c,v,_) _=>{rs:=[.c (.int (aO c v))]}):=ag λ(c,v,_) _ _=>by
 refine al jU [] func73 (?_:(λd=>bf c (W v->W d->(dz v=false\/d=0->1=aO c v)/\(dz v=true/\¬d=0->(v<d->10=aO c v)/\(d<=v->(fX c=false->1=aO c v)/\(fX c=true->0=aO c v))))) (br c.kind));rw[show dz v=aM v 1 3 from rfl];repeat' first|(with_reducible first|apply aH|refine aI ?_|intro)|exact aZ|(simp only[aO];grind)
theorem Vt:CK 25 (aD (ak qK bS) av λ(st,_) _=>⟨[],[.agg ([.int st.bo,.int st.next,.int st.dc,.int st.eR,.own 0,.own 1,.own 2])],some ([.row 119 (.nm .c8) st.c8,.row 122 (.nm .opn) st.eb,.row 125 (.nm .snap) st.c3]),true⟩):=ag λ(st,_) _ _=>by
 refine bU jU (afy st) func25 (?_:(λ(q:l7 (Sh.nm NT.snap))=>(λ(d:List ie)=>(λ(c:Nat)(e:Prop)=>cK st (∃(j:Nat),((d.length:Int)=(c:Int)/\0=(j:Int)/\st.bo=st.bo/\st.next=st.next/\st.dc=st.dc/\st.eR=st.eR/\e/\e/\e/\e/\st.c8=st.c8/\st.eb=st.eb/\d=d)/\j<=c/\∀(s:Nat),(λ(g:l7 (Sh.nm NT.snap))=>(λ(o:Prop)(p:Prop)=>s<=c->((s:Int)<(c:Int)->o/\bY g (p->o)/\bY g (p->bY g (W ((s:Int)+1)/\∃(h:Nat),((c:Int)=(c:Int)/\(s:Int)+1=(h:Int)/\st.bo=st.bo/\st.next=st.next/\st.dc=st.dc/\st.eR=st.eR/\e/\e/\e/\e/\st.c8=st.c8/\st.eb=st.eb/\d.set s g=d)/\h<=c/\c-h<c-s)))/\((c:Int)<=(s:Int)->cg st st)) (0<=(s:Int)/\(s:Int)<(d.length:Int)) (g.c6.length*8<=140737488355328)) (d.getD s q))) d.length ((0:Int)=0)) st.c3) (c4 (Sh.nm NT.snap)));repeat' first|(with_reducible first|apply aH|refine aI ?_|intro)|exact aZ|exact rfl|exact(abx N)|refine⟨‹Nat›+1,?_⟩|refine⟨0,?_⟩
theorem XO:CK 214 (aD (ak qK bS) av λ(st,_) _=>⟨[],[.agg ([.int st.bo,.int st.next,.int st.dc,.int st.eR,.own 0,.own 1,.own 2])],some ([.row 119 (.nm .c8) st.c8,.row 122 (.nm .opn) st.eb,.row 125 (.nm .snap) st.c3]),true⟩):=ag λ(st,_) _ _=>by
 refine bU jU (af0 st) func214 (?_:(λ(e:Int)(c:List ie)(d:Prop)=>cK st (st.c8.length*32<=140737488355328/\st.eb.length*16<=140737488355328/\∃(h:Nat),(0=(h:Int)/\aw st st (d/\d/\d/\d/\e=e/\st.next=st.next/\st.dc=st.dc/\st.eR=st.eR/\st.c8=st.c8/\st.eb=st.eb/\take h c=[]))/\h<=c.length/\∀(s:Nat),s<=c.length->((s:Int)<(c.length:Int)->0<=(s:Int)/\(s:Int)<(c.length:Int)/\∀(x:ie),c[s]? =some x->bY x (x.c6.length*8<=140737488355328/\((take s c).length+[x].length)*64<=140737488355328/\W ((s:Int)+1)/\∃(g:Nat),((s:Int)+1=(g:Int)/\aw st st (d/\d/\d/\d/\e=e/\st.next=st.next/\st.dc=st.dc/\st.eR=st.eR/\st.c8=st.c8/\st.eb=st.eb/\take s c++[x]=take g c))/\g<=c.length/\c.length-g<c.length-s))/\((c.length:Int)<=(s:Int)->cg (c5.mk e st.next st.dc st.eR st.c8 st.eb (take s c)) st))) st.bo st.c3 ((0:Int)=0));repeat' first|(with_reducible first|apply aH|refine aI ?_|intro)|exact aZ|exact rfl|exact(ah Y).symm|exact(take_of_length_le N)|exact(ae0 N N)|refine⟨‹Nat›+1,?_⟩|refine⟨0,?_⟩
def LA:CK 315 (aD (ak CM ij) av λ(x,n,v,_) _=>{rs:=[.c (.bool (.atom (iP n v x)))]}):=ag λ(x,n,v,_) _ _=>by
 refine al (IS jU) [] func315 (?_:bY x (W n->W v->(bO x.c6&&aM x.id 1 (jQ n 1)&&aM x.set 1 8&&(!x.held||decide (2<=v))&&decide ((x.tag.b.length:Int)<=16)&&(decide (x.tag=n9.mk [])||decide (3<=v)))=iP n v x));(repeat intro);rfl
theorem VS:CK 149 (aD (ak CM (ak CM bS)) av λ(x,y,_) _=>{rs:=[.c (.bool (.atom (decide (x=y))))]}):=ag λ(x,y,_) _ _=>by
 refine al jU [] func149 (?_:bY x (bY y ((decide (x.c6=y.c6)&&decide (x.id=y.id)&&decide (x.set=y.set)&&x.held==y.held&&decide (x.tag=y.tag))=decide (x=y))));intros;cases x;cases y;simp only[ie.mk.injEq];grind
theorem DF:CK 265 (aD (ak l_ bS) av λ(l,_) _=>{pre:=[tt l<=1048576],rs:=[.c (.int (eX l:Int))]}):=ag λ(l,_) _ p=>by
 have q:=bw p;refine al jU (Fp l) func265 (?_:(λe d=>l.length*e<=140737488355328->∃o,(l=l/\0=(↑(fG l o):Int)/\d=(o:Int)+d)/\o<=e/\∀(s:Nat),(λj g=>s<=e->(g<=64->tt l<=1048576/\(W (↑(dP g l):Int)->(0<(↑(dP g l):Int)->W (j+d)/\W (g+d)/\∃h,(l=l/\j+d=(↑(fG l h):Int)/\g+d=(h:Int)+d)/\h<=e/\e-h<e-s)/\((↑(dP g l):Int)<=0->W (g+d)/\∃h,(l=l/\j=(↑(fG l h):Int)/\g+d=(h:Int)+d)/\h<=e/\e-h<e-s)))/\(64<g->j=(↑(eX l):Int))) (↑(fG l s):Int) ((s:Int)+d)) (64:Nat) (1:Int));repeat' first|(with_reducible first|apply aH|refine aI ?_|intro)|exact aZ|exact rfl|exact(afK N)|exact(acA N)|exact(aeb N)|exact(acT N N)|refine⟨‹Nat›+1,?_⟩|refine⟨0,?_⟩
def mW:=(ae DF (ae VS (ae LA (ae XO (ae Vt (ae Zx (ae adq jU)))))))
def eN(l:List ie)(id:Int)(k:Nat):List Int:=((range k).filter λ(i:Nat)=>decide (0<dP ((i:Int)+1) l)&&decide (dP ((i:Int)+1) (aU id l)=0)).map λ(i:Nat)=>(i:Int)+1
def fJ(c:List Int)(l:List Int):List Int:=l.foldl (λc n=>if 1<=n/\n<=64 then c.set n.toNat (c.getD n.toNat 0+1)else c) c
variable{b a:List ie}
def aiP(h:a.take k=b.take k)(e:decide (a.getD k (c4 (.nm .snap))=b.getD k (c4 (.nm .snap)))=true)(c:(k:Int)<a.length)(d:(k:Int)<b.length):a.take (k+1)=b.take (k+1):=xL h N N (C6 e)
def alW(e:decide (a.getD k (c4 (.nm .snap))=b.getD k (c4 (.nm .snap)))=false)(_:(k:Int)<a.length)(_:(k:Int)<b.length):false=decide (a=b):=by
 symm;apply D7;rintro rfl;simp at e
theorem Th{id:Int}(h:tt l<=1048576):tt (aU id l)<=1048576:=by
 refine zc ?_ h;unfold tt aU;induction l with
 |nil=>exact tw _
 |cons x l c=>
  have d:(l.flatMap ie.c6).length<=1048576:=by unfold tt at h;rw[G9,s8]at h;omega
  have:=c d;grind
def iy(l:List ie)(id:Int):List Int:=eN l id 64
def GP(c l:List Int):Prop:=∀i,0<=c.getD i 0/\c.getD i 0+l.length<=4611686018427387904
variable{xs:List Int}
theorem QR{j:Nat}{v:Int}:(xs.set j v).getD i 0=if j=i/\j<xs.length then v else xs.getD i 0:=by grind
theorem Fv:∀(l xs:List Int) (i:Nat),xs.getD i 0<=(fJ xs l).getD i 0/\(fJ xs l).getD i 0<=xs.getD i 0+l.length
 |[],xs,i=>by simp[fJ]
 |n::l,xs,i=>by
  have h:=Fv l (if 1<=n/\n<=64 then xs.set n.toNat (xs.getD n.toNat 0+1)else xs) i;have e:fJ xs (n::l)=fJ (if 1<=n/\n<=64 then xs.set n.toNat (xs.getD n.toNat 0+1)else xs) l:=rfl;have c:xs.getD i 0<=(if 1<=n/\n<=64 then xs.set n.toNat (xs.getD n.toNat 0+1)else xs).getD i 0/\(if 1<=n/\n<=64 then xs.set n.toNat (xs.getD n.toNat 0+1)else xs).getD i 0<=xs.getD i 0+1:=by
   split
   .rw[QR];split
    .grind
    omega
   omega
  grind
variable{l:List Int}{n:Int}
def BN(c:l[k]? =some n):fJ xs (l.take (k+1))=if 1<=n/\n<=64 then(fJ xs (l.take k)).set n.toNat ((fJ xs (l.take k)).getD n.toNat 0+1)else fJ xs (l.take k):=by
 rw[ah c,fJ,K0];rfl
def ahE(c:l[k]? =some n)(h:1<=n/\n<=64):(fJ xs (l.take k)).set n.toNat ((fJ xs (l.take k)).getD n.toNat (c4 .int)+1)=fJ xs (l.take (k+1)):=by rw[BN c,O h];rfl
def aiv(c:l[k]? =some n)(h:¬(1<=n/\n<=64)):fJ xs (l.take k)=fJ xs (l.take (k+1)):=by rw[BN c,X h]
def alm(h:GP xs l):W ((fJ xs (l.take k)).getD n.toNat (c4 .int)+1):=by
 have c:=Fv (l.take k) xs n.toNat;have d:=h n.toNat;rw[sh]at c;show W ((fJ xs (l.take k)).getD n.toNat 0+1);constructor<;>omega
variable{l:List ie}
theorem aqo{id:Int}(h:0<((dP ((k:Int)+1) l:Nat):Int))(c:((dP ((k:Int)+1) (aU id l):Nat):Int)=0):eN l id k++[(k:Int)+1]=eN l id (k+1):=by
 unfold eN;rw[K8,F4,L0];grind
theorem ap8{id:Int}(h:((dP ((k:Int)+1) l:Nat):Int)<=0\/¬((dP ((k:Int)+1) (aU id l):Nat):Int)=0):eN l id k=eN l id (k+1):=by
 unfold eN;rw[K8,F4,L0];grind
theorem aeZ{id:Int}(h:k<=64):((eN l id k).length+[n].length)*8<=140737488355328:=by
 unfold eN;grind
def ap4{id:Int}(h:k<=64)(c:64<(k:Int)+1):eN l id k=iy l id:=by rw[show k=64 by omega];rfl
def LR(a:List ie)(b:List ie):List (Nat×LI):=[(4,{σ:=Nat,F:=λk=>([(0,one (.fz (.nm .snap) a)),(1,one (.fz (.nm .snap) b)),(5,one (.int k))],[]),J:=λk=>k<=a.length/\a.length=b.length/\a.take k=b.take k,μ:=λk=>a.length-k})]
def Vw(l:List ie)(id:Int):List (Nat×LI):=[(3,{σ:=Nat,F:=λk=>([(0,one (.fz (.nm .snap) l)),(1,one (.int id)),(5,one (.own 0)),(6,one (.int (k+1)))],[.row 3 .int (eN l id k)]),J:=λk=>k<=64,μ:=λk=>64-k})]
def ang(l:List Int)(xs:List Int):List (Nat×LI):=[(1,{σ:=Nat,F:=λk=>([(0,one (.ptr 0 0)),(6,one (.fz .int l)),(7,one (.int l.length)),(8,one (.int k))],[.A8 332 .int 65 (fJ xs (l.take k))]),J:=λk=>k<=l.length,μ:=λk=>l.length-k})]
def vn:=ak qK Ct
theorem ae_:CK 223 (aD vn av λ(st,c,_) _=>{rs:=[.c (.int (if bP st st.bo=0 then aO c st.bo else 1))]}):=ag λ(st,c,_) _ _=>by
 refine al mW [] func223 (?_:(λe d=>(λg=>cK st (bf c (W d->(¬d=0->1=g)/\(d=0->W e->e=g)))) (if d=0 then e else 1)) (aO c st.bo) (bP st st.bo));grind
theorem Ei:CK 101 (aD (ak l_ (ak l_ bS)) av λ(a,b,_) _=>{rs:=[.c (.bool (.atom (decide (a=b))))]}):=ag λ(a,b,_) _ _=>by
 refine al mW (LR a b) func101 (?_:(λ(d:Nat)=>(λ(h:l7 (Sh.nm NT.snap))=>(λ(e:Int)=>a.length*64<=140737488355328->b.length*64<=140737488355328->(¬e=(b.length:Int)->false=decide (a=b))/\(e=(b.length:Int)->∃(j:Nat),(a=a/\b=b/\0=(j:Int))/\(j<=d/\d=b.length/\take j a=take j b)/\∀(s:Nat),(λ(o:Bool)=>s<=d/\d=b.length/\take s a=take s b->((s:Int)<e->(0<=(s:Int)/\(s:Int)<e)/\(0<=(s:Int)/\(s:Int)<(b.length:Int))/\bY (a.getD s h) (bY (b.getD s h) ((o=false->false=decide (a=b))/\(o=true->W ((s:Int)+1)/\∃(g:Nat),(a=a/\b=b/\(s:Int)+1=(g:Int))/\(g<=d/\d=b.length/\take g a=take g b)/\d-g<d-s))))/\(e<=(s:Int)->true=decide (a=b))) (decide (a.getD s h=b.getD s h)))) (a.length:Int)) (c4 (Sh.nm NT.snap))) a.length);repeat' first|(with_reducible first|apply aH|refine aI ?_|intro)|exact aZ|exact rfl|exact(abv Y)|exact(aiP Y Y Y N)|exact(alW Y N N)|exact(OI N Y N)|refine⟨‹Nat›+1,?_⟩|refine⟨0,?_⟩
theorem Oz:CK 319 (aD yc av λ(l,id,_) _=>{pre:=[tt l<=1048576],rs:=[.c (.fz .int (iy l id))]}):=ag λ(l,id,_) _ u=>by
 have v:=bw u;refine al mW (Vw l id) func319 (?_:(λ(j:Int)(o:List ie)(e:Nat)(g:Int)=>l.length*e<=140737488355328->W id->∃(t:Nat),(l=l/\id=id/\g=(t:Int)+g/\eN l id t=[])/\t<=e/\∀(s:Nat),(λ(q:List Int)(d:Int)=>(λ(p:Int)=>s<=e->(d<=64->tt l<=1048576/\(W p->(j<p->tt o<=1048576)/\((j<p->o.length*e<=140737488355328/\W (↑(dP d o):Int))->(j<p/\(↑(dP d o):Int)=j->(q.length+[d].length)*8<=140737488355328/\W (d+g)/\∃(h:Nat),(l=l/\id=id/\d+g=(h:Int)+g/\q++[d]=eN l id h)/\h<=e/\e-h<e-s)/\(p<=j\/¬(↑(dP d o):Int)=j->W (d+g)/\∃(h:Nat),(l=l/\id=id/\d+g=(h:Int)+g/\q=eN l id h)/\h<=e/\e-h<e-s))))/\(64<d->q=iy l id)) (↑(dP d l):Int)) (eN l id s) ((s:Int)+g)) 0 (aU id l) 64 1);repeat' first|(with_reducible first|apply aH|refine aI ?_|intro)|exact aZ|exact rfl|exact(aqo N N)|exact(ap8 N)|exact(aeZ N)|exact(ap4 N N)|exact(Th ap)|refine⟨‹Nat›+1,?_⟩|refine⟨0,?_⟩
def Bz:=bl (afa 332 .int 65) av
theorem ahc:CK 353 (aD (ak iD iS) Bz λ(_,l,_) (xs,_)=>⟨[GP xs l],[],some ([.A8 332 .int 65 (fJ xs l)]),false⟩):=ag λ(_,l,_) (xs,_) t=>by
 have u:=bw t;refine bh mW (ang l xs) func353 (?_:(λ(h:Int)(c:Nat)=>(λ(e:Int)=>l.length*(8:Nat)<=(140737488355328:Nat)->∃(p:Nat),(l=l/\(l.length:Int)=e/\(0:Int)=(p:Int)/\xs=fJ xs (take p l))/\p<=c/\∀(s:Nat),(λ(j:Int)(o:List Int)=>s<=c->((s:Int)<e->(0:Int)<=(s:Int)/\(s:Int)<(l.length:Int)/\∀(x:Int),(λ(q:Prop)(g:l7 Sh.int)=>l[s]? =some x->W x->(h<=x/\x<=(64:Int)->q/\x.toNat<(65:Nat)/\(W g->W (g+h))/\(W g->q)/\(W g->x.toNat<(65:Nat))/\(W g->W j/\∃(d:Nat),(l=l/\e=e/\j=(d:Int)/\o.set x.toNat (g+h)=fJ xs (take d l))/\d<=c/\c-d<c-s))/\(x<h\/(64:Int)<x->W j/\∃(d:Nat),(l=l/\e=e/\j=(d:Int)/\o=fJ xs (take d l))/\d<=c/\c-d<c-s)) ((0:Int)<=x/\x<(↑(65:Nat):Int)) (o.getD x.toNat (c4 Sh.int)))/\(e<=(s:Int)->o=fJ xs l)) ((s:Int)+h) (fJ xs (take s l))) (c:Int)) (1:Int) l.length);repeat' first|(with_reducible first|apply aH|refine aI ?_|intro)|exact aZ|exact rfl|exact(ahE Y (by constructor<;>omega))|exact(aiv Y N)|exact(by rw[take_of_length_le N])|exact(alm Y)|refine⟨‹Nat›+1,?_⟩|refine⟨0,?_⟩
def Bw:=(ae ahc (ae Oz (ae Ei (ae ae_ mW))))
end Go.Proofs.YtoecbhljidgajaaGreat
