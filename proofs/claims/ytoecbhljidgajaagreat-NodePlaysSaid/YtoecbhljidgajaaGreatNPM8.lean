/- What leads to the law, part 8. Conditions: each lemma's own. -/
import Derived.Test.YtoecbhljidgajaaGreatNPM7
set_option linter.unusedVariables false
set_option linter.unusedSimpArgs false
set_option maxHeartbeats 2000000
set_option linter.defProp false
noncomputable section
open List (countP drop length_drop replicate take take_of_length_le)
open UInt8 (ofNat toNat)
namespace Go.Proofs.YtoecbhljidgajaaGreat
open Go.Proofs.Tryz
open Go.RowKit
def G6:=@Int.not_lt
variable{x:UInt8}{k:Nat}
def xJ{q:Nat×Nat}{l:List UInt8}(h:l[k]? =some x):gG q (l.take (k+1))=Py (gG q (l.take k)) x:=by
 rw[ah h,gG,K0];rfl
variable{b:List UInt8}
def Mq{s:Nat}(h:b[k]? =some x):((gG (s%65536%65521,s/65536%65521) (b.take k)).1+x.toNat)%4294967296%65521=(gG (s%65536%65521,s/65536%65521) (b.take (k+1))).1:=by
 have:=(tG (s:=s) (b.take k)).1;have:=x.toNat_lt;rw[xJ h,Py];omega
def MP{s:Nat}(h:b[k]? =some x):((gG (s%65536%65521,s/65536%65521) (b.take k)).2+((gG (s%65536%65521,s/65536%65521) (b.take k)).1+x.toNat)%4294967296%65521)%4294967296%65521=(gG (s%65536%65521,s/65536%65521) (b.take (k+1))).2:=by
 have:=(tG (s:=s) (b.take k));have:=x.toNat_lt;rw[xJ h,Py];omega
def Ts{s:Nat}(h:(b.length:Int)<=k):(65536*(gG (s%65536%65521,s/65536%65521) (b.take k)).2%4294967296+(gG (s%65536%65521,s/65536%65521) (b.take k)).1)%4294967296=dv s b:=by
 have:=(tG (s:=s) b);rw[take_of_length_le N,dv];omega
variable{x:Bool}{l:List Bool}
def ah0(h:l[k]? =some x)(a:x=true):(((l.take k).countP id:Nat):Int)+1=((l.take (k+1)).countP id:Nat):=by
 rw[ah h,M0,a];simp
def aki(h:l[k]? =some x)(a:x=false):(((l.take k).countP id:Nat):Int)=((l.take (k+1)).countP id:Nat):=by
 rw[ah h,M0,a];simp
def anv(h:(l.length:Int)<=k):decide ((l.length:Int).tdiv 2<((l.take k).countP id:Nat))=decide ((l.length:Int).tdiv 2<(l.countP id:Nat)):=by
 rw[take_of_length_le N]
theorem aio(h:l.length*1<=140737488355328):W (((l.take k).countP id:Nat)+1):=by grind[List.length_take,aY]
variable{l:List eA}
def XY(h:(l.length:Int)=0):(0:Int)=eL l:=by
 rw[A6 (l:=l) N];rfl
def Yf(h:¬(l.length:Int)=0):(l.getD ((l.length:Int)-1).toNat (c4 (Sh.nm NT.entry))).a8=eL l:=by
 rw[show((l.length:Int)-1).toNat=l.length-1 by omega];rfl
variable{k:Int}
def GK{x:eA}(a:¬k=0)(c:0<=k)(d:k<=(l.length:Int))(h:l[(k-1).toNat]? =some x):x.a8=bM l k:=by
 rw[bM,X a,X N,List.getD_eq_getElem?_getD,h];rfl
def abf(s:Nat)(b:List UInt8):List (Nat×LI):=[(3,{σ:=Nat,F:=λk=>([(5,one (.ptr 0 0)),(15,one (.fz .u8 b)),(16,one (.int b.length)),(17,one (.int k))],[.box 243 ([.xx (.w ((gG (s%65536%65521,s/65536%65521) (b.take k)).1)) [],.xx (.w ((gG (s%65536%65521,s/65536%65521) (b.take k)).2)) []])]),J:=λk=>k<=b.length,μ:=λk=>b.length-k})]
def afk(l:List Bool):List (Nat×LI):=[(3,{σ:=Nat,F:=λk=>([(0,one (.fz .bool l)),(3,one (.int ((l.take k).countP id))),(6,one (.fz .bool l)),(7,one (.int l.length)),(8,one (.int k))],[]),J:=λk=>k<=l.length,μ:=λk=>l.length-k})]
theorem Sr:CK 106 (aD dA wX λ_ ((_,d,e,f,g,_),a,_)=>⟨[(j9.mk a d e f g).OK],[.c (.int ((j9.mk a d e f g).ek))],some ([.box 115 ([.own 1,.int (((j9.mk a d e f g).sync).b7),.bool (.atom (((j9.mk a d e f g).sync).down)),.bool (.atom (((j9.mk a d e f g).sync).c9)),.int (((j9.mk a d e f g).sync).dc)]),.row 5 .u8 (((j9.mk a d e f g).sync).b)]),false⟩):=ag λ_ ((_,d,e,f,g,_),a,_) n=>by
 have o:=bw n;refine bh gR [] func106 (?_:(λi=>(λj h=>(λm=>(e=true->30=i.ek/\d=h.b7/\m)/\(e=false->(f=true->(0<=d/\d<=(a.length:Int)/\a.length<=65536)/\30=i.ek/\j.b7=h.b7/\j.down=h.down/\j.c9=h.c9/\j.dc=h.dc/\j.b=h.b)/\(f=false->0=i.ek/\(a.length:Int)=h.b7/\m))) (e=h.down/\f=h.c9/\g=h.dc/\a=h.b)) (i.bR g) i.sync) (j9.mk a d e f g));obtain⟨p,q,r⟩:=o;dsimp only at p q r;(repeat' with_reducible first|apply aH|refine aI ?_|intro)<;>first|(first|with_reducible rfl|with_reducible assumption|omega|(refine aY ?_ ?_<;>omega))|grind[j9.sync,j9.ek]
def RP:r8 prog (bj p6) 21 [] [] ⟨[],[.c (.ptr 0 0)],some ([.box 115 ([.own 1,.int (0),.bool (.atom false),.bool (.atom false),.int (0)]),.row 5 .u8 ([])]),true⟩:=r8.vk 0 0 5 .u8 cj rfl rfl VB rfl
def Sf:CK 21 (aD bS av λ_ _=>⟨[],[.c (.ptr 0 0)],some ([.box 115 ([.own 1,.int (0),.bool (.atom false),.bool (.atom false),.int (0)]),.row 5 .u8 ([])]),true⟩):=ag λ_ _ _=>RP
theorem Ym:CK 201 (aD (ak (kC cW) gl) av λ(s,b,_) _=>{rs:=[.c (.xx (.w (dv s b)) [])]}):=ag λ(s,b,_) _ _=>by
 refine al gR (abf s b) func201 (?_:(λ(j:Nat)(h:Nat)(g:Int)(e:Nat)(f:Nat)(i:Int)(d:Int)=>(λ(m:Nat×Nat)=>b.length*(1:Nat)<=(140737488355328:Nat)->j<h/\j<f/\j<h/\j<f/\∃(o:Nat),(b=b/\(b.length:Int)=(e:Int)/\d=(o:Int)/\s%h%f=(gG m (take o b)).1/\s/h%f=(gG m (take o b)).2)/\o<=e/\∀(a:Nat),(λ(p:Nat×Nat)=>a<=e->((a:Int)<(e:Int)->d<=(a:Int)/\(a:Int)<(b.length:Int)/\∀(x:UInt8),(λ(q:Nat)=>b[a]? =some x->d<=d/\d<i/\j<f/\d<=d/\d<i/\d<=g/\g<i/\d<=d/\d<i/\j<f/\d<=g/\g<i/\W ((a:Int)+g)/\∃(n:Nat),(b=b/\(e:Int)=(e:Int)/\(a:Int)+g=(n:Int)/\q=(gG m (take n b)).1/\(p.2+q)%(4294967296:Nat)%f=(gG m (take n b)).2)/\n<=e/\e-n<e-a) ((p.1+x.toNat)%(4294967296:Nat)%f))/\((e:Int)<=(a:Int)->d<=g/\g<i/\d<=d/\d<i/\(h*p.2%(4294967296:Nat)+p.1)%(4294967296:Nat)=dv s b)) (gG m (take a b))) (s%h%f,s/h%f)) (0:Nat) (65536:Nat) (1:Int) b.length (65521:Nat) (↑(2:Nat):Int) (0:Int));(repeat' with_reducible first|apply aH|refine aI ?_|intro)
 all_goals try(refine⟨0,?_⟩;(repeat' with_reducible first|apply aH|refine aI ?_|intro))
 all_goals try(refine⟨‹Nat›+1,?_⟩;(repeat' with_reducible first|apply aH|refine aI ?_|intro))
 all_goals(first|exact aZ|exact rfl|exact(Mq Y)|exact(MP Y)|exact(Ts Y))
theorem Db:CK 57 (aD gl av λ(l,_) _=>{rs:=[.c (.fz .u8 l)]}):=ag λ(l,_) _ _=>by
 refine al gR [] func57 (?_:(λa=>a->∀(b:Bool),(b=true->l=[])->(b=true->l=[])/\(b=false->a/\l=l)) (l.length*1<=140737488355328));grind
def IW:=ak (kC (cL .bool)) bS
theorem xf:CK 27 (aD IW av λ(l,_) _=>{rs:=[.c (.fz .bool l)]}):=ag λ(l,_) _ _=>by
 refine al gR [] func27 (?_:(λa=>a->∀(b:Bool),(b=true->l=[])->(b=true->l=[])/\(b=false->a/\l=l)) (l.length*1<=140737488355328));grind
def vd:=ak xc bS
def Vx:CK 32 (aD vd av λ(l,_) _=>{rs:=[.c (.int (l.length:Int)),.c (.int (eL l))]}):=ag λ(l,_) _ _=>by
 refine al gR [] func32 (?_:(λa=>(λd=>(λe=>l.length*32<=140737488355328->(a=0->0=(l.length:Int)/\0=eL l)/\(¬a=0->W d/\(0<=d/\d<a)/\(W e.a8->e.b.length*1<=140737488355328->a=(l.length:Int)/\e.a8=eL l))) (l.getD d.toNat (c4 (Sh.nm NT.entry)))) (a-1)) (l.length:Int));repeat' first|(with_reducible first|apply aH|refine aI ?_|intro)|exact aZ|exact(XY Y)|exact(Yf Y)
def Vl:CK 159 (aD (ak xc fj) av λ(l,k,_) _=>{rs:=[.c (.int (bM l k))]}):=ag λ(l,k,_) _ _=>by
 refine al gR [] func159 (?_:(λa d=>l.length*32<=140737488355328->W k->(k=a->a=bM l k)/\(¬k=a->(k<a\/(l.length:Int)<k-> -1=bM l k)/\(a<=k/\k<=(l.length:Int)->W d/\a<=d/\d<(l.length:Int)/\∀(x:eA),l[d.toNat]? =some x->W x.a8->x.b.length*1<=140737488355328->x.a8=bM l k))) (0:Int) (k-1));repeat' first|(with_reducible first|apply aH|refine aI ?_|intro)|exact aZ|exact(GK Y Y Y Y)|(rw[bM,O Y])|(rw[bM,X Y,O Y])
def tn:=ak (kT (.nm .letter)) bS
theorem X_:CK 169 (aD (ak dj tn) av λ(n,x,_) _=>{pre:=[0<=x.a/\x.a<=64],rs:=[.c (.int (fM n x))]}):=ag λ(n,x,_) _ f=>by
 have g:=bw f;refine al gR [] func169 (?_:(λd=>(λe=>W n->aP x ((x.ok=true->W e/\e=fM n x)/\(x.ok=false->(d<n->W (n-d)/\W e/\min (n-d) e=fM n x)/\(n<=d->d=fM n x)))) (x.a+d)) (1:Int));repeat' first|(with_reducible first|apply aH|refine aI ?_|intro)|exact aZ|(simp only[fM];grind)|(have q:=(by with_reducible assumption:W n);exact aY (by have:=q.1;omega) (by have:=q.2;omega))
def Wr:CK 61 (aD ij av λ(t,v,_) _=>⟨[],[.c (.own 0)],some ([.row 103 (.nm .record) ([⟨2,t,v,[]⟩])]),true⟩):=ag λ(t,v,_) _ _=>by
 refine bU gR [] func61 (?_:W t->W v->[dm.mk 2 t v []]=[dm.mk 2 t v []]);intros;rfl
theorem XI:CK 119 (aD IW av λ(l,_) _=>{rs:=[.c (.bool (.atom (gp l)))]}):=ag λ(l,_) _ _=>by
 refine al gR (afk l) func119 (?_:(λf i a=>(λe=>l.length*(1:Nat)<=(140737488355328:Nat)->∃j,(l=l/\(0:Int)=(↑(countP id (take j l)):Int)/\l=l/\f=e/\(0:Int)=(j:Int))/\j<=a/\∀(s:Nat),(λg h=>s<=a->((s:Int)<e->(0:Int)<=(s:Int)/\(s:Int)<f/\∀(x:Bool),l[s]? =some x->(x=true->W (h+i)/\W g/\∃d,(l=l/\h+i=(↑(countP id (take d l)):Int)/\l=l/\e=e/\g=(d:Int))/\d<=a/\a-d<a-s)/\(x=false->W g/\∃d,(l=l/\h=(↑(countP id (take d l)):Int)/\l=l/\e=e/\g=(d:Int))/\d<=a/\a-d<a-s))/\(e<=(s:Int)->(0:Int)<=f/\(0:Int)<(2:Int)/\decide (f.tdiv (2:Int)<h)=gp l)) ((s:Int)+i) (↑(countP id (take s l)):Int)) (a:Int)) (l.length:Int) (1:Int) l.length);repeat' first|(with_reducible first|apply aH|refine aI ?_|intro)|exact aZ|exact rfl|exact(ah0 Y Y)|exact(aki Y Y)|exact(aio Y)|exact(anv Y)|refine⟨‹Nat›+1,?_⟩|refine⟨0,?_⟩
theorem afb:CK 162 (aD xj av λ(n,a,b,_) _=>{rs:=[.c (.bool (.atom (aM n a b)))]}):=ag λ(n,a,b,_) _ _=>by
 refine al gR [] func162 (?_:W n->W a->W b->(decide (a<=n)&&decide (n<=b))=aM n a b);grind[aM]
def lE:=(ae afb (ae XI (ae Wr (ae X_ (ae Vl (ae Vx (ae xf (ae Db (ae Ym (ae Sf (ae Sr gR)))))))))))
def QD:CK 152 (aD gl av λ(b,_) _=>{rs:=[.c (.xx (.w (dv 1 b)) [])]}):=ag λ(b,_) _ _=>by
 refine al lE [] func152 (?_:b.length*1<=140737488355328->dv 1 b=dv 1 b);intros;rfl
def adX:CK 154 (aD gl av λ(b,_) _=>{rs:=[.c (.fz .u8 b)]}):=ag λ(b,_) _ _=>by
 refine al lE [] func154 (?_:(λa=>a->((b.length:Int)=0->b=[])/\(¬(b.length:Int)=0->a->b=b)) (b.length*1<=140737488355328));repeat' first|(with_reducible first|apply aH|refine aI ?_|intro)|exact aZ|exact(A6 N).symm|exact(A6 N)
def xg:CK 151 (aD vd av λ(l,_) _=>⟨[],[.c (.own 0)],some ([.row 113 (.nm .entry) l]),true⟩):=ag λ(l,_) _ _=>by
 refine bU lE [] func151 (?_:(λa=>a->∀(b:Bool),(b=true->l=[])->(b=true->l=[])/\(b=false->a/\l=l)) (l.length*32<=140737488355328));exact λh b d=>⟨d,λ_=>⟨h,rfl⟩⟩
def xo:=ak xc ij
def Uh:CK 163 (aD xo av λ(l,k,m,_) _=>{rs:=[.c (.bool (.atom (decide (bM l k=m))))]}):=ag λ(l,k,m,_) _ _=>by
 refine al lE [] func163 (?_:l.length*32<=140737488355328->W k->W m->W (bM l k)->decide (bM l k=m)=decide (bM l k=m));intros;rfl
def SI:CK 167 (aD xo av λ(l,k,m,_) _=>{rs:=[.c (.bool (.atom (fD l k m)))]}):=ag λ(l,k,m,_) _ _=>by
 refine al lE [] func167 (?_:l.length*32<=140737488355328->W k->W m->W (l.length:Int)->W (eL l)->(decide (eL l<m)||decide (m=eL l)&&decide ((l.length:Int)<=k))=fD l k m);intros;rfl
theorem PY:CK 161 (aD OO av λ(n,m,a,_) _=>{rs:=[.c (.bool (.atom (eV n m a)))]}):=ag λ(n,m,a,_) _ _=>by
 refine al lE [] func161 (?_:W n->W m->(a=false->aM n 0 0=eV n m a)/\(a=true->aM n 0 m=eV n m a));repeat' first|(with_reducible first|apply aH|refine aI ?_|intro)|exact aZ|(simp only[eV];grind)
def jY:=(ae PY (ae SI (ae Uh (ae xg (ae adX (ae QD lE))))))
theorem tH(n:Nat):DW (n:Int)=ofNat n:=by
 apply UInt8.toNat_inj.1;rw[DW,ofNat_toNat,ofNat_toNat];omega
variable{m:Int}
def Ud(h:(k<0\/(l.length:Int)<k)\/m<1):dx l k m=[]:=O h
def RH(a:0<=k)(c:k<=(l.length:Int))(d:1<=m):(l.drop k.toNat).take (min m ((l.drop k.toNat).length:Int)).toNat=dx l k m:=by
 rw[dx,X N]
variable{m:List eA}
def ak1(h:k<0\/(l.length:Int)<k):aX l k m=(0,[]):=O h
variable{j:Nat}
def aak(c:j<=iC (l.drop k.toNat) m)(d:0<=k)(f:k<=(l.length:Int))(g:j<m.length)(i:(((l.drop k.toNat).length:Nat):Int)<=j):aX l k m=(0,m.drop j):=by
 have:=qA (h:=l.drop k.toNat) (a:=m);have e:iC (l.drop k.toNat) m=j:=by omega
 rw[aX,X N,e,X N,O N]
theorem aa9{y:eA}(c:j<=iC (l.drop k.toNat) m)(f:0<=k)(g:k<=(l.length:Int))(h:(j:Int)<((l.drop k.toNat).length:Nat))(a:m[j]? =some y)(i:¬((l.drop k.toNat).getD j (c4 (Sh.nm NT.entry))).a8=y.a8):aX l k m=(k+j+1,m.drop j):=by
 have d:(l.drop k.toNat)[j]? =some ((l.drop k.toNat).getD j (c4 (Sh.nm NT.entry))):=by grind
 have:=sk c d a;have n:=(sy.1 a).1;have e:iC (l.drop k.toNat) m=j:=by grind
 rw[aX,X N,e,X N,X N]
theorem aaS{y:eA}(a:j<=iC (l.drop k.toNat) m)(f:(j:Int)<((l.drop k.toNat).length:Nat))(c:m[j]? =some y)(d:((l.drop k.toNat).getD j (c4 (Sh.nm NT.entry))).a8=y.a8):j+1<=iC (l.drop k.toNat) m:=by
 have e:(l.drop k.toNat)[j]? =some ((l.drop k.toNat).getD j (c4 (Sh.nm NT.entry))):=by grind
 exact(sk a e c).1 d
def alK(a:j<=iC (l.drop k.toNat) m)(c:0<=k)(d:k<=(l.length:Int))(e:(m.length:Int)<=j):aX l k m=(0,[]):=by
 rw[aX,X N,O N]
variable{x:ep}
theorem afB(h:((((((((((((¬x.kind=1/\¬x.kind=2)/\¬x.kind=3)/\¬x.kind=4)\/aM x.l5 0 4=false)\/aM x.to 0 4=false)\/x.l5=x.to)\/aM x.a8 1 1048576=false)\/aM x.bin 1 3=false)\/eV x.a 64 (decide (x.kind=1)||decide (x.kind=3)||decide (x.kind=4))=false)\/eV x.b 1048576 (decide (x.kind=1)||decide (x.kind=3))=false)\/eV x.c 64 (decide (x.kind=3))=false)\/(x.ok=true/\¬x.kind=2)/\¬x.kind=4)\/eV (x.l.length:Int) 4 (decide (x.kind=3))=false):jj x=false:=by
 unfold jj;grind
theorem acw(e:((x.kind=1\/x.kind=2)\/x.kind=3)\/x.kind=4)(f:aM x.l5 0 4=true)(g:aM x.to 0 4=true)(h:¬x.l5=x.to)(i:aM x.a8 1 1048576=true)(n:aM x.bin 1 3=true)(o:eV x.a 64 (decide (x.kind=1)||decide (x.kind=3)||decide (x.kind=4))=true)(p:eV x.b 1048576 (decide (x.kind=1)||decide (x.kind=3))=true)(q:eV x.c 64 (decide (x.kind=3))=true)(r:(x.ok=false\/x.kind=2)\/x.kind=4)(d:eV (x.l.length:Int) 4 (decide (x.kind=3))=true):jj x=true:=by
 unfold jj;grind
theorem ZK{y:eA}(h:aM y.a8 1 1048576=false\/200<(y.b.length:Int)):bF y=false:=by
 unfold bF;grind
def Zb{y:eA}(h:aM y.a8 1 1048576=true)(a:(y.b.length:Int)<=200):bF y=true:=by
 unfold bF;rw[h,F5 a];rfl
variable{k:Nat}
def al4(h:jj x=true)(c:(x.l.length:Int)<=k)(a:(x.l.take k).all bF=true):0=nd x:=by
 rw[take_of_length_le N]at a;rw[nd,O ⟨h,a⟩]
theorem ae9{y:eA}(a:x.l[k]? =some y)(h:bF y=false):1=nd x:=by
 rw[nd,X];grind
def agR{y:eA}(a:x.l[k]? =some y)(h:bF y=true)(c:(x.l.take k).all bF=true):(x.l.take (k+1)).all bF=true:=by
 rw[ah a,K1,c];simp[h]
def ans:(x.l.take 0).all bF=true:=rfl
def aiK(h:jj x=false):1=nd x:=by
 rw[nd,X (by rintro⟨a,_⟩;rw[h]at a;cases a)]
def aeC(x:ep):List (Nat×LI):=[(7,{σ:=Nat,F:=λk=>([(112,one (.fz (.nm .entry) x.l)),(113,one (.int x.l.length)),(114,one (.int k))],[]),J:=λk=>k<=x.l.length/\jj x=true/\(x.l.take k).all bF=true,μ:=λk=>x.l.length-k})]
def ZA(l:List eA)(k:Int)(m:List eA):List (Nat×LI):=[(5,{σ:=Nat,F:=λj=>([(1,one (.int k)),(2,one (.fz (.nm .entry) m)),(8,one (.fz (.nm .entry) (l.drop k.toNat))),(22,one (.fz (.nm .entry) m)),(23,one (.int m.length)),(24,one (.int j))],[]),J:=λj=>j<=m.length/\j<=iC (l.drop k.toNat) m,μ:=λj=>m.length-j})]
theorem Wx:CK 107 (aD (ak we (ak (kC cW) bS)) av λ(b,s,_) _=>{rs:=[.c (.bool (.atom (decide (dv 1 b=s))))]}):=ag λ(b,s,_) _ _=>by
 refine al jY [] func107 (?_:b.length*1<=140737488355328->decide ((↑(dv 1 b):Int)=(s:Int))=decide (dv 1 b=s));(repeat' with_reducible first|apply aH|refine aI ?_|intro)<;>first|(first|with_reducible rfl|with_reducible assumption|omega|(refine aY ?_ ?_<;>omega))|(simp only[decide_eq_decide];omega)
theorem afx:CK 104 (aD gl av λ(x,_) _=>{rs:=[.c (.fz .u8 ((gq x).1)),.c (.int ((gq x).2))]}):=ag λ(x,_) _ _=>by
 refine al (yR jY) [] func104 (?_:(λ(h:Nat)(a:Nat)(d:Int)=>(λ(f:Int)=>(λ(g:List (l7 Sh.u8))=>(λ(e:List (l7 Sh.u8))=>(λ(i:List (l7 Sh.u8))=>x.length*a<=(140737488355328:Nat)->(d=(0:Int)\/(4096:Int)<d->(gq x).1=[]/\(4:Int)=(gq x).2)/\(¬d=(0:Int)/\d<=(4096:Int)->W ((2:Int)+d)/\W f/\(0:Int)<=f/\f*(a:Int)<=(140737488355328:Int)/\(0:Int)<=d/\(8:Nat)<(64:Nat)/\((0:Nat)+g.length)*a<=(140737488355328:Nat)/\(([]++g).length+x.length)*a<=(140737488355328:Nat)/\(24:Nat)<(32:Nat)/\(16:Nat)<(32:Nat)/\(8:Nat)<(32:Nat)/\(e.length+i.length)*a<=(140737488355328:Nat)/\e++i=(gq x).1/\(0:Int)=(gq x).2)) [ofNat (dv a e/(2:Nat)^(24:Nat)),ofNat (dv a e/(2:Nat)^(16:Nat)),ofNat (dv a e/h),ofNat (dv a e)]) ([]++g++x)) [DW (↑(x.length/h):Int),DW d]) ((2:Int)+d+(4:Int))) ((2:Nat)^(8:Nat)) (1:Nat) (x.length:Int));repeat' first|(with_reducible first|apply aH|refine aI ?_|intro)|exact aZ|(simp only[gq,fy,gO,rz,tH,Q9]at*;grind)
def Ka:CK 160 (aD xo av λ(l,k,m,_) _=>{rs:=[.c (.fz (.nm .entry) (dx l k m))]}):=ag λ(l,k,m,_) _ _=>by
 refine al jY [] func160 (?_:(λa=>l.length*32<=140737488355328->W k->W m->((k<0\/(l.length:Int)<k)\/m<1->dx l k m=[])/\((0<=k/\k<=(l.length:Int))/\1<=m->0<=k/\k<=(l.length:Int)/\0<=min m a/\min m a<=a/\take (min m a).toNat (drop k.toNat l)=dx l k m)) (↑(drop k.toNat l).length:Int));repeat' first|(with_reducible first|apply aH|refine aI ?_|intro)|exact aZ|exact(Ud Y)|exact(RH Y Y Y)
def iO:=kT (.nm .stable)
def UZ:CK 103 (aD (ak iO bS) av λ(s,_) _=>⟨[],[.agg ([.int s.floor,.int s.a8,.int s.hQ,.own 0])],some ([.row 113 (.nm .entry) s.log]),true⟩):=ag λ(s,_) _ _=>by
 refine bU jY [] func103 (?_:bz s (dZ s s));repeat' first|(with_reducible first|apply aH|refine aI ?_|intro)|exact aZ|exact rfl
def TA:CK 118 (aD (ak iO fj) av λ(s,t,_) _=>⟨[],[.c (.own 0)],some ([.row 103 (.nm .record) (ao s t)]),true⟩):=ag λ(s,t,_) _ _=>by
 refine bU jY [] func118 (?_:bz s (W t->(t<=s.a8->ao s t=[])/\(s.a8<t->[dm.mk 2 t 0 []]=ao s t)));repeat' first|(with_reducible first|apply aH|refine aI ?_|intro)|exact aZ|(rw[ao,O Y])|(rw[ao,X N])|(simp;done)
theorem YF:CK 112 (aD tn av λ(x,_) _=>{rs:=[.c (.int (nd x))]}):=ag λ(x,_) _ _=>by
 refine al jY (aeC x) func112 (?_:(λ(n:Int)(i:Int)(p:Int)(g:Int)(h:Nat)(f:Int)=>(λ(q:Prop)(e:Int)=>(λ(t:Bool)(q0:Bool)=>(λ(o:Bool)=>aP x (((((((((((((¬f=e/\¬q)/\¬f=3)/\¬f=g\/aM x.l5 i g=false)\/aM x.to i g=false)\/x.l5=x.to)\/aM x.a8 e n=false)\/aM x.bin e 3=false)\/o=false)\/eV x.b n (t||q0)=false)\/eV x.c 64 q0=false)\/(x.ok=true/\¬q)/\¬f=g)\/eV p g q0=false->e=nd x)/\(((((((((((((f=e\/q)\/f=3)\/f=g)/\aM x.l5 i g=true)/\aM x.to i g=true)/\¬x.l5=x.to)/\aM x.a8 e n=true)/\aM x.bin e 3=true)/\o=true)/\eV x.b n (t||q0)=true)/\eV x.c 64 q0=true)/\((x.ok=false\/q)\/f=g))/\eV p g q0=true->∃(u:Nat),(x.l=x.l/\p=(h:Int)/\i=(u:Int))/\(u<=h/\jj x=true/\(take u x.l).all bF=true)/\∀(s:Nat),s<=h/\jj x=true/\(take s x.l).all bF=true->((s:Int)<(h:Int)->i<=(s:Int)/\(s:Int)<p/\∀(d:eA),x.l[s]? =some d->W d.a8->d.b.length*1<=140737488355328->(aM d.a8 e n=false\/200<(d.b.length:Int)->e=nd x)/\(aM d.a8 e n=true/\(d.b.length:Int)<=200->W ((s:Int)+e)/\∃(r:Nat),(x.l=x.l/\(h:Int)=(h:Int)/\(s:Int)+e=(r:Int))/\(r<=h/\jj x=true/\(take r x.l).all bF=true)/\h-r<h-s))/\((h:Int)<=(s:Int)->i=nd x)))) (eV x.a 64 (t||q0||decide (f=g)))) (decide (f=e)) (decide (f=3))) (f=2) 1) 1048576 0 (x.l.length:Int) 4 x.l.length x.kind);repeat' first|(with_reducible first|apply aH|refine aI ?_|intro)|exact aZ|exact ans|exact(al4 Y Y Y)|exact(aiK (afB Y))|exact(acw Y Y Y Y Y Y Y Y Y Y Y)|exact(agR Y (Zb Y Y) Y)|exact(ae9 Y (ZK Y))|refine⟨‹Nat›+1,?_⟩|refine⟨0,?_⟩
theorem Uw:CK 164 (aD (ak xc (ak dj vd)) av λ(l,k,m,_) _=>{rs:=[.c (.int ((aX l k m).1)),.c (.fz (.nm .entry) ((aX l k m).2))]}):=ag λ(l,k,m,_) _ _=>by
 refine al jY (ZA l k m) func164 (?_:(λ(h:Int)(o:Nat)(e:Nat)(f:Int×List eA)(d:Int)=>(λ(g:List (l7 (Sh.nm NT.entry)))=>l.length*32<=140737488355328->W k->m.length*32<=140737488355328->(k<d\/(l.length:Int)<k->d=f.1/\f.2=[])/\(d<=k/\k<=(l.length:Int)->d<=k/\k<=(l.length:Int)/\∃(p:Nat),(k=k/\m=m/\g=g/\m=m/\h=(e:Int)/\d=(p:Int))/\(p<=e/\p<=o)/\∀(s:Nat),(λ(i:l7 (Sh.nm NT.entry))=>(λ(a:Int)=>s<=e/\s<=o->(a<(e:Int)->d<=a/\a<h/\∀(x:eA),m[s]? =some x->W x.a8->x.b.length*1<=140737488355328->((g.length:Int)<=a->d<=a/\a<=h/\d=f.1/\drop s m=f.2)/\(a<(g.length:Int)->(d<=a/\a<(g.length:Int))/\(W i.a8->i.b.length*1<=140737488355328->(¬i.a8=x.a8->W (k+a)/\W (k+a+1)/\d<=a/\a<=h/\k+a+1=f.1/\drop s m=f.2)/\(i.a8=x.a8->W (a+1)/\∃(n:Nat),(k=k/\m=m/\g=g/\m=m/\(e:Int)=(e:Int)/\a+1=(n:Int))/\(n<=e/\n<=o)/\e-n<e-s))))/\((e:Int)<=a->d=f.1/\f.2=[])) (s:Int)) (g.getD s (c4 (Sh.nm NT.entry))))) (drop k.toNat l)) (m.length:Int) (iC (drop k.toNat l) m) m.length (aX l k m) 0);repeat' first|(with_reducible first|apply aH|refine aI ?_|intro)|exact aZ|(rw[ak1 Y]<;>rfl)|(rw[aak Y Y Y N Y]<;>rfl)|(rw[aa9 Y Y Y Y Y Y]<;>rfl)|(rw[alK Y Y Y Y]<;>rfl)|exact(aaS Y Y Y Y)|refine⟨‹Nat›+1,?_⟩|refine⟨0,?_⟩
def jg:=(ae Uw (ae YF (ae TA (ae UZ (ae Ka (ae afx (ae Wx jY)))))))
variable{r:vo}
def apM{s:b9}(h:r.next<1\/(s.log.length:Int)+1<r.next):eD s r=(dp,1):=O h
def aoh{s:b9}(a:1<=r.next)(c:r.next<=(s.log.length:Int)+1)(h:¬nd (ep.mk 3 r.l5 r.to s.a8 (r.next-1) (bM s.log (r.next-1)) r.b8 r.bin false (dx s.log (r.next-1) 4))=0):eD s r=(dp,nd (na s r)):=by
 rw[eD,X N,O (show¬nd (na s r)=0 from h)]
def aok{s:b9}(a:1<=r.next)(c:r.next<=(s.log.length:Int)+1)(h:nd (ep.mk 3 r.l5 r.to s.a8 (r.next-1) (bM s.log (r.next-1)) r.b8 r.bin false (dx s.log (r.next-1) 4))=0):eD s r=(na s r,0):=by
 rw[eD,X N,X (A0.2 (show nd (na s r)=0 from h))]
def aom(h:(b.length:Int)<2):aG b=([],0,2):=O N
def anl(h:2<=(b.length:Int))(a:cA b=0\/4096<cA b):aG b=([],0,3):=by rw[aG,X N,O a]
def anG(h:2<=(b.length:Int))(c:¬cA b=0)(d:cA b<=4096)(a:(b.length:Int)<2+cA b+4):aG b=([],0,2):=by rw[aG,X N,X N,O a]
variable{x:UInt8}
def ON{l:List UInt8}(h:l[k]? =some x):(As (l.take k)*2^8)%4294967296|||x.toNat=As (l.take (k+1)):=by
 rw[ah h];simp only[As,K0];rfl
variable{n:Int}
def aqm(a:0<=n):(b.drop (2+n).toNat).take ((2+n+4).toNat-(2+n).toNat)=(b.drop (2+n).toNat).take 4:=by
 congr 1;omega
def aoT(a:0<=n)(h:2+n+4<=(b.length:Int)):(((b.drop (2+n).toNat).take ((2+n+4).toNat-(2+n).toNat)).length:Int)=4:=by
 rw[sh,length_drop];omega
def apP(a:(k:Int)<4)(c:0<=n)(h:2+n+4<=(b.length:Int)):(k:Int)<(((b.drop (2+n).toNat).take 4).length:Nat):=by
 rw[sh,length_drop];omega
def aq1(a:decide (dv 1 ((b.drop 0).take ((2+cA b).toNat-0))=As (((b.drop (2+cA b).toNat).take 4).take k))=false)(c:(4:Int)<=k)(h:2<=(b.length:Int))(d:¬cA b=0)(e:cA b<=4096)(f:2+cA b+4<=(b.length:Int)):aG b=([],0,3):=by
 have a:=T0 a;rw[V9,R2,T3,V8 N]at a;rw[aG,X N,X N,X N,X a]
def apS(a:decide (dv 1 ((b.drop 0).take ((2+cA b).toNat-0))=As (((b.drop (2+cA b).toNat).take 4).take k))=true)(c:(4:Int)<=k)(h:2<=(b.length:Int))(d:¬cA b=0)(e:cA b<=4096)(f:2+cA b+4<=(b.length:Int)):aG b=((b.drop 2).take ((2+cA b).toNat-2),2+cA b+4,0):=by
 have a:=C6 a;rw[V9,R2,T3,V8 N]at a;rw[aG,X N,X N,X N,O a]
def ab8(b:List UInt8):List (Nat×LI):=[(11,{σ:=Nat,F:=λk=>([(0,one (.fz .u8 b)),(6,one (.int (2+cA b))),(7,one (.xx (.w (As (((b.drop (2+cA b).toNat).take 4).take k))) [])),(40,one (.fz .u8 ((b.drop (2+cA b).toNat).take 4))),(41,one (.int 4)),(42,one (.int k))],[]),J:=λk=>k<=4,μ:=λk=>4-k})]
theorem Xv:CK 63 (aD gl av λ(b,_) _=>{rs:=[.c (.fz .u8 ((aG b).1)),.c (.int ((aG b).2.1)),.c (.int ((aG b).2.2))]}):=ag λ(b,_) _ _=>by
 refine al jg (ab8 b) func63 (?_:(λo p y J=>(λK w q h t a=>(λz u=>(λv A d=>(λB C g=>(λi D=>(λe=>(λf=>(λF=>b.length*1<=140737488355328->(q<u->A)/\(u<=q->(a<=a/\a<q)/\(o<64/\W v)/\(a<=1/\1<q)/\(a<=v/\a<=y)/\(D=a\/4096<D->z)/\(¬D=a/\D<=4096->W e/\W f/\(q<f->A)/\(f<=q->W f/\a<=e/\e<=f/\f<=q/\∃I,(b=b/\e=d/\p=As (take I i)/\F=take h g/\(F.length:Int)=t/\a=(I:Int))/\I<=h/\∀(s:Nat),s<=h->((s:Int)<t->a<=(s:Int)/\(s:Int)<(↑(take h g).length:Int)/\∀(x:UInt8),(take h g)[s]? =some x->o<32/\W ((s:Int)+1)/\∃G,(b=b/\d=d/\As (take s i)*2^o%4294967296|||x.toNat=As (take G i)/\take h g=take h g/\t=t/\(s:Int)+1=(G:Int))/\G<=h/\h-G<h-s)/\(t<=(s:Int)->a<=a/\a<=d/\d<=d/\d<=q/\(decide (C=As (take s i))=false->z)/\(decide (C=As (take s i))=true->a<=u/\u<=d/\d<=d/\d<=q/\(B.length*1<=140737488355328->W (d+t)/\B=(aG b).1/\d+t=w.1/\a=w.2))))))) (take (f.toNat-e.toNat) (drop e.toNat b))) (e+t)) (u+D)) (take h g) (Zl v y)) (take (d.toNat-2) (drop 2 b)) (dv 1 (take (d.toNat-p) (drop p b))) (drop d.toNat b)) (K*u^o) (J/\a=w.1/\u=w.2) (u+cA b)) (J/\a=w.1/\3=w.2) (2:Int)) (↑(toNat (b.getD p (c4 Sh.u8))):Int) (aG b).2 (b.length:Int) (4:Nat) (4:Int) (0:Int)) (8:Nat) (0:Nat) (↑(toNat (b.getD 1 (c4 Sh.u8))):Int) ((aG b).1=[]));have H:=Am b;have L:=(b.getD 0 (c4 .u8):UInt8).toNat_lt;have c:=(b.getD 1 (c4 .u8):UInt8).toNat_lt;dsimp only[cA]at H;repeat' first|(with_reducible first|apply aH|refine aI ?_|intro)|exact aZ|(rw[aom Y]<;>rfl)|(rw[anl Y Y]<;>rfl)|(rw[anG Y Y Y Y]<;>rfl)|(rw[aq1 Y Y Y Y Y Y]<;>rfl)|(rw[apS Y Y Y Y Y Y]<;>rfl)|exact rfl|exact(aqm H)|exact(aoT H Y)|exact(apP Y H Y)|exact(ON Y)|(dsimp only[cA];omega)|(refine aY ?_ ?_<;>dsimp only[cA]<;>omega)|(rw[sh,length_drop];omega)|refine⟨‹Nat›+1,?_⟩|refine⟨0,?_⟩
def GI:=bl (iX 66 (bg cI (bg cI (bg cI (bg (iY 1) jf))))) (bl (jL 113 (.nm .entry)) av)
def pX:=ak (kT (.nm .record)) bS
theorem Lm:CK 155 (aD (ak iD pX) GI λ(_,r,_) ((d,e,f,_,_),g,_)=>{rs:=[.c (.bool (.atom ((ey (b9.mk d e f g) r).isSome)))],out:=some ([.box 66 ([.int (((ey (b9.mk d e f g) r).getD (b9.mk d e f g)).floor),.int (((ey (b9.mk d e f g) r).getD (b9.mk d e f g)).a8),.int (((ey (b9.mk d e f g) r).getD (b9.mk d e f g)).hQ),.own 1]),.row 113 (.nm .entry) (((ey (b9.mk d e f g) r).getD (b9.mk d e f g)).log)])}):=ag λ(_,r,_) ((d,e,f,_,_),g,_) _=>by
 refine bh jg [] func155 (?_:(λh=>cD r ((r.a<d->false=(ey h r).isSome/\dZ h ((ey h r).getD h))/\(d<=r.a->true=(ey h r).isSome/\dZ (b9.mk r.a e f g) ((ey h r).getD h)))) (b9.mk d e f g));repeat' first|(with_reducible first|apply aH|refine aI ?_|intro)|exact aZ|(simp only[ey];grind)|(simp only[x7,B2];omega)
theorem RD:CK 156 (aD (ak iD pX) GI λ(_,r,_) ((f,d,e,_,_),g,_)=>{rs:=[.c (.bool (.atom ((fK (b9.mk f d e g) r).isSome)))],out:=some ([.box 66 ([.int (((fK (b9.mk f d e g) r).getD (b9.mk f d e g)).floor),.int (((fK (b9.mk f d e g) r).getD (b9.mk f d e g)).a8),.int (((fK (b9.mk f d e g) r).getD (b9.mk f d e g)).hQ),.own 1]),.row 113 (.nm .entry) (((fK (b9.mk f d e g) r).getD (b9.mk f d e g)).log)])}):=ag λ(_,r,_) ((f,d,e,_,_),g,_) _=>by
 refine bh jg [] func156 (?_:(λh=>(λo i=>cD r ((r.a<d->o)/\(d<=r.a->(r.a=d->(¬e=0->(¬e=r.b->o)/\(e=r.b->i))/\(e=0->i))/\(¬r.a=d->i)))) (false=(fK h r).isSome/\dZ h ((fK h r).getD h)) (true=(fK h r).isSome/\dZ (b9.mk f r.a r.b g) ((fK h r).getD h))) (b9.mk f d e g));repeat' first|(with_reducible first|apply aH|refine aI ?_|intro)|exact aZ|(simp only[fK];grind)|(simp only[x7,B2];omega)
theorem XM:CK 158 (aD (ak iD pX) GI λ(_,r,_) ((e,f,g,_,_),d,_)=>⟨[1<=r.a/\r.a<=64],[.c (.bool (.atom ((fW (b9.mk e f g d) r).isSome)))],some ([.box 66 ([.int (((fW (b9.mk e f g d) r).getD (b9.mk e f g d)).floor),.int (((fW (b9.mk e f g d) r).getD (b9.mk e f g d)).a8),.int (((fW (b9.mk e f g d) r).getD (b9.mk e f g d)).hQ),.own 1]),.row 113 (.nm .entry) (((fW (b9.mk e f g d) r).getD (b9.mk e f g d)).log)]),false⟩):=ag λ(_,r,_) ((e,f,g,_,_),d,_) o=>by
 have p:=bw o;refine bh (zD jg) [] func158 (?_:(λi h=>cD r (((d.length:Int)<r.a->false=(fW h r).isSome/\dZ h ((fW h r).getD h))/\(r.a<=(d.length:Int)->W i/\(0<=i/\i<=(d.length:Int))/\true=(fW h r).isSome/\dZ (b9.mk e f g (take i.toNat d)) ((fW h r).getD h)))) (r.a-1) (b9.mk e f g d));repeat' first|(with_reducible first|apply aH|refine aI ?_|intro)|exact aZ|(simp only[fW];grind)|(simp only[x7,B2];omega)
theorem Jk:CK 157 (aD (ak iD pX) GI λ(_,r,_) ((e,f,g,_,_),d,_)=>⟨[d.length<=1000000,r.x.length<=200],[.c (.bool (.atom ((ei (b9.mk e f g d) r).isSome)))],some ([.box 66 ([.int (((ei (b9.mk e f g d) r).getD (b9.mk e f g d)).floor),.int (((ei (b9.mk e f g d) r).getD (b9.mk e f g d)).a8),.int (((ei (b9.mk e f g d) r).getD (b9.mk e f g d)).hQ),.own 1]),.row 113 (.nm .entry) (((ei (b9.mk e f g d) r).getD (b9.mk e f g d)).log)]),false⟩):=ag λ(_,r,_) ((e,f,g,_,_),d,_) o=>by
 have q:=bw o;have s:=bw (de o);refine bh jg [] func157 (?_:(λp i h=>cD r (W i/\(¬r.a=i->false=(ei h r).isSome/\dZ h ((ei h r).getD h))/\(r.a=i->(p->(d.length+[eA.mk r.b r.x].length)*32<=140737488355328)/\(p->true=(ei h r).isSome/\dZ (b9.mk e f g (d++[eA.mk r.b r.x])) ((ei h r).getD h))))) (r.x.length*1<=140737488355328) ((d.length:Int)+1) (b9.mk e f g d));repeat' first|(with_reducible first|apply aH|refine aI ?_|intro)|exact aZ|(simp only[ei];grind)|(simp only[x7,B2];omega)
def Xa:r8 prog (bj p6) 110 [] [] {rs:=[.c (.xx (.km cJ) [])]}:=Jf
def ZS:CK 110 (aD bS av λ_ _=>{rs:=[.c (.xx (.km cJ) [])]}):=ag λ_ _ _=>Xa
def Yd:CK 166 (aD (ak iD (ak (kC (tk 1 0)) (ak (kC (tk 2 0)) bS))) (bl (oSt 34 (.nm .letter)) (bl (oSt 66 (.nm .stable)) (bl xk av))) λ_ (x,s,(a,_),_)=>{rs:=[.c (.bool (.atom (decide (s.a8<x.a8)||decide (s.hQ=0)||decide (s.hQ=a))))]}):=ag λ_ (x,s,(a,_),_) _=>by
 refine al jg [] func166 (?_:(λd=>d=d) (decide (s.a8<x.a8)||decide (s.hQ=0)||decide (s.hQ=a)));repeat' first|(with_reducible first|apply aH|refine aI ?_|intro)|exact aZ|rfl
theorem Um:CK 30 (aD (ak iO fj) av λ(s,t,_) _=>{pre:=[s.a8<=1048576],rs:=[.c (.fz (.nm .record) ((ax s t).1)),.c (.int ((ax s t).2))]}):=ag λ(s,t,_) _ a=>by
 have d:=bw a;refine al jg [] func30 (?_:bz s (W t->(t<0\/5<=t->(ax s t).1=[]/\1=(ax s t).2)/\(0<=t/\t<5->(1048576<=s.a8->(ax s t).1=[]/\4=(ax s t).2)/\(s.a8<1048576->W (s.a8+1)/\W (t+1)/\[dm.mk 2 (s.a8+1) (t+1) []]=(ax s t).1/\0=(ax s t).2))));repeat' first|(with_reducible first|apply aH|refine aI ?_|intro)|exact aZ|(simp only[ax];grind)|(have q:=(by with_reducible assumption:W s.a8);exact aY (by have:=q.1;omega) (by have:=q.2;omega))|(simp only[x7,B2];omega)
def Xn:CK 111 (aD (ak iO (ak (kT (.nm .route)) bS)) av λ(s,r,_) _=>{rs:=[.agg (cellsOf (.nm .letter) ((eD s r).1)),.c (.int ((eD s r).2))]}):=ag λ(s,r,_) _ _=>by
 refine al jg [] func111 (?_:(λf=>(λi g e d=>(λh=>bz s (HP r ((f<=r.next->W i)/\(r.next<f\/i<r.next->e=d.kind/\e=d.l5/\e=d.to/\e=d.a8/\e=d.a/\e=d.b/\e=d.c/\e=d.bin/\false=d.ok/\d.l=[]/\f=(eD s r).2)/\(f<=r.next/\r.next<=i->W g/\(W (bM s.log g)->(dx s.log g 4).length*32<=140737488355328->W (nd h)->(¬nd h=e->e=d.kind/\e=d.l5/\e=d.to/\e=d.a8/\e=d.a/\e=d.b/\e=d.c/\e=d.bin/\false=d.ok/\d.l=[]/\nd h=(eD s r).2)/\(nd h=e->fk h d (e=(eD s r).2))))))) (ep.mk 3 r.l5 r.to s.a8 g (bM s.log g) r.b8 r.bin false (dx s.log g 4))) ((s.log.length:Int)+f) (r.next-f) (0:Int) (eD s r).1) (1:Int));repeat' first|(with_reducible first|apply aH|refine aI ?_|intro)|exact aZ|(rw[apM Y]<;>rfl)|(rw[aoh Y Y Y]<;>rfl)|(rw[aok Y Y Y]<;>rfl)
def qc:=(ae Xn (ae Um (ae Yd (ae ZS (ae Jk (ae XM (ae RD (ae Lm (ae Xv jg)))))))))
variable{r:dm}
theorem anC(h:((((((eY cJ r.kind).isSome=false\/r.a<(((eY cJ r.kind).getD kz).getD 0 KC.nf).int)\/(((eY cJ r.kind).getD kz).getD 1 KC.nf).int<r.a)\/r.b<0)\/(((eY cJ r.kind).getD kz).getD 3 KC.nf).int<r.b)\/(((eY cJ r.kind).getD kz).getD 4 KC.nf).int<(r.x.length:Int))):aC r=([],1):=by
 rw[aC,X];intro e;simp[k9]at e;obtain⟨⟨⟨⟨⟨i,c⟩,d⟩,o⟩,f⟩,g⟩:=e;unfold P2 at c d f g;grind
def MU(c:(eY cJ r.kind).isSome=true)(d:(((eY cJ r.kind).getD kz).getD 0 KC.nf).int<=r.a)(e:r.a<=(((eY cJ r.kind).getD kz).getD 1 KC.nf).int)(f:0<=r.b)(g:r.b<=(((eY cJ r.kind).getD kz).getD 3 KC.nf).int)(h:(r.x.length:Int)<=(((eY cJ r.kind).getD kz).getD 4 KC.nf).int):k9 r=true:=by
 simp[k9];exact⟨⟨⟨⟨⟨c,d⟩,e⟩,f⟩,g⟩,h⟩
def d_(h:k9 r=true):1<=r.kind/\r.kind<=4/\0<=r.a/\r.a<=1048576/\0<=r.b/\r.b<=1048576/\r.x.length<=200/\(bm r.a.toNat).length<=10/\(bm r.b.toNat).length<=10:=by
 have c:=cH (n:=r.a.toNat) (by rcases cq.1 h with h|h|h|h<;>omega);have d:=cH (n:=r.b.toNat) (by rcases cq.1 h with h|h|h|h<;>omega);have e:r.x.length<=200:=by rcases cq.1 h with h|h|h|h<;>simp[h]
 rcases cq.1 h with h|h|h|h<;>omega
def zo(h:k9 r=true):aC r=(p7 r,0):=by rw[aC,O h]
def aoO(h:k9 r=true)(c:(((eY cJ r.kind).getD kz).getD 2 KC.nf).bool=true):[ofNat r.kind.toNat]++bm r.a.toNat++bm r.b.toNat++r.x=(aC r).1:=by
 rw[zo h,p7,O (show sY r.kind=true from c)]
def aqx(h:k9 r=true)(c:(((eY cJ r.kind).getD kz).getD 2 KC.nf).bool=false):[ofNat r.kind.toNat]++bm r.a.toNat++r.x=(aC r).1:=by
 rw[zo h,p7,X (by rw[show sY r.kind=false from c];decide),A1]
def TJ(b:List UInt8):(((c7 b).2.1:Nat):Int)<=(b.length:Nat):=by
 have:=(lr (l:=b) (k:=0) (n:=0) N).2;show(((cd 0 0 b).2.1:Nat):Int)<=_;omega
def abq(a:b[0]? =some x):(b.getD 0 (c4 .u8):UInt8)=x:=by
 rw[List.getD_eq_getElem?_getD,a];rfl
def Vz(a:b[0]? =some x):¬b.length=0:=by
 have:=(sy.1 a).1;omega
def arD(h:(b.length:Int)=0):cn b=(mu,false):=O N
def anp(a:b[0]? =some x)(c:¬(c7 (b.drop 1)).2.2=0):cn b=(mu,false):=by
 rw[cn,X (Vz a),O c]
def aoP(a:b[0]? =some x)(c:(c7 (b.drop 1)).2.2=0)(d:(((eY cJ (x.toNat:Int)).getD kz).getD 2 KC.nf).bool=true)(e:¬(c7 ((b.drop 1).drop (c7 (b.drop 1)).2.1)).2.2=0):cn b=(mu,false):=by
 rw[cn,X (Vz a),X (A0.2 c),abq a,O (show sY (x.toNat:Int)=true from d),O e]
def ap2(a:b[0]? =some x)(c:(c7 (b.drop 1)).2.2=0)(d:(((eY cJ (x.toNat:Int)).getD kz).getD 2 KC.nf).bool=true)(e:(c7 ((b.drop 1).drop (c7 (b.drop 1)).2.1)).2.2=0):cn b=(⟨(x.toNat:Int),cF (c7 (b.drop 1)).1,cF (c7 ((b.drop 1).drop (c7 (b.drop 1)).2.1)).1,((b.drop 1).drop (c7 (b.drop 1)).2.1).drop (c7 ((b.drop 1).drop (c7 (b.drop 1)).2.1)).2.1⟩,true):=by
 rw[cn,X (Vz a),X (A0.2 c),abq a,O (show sY (x.toNat:Int)=true from d),X (A0.2 e)]
def aoU(a:b[0]? =some x)(c:(c7 (b.drop 1)).2.2=0)(d:(((eY cJ (x.toNat:Int)).getD kz).getD 2 KC.nf).bool=false):cn b=(⟨(x.toNat:Int),cF (c7 (b.drop 1)).1,0,(b.drop 1).drop (c7 (b.drop 1)).2.1⟩,true):=by
 rw[cn,X (Vz a),X (A0.2 c),abq a,X (by rw[show sY (x.toNat:Int)=false from d];decide)]
variable{x:ep}
def akZ{s:b9}(h:¬nd x=0\/¬x.kind=1):aA s x=([],false,1):=O h
def arf{s:b9}(c:nd x=0)(d:x.kind=1)(h:(x.a8<s.a8\/(decide (s.a8<x.a8)||decide (s.hQ=0)||decide (s.hQ=x.l5+1))=false)\/fD s.log x.a x.b=false):aA s x=(ao s x.a8,false,0):=by
 rw[aA,X N];exact O h
theorem ahh{s:b9}(d:nd x=0)(e:x.kind=1)(f:s.a8<=x.a8)(c:(decide (s.a8<x.a8)||decide (s.hQ=0)||decide (s.hQ=x.l5+1))=true)(g:fD s.log x.a x.b=true):aA s x=if x.a8=s.a8/\s.hQ=x.l5+1 then([],true,0)else([⟨2,x.a8,x.l5+1,[]⟩],true,0):=by
 rw[aA,X N,X];rintro((h|h)|h)
 .omega
 .rw[show xK s x=true from c]at h;cases h
 grind
def aoZ{s:b9}(c:nd x=0)(d:x.kind=1)(e:s.a8<=x.a8)(f:(decide (s.a8<x.a8)||decide (s.hQ=0)||decide (s.hQ=x.l5+1))=true)(g:fD s.log x.a x.b=true)(h:x.a8=s.a8)(i:s.hQ=x.l5+1):aA s x=([],true,0):=by
 rw[ahh c d e f g,O ⟨h,i⟩]
def aqV{s:b9}(c:nd x=0)(d:x.kind=1)(e:s.a8<=x.a8)(f:(decide (s.a8<x.a8)||decide (s.hQ=0)||decide (s.hQ=x.l5+1))=true)(g:fD s.log x.a x.b=true)(h:¬x.a8=s.a8\/¬s.hQ=x.l5+1):aA s x=([⟨2,x.a8,x.l5+1,[]⟩],true,0):=by
 rw[ahh c d e f g,X N]
def dq(s:b9)(x:ep)(k:Nat):List dm:=ao s x.a8++(if(aX s.log x.a x.l).1=0 then[]else[⟨4,(aX s.log x.a x.l).1,0,[]⟩])++gm (x.a+x.l.length-(aX s.log x.a x.l).2.length+1) ((aX s.log x.a x.l).2.take k)
theorem vf:∀{n:Int} {l:List eA} {y:eA},gm n (l++[y])=gm n l++[⟨3,n+l.length,y.a8,y.b⟩]
 |n,[],y=>by simp[gm]
 |n,z::l,y=>by
  rw[E4,gm,vf,gm,E4,x7];simp;omega
theorem xy:∀{n:Int} {l:List eA},(gm n l).length=l.length
 |_,[]=>rfl
 |n,_::l=>by rw[gm,x7,x7,xy]
def alq{s:b9}(h:¬(aX s.log x.a x.l).1=0):ao s x.a8++[dm.mk 4 (aX s.log x.a x.l).1 0 []]=dq s x 0:=by
 rw[dq,X h,R1,gm,A1]
def akh{s:b9}(h:(aX s.log x.a x.l).1=0):ao s x.a8=dq s x 0:=by
 rw[dq,O h,R1,gm,A1,A1]
def akt{s:b9}{y:eA}(h:(aX s.log x.a x.l).2[k]? =some y):dq s x k++[dm.mk 3 (x.a+x.l.length-(aX s.log x.a x.l).2.length+k+1) y.a8 y.b]=dq s x (k+1):=by
 have c:=(sy.1 h).1;rw[dq,dq,ah h,vf,J9,sh,I2 N];congr 4;omega
def aj3{s:b9}(h:(¬nd x=0\/¬x.kind=3)\/64<x.a+x.l.length):aq s x=([],false,0,1):=O h
def ahX{s:b9}(d:nd x=0)(e:x.kind=3)(f:x.a+x.l.length<=64)(c:x.a8<s.a8):aq s x=([],false,0,0):=by
 rw[aq,X N,O c]
def ag_{s:b9}(d:nd x=0)(e:x.kind=3)(f:x.a+x.l.length<=64)(g:s.a8<=x.a8)(c:decide (bM s.log x.a=x.b)=false):aq s x=(ao s x.a8,false,0,0):=by
 rw[aq,X N,X N,X (T0 c)]
def alA{s:b9}(d:nd x=0)(e:x.kind=3)(f:x.a+x.l.length<=64)(g:s.a8<=x.a8)(c:decide (bM s.log x.a=x.b)=true)(h:((aX s.log x.a x.l).2.length:Int)<=k):aq s x=(dq s x k,true,x.a+x.l.length,0):=by
 rw[aq,X N,X N,O (C6 c),dq,take_of_length_le N];rfl
theorem rS{k:Int}:(aX l k m).2.length<=m.length/\0<=(aX l k m).1/\(aX l k m).1<=l.length+1:=by
 unfold aX;grind
theorem abL{s:b9}:(dq s x k).length<=2+x.l.length:=by
 have:=(rS (l:=s.log) (m:=x.l) (k:=x.a)).1;simp[dq,xy];have c:(ao s x.a8).length<=1:=by unfold ao;split<;>simp
 grind
theorem aaR{s:b9}(h:nd x=0):((dq s x k).length+[r].length)*48<=140737488355328:=by
 have:=fC h;have:=abL (s:=s) (x:=x) (k:=k);grind
theorem aah{s:b9}:((ao s n).length+[r].length)*48<=140737488355328:=by
 have a:(ao s n).length<=1:=by unfold ao;split<;>simp
 grind
def aex(s:b9)(x:ep):List (Nat×LI):=[(13,{σ:=Nat,F:=λk=>([(4,one (.own 0)),(6,one (.int (x.a+x.l.length))),(9,one (.fz (.nm .entry) (aX s.log x.a x.l).2)),(70,one (.fz (.nm .entry) (aX s.log x.a x.l).2)),(71,one (.int (aX s.log x.a x.l).2.length)),(72,one (.int k))],[.row 103 (.nm .record) (dq s x k)]),J:=λk=>k<=(aX s.log x.a x.l).2.length,μ:=λk=>(aX s.log x.a x.l).2.length-k})]
def IU:CK 102 (aD pX av λ(r,_) _=>{rs:=[.c (.fz .u8 ((aC r).1)),.c (.int ((aC r).2))]}):=ag λ(r,_) _ _=>by
 refine al qc [] func102 (?_:(λf d g=>(λe=>cD r (((((((eY cJ r.kind).isSome=false\/r.a<(e.getD 0 KC.nf).int)\/(e.getD f KC.nf).int<r.a)\/r.b<d)\/(e.getD 3 KC.nf).int<r.b)\/(e.getD 4 KC.nf).int<(r.x.length:Int)->(aC r).1=[]/\1=(aC r).2)/\((((((eY cJ r.kind).isSome=true/\(e.getD 0 KC.nf).int<=r.a)/\r.a<=(e.getD f KC.nf).int)/\d<=r.b)/\r.b<=(e.getD 3 KC.nf).int)/\(r.x.length:Int)<=(e.getD 4 KC.nf).int->d<=r.kind/\d<=r.a/\([ofNat r.kind.toNat].length+(bm r.a.toNat).length)*f<=140737488355328/\((e.getD 2 KC.nf).bool=true->d<=r.b/\(g.length+(bm r.b.toNat).length)*f<=140737488355328/\((g++bm r.b.toNat).length+r.x.length)*f<=140737488355328/\g++bm r.b.toNat++r.x=(aC r).1/\d=(aC r).2)/\((e.getD 2 KC.nf).bool=false->(g.length+r.x.length)*f<=140737488355328/\g++r.x=(aC r).1/\d=(aC r).2)))) ((eY cJ r.kind).getD [KC.i d,KC.i d,KC.b false,KC.i d,KC.i d,KC.nf])) (1:Nat) (0:Int) ([ofNat r.kind.toNat]++bm r.a.toNat));repeat' first|(with_reducible first|apply aH|refine aI ?_|intro)|exact aZ|(rw[anC Y]<;>rfl)|(rw[zo (MU Y Y Y Y Y Y)]<;>rfl)|exact(aoO (MU Y Y Y Y Y Y) Y)|exact(aqx (MU Y Y Y Y Y Y) Y)|(have h:=d_ (MU Y Y Y Y Y Y);omega)|(have h:=d_ (MU Y Y Y Y Y Y);simp only[s8,x7,B2];omega)
def YG(r:dm):r8 prog (bj p6) 102 [.agg (cellsOf (.nm .record) r)] [] {rs:=[.c (.fz .u8 ((aC r).1)),.c (.int ((aC r).2))]}:=IU _ _ _ rfl aa
def LL:CK 108 (aD gl av λ(b,_) _=>{rs:=[.agg (cellsOf (.nm .record) ((cn b).1)),.c (.bool (.atom ((cn b).2)))]}):=ag λ(b,_) _ _=>by
 refine al qc [] func108 (?_:(λp h o d=>(λt e q=>(λf=>(λg=>b.length*h<=140737488355328->(p=d->q)/\(¬p=d->d<=d/\d<p/\∀(x:UInt8),(λs=>b[(0:Nat)]? =some x->d<=1/\1<=p/\(e.1<18446744073709551616->W (e.2.1:Int)->W e.2.2->(¬e.2.2=d->q)/\(e.2.2=d->(d<=(e.2.1:Int)/\(e.2.1:Int)<=(↑(drop h b).length:Int))/\(s=true->(c7 f).1<18446744073709551616->W (g.1:Int)->W g.2->(¬g.2=d->q)/\(g.2=d->(d<=(g.1:Int)/\(g.1:Int)<=(f.length:Int))/\((drop g.1 f).length*h<=140737488355328->mE (dm.mk (x.toNat:Int) (cF e.1) (cF (c7 f).1) (drop g.1 f)) o (true=(cn b).2))))/\(s=false->f.length*h<=140737488355328->mE (dm.mk (x.toNat:Int) (cF e.1) d f) o (true=(cn b).2))))) (((eY cJ (x.toNat:Int)).getD t).getD 2 KC.nf).bool)) (c7 f).2) (drop e.2.1 (drop h b))) [KC.i d,KC.i d,KC.b false,KC.i d,KC.i d,KC.nf] (c7 (drop h b)) (d=o.kind/\d=o.a/\d=o.b/\o.x=[]/\false=(cn b).2)) (b.length:Int) (1:Nat) (cn b).1 (0:Int));repeat' first|(with_reducible first|apply aH|refine aI ?_|intro)|exact aZ|(rw[arD Y]<;>rfl)|(rw[anp Y Y]<;>rfl)|(rw[aoP Y Y Y Y]<;>rfl)|(rw[ap2 Y Y Y Y]<;>rfl)|(rw[aoU Y Y Y]<;>rfl)|exact(TJ _)
def Kr:CK 116 (aD (ak iO tn) av λ(s,x,_) _=>{rs:=[.c (.fz (.nm .record) ((aA s x).1)),.c (.bool (.atom ((aA s x).2.1))),.c (.int ((aA s x).2.2))]}):=ag λ(s,x,_) _ _=>by
 refine al qc [] func116 (?_:(λg e f d=>(λh i=>bz s (aP x (W (nd x)->(¬nd x=e\/¬x.kind=1->g=[]/\false=d.1/\1=d.2)/\(nd x=e/\x.kind=1->W f/\((x.a8<s.a8\/i=false)\/fD s.log x.a x.b=false->ao s x.a8=g/\false=d.1/\e=d.2)/\((s.a8<=x.a8/\i=true)/\fD s.log x.a x.b=true->(x.a8=s.a8/\s.hQ=f->g=[]/\h)/\(¬x.a8=s.a8\/¬s.hQ=f->[dm.mk 2 x.a8 f []]=g/\h)))))) (true=d.1/\e=d.2) (decide (s.a8<x.a8)||decide (s.hQ=e)||decide (s.hQ=f))) (aA s x).1 (0:Int) (x.l5+1) (aA s x).2);repeat' first|(with_reducible first|apply aH|refine aI ?_|intro)|exact aZ|(rw[akZ Y]<;>rfl)|(rw[arf Y Y Y]<;>rfl)|(rw[aoZ Y Y Y Y Y Y Y]<;>rfl)|(rw[aqV Y Y Y Y Y Y]<;>rfl)|(have:=fC Y;exact aY N N)
set_option maxRecDepth 8000 in
theorem Yj:CK 113 (aD (ak iO tn) av λ(s,x,_) _=>{rs:=[.c (.fz (.nm .record) ((aq s x).1)),.c (.bool (.atom ((aq s x).2.1))),.c (.int ((aq s x).2.2.1)),.c (.int ((aq s x).2.2.2))]}):=ag λ(s,x,_) _ _=>by
 refine al qc (aex s x) func113 (?_:(λ(t:List dm)(F:Nat)(H:List dm)(y:Int)(z:Int)(I:Int)(o:Int)(G:Int)(u:Bool×Int×Int)=>(λ(J:Prop)(w:Int)=>(λ(K:Prop)(A:List eA)=>(λ(i:Prop)(q:Int)(f:Nat)=>(λ(g:Int)(p:Int)=>bz s (aP x (W (nd x)->(nd x=o/\x.kind=y->W G)/\((¬nd x=o\/¬x.kind=y)\/64<G->H=[]/\false=u.1/\o=u.2.1/\z=u.2.2)/\((nd x=o/\x.kind=y)/\G<=64->(x.a8<s.a8->H=[]/\J)/\(s.a8<=x.a8->(decide (bM s.log x.a=x.b)=false->t=H/\J)/\(decide (bM s.log x.a=x.b)=true->W G/\(W I->A.length*32<=F->(¬I=o->(t.length+[dm.mk 4 I o []].length)*48<=F/\∃(B:Nat),(G=w/\i/\i/\q=g/\o=(B:Int)/\t++[dm.mk 4 I o []]=dq s x B)/\B<=f/\∀(d:Nat),(λ(C:Int)=>d<=f->((d:Int)<g->o<=(d:Int)/\(d:Int)<q/\∀(e:eA),A[d]? =some e->W e.a8->e.b.length*1<=F->W p/\W (p+(d:Int))/\W C/\((dq s x d).length+[dm.mk y C e.a8 e.b].length)*48<=F/\W ((d:Int)+z)/\∃(v:Nat),(w=w/\i/\i/\g=g/\(d:Int)+z=(v:Int)/\dq s x d++[dm.mk y C e.a8 e.b]=dq s x v)/\v<=f/\f-v<f-d)/\(g<=(d:Int)->dq s x d=H/\K)) (p+(d:Int)+z))/\(I=o->∃(B:Nat),(G=w/\i/\i/\q=g/\o=(B:Int)/\t=dq s x B)/\B<=f/\∀(d:Nat),(λ(D:Int)=>d<=f->((d:Int)<g->o<=(d:Int)/\(d:Int)<q/\∀(e:eA),A[d]? =some e->W e.a8->e.b.length*1<=F->W p/\W (p+(d:Int))/\W D/\((dq s x d).length+[dm.mk y D e.a8 e.b].length)*48<=F/\W ((d:Int)+z)/\∃(v:Nat),(w=w/\i/\i/\g=g/\(d:Int)+z=(v:Int)/\dq s x d++[dm.mk y D e.a8 e.b]=dq s x v)/\v<=f/\f-v<f-d)/\(g<=(d:Int)->dq s x d=H/\K)) (p+(d:Int)+z))))))))) (f:Int) (w-q)) (A=A) (A.length:Int) A.length) (true=u.1/\w=u.2.1/\o=u.2.2) (aX s.log x.a x.l).2) (false=u.1/\o=u.2.1/\o=u.2.2) (x.a+(x.l.length:Int))) (ao s x.a8) 140737488355328 (aq s x).1 3 1 (aX s.log x.a x.l).1 0 (x.a+(x.l.length:Int)) (aq s x).2);repeat' first|(with_reducible first|apply aH|refine aI ?_|intro)|exact aZ|(with_reducible exact alq Y)|(with_reducible exact akh Y)|(with_reducible exact akt Y)|(with_reducible exact aaR Y)|(with_reducible exact aah)|(rw[aj3 Y]<;>rfl)|(rw[ahX Y Y Y Y]<;>rfl)|(rw[ag_ Y Y Y Y Y]<;>rfl)|(rw[alA Y Y Y Y Y Y]<;>rfl)|(have h:=fC Y;have L:=rS (l:=s.log) (m:=x.l) (k:=x.a);refine aY ?_ ?_<;>omega)|refine⟨‹Nat›+1,?_⟩|refine⟨0,?_⟩
def IK:=(ae Yj (ae Kr (ae LL (ae IU qc))))
def ME:ic:=afO IK
def ll:dN prog (bj p6) ME:=IK
def Tx(r:dm)(a:k9 r=false):r8 prog (bj p6) 102 [.agg (cellsOf (.nm .record) r)] [] {pre:=[k9 r=false],rs:=[.c (.fz .u8 ([])),.c (.int (1))]}:=by
 have e:aC r=([],1):=by rw[aC,X (by rw[a];decide)]
 have h:=YG r;rw[e]at h;exact⟨h.1,h.2⟩
def RG:CK 102 (aD pX av λ(r,_) _=>{pre:=[k9 r=false],rs:=[.c (.fz .u8 ([])),.c (.int (1))]}):=ag λ(r,_) _ a=>Tx r (bw a)
def Tn(a:False):r8 prog (bj p6) 110 [] [] {pre:=[False],rs:=[.c (.xx (.km []) [])]}:=a.elim
def MI:CK 110 (aD bS av λ_ _=>{pre:=[False],rs:=[.c (.xx (.km []) [])]}):=ag λ_ _ a=>Tn  (bw a)
def CV:=(ae MI (ae RG ll))
def aaB:ic:=afO CV
def MN:dN prog (bj p6) aaB:=CV
def ak9(h:(cn b).2=false):aL b=(mu,3):=O h
theorem ag9(h:(cn b).2=true)(a:¬(aC (cn b).1).2=0\/decide ((aC (cn b).1).1=b)=false):aL b=(mu,3):=by
 rw[aL,X (by rw[h];decide),O];grind
theorem ag0(h:(cn b).2=true)(a:(aC (cn b).1).2=0)(c:decide ((aC (cn b).1).1=b)=true):aL b=((cn b).1,0):=by
 rw[aL,X (by rw[h];decide),X];grind
theorem dt:(aC r).2=0↔k9 r=true:=by
 unfold aC;grind
theorem jN(h:¬(aC r).2=0):(aC r).2=1/\k9 r=false:=by
 unfold aC at h⊢;grind
def Zi(s:b9)(a b:Int)(x:List UInt8)(e:b9)(f:Int):P8 p6 ME [] f65 [.agg (cellsOf (.nm .stable) s),.agg [.int 1,.int a,.int b,.fz .u8 x]] [] [.agg (cellsOf (.nm .stable) e),.c (.int f)]=((λd=>(λg=>bz s (W 1->W a->W b->x.length*1<=140737488355328->(aC d).1.length*1<=140737488355328->W g->(¬g=0->W s.floor->W s.a8->W s.hQ->ai s e (g=f))/\(g=0->W s.floor->W s.a8->W s.hQ->((ey s d).isSome=false->W s.floor->W s.a8->W s.hQ->ai s e (5=f))/\((ey s d).isSome=true->ai ((ey s d).getD s) e (0=f))))) (aC d).2) (dm.mk 1 a b x)):=cj
def XE(s:b9)(a b:Int)(x:List UInt8)(e:b9)(f:Int):P8 p6 ME [] f65 [.agg (cellsOf (.nm .stable) s),.agg [.int 2,.int a,.int b,.fz .u8 x]] [] [.agg (cellsOf (.nm .stable) e),.c (.int f)]=((λd=>(λg=>bz s (W 2->W a->W b->x.length*1<=140737488355328->(aC d).1.length*1<=140737488355328->W g->(¬g=0->W s.floor->W s.a8->W s.hQ->ai s e (g=f))/\(g=0->W s.floor->W s.a8->W s.hQ->((fK s d).isSome=false->W s.floor->W s.a8->W s.hQ->ai s e (5=f))/\((fK s d).isSome=true->ai ((fK s d).getD s) e (0=f))))) (aC d).2) (dm.mk 2 a b x)):=cj
def Vu(s:b9)(a b:Int)(x:List UInt8)(e:b9)(f:Int):P8 p6 ME [] f65 [.agg (cellsOf (.nm .stable) s),.agg [.int 3,.int a,.int b,.fz .u8 x]] [] [.agg (cellsOf (.nm .stable) e),.c (.int f)]=((λd=>(λg=>bz s (W 3->W a->W b->x.length*1<=140737488355328->(aC d).1.length*1<=140737488355328->W g->(¬g=0->W s.floor->W s.a8->W s.hQ->ai s e (g=f))/\(g=0->W s.floor->W s.a8->W s.hQ->(s.log.length<=1000000/\x.length<=200)/\((ei s d).isSome=false->W s.floor->W s.a8->W s.hQ->ai s e (5=f))/\((ei s d).isSome=true->ai ((ei s d).getD s) e (0=f))))) (aC d).2) (dm.mk 3 a b x)):=cj
def VZ(s:b9)(a b:Int)(x:List UInt8)(e:b9)(f:Int):P8 p6 ME [] f65 [.agg (cellsOf (.nm .stable) s),.agg [.int 4,.int a,.int b,.fz .u8 x]] [] [.agg (cellsOf (.nm .stable) e),.c (.int f)]=((λd=>(λg=>bz s (W 4->W a->W b->x.length*1<=140737488355328->(aC d).1.length*1<=140737488355328->W g->(¬g=0->W s.floor->W s.a8->W s.hQ->ai s e (g=f))/\(g=0->W s.floor->W s.a8->W s.hQ->(1<=a/\a<=64)/\((fW s d).isSome=false->W s.floor->W s.a8->W s.hQ->ai s e (5=f))/\((fW s d).isSome=true->ai ((fW s d).getD s) e (0=f))))) (aC d).2) (dm.mk 4 a b x)):=cj
def VQ(s:b9)(r:dm)(a:b9)(d:Int):P8 p6 aaB [] f65 [.agg (cellsOf (.nm .stable) s),.agg (cellsOf (.nm .record) r)] [] [.agg (cellsOf (.nm .stable) a),.c (.int d)]=(bz s (cD r (k9 r=false/\((0:Nat)*(1:Nat)<=(140737488355328:Nat)->W (1:Int)->(¬(1:Int)=(0:Int)->W s.floor->W s.a8->W s.hQ->ai s a ((1:Int)=d))/\((1:Int)=(0:Int)->W s.floor->W s.a8->W s.hQ->False))))):=cj
def Ba{s:b9}(h:k9 r=false):aK s r=(s,1):=O h
def VR{s:b9}(h:¬(aC r).2=0):aK s r=(s,(aC r).2):=by
 rw[Ba (jN h).2,(jN h).1]
variable{o:Option b9}
theorem Yr{s:b9}(e:dO s r=o)(h:(aC r).2=0)(a:o.isSome=false):aK s r=(s,5):=by
 rw[aK,X (by rw[dt.1 h];decide),e];grind
theorem Zn{s:b9}(e:dO s r=o)(h:(aC r).2=0)(a:o.isSome=true):aK s r=(o.getD s,0):=by
 rw[aK,X (by rw[dt.1 h];decide),e];grind
set_option maxRecDepth 8000 in
def af1(s:b9)(a b:Int)(x:List UInt8)(e:s.log.length<=1000000):r8 prog (bj p6) 65 [.agg (cellsOf (.nm .stable) s),.agg (cellsOf (.nm .record) (⟨1,a,b,x⟩:dm))] [] {pre:=[s.log.length<=1000000],rs:=[.agg (cellsOf (.nm .stable) (aK s (⟨1,a,b,x⟩:dm)).1),.c (.int (aK s (⟨1,a,b,x⟩:dm)).2)]}:=by
 have d:dO s (⟨1,a,b,x⟩:dm)=ey s (⟨1,a,b,x⟩:dm):=rfl;refine al ll [] func65 ?_ (Zi s a b x (aK s (⟨1,a,b,x⟩:dm)).1 (aK s (⟨1,a,b,x⟩:dm)).2).symm;repeat' first|(with_reducible first|apply aH|refine aI ?_|intro)|exact aZ|(rw[VR Y]<;>rfl)|(rw[Yr d Y Y]<;>rfl)|(rw[Zn d Y Y]<;>rfl)|(have:=d_ (dt.1 Y);dsimp only at this;omega)|(have h:=cq.1 (dt.1 Y);dsimp only at h;omega)
set_option maxRecDepth 8000 in
def afq(s:b9)(a b:Int)(x:List UInt8)(e:s.log.length<=1000000):r8 prog (bj p6) 65 [.agg (cellsOf (.nm .stable) s),.agg (cellsOf (.nm .record) (⟨2,a,b,x⟩:dm))] [] {pre:=[s.log.length<=1000000],rs:=[.agg (cellsOf (.nm .stable) (aK s (⟨2,a,b,x⟩:dm)).1),.c (.int (aK s (⟨2,a,b,x⟩:dm)).2)]}:=by
 have d:dO s (⟨2,a,b,x⟩:dm)=fK s (⟨2,a,b,x⟩:dm):=rfl;refine al ll [] func65 ?_ (XE s a b x (aK s (⟨2,a,b,x⟩:dm)).1 (aK s (⟨2,a,b,x⟩:dm)).2).symm;repeat' first|(with_reducible first|apply aH|refine aI ?_|intro)|exact aZ|(rw[VR Y]<;>rfl)|(rw[Yr d Y Y]<;>rfl)|(rw[Zn d Y Y]<;>rfl)|(have:=d_ (dt.1 Y);dsimp only at this;omega)|(have h:=cq.1 (dt.1 Y);dsimp only at h;omega)
set_option maxRecDepth 8000 in
def afe(s:b9)(a b:Int)(x:List UInt8)(e:s.log.length<=1000000):r8 prog (bj p6) 65 [.agg (cellsOf (.nm .stable) s),.agg (cellsOf (.nm .record) (⟨3,a,b,x⟩:dm))] [] {pre:=[s.log.length<=1000000],rs:=[.agg (cellsOf (.nm .stable) (aK s (⟨3,a,b,x⟩:dm)).1),.c (.int (aK s (⟨3,a,b,x⟩:dm)).2)]}:=by
 have d:dO s (⟨3,a,b,x⟩:dm)=ei s (⟨3,a,b,x⟩:dm):=rfl;refine al ll [] func65 ?_ (Vu s a b x (aK s (⟨3,a,b,x⟩:dm)).1 (aK s (⟨3,a,b,x⟩:dm)).2).symm;repeat' first|(with_reducible first|apply aH|refine aI ?_|intro)|exact aZ|(rw[VR Y]<;>rfl)|(rw[Yr d Y Y]<;>rfl)|(rw[Zn d Y Y]<;>rfl)|(have:=d_ (dt.1 Y);dsimp only at this;omega)|(have h:=cq.1 (dt.1 Y);dsimp only at h;omega)
set_option maxRecDepth 8000 in
def afG(s:b9)(a b:Int)(x:List UInt8)(e:s.log.length<=1000000):r8 prog (bj p6) 65 [.agg (cellsOf (.nm .stable) s),.agg (cellsOf (.nm .record) (⟨4,a,b,x⟩:dm))] [] {pre:=[s.log.length<=1000000],rs:=[.agg (cellsOf (.nm .stable) (aK s (⟨4,a,b,x⟩:dm)).1),.c (.int (aK s (⟨4,a,b,x⟩:dm)).2)]}:=by
 have d:dO s (⟨4,a,b,x⟩:dm)=fW s (⟨4,a,b,x⟩:dm):=rfl;refine al ll [] func65 ?_ (VZ s a b x (aK s (⟨4,a,b,x⟩:dm)).1 (aK s (⟨4,a,b,x⟩:dm)).2).symm;repeat' first|(with_reducible first|apply aH|refine aI ?_|intro)|exact aZ|(rw[VR Y]<;>rfl)|(rw[Yr d Y Y]<;>rfl)|(rw[Zn d Y Y]<;>rfl)|(have:=d_ (dt.1 Y);dsimp only at this;omega)|(have h:=cq.1 (dt.1 Y);dsimp only at h;omega)
theorem Nh(s:b9)(r:dm)(d:s.log.length<=1000000):r8 prog (bj p6) 65 [.agg (cellsOf (.nm .stable) s),.agg (cellsOf (.nm .record) r)] [] {pre:=[s.log.length<=1000000],rs:=[.agg (cellsOf (.nm .stable) (aK s r).1),.c (.int (aK s r).2)]}:=by
 cases e:k9 r
 .refine al MN [] func65 ?_ (VQ s r (aK s r).1 (aK s r).2).symm;rw[Ba e];(repeat' with_reducible first|apply aH|refine aI ?_|intro)
  all_goals first|(first|with_reducible rfl|with_reducible assumption|omega|(refine aY ?_ ?_<;>omega))|rfl
 obtain⟨k,a,b,x⟩:=r;rcases cq.1 e with h|h|h|h<;>(have f:=h.1;dsimp only at f;subst f)
 .exact af1 s a b x d
 .exact afq s a b x d
 .exact afe s a b x d
 exact afG s a b x d
def RM:CK 64 (aD gl av λ(b,_) _=>{rs:=[.agg (cellsOf (.nm .record) ((aL b).1)),.c (.int ((aL b).2))]}):=ag λ(b,_) _ _=>by
 refine al ll [] func64 (?_:(λd f e=>(λg=>b.length*1<=140737488355328->cD (cn b).1 (((cn b).2=false->g)/\((cn b).2=true->e.1.length*1<=140737488355328->W e.2->(¬e.2=d\/decide (e.1=b)=false->g)/\(e.2=d/\decide (e.1=b)=true->mE (cn b).1 f (d=(aL b).2))))) (d=f.kind/\d=f.a/\d=f.b/\f.x=[]/\3=(aL b).2)) (0:Int) (aL b).1 (aC (cn b).1));repeat' first|(with_reducible first|apply aH|refine aI ?_|intro)|exact aZ|(rw[ak9 Y]<;>rfl)|(rw[ag9 Y Y]<;>rfl)|(rw[ag0 Y Y Y]<;>rfl)
def OL(s:b9)(r:dm)(a:s.log.length<=1000000):r8 prog (bj p6) 65 [.agg (cellsOf (.nm .stable) s),.agg (cellsOf (.nm .record) r)] [] {pre:=[s.log.length<=1000000],rs:=[.agg (cellsOf (.nm .stable) ((aK s r).1)),.c (.int ((aK s r).2))]}:=Nh s r a
def Pb:CK 65 (aD (ak iO pX) av λ(s,r,_) _=>{pre:=[s.log.length<=1000000],rs:=[.agg (cellsOf (.nm .stable) ((aK s r).1)),.c (.int ((aK s r).2))]}):=ag λ(s,r,_) _ a=>OL s r (bw a)
def Gn:=(ae Pb (ae RM ll))
structure RJ(b:List UInt8)(s:b9)(u:Int):Prop where
 le:0<=u/\u<=b.length
 log:(s.log.length:Int)<=u
 eq:hX b=((s9 (b.length+1) s (b.drop u.toNat)).1,u+(s9 (b.length+1) s (b.drop u.toNat)).2)
def aiX:RJ b p0 0:=⟨N,aa,by simp[hX]⟩
section
variable{b:List UInt8}{s:b9}{u:Int}
def aj5(h:RJ b s u)(a:¬(aG (b.drop u.toNat)).2.2=0):hX b=(s,u):=by
 rw[h.eq,oz a,Int.add_zero]
def amd(h:RJ b s u)(a:(aG (b.drop u.toNat)).2.2=0)(c:¬(aL (aG (b.drop u.toNat)).1).2=0):hX b=(s,u):=by
 rw[h.eq,s9,X (A0.2 a),O c,Int.add_zero]
def aiG(h:RJ b s u)(a:(aG (b.drop u.toNat)).2.2=0)(c:(aL (aG (b.drop u.toNat)).1).2=0)(d:¬(aK s (aL (aG (b.drop u.toNat)).1).1).2=0):hX b=(s,u):=by
 rw[h.eq,s9,X (A0.2 a),X (A0.2 c),O d,Int.add_zero]
theorem Kl{s t:b9}(h:dO s r=some t):t.log.length<=s.log.length+1:=by
 unfold dO ey fK ei fW at h;grind
def yk{s:b9}:(aK s r).1.log.length<=s.log.length+1:=by
 unfold aK;split
 .simp
 split
 .rename_i t h;exact Kl h
 simp
theorem akV(h:RJ b s u)(a:(aG (b.drop u.toNat)).2.2=0)(c:(aL (aG (b.drop u.toNat)).1).2=0)(d:(aK s (aL (aG (b.drop u.toNat)).1).1).2=0):RJ b (aK s (aL (aG (b.drop u.toNat)).1).1).1 (u+(aG (b.drop u.toNat)).2.1):=by
 have e:=dX a;rw[length_drop]at e;have f:=yk (s:=s) (r:=(aL (aG (b.drop u.toNat)).1).1);have g:=h.log;refine⟨N,N,?_⟩;rw[h.eq,s9,X (A0.2 a),X (A0.2 c),X (A0.2 d),J1,show u.toNat+(aG (b.drop u.toNat)).2.1.toNat=(u+(aG (b.drop u.toNat)).2.1).toNat by omega];rw[oV (n:=b.length) (m:=b.length+1) (by rw[length_drop];omega) (by rw[length_drop];omega)];grind
def apb(h:RJ b s u):0<=u:=h.le.1
def apI(h:RJ b s u):u<=(b.length:Int):=h.le.2
def aih(h:RJ b s u)(a:b.length<=1000000):s.log.length<=1000000:=by
 have:=h.log;have:=h.le;omega
def apJ(h:RJ b s u)(a:(aG (b.drop u.toNat)).2.2=0)(c:b.length<=1000000):W (u+(aG (b.drop u.toNat)).2.1):=by
 have:=dX a;have:=h.le;rw[length_drop]at*;exact aY N N
theorem anU(h:RJ b s u)(a:(aG (b.drop u.toNat)).2.2=0):((b.length:Int)-(u+(aG (b.drop u.toNat)).2.1)).toNat<((b.length:Int)-u).toNat:=by
 have:=dX a;have:=h.le;grind
end
variable{l:List dm}
def AX{s:b9}(h:(eg s (l.take k)).2=0)(a:l[k]? =some r):eg s (l.take (k+1))=eg (eg s (l.take k)).1 [r]:=by
 rw[ah a,eJ h]
def wD{s:b9}(h:(eg s (l.take k)).2=0)(a:l[k]? =some r)(c:(aK (eg s (l.take k)).1 r).2=0):(eg s (l.take (k+1))).2=0/\(eg s (l.take (k+1))).1=(aK (eg s (l.take k)).1 r).1:=by
 rw[AX h a,eg,O c,eg];exact⟨rfl,rfl⟩
theorem apc{s:b9}(h:(eg s (l.take k)).2=0)(a:l[k]? =some r)(c:¬(aK (eg s (l.take k)).1 r).2=0):(eg s l).2=(aK (eg s (l.take k)).1 r).2:=by
 have d:=(sy.1 a);have e:l=l.take k++r::l.drop (k+1):=by grind[List.getElem_cons_drop,List.take_append_drop]
 rw[show eg s l=eg s (l.take k++r::l.drop (k+1))from o9 (eg s) e,eJ h,eg,X c]
theorem wC:∀{l:List dm} {s:b9},(eg s l).1.log.length<=s.log.length+l.length
 |[],s=>tw _
 |r::l,s=>by
  rw[eg];split
  .have:=wC (l:=l) (s:=(aK s r).1);have:=yk (s:=s) (r:=r);grind
  grind
def amm(h:(l.take k).all k9=true)(a:l[k]? =some r)(c:k9 r=true):(l.take (k+1)).all k9=true:=by
 rw[ah a,K1,h];simp[c]
theorem ahQ(a:l[k]? =some r)(c:k9 r=false):l.all k9=false:=by grind
def aft(a:l[k]? =some r):l1 (l.take k)++fy (p7 r)=l1 (l.take (k+1)):=by
 rw[ah a,vX];simp[l1,lH]
def Ga{d:j9}{x:List UInt8}(h:d.OK):(d.qs x).OK:=by
 obtain⟨a,c,e⟩:=h;unfold j9.qs;split
 .exact⟨a,c,e⟩
 refine⟨a,?_,?_⟩<;>dsimp only<;>rw[s8]<;>omega
def KU(b:List UInt8):List (Nat×LI):=[(3,{σ:=b9×Int,F:=λq=>([(0,one (.fz .u8 b)),(2,one (.ptr 1 0)),(4,one (.ptr 0 0)),(5,one (.int q.2))],[.box 66 (cellsOf (.nm .stable) (q.1)),.box 66 (cellsOf (.nm .stable) p0)]),J:=λq=>RJ b q.1 q.2,μ:=λq=>(b.length-q.2).toNat})]
theorem Fa:CK 35 (aD gl av λ(b,_) _=>{pre:=[b.length<=1000000],rs:=[.agg (cellsOf (.nm .stable) ((hX b).1)),.c (.int ((hX b).2))]}):=ag λ(b,_) _ q=>by
 have p:=bw q;refine al Gn (KU b) func35 (?_:(λ(a:Int)=>b.length*1<=140737488355328->∃(e:b9×Int),(b=b/\a=e.2/\a=e.1.floor/\a=e.1.a8/\a=e.1.hQ/\e.1.log=[]/\a=p0.floor/\a=p0.a8/\a=p0.hQ/\p0.log=[])/\RJ b e.1 e.2/\∀(s:b9×Int),(λ(i:Prop)(d:List UInt8×Int×Int)=>(λ(f:dm×Int)=>(λ(g:b9×Int)=>RJ b s.1 s.2->a<=s.2/\s.2<=(b.length:Int)/\(d.1.length*1<=140737488355328->W d.2.1->W d.2.2->(¬d.2.2=a->i)/\(d.2.2=a->cD f.1 (W f.2->(¬f.2=a->i)/\(f.2=a->s.1.log.length<=1000000/\bz g.1 (W g.2->(¬g.2=a->i)/\(g.2=a->W (s.2+d.2.1)/\∃(h:b9×Int),(b=b/\s.2+d.2.1=h.2/\ai g.1 h.1 (dZ p0 p0))/\RJ b h.1 h.2/\((b.length:Int)-h.2).toNat<((b.length:Int)-s.2).toNat))))))) (aK s.1 f.1)) (aL d.1)) (ai s.1 (hX b).1 (s.2=(hX b).2)) (aG (drop s.2.toNat b))) 0);repeat' first|(with_reducible first|apply aH|refine aI ?_|intro)|exact aZ|(with_reducible exact aiX)|(with_reducible exact apb Y)|(with_reducible exact apI Y)|(with_reducible exact aih Y p)|(with_reducible exact apJ Y Y p)|(with_reducible exact anU Y Y)|(with_reducible exact akV Y Y Y Y)|(rw[aj5 Y Y]<;>rfl)|(rw[amd Y Y Y]<;>rfl)|(rw[aiG Y Y Y Y]<;>rfl)|refine⟨((aK (‹b9×Int›).1 (aL (aG (b.drop (‹b9×Int›).2.toNat)).1).1).1,(‹b9×Int›).2+(aG (b.drop (‹b9×Int›).2.toNat)).2.1),?_⟩|refine⟨(p0,0),?_⟩
def IQ:=(ae Fa Gn)
section
variable{d:j9}{s:b9}{l:List dm}{k:Nat}{r:dm}
def afV(a:l[k]? =some r)(h:¬(aC r).2=0):ik d s l=(d,s,(aC r).2):=by
 rw[ik,O (ahQ a (jN h).2),(jN h).1]
def adY(h:(aC r).2=0):gq (aC r).1=(fy (p7 r),0):=by
 have a:=dt.1 h;have:=kL a;rw[zo a,gq,X (by dsimp only;omega)]
def ale{p:Prop}(h:(aC r).2=0)(a:¬(gq (aC r).1).2=0):p:=absurd (by rw[adY h]) a
def Vv(a:l[k]? =some r)(h:(aC r).2=0):l1 (l.take k)++(gq (aC r).1).1=l1 (l.take (k+1)):=by
 rw[adY h];exact aft a
def Hi(h:l.length<=1000)(c:(l.take k).all k9=true)(a:(aC r).2=0):((l1 (l.take k)).length+(gq (aC r).1).1.length)*1<=140737488355328:=by
 have e:=qj c;have f:=kL (dt.1 a);have g:(l.take k).length<=l.length:=by rw[sh];omega
 rw[adY a];dsimp only;rw[o_];omega
def Vh(a:(l.length:Int)<=k)(h:(l.take k).all k9=true):l.all k9=true:=by rwa[take_of_length_le N]at h
def Wj(a:(l.length:Int)<=k):l1 (l.take k)=l1 l:=by rw[take_of_length_le N]
theorem V_(a:s.log.length<=10000)(c:l.length<=1000):(eg s (l.take k)).1.log.length<=1000000:=by
 have:=wC (s:=s) (l:=l.take k);grind
def acr(c:l.all k9=true)(h:(eg s (l.take k)).2=0)(f:l[k]? =some r)(a:¬(aK (eg s (l.take k)).1 r).2=0):ik d s l=(d,s,(aK (eg s (l.take k)).1 r).2):=by
 have e:=apc h f a;rw[ik,X (by rw[c];decide),O (by rw[e];exact a),e]
def aca(a:(l.length:Int)=0):ik d s l=(d,(eg s (l.take k)).1,0):=by
 rw[A6 (l:=l) N,List.take_nil];rfl
def abQ(c:(l.length:Int)<=k)(a:l.all k9=true)(h:(eg s (l.take k)).2=0)(e:¬(l.length:Int)=0):ik d s l=if d.fQ (l1 l)≠0 then(d,s,d.fQ (l1 l))else if(d.qs (l1 l)).ek≠0 then((d.qs (l1 l)).sync,s,(d.qs (l1 l)).ek)else((d.qs (l1 l)).sync,(eg s (l.take k)).1,0):=by
 rw[take_of_length_le N]at h⊢;rw[ik,X (by rw[a];decide),X (by rw[h];decide),X N]
theorem Zt(a:(l.length:Int)<=k)(c:l.all k9=true)(h:(eg s (l.take k)).2=0)(f:¬(l.length:Int)=0)(g:¬d.fQ (l1 l)=0):ik d s l=(d.qs (l1 l),s,d.fQ (l1 l)):=by
 have e:d.qs (l1 l)=d:=by
  unfold j9.qs j9.fQ at*;grind
 rw[abQ a c h f,O g,e]
def Vf(a:(l.length:Int)<=k)(c:l.all k9=true)(h:(eg s (l.take k)).2=0)(e:¬(l.length:Int)=0)(f:d.fQ (l1 l)=0)(g:¬(d.qs (l1 l)).ek=0):ik d s l=((d.qs (l1 l)).sync,s,(d.qs (l1 l)).ek):=by
 rw[abQ a c h e,X (A0.2 f),O g]
def VC(a:(l.length:Int)<=k)(c:l.all k9=true)(h:(eg s (l.take k)).2=0)(e:¬(l.length:Int)=0)(f:d.fQ (l1 l)=0)(g:(d.qs (l1 l)).ek=0):ik d s l=((d.qs (l1 l)).sync,(eg s (l.take k)).1,0):=by
 rw[abQ a c h e,X (A0.2 f),X (A0.2 g)]
variable{x:List UInt8}
def I4(h:d.OK):0<=(d.qs x).b7:=(Ga h).1
def GG(h:d.OK):(d.qs x).b7<=((d.qs x).b.length:Int):=(Ga h).2.1
def Gq(h:d.OK):(d.qs x).b.length<=65536:=(Ga h).2.2
def Aj(h:(l.take k).all k9=true)(a:l[k]? =some r)(c:(aC r).2=0):(l.take (k+1)).all k9=true:=amm h a (dt.1 c)
end
def VK(s:b9)(l:List dm)(a:Int)(c:Bool)(d:Bool)(e:Int)(f:List UInt8):List (Nat×LI):=[(3,{σ:=Nat,F:=λk=>([(0,one (.ptr 0 0)),(2,one (.fz (.nm .record) l)),(4,one (.ptr 2 0)),(6,one (.ptr 3 0)),(8,one (.own 4)),(20,one (.fz (.nm .record) l)),(21,one (.int l.length)),(22,one (.int k))],[.box 115 ([.own 1,.int a,.bool (.atom c),.bool (.atom d),.int e]),.row 5 .u8 f,.box 66 (cellsOf (.nm .stable) s),.box 66 (cellsOf (.nm .stable) p0),.row 5 .u8 (l1 (l.take k))]),J:=λk=>k<=l.length/\(l.take k).all k9=true,μ:=λk=>l.length-k}),(15,{σ:=Nat,F:=λk=>([(0,one (.ptr 0 0)),(2,one (.fz (.nm .record) l)),(4,one (.ptr 2 0)),(6,one (.ptr 3 0)),(8,one (.own 4)),(14,one (.ptr 5 0)),(52,one (.fz (.nm .record) l)),(53,one (.int l.length)),(54,one (.int k))],[.box 115 ([.own 1,.int a,.bool (.atom c),.bool (.atom d),.int e]),.row 5 .u8 f,.box 66 (cellsOf (.nm .stable) s),.box 66 (cellsOf (.nm .stable) p0),.row 5 .u8 (l1 l),.box 66 (cellsOf (.nm .stable) ((eg s (l.take k)).1))]),J:=λk=>k<=l.length/\l.all k9=true/\(eg s (l.take k)).2=0,μ:=λk=>l.length-k})]
def vH:=kC (cL (.nm .record))
set_option maxRecDepth 8000 in
theorem Nr:CK 62 (aD (ak iD (ak iO (ak vH bS))) wX λ(_,s,l,_) ((_,a,f,g,h,_),e,_)=>⟨[(j9.mk e a f g h).OK,s.log.length<=10000,l.length<=1000],[.agg (cellsOf (.nm .stable) ((ik (j9.mk e a f g h) s l).2.1)),.c (.int ((ik (j9.mk e a f g h) s l).2.2))],some ([.box 115 ([.own 1,.int ((ik (j9.mk e a f g h) s l).1.b7),.bool (.atom ((ik (j9.mk e a f g h) s l).1.down)),.bool (.atom ((ik (j9.mk e a f g h) s l).1.c9)),.int ((ik (j9.mk e a f g h) s l).1.dc)]),.row 5 .u8 ((ik (j9.mk e a f g h) s l).1.b)]),false⟩):=ag λ(_,s,l,_) ((_,a,f,g,h,_),e,_) V=>by
 have b:=bw V;have Z:=bw (de V);have L:=bw (de (de V));refine bh IQ (VK s l a f g h e) func62 (?_:(λ(K:j9)(v:Prop)(c:Prop)(o:Prop)(R:Prop)(P:Prop)(Q:Int)=>(λ(U:Int)(C:Nat)=>(λ(u:Int)(q:Int)(A:j9)=>(λ(D:j9)(r:j9×b9×Int)=>(λ(w:b9)(y:Int)(i:j9)=>(λ(T:Prop)(G:Prop)=>bz s (l.length*48<=140737488355328->∃(H:Nat),(v/\v/\Q=u/\q=(H:Int)/\a=a/\f=f/\g=g/\h=h/\e=e/\ai s s (q=p0.floor/\q=p0.a8/\q=p0.hQ/\p0.log=[]/\l1 (take H l)=[]))/\(H<=C/\(take H l).all k9=true)/\∀(p:Nat),p<=C/\(take p l).all k9=true->((p:Int)<u->q<=(p:Int)/\(p:Int)<Q/\∀(x:dm),(λ(I:Int)(z:List UInt8×Int)=>l[p]? =some x->cD x ((aC x).1.length*1<=140737488355328->W I->(¬I=q->P->R->o->ai s w (I=y/\G))/\(I=q->z.1.length*1<=140737488355328->W z.2->(¬z.2=q->P->R->o->ai s w (z.2=y/\G))/\(z.2=q->((l1 (take p l)).length+z.1.length)*1<=140737488355328/\W ((p:Int)+1)/\∃(F:Nat),(v/\v/\u=u/\(p:Int)+1=(F:Int)/\a=a/\f=f/\g=g/\h=h/\e=e/\ai s s (ai p0 p0 (l1 (take p l)++z.1=l1 (take F l))))/\(F<=C/\(take F l).all k9=true)/\C-F<C-p)))) (aC x).2 (gq (aC x).1))/\(u<=(p:Int)->P->R->o->∃(H:Nat),(v/\v/\Q=u/\q=(H:Int)/\a=a/\f=f/\g=g/\h=h/\e=e/\ai s s (ai p0 p0 (l1 (take p l)=l1 l/\dZ s (eg s (take H l)).1)))/\(H<=C/\c/\(eg s (take H l)).2=q)/\∀(t:Nat),(λ(B:b9)=>t<=C/\c/\(eg s (take t l)).2=q->((t:Int)<u->q<=(t:Int)/\(t:Int)<Q/\∀(x:dm),(λ(J:Int)=>l[t]? =some x->cD x (B.log.length<=1000000/\bz (aK B x).1 (W J->(¬J=q->P->R->o->ai s w (J=y/\G))/\(J=q->W ((t:Int)+1)/\∃(F:Nat),(v/\v/\u=u/\(t:Int)+1=(F:Int)/\a=a/\f=f/\g=g/\h=h/\e=e/\ai s s (ai p0 p0 (l1 l=l1 l/\dZ (aK B x).1 (eg s (take F l)).1)))/\(F<=C/\c/\(eg s (take F l)).2=q)/\C-F<C-t)))) (aK B x).2)/\(u<=(t:Int)->(Q=q->ai B w (q=y/\G))/\(¬Q=q->(q<=a/\a<=(e.length:Int)/\e.length<=65536)/\(W U->(¬U=q->P->R->o->ai s w (U=y/\A.b7=i.b7/\A.down=i.down/\A.c9=i.c9/\A.dc=i.dc/\A.b=i.b))/\(U=q->(q<=A.b7/\A.b7<=(A.b.length:Int)/\A.b.length<=65536)/\(W A.ek->(¬A.ek=q->P->R->o->ai s w (A.ek=y/\T))/\(A.ek=q->ai B w (q=y/\T)))))))) (eg s (take t l)).1))) (D.b7=i.b7/\D.down=i.down/\D.c9=i.c9/\D.dc=i.dc/\D.b=i.b) (a=i.b7/\f=i.down/\g=i.c9/\h=i.dc/\e=i.b)) r.2.1 r.2.2 r.1) A.sync (ik K s l)) (C:Int) 0 (K.qs (l1 l))) (K.fQ (l1 l)) l.length) (j9.mk e a f g h) (l=l) (l.all k9=true) (W s.hQ) (W s.a8) (W s.floor) (l.length:Int))
 have S:=b;obtain⟨j,m,n⟩:=b;dsimp only at j m n;(repeat' with_reducible first|apply aH|refine aI ?_|intro)
 all_goals try(refine⟨0,?_⟩;(repeat' with_reducible first|apply aH|refine aI ?_|intro))
 all_goals try(first|(refine⟨‹Nat›+1,?_⟩;(repeat' with_reducible first|apply aH|refine aI ?_|intro)<;>(first|exact aZ|(with_reducible exact yz L Y)|(with_reducible exact Vv Y Y)|(with_reducible exact Aj Y Y Y)|(with_reducible exact Hi L Y Y)|(with_reducible exact Vh Y Y)|(with_reducible exact Wj Y)|(with_reducible exact V_ Z L)|(with_reducible exact ale Y Y)|(with_reducible exact(wD Y Y Y).1)|(with_reducible exact I4 S)|(with_reducible exact GG S)|(with_reducible exact Gq S)|(with_reducible exact(o9 b9.floor (wD Y Y Y).2).symm)|(with_reducible exact(o9 b9.a8 (wD Y Y Y).2).symm)|(with_reducible exact(o9 b9.hQ (wD Y Y Y).2).symm)|(with_reducible exact(o9 b9.log (wD Y Y Y).2).symm)|(rw[afV (d:=j9.mk e a f g h) Y Y]<;>rfl)|(rw[acr (d:=j9.mk e a f g h) Y Y Y Y]<;>rfl)|(rw[Zt (d:=j9.mk e a f g h) Y Y Y Y Y]<;>rfl)|(rw[Vf (d:=j9.mk e a f g h) Y Y Y Y Y Y]<;>rfl)|(rw[VC (d:=j9.mk e a f g h) Y Y Y Y Y Y]<;>rfl)|(rw[aca (d:=j9.mk e a f g h) (k:=‹Nat›) Y]<;>rfl)|exact rfl);done)|(refine⟨0,?_⟩;(repeat' with_reducible first|apply aH|refine aI ?_|intro)))
 all_goals try(refine⟨‹Nat›+1,?_⟩;(repeat' with_reducible first|apply aH|refine aI ?_|intro))
 all_goals(first|exact aZ|(with_reducible exact yz L Y)|(with_reducible exact Vv Y Y)|(with_reducible exact Aj Y Y Y)|(with_reducible exact Hi L Y Y)|(with_reducible exact Vh Y Y)|(with_reducible exact Wj Y)|(with_reducible exact V_ Z L)|(with_reducible exact ale Y Y)|(with_reducible exact(wD Y Y Y).1)|(with_reducible exact I4 S)|(with_reducible exact GG S)|(with_reducible exact Gq S)|(with_reducible exact(o9 b9.floor (wD Y Y Y).2).symm)|(with_reducible exact(o9 b9.a8 (wD Y Y Y).2).symm)|(with_reducible exact(o9 b9.hQ (wD Y Y Y).2).symm)|(with_reducible exact(o9 b9.log (wD Y Y Y).2).symm)|(rw[afV (d:=j9.mk e a f g h) Y Y]<;>rfl)|(rw[acr (d:=j9.mk e a f g h) Y Y Y Y]<;>rfl)|(rw[Zt (d:=j9.mk e a f g h) Y Y Y Y Y]<;>rfl)|(rw[Vf (d:=j9.mk e a f g h) Y Y Y Y Y Y]<;>rfl)|(rw[VC (d:=j9.mk e a f g h) Y Y Y Y Y Y]<;>rfl)|(rw[aca (d:=j9.mk e a f g h) (k:=‹Nat›) Y]<;>rfl)|exact rfl)
def nI:=(ae Nr IQ)
variable{l:List eA}
def aiw{x:eA}(h:l[k]? =some x):l.take k++[x]=l.take (k+1):=(ah h).symm
def ahJ(h:(l.length:Int)<=k):l.take k=l:=take_of_length_le N
def LX(l:List eA):List (Nat×LI):=[(3,{σ:=Nat,F:=λk=>([(3,one (.own 0)),(6,one (.fz (.nm .entry) l)),(7,one (.int l.length)),(8,one (.int k))],[.row 113 (.nm .entry) (l.take k)]),J:=λk=>k<=l.length,μ:=λk=>l.length-k})]
def QX:CK 40 (aD bS av λ_ _=>{rs:=[.agg (cellsOf (.nm .state) (c5.mk 1 1 0 0 [] [] []))]}):=ag λ_ _ _=>by
 refine al nI [] func40 (?_:(1:Int)=1/\(1:Int)=1/\(0:Int)=0/\(0:Int)=0/\ @Eq (List (l7 (Sh.nm NT.c8))) [] []/\ @Eq (List (l7 (Sh.nm NT.opn))) [] []/\ @Eq (List (l7 (Sh.nm NT.snap))) [] []);exact⟨rfl,rfl,rfl,rfl,rfl,rfl,rfl⟩
def LB:CK 34 (aD (ak iD ij) tj λ(_,kd,e,_) n=>{rs:=[.agg (cellsOf (.nm .letter) (lU n.c kd e))]}):=ag λ(_,kd,e,_) n _=>by
 refine al nI [] func34 (?_:(λd=>W kd->W e->kd=d.kind/\n.c.me=d.l5/\e=d.to/\n.c.st.a8=d.a8/\0=d.a/\0=d.b/\0=d.c/\n.c.bin=d.bin/\false=d.ok/\d.l=[]) (lU n.c kd e));repeat' first|(with_reducible first|apply aH|refine aI ?_|intro)|exact aZ|rfl
theorem Fi:CK 24 (aD vd av λ(l,_) _=>{rs:=[.c (.fz (.nm .entry) l)]}):=ag λ(l,_) _ _=>by
 refine al nI (LX l) func24 (?_:(λ(a:Nat)=>l.length*32<=140737488355328->∃(e:Nat),(l=l/\(l.length:Int)=(a:Int)/\0=(e:Int)/\take e l=[])/\e<=a/\∀(s:Nat),s<=a->((s:Int)<(a:Int)->0<=(s:Int)/\(s:Int)<(l.length:Int)/\∀(x:eA),(λ(f:Prop)=>l[s]? =some x->W x.a8->f->(f->((take s l).length+[x].length)*32<=140737488355328)/\(f->W ((s:Int)+1)/\∃(d:Nat),(l=l/\(a:Int)=(a:Int)/\(s:Int)+1=(d:Int)/\take s l++[x]=take d l)/\d<=a/\a-d<a-s)) (x.b.length*1<=140737488355328))/\((a:Int)<=(s:Int)->take s l=l)) l.length);repeat' first|(with_reducible first|apply aH|refine aI ?_|intro)|exact aZ|exact rfl|exact(aiw Y)|exact(ahJ Y)|(simp only[sh,x7,B2];omega)|refine⟨‹Nat›+1,?_⟩|refine⟨0,?_⟩
def UR:CK 46 (aD iR tj λ(_,k,_) n=>{rs:=[],out:=some (om ({n with d:=⟨n.d.b,n.d.b7,n.d.down,true,k⟩}))}):=ag λ(_,k,_) n _=>by
 refine bh nI [] func46 (?_:W k->n.c.me=n.c.me/\n.c.ea=n.c.ea/\n.c.bin=n.c.bin/\ai n.c.st n.c.st (n.c.ee=n.c.ee/\n.c.b8=n.c.b8/\n.c.b5=n.c.b5/\aw n.c.s n.c.s (n.d.b7=n.d.b7/\n.d.down=n.d.down/\true=true/\k=k/\n.d.b=n.d.b/\n.rp=n.rp/\n.vs=n.vs/\n.bn=n.bn/\n.nx=n.nx/\n.mt=n.mt)));repeat' first|(with_reducible first|apply aH|refine aI ?_|intro)|exact aZ|rfl
def RI:CK 10 (aD iR tj λ(_,k,_) n=>⟨[n.d.OK],[],some (om ({n with d:=n.d.bR k})),false⟩):=ag λ(_,k,_) n e=>by
 have f:=bw e;refine bh nI [] func10 (?_:(λa=>W k->(0<=n.d.b7/\n.d.b7<=(n.d.b.length:Int)/\n.d.b.length<=65536)/\n.c.me=n.c.me/\n.c.ea=n.c.ea/\n.c.bin=n.c.bin/\ai n.c.st n.c.st (n.c.ee=n.c.ee/\n.c.b8=n.c.b8/\n.c.b5=n.c.b5/\aw n.c.s n.c.s (a.b7=a.b7/\a.down=a.down/\a.c9=a.c9/\a.dc=a.dc/\a.b=a.b/\n.rp=n.rp/\n.vs=n.vs/\n.bn=n.bn/\n.nx=n.nx/\n.mt=n.mt))) (n.d.bR k));obtain⟨g,h,i⟩:=id f;repeat' first|(with_reducible first|apply aH|refine aI ?_|intro)|exact aZ|rfl
def pB:=(ae RI (ae UR (ae Fi (ae LB (ae QX nI)))))
variable{n:w8}
def Uq(h:¬(k:Int)=n.me):ky n k++[(k:Int)]=ky n (k+1):=by
 simp[ky,K8,h]
def Oa(h:(k:Int)=n.me):ky n k=ky n (k+1):=by
 simp[ky,K8,h]
def aie(a:k<=n.ea.toNat)(h:n.ea<=k):ky n k=dI n:=by
 unfold dI;congr 1;omega
def nT:(ky n k).length<=k:=by
 unfold ky;refine zc (N8 _ _) ?_;simp
def OU(n:Nd):List (Nat×LI):=[(3,{σ:=Nat,F:=λk=>([(0,one (.ptr 0 0)),(3,one (.own 8)),(8,one (.int n.c.ea)),(9,one (.int k))],(om (n)++[.row 3 .int (ky n.c k)])),J:=λk=>k<=n.c.ea.toNat,μ:=λk=>n.c.ea.toNat-k})]
def xA:CK 28 (aD iS av λ(l,_) _=>⟨[],[.c (.own 0)],some ([.row 3 .int l]),true⟩):=ag λ(l,_) _ _=>by
 refine bU pB [] func28 (?_:(λa=>a->∀(b:Bool),(b=true->l=[])->(b=true->l=[])/\(b=false->a/\l=l)) (l.length*8<=140737488355328));exact λh b d=>⟨d,λ_=>⟨h,rfl⟩⟩
def Lp(l:List Int):r8 prog (bj p6) 28 [.c (.fz .int l)] [] ⟨[],[.c (.own 0)],some ([.row 3 .int l]),true⟩:=xA _ _ _ rfl aa
def aeB:CK 72 (aD tn av λ(x,_) _=>{rs:=[.agg (cellsOf (.nm .letter) x)]}):=ag λ(x,_) _ _=>by
 refine al pB [] func72 (?_:aP x (x.l.length*32<=140737488355328->um x x));repeat' first|(with_reducible first|apply aH|refine aI ?_|intro)|exact aZ|rfl
theorem LQ:CK 33 (aD dA tj λ_ n=>{pre:=[n.c.ea<=5],rs:=[.c (.fz .int (dI n.c))]}):=ag λ_ n h=>by
 have i:=bw h;refine al pB (OU n) func33 (?_:(λ(a:Int)=>(λ(e:Nat)=>∃(g:Nat),(a=a/\0=(g:Int)/\wE n n (ky n.c g=[]))/\g<=e/\∀(s:Nat),(λ(f:Int)=>s<=e->((s:Int)<a->(¬(s:Int)=n.c.me->((ky n.c s).length+[(s:Int)].length)*8<=140737488355328/\W f/\∃(d:Nat),(a=a/\f=(d:Int)/\wE n n (ky n.c s++[(s:Int)]=ky n.c d))/\d<=e/\e-d<e-s)/\((s:Int)=n.c.me->W f/\∃(d:Nat),(a=a/\f=(d:Int)/\wE n n (ky n.c s=ky n.c d))/\d<=e/\e-d<e-s))/\(a<=(s:Int)->ky n.c s=dI n.c)) ((s:Int)+1)) a.toNat) n.c.ea);repeat' first|(with_reducible first|apply aH|refine aI ?_|intro)|exact aZ|exact rfl|exact(Uq Y)|exact(Oa Y)|exact(aie Y Y)|(have:=nT (n:=n.c) (k:=‹Nat›);simp only[x7,B2];omega)|refine⟨‹Nat›+1,?_⟩|refine⟨0,?_⟩
def Qp:=(ae LQ (ae aeB (ae xA pB)))
end Go.Proofs.YtoecbhljidgajaaGreat
namespace Go.Proofs.YtoecbhljidgajaaGreat
open Go.Proofs.Tryz
open Go.RowKit Go.Proofs Go.Shelf Go.Sort
def yU(w a:World)(l:List Int)(g:Nat)(b:List Value):Prop:=Kp [] w a/\w.heap.size<=g/\a.heap[g]? =some (.cells (List.toArray (l.map (Value.int .i64)++b)) 3 (0,0))
variable{w:World}{l:List Int}
def EX{G:Gl}{j:List RE}{v:Value}(x:G.shp=bj p6)(q:pe G j [] w)(y:Rd (cx G j w) j (.fz .int l) v)(s:l.length≠0):
  mT prog 28 #[v] w λr t=>∃g c k,r=.slice (some ⟨g,0,none⟩) l.length c/\yU w t l g k:=by
 have m:j=[]:=A6 q.obj.length.symm;subst m;refine((Lp l).2 G [] w [v] x q (.cons y .nil)).mono λr t ⟨I,e,z,n,A,u,o,B⟩=>?_;have C:l9 [AO.row 3 .int l] 0=.row 3 .int l:=rfl;cases o with|cons a b=>?_
 cases b;rcases cS n C with⟨_,d⟩|⟨g,c,p,k,d,D,F,J,K,H⟩
 .rw[d]at s;exact absurd rfl s
 rcases a with⟨_,_,_,_,f,rfl⟩|⟨f,_⟩;case inr=>rw[d]at f;cases f
 rw[d]at f;cases f;obtain⟨rfl,L⟩:=oS F;refine⟨g,c,k,e,(B rfl).1,?_,D⟩;rcases Nat.lt_or_ge g w.heap.size with h|h
 .exact absurd ⟨0,_,d,rfl⟩ (A.z7 g h (λ⟨i,r,h,_⟩=>by simp at h)).1
 exact h
variable{w1:World}{sp:List Value}
def Fc{g d:Nat}(h:yU w w1 l g sp)(j:l.length<=12):
  Calls prog 228 #[.slice (some ⟨g,0,none⟩) l.length d,.func (.func 229) #[] #[]] w1 λe f=>e=.returned (.tuple #[])/\yU w f (pC l) g sp:=by
 obtain⟨c,k,m⟩:=h;refine(Tk j m).mono λe f ⟨n,a,o⟩=>⟨n,⟨a.os.trans c.os,a.tape.trans c.tape,a.output.trans c.output,zc c.size a.size,λb i p=>?_⟩,k,o⟩;exact(a.block b (y7 i c.size) (by simp;omega)).trans (c.block b i p)
def EW{g i:Nat}(h:yU w w1 l g sp)(a:i<l.length):w1.cell? ⟨g,i,none⟩=some (.int .i64 (l.getD i 0)):=by
 rw[Lib.cell_of_heap h.2.2,List.getElem?_toArray,E0 (by simpa using a),X4,r5 a,List.getD_eq_getElem?_getD,r5 a];rfl
def Kc(l:List Int)(s:l.length<=12):r8 prog (bj p6) 204 [.c (.fz .int l)] [] {pre:=[l.length<=12],rs:=[.c (.int (r4 l))]}:=by
 refine⟨⟨_,func204,am,by kernel_rfl⟩,λG n w B t u d=>?_⟩;cases d with|cons j d=>?_
 cases d;have m:=EX (l:=l) t u j;replace j:Pd (cx G n w) (.fz .int l) _:=j;cases j with|fz C D F v H=>?_
 rename_i a k o;have x:=(oS v).2;by_cases p:l.length=0
 .clear m;go_enter func204,ntmps204
  have q:(l.length:Int)=0:=by omega
  go_wp2
  go_ret
  refine⟨_,rfl,[_],rfl,?_,?_⟩
  .exact Kp.refl w
  refine .cons ?_ .nil;have e:r4 l=0:=O p;show Pd (cx G n w) (.int (r4 l)) (.int .i64 0);rw[e];exact .int ⟨am,am⟩
 replace m:=m p;go_enter func204,ntmps204
 have q:¬(l.length:Int)=0:=by omega
 have I:(l.length:Int).tdiv 2=((l.length/2:Nat):Int):=by rw[Int.tdiv_eq_ediv_of_nonneg N];omega
 have J:0<=(l.length:Int).tdiv 2:=by omega
 have K:(l.length:Int).tdiv 2<(l.length:Int):=by omega
 have L:W ((l.length:Int).tdiv 2):=aY N N;go_wp2_with (first|(go_at_call 28;refine O9 m ?_;rintro e w1 ⟨_,rfl,g,y,sp,rfl,r⟩)|(go_at_call 228;refine O9 (Fc r s) ?_;rintro e z ⟨rfl,f⟩;have A:=EW (i:=l.length/2) f (by rw[sD];omega)))
 go_ret
 refine⟨_,rfl,[_],rfl,f.1,.cons ?_ .nil⟩;have e:r4 l=(pC l).getD (l.length/2) 0:=X p;show Pd (cx G n z) (.int (r4 l)) (.int .i64 ((pC l).getD (l.length/2) 0));rw[e];refine .int (x _ ((Y1 l (λa b=>decide (b<=a))).mem_iff.1 (show _∈pC l from ?_)));have h:l.length/2<(pC l).length:=by rw[sD];omega
 rw[List.getD_eq_getElem?_getD,r5 h];exact I1 h
end Go.Proofs.YtoecbhljidgajaaGreat
namespace Go.Proofs.YtoecbhljidgajaaGreat
open Go.Proofs.Tryz
open Go.RowKit
def SS(l:List Int)(a:l.length<=12):r8 prog (bj p6) 204 [.c (.fz .int l)] [] {pre:=[l.length<=12],rs:=[.c (.int (r4 l))]}:=Kc l a
def TL:CK 204 (aD iS av λ(l,_) _=>{pre:=[l.length<=12],rs:=[.c (.int (r4 l))]}):=ag λ(l,_) _ a=>SS l (bw a)
def uS:=(ae TL Qp)
def gX{d:j9}{s:b9}{l:List dm}(h:¬(ik d s l).2.2=0):(ik d s l).2.1=s:=by
 revert h;unfold ik;repeat' split
 all_goals first|(intro _;rfl)|(intro h;exact absurd rfl h)
def Li:CK 170 (aD (ak iO (ak pw fj)) av λ(s,l,k,_) _=>{pre:=[l.length<=12],rs:=[.c (.int (iW s l k))]}):=ag λ(s,l,k,_) _ b=>by
 have d:=bw b;refine al uS [] func170 (?_:(λa=>bz s (l.length*8<=140737488355328->W k->l.length<=12/\(W (r4 l)->(k<a->W (bM s.log a)->(bM s.log a=s.a8->a=iW s l k)/\(¬bM s.log a=s.a8->k=iW s l k))/\(a<=k->k=iW s l k)))) (min (r4 l) (s.log.length:Int)));repeat' first|(with_reducible first|apply aH|refine aI ?_|intro)|exact aZ|(rw[iW,O ⟨Y,Y⟩])|(rw[iW,X N])
def WS:CK 31 (aD (ak iD (ak vH bS)) tj λ(_,l,_) n=>⟨[n.d.OK,n.c.st.log.length<=10000,l.length<=1000],[.c (.int (n.aB l))],some (om (n.fl l)),false⟩):=ag λ(_,l,_) n e=>by
 have f:=bw e;have g:=bw (de e);have h:=bw (de (de e));refine bh uS [] func31 (?_:(λa=>l.length*48<=140737488355328->((0<=n.d.b7/\n.d.b7<=(n.d.b.length:Int)/\n.d.b.length<=65536)/\n.c.st.log.length<=10000/\l.length<=1000)/\bz a.2.1 (W a.2.2->(¬a.2.2=0->a.2.2=n.aB l/\cT (Nd.mk n.c a.1 n.rp n.vs n.bn n.nx n.mt) (n.fl l))/\(a.2.2=0->0=n.aB l/\cT (Nd.mk (w8.mk n.c.me n.c.ea n.c.bin a.2.1 n.c.ee n.c.b8 n.c.b5 n.c.s) a.1 n.rp n.vs n.bn n.nx n.mt) (n.fl l)))) (ik n.d n.c.st l));obtain⟨i,j,k⟩:=id f;repeat' first|(with_reducible first|apply aH|refine aI ?_|intro)|exact aZ|exact rfl|exact(Eq.symm Y)|exact(o9 b9.floor (gX Y)).symm|exact(o9 b9.a8 (gX Y)).symm|exact(o9 b9.hQ (gX Y)).symm|exact(o9 b9.log (gX Y)).symm
def kY:=(ae WS (ae Li uS))
structure AJ(n q:Nd):Prop where
 eq:n.apply=q.apply
 le:0<=q.c.b5/\q.c.b8<=(q.c.st.log.length:Int)/\(q.rp.length:Int)<=q.c.b5/\q.c.st.log.length<=10000
def Nd.V4(q:Nd):Nd:={q with c:={q.c with s:=x8 q.c.bin q.c.s ((q.c.st.log.drop q.c.b5.toNat).take ((q.c.b5+1).toNat-q.c.b5.toNat)),b5:=q.c.b5+1},rp:=q.rp++B3 q.c.bin q.c.s ((q.c.st.log.drop q.c.b5.toNat).take ((q.c.b5+1).toNat-q.c.b5.toNat))}
section
variable{n q:Nd}
def ahG(h:(0<=n.c.b5/\n.c.b8<=(n.c.st.log.length:Int))/\(n.rp.length:Int)<=n.c.b5/\n.c.st.log.length<=10000):AJ n n:=⟨rfl,N⟩
def Mz(h:AJ n q):(q.c.b5+1).toNat-q.c.b5.toNat=1:=by have:=h.le;omega
def Mv(h:AJ n q):(B3 q.c.bin q.c.s ((q.c.st.log.drop q.c.b5.toNat).take ((q.c.b5+1).toNat-q.c.b5.toNat))).length<=1:=by
 rw[Mz h,B3,yT,sh,sh];omega
theorem aiY(h:AJ n q)(d:q.c.b5<q.c.b8)(a:pE q.c.bin ((q.c.st.log.drop q.c.b5.toNat).take ((q.c.b5+1).toNat-q.c.b5.toNat))=0):AJ n q.V4:=by
 have b:=h.le;have e:=Mv h;refine⟨?_,?_,b.2.1,?_,b.2.2.2⟩
 .rw[h.eq,Nd.apply,show(q.c.b8-q.c.b5).toNat=(q.c.b8-(q.c.b5+1)).toNat+1 by omega,Nd.dk,O d];rw[Mz h]at a;rw[O a,Nd.apply,Nd.V4,Mz h]
 .show 0<=q.c.b5+1;omega
 show(((q.rp++_).length:Nat):Int)<=q.c.b5+1;grind
def ajW(a:q.c.b5<q.c.b8):(q.c.b8-(q.c.b5+1)).toNat<(q.c.b8-q.c.b5).toNat:=by omega
def agC(h:AJ n q)(b:q.c.b5<q.c.b8)(a:¬pE q.c.bin ((q.c.st.log.drop q.c.b5.toNat).take ((q.c.b5+1).toNat-q.c.b5.toNat))=0):n.apply=q:=by
 rw[Mz h]at a;rw[h.eq,Nd.apply,show(q.c.b8-q.c.b5).toNat=(q.c.b8-(q.c.b5+1)).toNat+1 by omega,Nd.dk,O b,X a]
def als(h:AJ n q)(a:q.c.b8<=q.c.b5):n.apply=q:=by
 rw[h.eq,Nd.apply,show(q.c.b8-q.c.b5).toNat=0 by omega,Nd.dk]
def aiI(h:AJ n q):0<=q.c.b5:=h.le.1
def akm(h:AJ n q)(a:q.c.b5<q.c.b8):q.c.b5+1<=(q.c.st.log.length:Int):=by have:=h.le;omega
def agJ(h:AJ n q)(a:q.c.b5<q.c.b8):W (q.c.b5+1):=by have:=h.le;exact aY N N
def an_(h:AJ n q)(a:q.c.b5<q.c.b8):(q.rp.length+(B3 q.c.bin q.c.s ((q.c.st.log.drop q.c.b5.toNat).take ((q.c.b5+1).toNat-q.c.b5.toNat))).length)*16<=140737488355328:=by
 have:=h.le;have:=Mv h;omega
end
def mY(n:Nd):Site:=if n.d.down=true then⟨false,0,0,0,0,0,0,0,[],⟨0,0,0,0,[],[],[]⟩⟩else⟨true,n.c.ee,n.c.bin,n.c.st.floor,n.c.st.a8,n.c.st.hQ,n.c.b8,n.c.b5,n.c.st.log,n.c.s⟩
variable{n:Nd}
def Rw(h:n.d.down=true):mY n=⟨false,0,0,0,0,0,0,0,[],⟨0,0,0,0,[],[],[]⟩⟩:=O h
def NH(h:n.d.down=false):mY n=⟨true,n.c.ee,n.c.bin,n.c.st.floor,n.c.st.a8,n.c.st.hQ,n.c.b8,n.c.b5,n.c.st.log,n.c.s⟩:=X (by rw[h];decide)
theorem mX{s:b9}{r:vo}(h:¬(eD s r).2=0):(eD s r).1=dp:=by
 revert h;unfold eD;grind
section
variable{n:Nd}{k t:Int}
def alS(h:n.d.down=true):gS n k t=(⟨0,0⟩,30):=O h
def anO(h:n.d.down=false)(a:(k<1\/n.c.b5<k)\/¬(n.c.st.log.getD (k-1).toNat (c4 (Sh.nm NT.entry))).a8=t):gS n k t=(⟨0,0⟩,15):=by
 rw[gS,X (by rw[h];decide)];exact O a
def anK(h:n.d.down=false)(b:1<=k)(e:k<=n.c.b5)(a:(n.c.st.log.getD (k-1).toNat (c4 (Sh.nm NT.entry))).a8=t):gS n k t=(n.rp.getD (k-1).toNat ⟨0,0⟩,0):=by
 rw[gS,X (by rw[h];decide)];exact X (by rintro((h4|h4)|h4)<;>first|omega|exact h4 a)
end
def Xr(n:Nd):List (Nat×LI):=[(0,{σ:=Nd,F:=λq=>([(0,one (.ptr 0 0))],(om q)),J:=λq=>AJ n q,μ:=λq=>(q.c.b8-q.c.b5).toNat})]
def Jq:CK 67 (aD iR tj λ(_,k,_) n=>{pre:=[0<=k/\k<(n.nx.length:Int)],rs:=[.agg (cellsOf (.nm .letter) ((iJ n k).1)),.c (.int ((iJ n k).2))]}):=ag λ(_,k,_) n g=>by
 have h:=bw g;refine al kY [] func67 (?_:(λd e f=>W k->(d<=k/\k<(n.nx.length:Int))/\(W (n.nx.getD k.toNat (c4 Sh.int))->aP f.1 (W f.2->(¬f.2=d->d=e.kind/\d=e.l5/\d=e.to/\d=e.a8/\d=e.a/\d=e.b/\d=e.c/\d=e.bin/\false=e.ok/\e.l=[]/\f.2=(iJ n k).2)/\(f.2=d->aP f.1 (fk f.1 e (d=(iJ n k).2)))))) (0:Int) (iJ n k).1 (eD n.c.st (vo.mk n.c.me k (n.nx.getD k.toNat (c4 Sh.int)) n.c.b8 n.c.bin)));repeat' first|(with_reducible first|apply aH|refine aI ?_|intro)|exact aZ|exact rfl|exact(o9 ep.kind (mX ap)).symm|exact(o9 ep.l5 (mX ap)).symm|exact(o9 ep.to (mX ap)).symm|exact(o9 ep.a8 (mX ap)).symm|exact(o9 ep.a (mX ap)).symm|exact(o9 ep.b (mX ap)).symm|exact(o9 ep.c (mX ap)).symm|exact(o9 ep.bin (mX ap)).symm|exact(o9 ep.ok (mX ap)).symm|exact(o9 ep.l (mX ap)).symm|exact(Eq.symm ap)|exact(o9 ep.l (mX ap))
def ZO:CK 16 (aD dA tj λ_ n=>{rs:=[.agg (cellsOf (.nm .site) (mY n))]}):=ag λ_ n _=>by
 refine al kY [] func16 (?_:(λa b=>(λe=>(n.d.down=true->false=b.up/\a=b.ee/\a=b.binary/\a=b.floor/\a=b.a8/\a=b.hQ/\a=b.b8/\a=b.b5/\b.log=[]/\a=e.bo/\a=e.next/\a=e.dc/\a=e.eR/\e.c8=[]/\e.eb=[]/\e.c3=[])/\(n.d.down=false->n.c.st.log.length*32<=140737488355328->W n.c.s.bo->W n.c.s.next->W n.c.s.dc->W n.c.s.eR->Oo (Site.mk true n.c.ee n.c.bin n.c.st.floor n.c.st.a8 n.c.st.hQ n.c.b8 n.c.b5 n.c.st.log n.c.s) b)) b.state) (0:Int) (mY n));repeat' first|(with_reducible first|apply aH|refine aI ?_|intro)|exact aZ|(rw[Rw (n:=n) Y]<;>rfl)|(rw[NH (n:=n) Y]<;>rfl)
theorem Uv:CK 19 (aD (ak iD ij) tj λ(_,k,t,_) n=>{pre:=[n.c.b5<=n.c.st.log.length,n.c.b5<=n.rp.length],rs:=[.agg (cellsOf (.nm .l8) ((gS n k t).1)),.c (.int ((gS n k t).2))]}):=ag λ(_,k,t,_) n j=>by
 have m:=bw j;have o:=bw (de j);refine al kY [] func19 (?_:(λl f i a e=>(λg h=>W k->W t->(n.d.down=true->f=a.1.code/\f=a.1.n/\30=a.2)/\(n.d.down=false->(i->W e/\f<=e/\e<(l.length:Int))/\((i->W g.a8/\g.b.length*1<=140737488355328)->((k<1\/n.c.b5<k)\/¬g.a8=t->f=a.1.code/\f=a.1.n/\15=a.2)/\(i/\g.a8=t->W e/\f<=e/\e<(n.rp.length:Int)/\(W h.code->W h.n->h.code=a.1.code/\h.n=a.1.n/\f=a.2))))) (l.getD e.toNat (c4 (Sh.nm NT.entry))) (n.rp.getD e.toNat (c4 (Sh.nm NT.l8)))) n.c.st.log (0:Int) (1<=k/\k<=n.c.b5) (gS n k t) (k-1));repeat' first|(with_reducible first|apply aH|refine aI ?_|intro)|exact aZ|(exact aY N (by have q:=(by with_reducible assumption:W k).2;omega))|(rw[alS (n:=n) Y]<;>rfl)|(rw[anO (n:=n) Y Y]<;>rfl)|(rw[anK (n:=n) Y Y Y Y]<;>rfl)
def Zm:CK 18 (aD dA tj λ_ n=>{pre:=[n.d.OK],rs:=[.c (.fz .u8 n.d.b)]}):=ag λ_ n a=>by
 have e:=bw a;refine al kY [] func18 (?_:(0<=n.d.b7/\n.d.b7<=(n.d.b.length:Int)/\n.d.b.length<=65536)/\n.d.b=n.d.b);obtain⟨f,g,h⟩:=id e;repeat' first|(with_reducible first|apply aH|refine aI ?_|intro)|exact aZ|exact rfl
theorem MG:CK 117 (aD dA tj λ_ n=>⟨[(0<=n.c.b5/\n.c.b8<=(n.c.st.log.length:Int))/\(n.rp.length:Int)<=n.c.b5/\n.c.st.log.length<=10000],[],some (om n.apply),false⟩):=ag λ_ n l=>by
 have j:=bw l;refine bh kY (Xr n) func117 (?_:(λm=>∃k,cT n k/\AJ n k/\∀(s:Nd),(λa=>(λe b=>(λf=>(λg=>(λh=>AJ n s->(b<a.b8->W f/\(0<=b/\b<=f/\f<=(a.st.log.length:Int))/\(W h.bo->W h.next->W h.dc->W h.eR->W (pE e g)->(¬pE e g=0->cT s n.apply)/\(pE e g=0->(s.rp.length+(B3 e a.s g).length)*16<=140737488355328/\W f/\∃i,cT (Nd.mk (w8.mk a.me a.ea e a.st a.ee a.b8 f h) s.d (s.rp++B3 e a.s g) s.vs s.bn s.nx s.mt) i/\AJ n i/\(i.c.b8-i.c.b5).toNat<(a.b8-b).toNat)))/\(a.b8<=b->cT s n.apply)) (x8 e a.s g)) (take (f.toNat-b.toNat) (drop b.toNat a.st.log))) (b+m)) a.bin a.b5) s.c) (1:Int));obtain⟨o,p⟩:=id j;(repeat' with_reducible first|apply aH|refine aI ?_|intro)
 all_goals try(refine⟨n,?_⟩;(repeat' with_reducible first|apply aH|refine aI ?_|intro))
 all_goals try(refine⟨(‹Nd›).V4,?_⟩;(repeat' with_reducible first|apply aH|refine aI ?_|intro))
 all_goals(first|exact aZ|exact rfl|exact(ahG (n:=n) j)|exact aiI Y|exact(akm Y Y)|exact(agJ Y Y)|exact(an_ Y Y)|exact(ajW Y)|exact(aiY Y Y Y)|(rw[agC Y Y Y]<;>rfl)|(rw[als Y Y]<;>rfl))
def pq:=(ae MG (ae Zm (ae Uv (ae ZO (ae Jq kY)))))
section
variable{n:Nd}{l:List Int}{x:Int}{k:Nat}
theorem ac1:∀{l:List Int},(db n l).2=0->db n (l++[x])=if(iJ n x).2=0 then((db n l).1++[(iJ n x).1],0)else([],(iJ n x).2)
 |[],_=>by
  by_cases h:(iJ n x).2=0
  .rw[O h];simp[db,h]
  rw[X h];simp[db,h]
 |t::l,h=>by
  unfold db at h;split at h
  .rename_i a;split at h
   .rename_i b;rw[E4,db,O a,ac1 b];by_cases c:(iJ n x).2=0
    .rw[O c,O c,O rfl,db,O a,O b];rfl
    grind
   grind
  grind
theorem aje:∀{l m:List Int},¬(db n l).2=0->db n (l++m)=([],(db n l).2)
 |t::l,m,h=>by
  unfold db at h⊢;rw[E4];dsimp only;split at h
  .rename_i a;split at h
   .grind
   simp_all[aje]
  grind
theorem MK:∀{l:List Int},(db n l).1.length<=l.length
 |[]=>tw _
 |t::l=>by
  have:=MK (l:=l);unfold db;grind
def alB(h:n.d.down=true):cM n=([],30):=O h
def alx(h:n.d.down=false)(a:¬n.c.ee=2):cM n=([],33):=by
 rw[cM,X (by rw[h];decide),X a]
def afS(h:n.d.down=false)(a:n.c.ee=2):cM n=db n (dI n.c):=by
 rw[cM,X (by rw[h];decide),O a]
def anZ(h:n.d.down=false)(f:n.c.ee=2)(g:(db n ((dI n.c).take k)).2=0)(i:(dI n.c)[k]? =some x)(b:¬(iJ n x).2=0):cM n=([],(iJ n x).2):=by
 have e:dI n.c=(dI n.c).take k++[x]++(dI n.c).drop (k+1):=by
  rw[<-ah i,E7]
 have a:=ac1 (x:=x) g;rw[X b]at a;rw[afS h f,e,aje (by rw[a];exact b),a]
theorem ap_(h:n.d.down=false)(a:n.c.ee=2)(b:(db n ((dI n.c).take k)).2=0)(e:((dI n.c).length:Int)<=k):cM n=((db n ((dI n.c).take k)).1,0):=by
 rw[afS h a,take_of_length_le N]at*;grind
def ah8(a:(db n ((dI n.c).take k)).2=0)(b:(dI n.c)[k]? =some x)(d:(iJ n x).2=0):(db n ((dI n.c).take k)).1++[(iJ n x).1]=(db n ((dI n.c).take (k+1))).1/\(db n ((dI n.c).take (k+1))).2=0:=by
 rw[ah b,ac1 a,O d];exact⟨rfl,rfl⟩
theorem aqB{y:ep}(a:n.c.ea<=5):((db n ((dI n.c).take k)).1.length+[y].length)*96<=140737488355328:=by
 have b:=MK (n:=n) (l:=(dI n.c).take k);have d:(dI n.c).length<=n.c.ea.toNat:=nT;grind
def aaK{n:w8}(a:(dI n)[k]? =some x):x≠n.me/\0<=x/\x<n.ea:=t_ (List.mem_iff_getElem?.2 ⟨k,a⟩)
def an8(h:n.c.ee=0\/(n.nx.length:Int)=n.c.ea)(b:n.c.ee=2)(a:(dI n.c)[k]? =some x):x<(n.nx.length:Int):=by
 have:=aaK a;omega
end
section
variable{n:Nd}{c:b6}
def jP{b:Bool}(h:b=false):¬b=true:=by rw[h];decide
def agy(h:n.d.down=true):dB n c=⟨n,0,0,30⟩:=O h
def aiV(h:n.d.down=false)(a:¬n.c.ee=2):dB n c=⟨n,0,0,33⟩:=by rw[dB,X (jP h),O a]
def ahI(h:n.d.down=false)(b:n.c.ee=2)(a:¬aO c n.c.s.bo=0):dB n c=⟨n,0,0,aO c n.c.s.bo⟩:=by rw[dB,X (jP h),X N,O a]
variable(h:n.d.down=false)(h1:n.c.ee=2)(h2:aO c n.c.s.bo=0)
include h h1 h2
def akD(a:c.kind=8)(b:¬c.n=n.c.s.bo+1):dB n c=⟨n,0,0,1⟩:=by rw[dB,X (jP h),X N,X N,O ⟨a,b⟩]
def ahv(d:¬c.kind=8\/c.n=n.c.s.bo+1)(a:c.kind=8)(b:eQ n.c.s.bo n.bn=false):dB n c=⟨n,0,0,34⟩:=by rw[dB,X (jP h),X N,X N,X N,O ⟨a,b⟩]
variable(h3:¬c.kind=8\/c.n=n.c.s.bo+1)(h4:¬c.kind=8\/eQ n.c.s.bo n.bn=true)
include h3 h4
theorem Vp:dB n c=if 64<(n.c.st.log.length:Int)+1 then⟨n,0,0,20⟩else if¬(ew c n.c.st.a8 n.c.s.bo).2=0 then⟨n,0,0,(ew c n.c.st.a8 n.c.s.bo).2⟩
 else let l:=[⟨3,(n.c.st.log.length:Int)+1,(ew c n.c.st.a8 n.c.s.bo).1.a8,(ew c n.c.st.a8 n.c.s.bo).1.b⟩]
  if n.aB l=0 then⟨n.fl l,(n.c.st.log.length:Int)+1,n.c.st.a8,0⟩else⟨n.fl l,0,0,n.aB l⟩:=by
 rw[dB,X (jP h),X N,X N,X N,X];grind
def al5(a:64<(n.c.st.log.length:Int)+1):dB n c=⟨n,0,0,20⟩:=by rw[Vp h h1 h2 h3 h4,O a]
variable(h5:(n.c.st.log.length:Int)+1<=64)
include h5
def arM(a:¬(ew c n.c.st.a8 n.c.s.bo).2=0):dB n c=⟨n,0,0,(ew c n.c.st.a8 n.c.s.bo).2⟩:=by rw[Vp h h1 h2 h3 h4,X N,O a]
def akS(d:(ew c n.c.st.a8 n.c.s.bo).2=0)(a:¬n.aB [⟨3,(n.c.st.log.length:Int)+1,(ew c n.c.st.a8 n.c.s.bo).1.a8,(ew c n.c.st.a8 n.c.s.bo).1.b⟩]=0):dB n c=⟨n.fl [⟨3,(n.c.st.log.length:Int)+1,(ew c n.c.st.a8 n.c.s.bo).1.a8,(ew c n.c.st.a8 n.c.s.bo).1.b⟩],0,0,n.aB [⟨3,(n.c.st.log.length:Int)+1,(ew c n.c.st.a8 n.c.s.bo).1.a8,(ew c n.c.st.a8 n.c.s.bo).1.b⟩]⟩:=by rw[Vp h h1 h2 h3 h4,X N,X N];exact X a
def ahx(d:(ew c n.c.st.a8 n.c.s.bo).2=0)(a:n.aB [⟨3,(n.c.st.log.length:Int)+1,(ew c n.c.st.a8 n.c.s.bo).1.a8,(ew c n.c.st.a8 n.c.s.bo).1.b⟩]=0):dB n c=⟨n.fl [⟨3,(n.c.st.log.length:Int)+1,(ew c n.c.st.a8 n.c.s.bo).1.a8,(ew c n.c.st.a8 n.c.s.bo).1.b⟩],(n.c.st.log.length:Int)+1,n.c.st.a8,0⟩:=by rw[Vp h h1 h2 h3 h4,X N,X N];exact O a
end
section
variable{n:Nd}{x:ep}
def aqs(h:¬(aA n.c.st x).2.2=0):dF n x=⟨n,[],(aA n.c.st x).2.2⟩:=O h
def agz(h:(aA n.c.st x).2.2=0)(a:¬n.aB (aA n.c.st x).1=0):dF n x=⟨n.fl (aA n.c.st x).1,[],n.aB (aA n.c.st x).1⟩:=by rw[dF,X N,O a]
def ak6(h:(aA n.c.st x).2.2=0)(a:n.aB (aA n.c.st x).1=0):dF n x=⟨n.fl (aA n.c.st x).1,[{lU (n.fl (aA n.c.st x).1).c 2 x.l5 with ok:=(aA n.c.st x).2.1}],0⟩:=by rw[dF,X N,X N]
theorem IL{s:b9}:(aA s x).1.length<=1000:=by
 have h:=gA (s:=s) (t:=x.a8);unfold aA;grind
end
def acu(n:Nd):List (Nat×LI):=[(7,{σ:=Nat,F:=λk=>([(0,one (.ptr 0 0)),(4,one (.own 8)),(21,one (.fz .int (dI n.c))),(22,one (.int (dI n.c).length)),(23,one (.int k))],(om (n)++[.row 34 (.nm .letter) ((db n ((dI n.c).take k)).1)])),J:=λk=>k<=(dI n.c).length/\(db n ((dI n.c).take k)).2=0,μ:=λk=>(dI n.c).length-k})]
theorem XJ:CK 41 (aD dA tj λ_ n=>{pre:=[n.c.ea<=5,n.c.ee=0\/(n.nx.length:Int)=n.c.ea],rs:=[.c (.fz (.nm .letter) ((cM n).1)),.c (.int ((cM n).2))]}):=ag λ_ n k=>by
 have l:=bw k;have m:=bw (de k);refine al pq (acu n) func41 (?_:(λ(i:Prop)(e:Int)(a:List Int)=>(λ(b:Nat)=>(n.d.down=true->i/\30=(cM n).2)/\(n.d.down=false->(¬n.c.ee=2->i/\33=(cM n).2)/\(n.c.ee=2->n.c.ea<=5/\(a.length*8<=140737488355328->∃(g:Nat),(a=a/\(a.length:Int)=(b:Int)/\e=(g:Int)/\wE n n ((db n (take g a)).1=[]))/\(g<=b/\(db n (take g a)).2=e)/\∀(s:Nat),(λ(j:List ep)=>s<=b/\(db n (take s a)).2=e->((s:Int)<(b:Int)->e<=(s:Int)/\(s:Int)<(a.length:Int)/\∀(x:Int),(λ(h:Int)=>a[s]? =some x->W x->(e<=x/\x<(n.nx.length:Int))/\aP (iJ n x).1 (W h->(¬h=e->i/\h=(cM n).2)/\(h=e->(j.length+[(iJ n x).1].length)*96<=140737488355328/\W ((s:Int)+1)/\∃(f:Nat),(a=a/\(b:Int)=(b:Int)/\(s:Int)+1=(f:Int)/\wE n n (j++[(iJ n x).1]=(db n (take f a)).1))/\(f<=b/\(db n (take f a)).2=e)/\b-f<b-s))) (iJ n x).2)/\((b:Int)<=(s:Int)->j=(cM n).1/\e=(cM n).2)) (db n (take s a)).1)))) a.length) ((cM n).1=[]) 0 (dI n.c));repeat' first|(with_reducible first|apply aH|refine aI ?_|intro)|exact aZ|exact rfl|exact(ah8 Y Y Y).1|exact(ah8 Y Y Y).2|exact(aqB l)|exact(aaK Y).2.1|exact(an8 m Y Y)|(rw[alB (n:=n) Y]<;>rfl)|(rw[alx (n:=n) Y Y]<;>rfl)|(rw[anZ (n:=n) Y Y Y Y Y]<;>rfl)|(rw[ap_ (n:=n) Y Y Y Y]<;>rfl)|refine⟨‹Nat›+1,?_⟩|refine⟨0,?_⟩
theorem Xq:CK 44 (aD xF tj λ(_,c,_) n=>⟨[p5 n],[.c (.int ((dB n c).a)),.c (.int ((dB n c).b)),.c (.int ((dB n c).e))],some (om ((dB n c).n)),false⟩):=ag λ(_,c,_) n t=>by
 have r:=bw t;refine bh pq [] func44 (?_:(λo j=>(λq p h i f=>(λg k l m=>bf c ((n.d.down=true->l/\k/\30=f.e/\g)/\(n.d.down=false->(¬n.c.ee=2->l/\k/\33=f.e/\g)/\(n.c.ee=2->W (aO c j)->(¬aO c j=h->l/\k/\aO c j=f.e/\g)/\(aO c j=h->(o->W q)/\(o/\¬c.n=q->l/\k/\1=f.e/\g)/\(¬o\/c.n=q->(o/\eQ j n.bn=false->l/\k/\34=f.e/\g)/\(¬o\/eQ j n.bn=true->W p/\(64<p->l/\k/\20=f.e/\g)/\(p<=64->W i.1.a8->i.1.b.length*1<=140737488355328->W i.2->(¬i.2=h->l/\k/\i.2=f.e/\g)/\(i.2=h->(h<=n.d.b7/\n.d.b7<=(n.d.b.length:Int)/\n.d.b.length<=65536)/\n.c.st.log.length<=10000/\m.length<=1000/\(W (n.aB m)->(¬n.aB m=h->l/\k/\n.aB m=f.e/\cT (n.fl m) f.n)/\(n.aB m=h->p=f.a/\n.c.st.a8=f.b/\h=f.e/\cT (n.fl m) f.n))))))))))) (cT n f.n) (h=f.b) (h=f.a) [dm.mk 3 p i.1.a8 i.1.b]) (j+1) ((n.c.st.log.length:Int)+1) (0:Int) (ew c n.c.st.a8 j) (dB n c)) (c.kind=8) n.c.s.bo);obtain⟨u,v,w⟩:=id r.d;have x:=r.log;repeat' first|(with_reducible first|apply aH|refine aI ?_|intro)|exact aZ|(simp only[x7,B2];omega)|(have i:=(tV (by with_reducible assumption:aO c n.c.s.bo=0)).1;exact aY N N)|(rw[agy (n:=n) Y]<;>rfl)|(rw[aiV (n:=n) Y Y]<;>rfl)|(rw[ahI (n:=n) Y Y Y]<;>rfl)|(rw[akD (n:=n) Y Y Y Y Y]<;>rfl)|(rw[ahv (n:=n) Y Y Y Y Y Y]<;>rfl)|(rw[al5 (n:=n) Y Y Y Y Y Y]<;>rfl)|(rw[arM (n:=n) Y Y Y Y Y Y Y]<;>rfl)|(rw[akS (n:=n) Y Y Y Y Y Y Y Y]<;>rfl)|(rw[ahx (n:=n) Y Y Y Y Y Y Y Y]<;>rfl)
def nr:=ak iD tn
def Ox:CK 69 (aD nr tj λ(_,x,_) n=>⟨[p5 n],[.c (.fz (.nm .letter) ((dF n x).l)),.c (.int ((dF n x).e))],some (om ((dF n x).n)),false⟩):=ag λ(_,x,_) n m=>by
 have k:=bw m;refine bh pq [] func69 (?_:(λi h f=>(λj g=>aP x (f.1.length*48<=140737488355328->W f.2.2->(¬f.2.2=i->h.l=[]/\f.2.2=h.e/\cT n h.n)/\(f.2.2=i->(i<=n.d.b7/\n.d.b7<=(n.d.b.length:Int)/\n.d.b.length<=65536)/\n.c.st.log.length<=10000/\f.1.length<=1000/\(W j->(¬j=i->h.l=[]/\j=h.e/\cT (n.fl f.1) h.n)/\(j=i->aP g ([ep.mk g.kind g.l5 g.to g.a8 g.a g.b g.c g.bin f.2.1 g.l]=h.l/\i=h.e/\cT (n.fl f.1) h.n)))))) (n.aB f.1) (lU (n.fl f.1).c 2 x.l5)) (0:Int) (dF n x) (aA n.c.st x));obtain⟨o,p,q⟩:=id k.d;have r:=k.log;repeat' first|(with_reducible first|apply aH|refine aI ?_|intro)|exact aZ|exact IL|(rw[aqs (n:=n) Y]<;>rfl)|(rw[agz (n:=n) Y Y]<;>rfl)|(rw[ak6 (n:=n) Y Y]<;>rfl)
def vG:=(ae Ox (ae Xq (ae XJ pq)))
section
variable{n:Nd}{k:Nat}{y:Int}
theorem xI{s:b9}{m:Int}:(ax s m).1.length<=1000:=by
 unfold ax;grind
def ajj(h:n.d.down=true):bq n=⟨n,[],30⟩:=O h
variable(h:n.d.down=false)
include h
def agl(a:n.c.ee=2):bq n=⟨n,[],0⟩:=by rw[bq,X (jP h),O a]
variable(h1:¬n.c.ee=2)
include h1
def agN(a:¬(ax n.c.st n.c.me).2=0):bq n=⟨n,[],(ax n.c.st n.c.me).2⟩:=by rw[bq,X (jP h),X h1,O a]
variable(h2:(ax n.c.st n.c.me).2=0)
include h2
def aja(a:¬n.aB (ax n.c.st n.c.me).1=0):bq n=⟨n.fl (ax n.c.st n.c.me).1,[],n.aB (ax n.c.st n.c.me).1⟩:=by rw[bq,X (jP h),X h1,X N,O a]
variable(h3:n.aB (ax n.c.st n.c.me).1=0)
include h3
def abF:bq n=⟨(n.fl (ax n.c.st n.c.me).1).fi,hP (n.fl (ax n.c.st n.c.me).1).fi.c,0⟩:=by rw[bq,X (jP h),X h1,X N,X N]
def apy(a:((dI (n.fl (ax n.c.st n.c.me).1).fi.c).length:Int)<=k):(hP (n.fl (ax n.c.st n.c.me).1).fi.c).take k=(bq n).l:=by
 rw[abF h h1 h2 h3];exact take_of_length_le (by unfold hP;rw[K9];omega)
end
section
variable{c:w8}{k:Nat}{y:Int}{z:ep}
theorem ane(a:c.ea<=5):(((hP c).take k).length+[z].length)*96<=140737488355328:=by
 have b:(dI c).length<=c.ea.toNat:=nT;rw[sh,hP,K9];grind
def aq2(a:(k:Int)<((dI c).length:Nat))(b:c.ea<=5):W ((k:Int)+1):=by
 have d:(dI c).length<=c.ea.toNat:=nT;exact aY N N
def ana(d:(dI c)[k]? =some y):(hP c).take k++[ep.mk (lU c 1 y).kind (lU c 1 y).l5 (lU c 1 y).to (lU c 1 y).a8 c.st.log.length (eL c.st.log) (lU c 1 y).c (lU c 1 y).bin (lU c 1 y).ok (lU c 1 y).l]=(hP c).take (k+1):=by
 have:(hP c)[k]? =some {lU c 1 y with a:=c.st.log.length,b:=eL c.st.log}:=by
  unfold hP;rw[X4,d];rfl
 rw[ah this]
end
section
variable{n:Nd}{x:ep}
def aoa(h:¬(aq n.c.st x).2.2.2=0):cN n x=⟨n,[],(aq n.c.st x).2.2.2⟩:=O h
variable(h:(aq n.c.st x).2.2.2=0)
include h
def ai2(a:¬n.aB (aq n.c.st x).1=0):cN n x=⟨n.fl (aq n.c.st x).1,[],n.aB (aq n.c.st x).1⟩:=by rw[cN,X N,O a]
variable(h1:n.aB (aq n.c.st x).1=0)
include h1
def alo(b:x.a8=(n.fl (aq n.c.st x).1).c.st.a8)(d:(aq n.c.st x).2.1=true):cN n x=⟨({(n.fl (aq n.c.st x).1)with c:={(n.fl (aq n.c.st x).1).c with ee:=0,b8:=max (n.fl (aq n.c.st x).1).c.b8 (min x.c (aq n.c.st x).2.2.1)}}:Nd).apply,[{lU {(n.fl (aq n.c.st x).1).c with ee:=0} 4 x.l5 with ok:=(aq n.c.st x).2.1,a:=(aq n.c.st x).2.2.1}],0⟩:=by
 rw[cN,X N,X N,d];dsimp only;rw[O b];rfl
theorem ahl(d:¬x.a8=(n.fl (aq n.c.st x).1).c.st.a8)(b:(aq n.c.st x).2.1=true):cN n x=⟨({(n.fl (aq n.c.st x).1)with c:={(n.fl (aq n.c.st x).1).c with b8:=max (n.fl (aq n.c.st x).1).c.b8 (min x.c (aq n.c.st x).2.2.1)}}:Nd).apply,[{lU (n.fl (aq n.c.st x).1).c 4 x.l5 with ok:=(aq n.c.st x).2.1,a:=(aq n.c.st x).2.2.1}],0⟩:=by
 rw[cN,X N,X N,b];grind
def ahM(b:x.a8=(n.fl (aq n.c.st x).1).c.st.a8)(d:(aq n.c.st x).2.1=false):cN n x=⟨(n.fl (aq n.c.st x).1).follow,[{lU {(n.fl (aq n.c.st x).1).c with ee:=0} 4 x.l5 with ok:=(aq n.c.st x).2.1,a:=min 64 ((n.fl (aq n.c.st x).1).c.st.log.length:Int)}],0⟩:=by
 rw[cN,X N,X N,d];dsimp only;rw[O b,X am];split
 .rfl
 rename_i q;exact absurd b q
theorem agG(b:¬x.a8=(n.fl (aq n.c.st x).1).c.st.a8)(a:(aq n.c.st x).2.1=false):cN n x=⟨n.fl (aq n.c.st x).1,[{lU (n.fl (aq n.c.st x).1).c 4 x.l5 with ok:=(aq n.c.st x).2.1}],0⟩:=by
 rw[cN,X N,X N,a];dsimp only;split
 .grind
 rfl
end
variable{x:ep}
theorem xZ{s:b9}:(aq s x).1.length<=1000:=by
 by_cases h:(aq s x).2.2.2=0
 .obtain⟨⟨b,_⟩,a⟩:=iw h;rcases a with⟨_,e⟩|⟨_,_,e⟩|⟨_,_,e⟩<;>rw[e]
  .simp
  .grind[xW]
  grind[gA]
 have e:aq s x=([],false,0,1):=by
  unfold aq at h⊢;grind
 rw[e];simp
def KW(n:Nd):List (Nat×LI):=[(17,{σ:=Nat,F:=λk=>([(0,one (.ptr 0 0)),(7,one (.int (n.fl (ax n.c.st n.c.me).1).c.st.log.length)),(8,one (.int (eL (n.fl (ax n.c.st n.c.me).1).c.st.log))),(9,one (.own 12)),(113,one (.fz .int (dI (n.fl (ax n.c.st n.c.me).1).fi.c))),(114,one (.int (dI (n.fl (ax n.c.st n.c.me).1).fi.c).length)),(115,one (.int k))],[.box 83 (SZ 0 ((n.fl (ax n.c.st n.c.me).1).fi.c)++[.own 3,.own 8,.own 9,.own 10,.own 11]),.box 115 ([.own 2,.int ((n.fl (ax n.c.st n.c.me).1).fi.d.b7),.bool (.atom ((n.fl (ax n.c.st n.c.me).1).fi.d.down)),.bool (.atom ((n.fl (ax n.c.st n.c.me).1).fi.d.c9)),.int ((n.fl (ax n.c.st n.c.me).1).fi.d.dc)]),.row 5 .u8 ((n.fl (ax n.c.st n.c.me).1).fi.d.b),.row 72 (.nm .l8) n.rp,.row 4 .bool n.vs,.row 3 .int n.bn,.row 3 .int n.nx,.row 3 .int n.mt,.row 4 .bool ((n.fl (ax n.c.st n.c.me).1).fi.vs),.row 3 .int ((n.fl (ax n.c.st n.c.me).1).fi.bn),.row 3 .int ((n.fl (ax n.c.st n.c.me).1).fi.nx),.row 3 .int ((n.fl (ax n.c.st n.c.me).1).fi.mt),.row 34 (.nm .letter) ((hP (n.fl (ax n.c.st n.c.me).1).fi.c).take k)]),J:=λk=>k<=(dI (n.fl (ax n.c.st n.c.me).1).fi.c).length,μ:=λk=>(dI (n.fl (ax n.c.st n.c.me).1).fi.c).length-k})]
theorem Fk:CK 9 (aD dA tj λ_ n=>⟨[p5 n],[.c (.fz (.nm .letter) ((bq n).l)),.c (.int ((bq n).e))],some (om ((bq n).n)),false⟩):=ag λ_ n I=>by
 have w:=bw I;refine bh vG (KW n) func9 (?_:(λ(p:Int)(k:B7)(A:Int)(v:List dm×Int)=>(λ(C:Int)(q:Nd)=>(λ(m:w8)=>(λ(h:Int)(D:List eA)=>(λ(r:Int)(u:Int)(o:Int)=>(λ(t:List (l7 Sh.int))=>(λ(y:List Int)(z:Prop)(j:Nd)=>(λ(f:j9)(a:w8)=>(λ(g:Nat)=>(n.d.down=true->k.l=[]/\(30:Int)=k.e/\cT n k.n)/\(n.d.down=false->(n.c.ee=(2:Int)->k.l=[]/\p=k.e/\cT n k.n)/\(¬n.c.ee=(2:Int)->n.c.st.a8<=(1048576:Int)/\(v.1.length*(48:Nat)<=(140737488355328:Nat)->W v.2->(¬v.2=p->k.l=[]/\v.2=k.e/\cT n k.n)/\(v.2=p->(p<=n.d.b7/\n.d.b7<=(n.d.b.length:Int)/\n.d.b.length<=(65536:Nat))/\n.c.st.log.length<=(10000:Nat)/\v.1.length<=(1000:Nat)/\(W C->(¬C=p->k.l=[]/\C=k.e/\cT q k.n)/\(C=p->(p<=o/\o*(↑(1:Nat):Int)<=(140737488355328:Int)/\o=o)/\z/\z/\z/\(p<=h/\h<(↑(replicate o.toNat (c4 Sh.bool)).length:Int))/\(p<=h/\h<(t.length:Int))/\(W (t.getD h.toNat (c4 Sh.int))->W (D.length:Int)->W r->o<=(5:Int)/\(y.length*(8:Nat)<=(140737488355328:Nat)->∃(G:Nat),((D.length:Int)=u/\r=r/\y=dI a/\(y.length:Int)=(g:Int)/\p=(G:Int)/\h=a.me/\o=a.ea/\m.bin=a.bin/\ai m.st a.st (A=a.ee/\m.b8=a.b8/\m.b5=a.b5/\aw m.s a.s (q.d.b7=f.b7/\q.d.down=f.down/\q.d.c9=f.c9/\q.d.dc=f.dc/\q.d.b=f.b/\q.rp=n.rp/\q.vs=n.vs/\q.bn=n.bn/\q.nx=n.nx/\q.mt=n.mt/\(replicate o.toNat (c4 Sh.bool)).set h.toNat true=j.vs/\t.set h.toNat m.bin=j.bn/\t=j.nx/\t=j.mt/\take G (hP a)=[])))/\G<=g/\∀(s:Nat),s<=g->((s:Int)<(g:Int)->p<=(s:Int)/\(s:Int)<(↑(dI a).length:Int)/\∀(x:Int),(λ(i:ep)=>(λ(B:ep)=>(dI a)[s]? =some x->W x->aP i (((take s (hP a)).length+[B].length)*(96:Nat)<=(140737488355328:Nat)/\W ((s:Int)+A)/\∃(F:Nat),(u=u/\r=r/\dI a=dI a/\(g:Int)=(g:Int)/\(s:Int)+A=(F:Int)/\a.me=a.me/\a.ea=a.ea/\a.bin=a.bin/\ai a.st a.st (a.ee=a.ee/\a.b8=a.b8/\a.b5=a.b5/\aw a.s a.s (f.b7=f.b7/\f.down=f.down/\f.c9=f.c9/\f.dc=f.dc/\f.b=f.b/\n.rp=n.rp/\n.vs=n.vs/\n.bn=n.bn/\n.nx=n.nx/\n.mt=n.mt/\j.vs=j.vs/\j.bn=j.bn/\j.nx=j.nx/\j.mt=j.mt/\take s (hP a)++[B]=take F (hP a))))/\F<=g/\g-F<g-s)) (ep.mk i.kind i.l5 i.to i.a8 u r i.c i.bin i.ok i.l)) (lU a A x))/\((g:Int)<=(s:Int)->take s (hP a)=k.l/\p=k.e/\cT (Nd.mk a f n.rp j.vs j.bn j.nx j.mt) k.n)))))))))) (dI a).length) j.d j.c) (dI (w8.mk h o m.bin m.st A m.b8 m.b5 m.s)) (p<=o/\o*(↑(8:Nat):Int)<=(140737488355328:Int)/\o=o) q.fi) (replicate o.toNat (c4 Sh.int))) (eL D) (D.length:Int) m.ea) m.me m.st.log) q.c) (n.aB v.1) (n.fl v.1)) (0:Int) (bq n) (1:Int) (ax n.c.st n.c.me))
 obtain⟨J,K,L⟩:=id w.d;have b:=w.log;have H:=w.ea;have d:=w.me;have o7:=w.y1;have P:=w.a8;have Q:=w.rp;repeat' first|(with_reducible first|apply aH|refine aI ?_|intro)|exact aZ|exact rfl|exact xI|exact(apy Y Y Y Y Y)|exact(ana Y)|exact(ane H.2)|exact(aq2 (c:=(n.fl (ax n.c.st n.c.me).1).fi.c) Y H.2)|(dsimp only[Nd.fl];omega)|(rw[J6];dsimp only[Nd.fl];omega)|(rw[ajj (n:=n) Y]<;>rfl)|(rw[agl (n:=n) Y Y]<;>rfl)|(rw[agN (n:=n) Y Y Y]<;>rfl)|(rw[aja (n:=n) Y Y Y Y]<;>rfl)|(rw[abF (n:=n) Y Y Y Y]<;>rfl)|refine⟨‹Nat›+1,?_⟩|refine⟨0,?_⟩
def Jc:CK 70 (aD nr tj λ(_,x,_) n=>⟨[p5 n,cm n.c x=true,x.kind=3],[.c (.fz (.nm .letter) ((cN n x).l)),.c (.int ((cN n x).e))],some (om ((cN n x).n)),false⟩):=ag λ(_,x,_) n D=>by
 have u:=bw D;have B:=bw (de D);have C:=bw (de (de D));refine bh vG [] func70 (?_:(λr F j p=>(λv q=>(λo H G i=>(λh=>(λt m w k=>(λy z=>(λA f g=>aP x (r.length*48<=140737488355328->W q.2.1->W q.2.2->(¬q.2.2=p->j.l=[]/\q.2.2=j.e/\cT n j.n)/\(q.2.2=p->(p<=n.d.b7/\n.d.b7<=(n.d.b.length:Int)/\n.d.b.length<=65536)/\n.c.st.log.length<=10000/\r.length<=1000/\(W (n.aB r)->(¬n.aB r=p->j.l=[]/\n.aB r=j.e/\cT i j.n)/\(n.aB r=p->(k->aP g ((o=true->y/\[ep.mk g.kind g.l5 g.to g.a8 q.2.1 g.b g.c g.bin o g.l]=j.l/\v/\cT (Nd.mk (w8.mk h.me h.ea h.bin h.st p t m h.s) i.d i.rp i.vs i.bn i.nx i.mt).apply j.n)/\(o=false->(k->[ep.mk g.kind g.l5 g.to g.a8 w g.b g.c g.bin o g.l]=j.l/\A)/\(¬k->[ep.mk g.kind g.l5 g.to g.a8 g.a g.b g.c g.bin o g.l]=j.l/\A))))/\(¬k->aP f ((o=true->y/\[ep.mk f.kind f.l5 f.to f.a8 q.2.1 f.b f.c f.bin o f.l]=j.l/\v/\cT (Nd.mk (w8.mk h.me h.ea h.bin h.st h.ee t m h.s) i.d i.rp i.vs i.bn i.nx i.mt).apply j.n)/\(o=false->(k->[ep.mk f.kind f.l5 f.to f.a8 w f.b f.c f.bin o f.l]=j.l/\v/\cT i j.n)/\(¬k->[ep.mk f.kind f.l5 f.to f.a8 f.a f.b f.c f.bin o f.l]=j.l/\v/\cT i j.n))))))))) (v/\cT (Nd.mk z i.d i.rp i.vs i.bn i.nx i.mt) j.n) (lU h G F) (lU z G F)) ((p<=m/\t<=(h.st.log.length:Int))/\(i.rp.length:Int)<=m/\h.st.log.length<=10000) (w8.mk h.me h.ea h.bin h.st p h.b8 m h.s)) (max h.b8 H) h.b5 (min 64 (h.st.log.length:Int)) (x.a8=h.st.a8)) i.c) q.1 (min x.c q.2.1) (4:Int) (n.fl r)) (p=j.e) (aq n.c.st x).2) (aq n.c.st x).1 x.l5 (cN n x) (0:Int));obtain⟨I,J,K⟩:=id u.d;have L:=u.log;repeat' first|(with_reducible first|apply aH|refine aI ?_|intro)|exact aZ|exact xZ|exact(CT u B C Y Y).1.1|exact(CT u B C Y Y).1.2|exact(CT u B C Y Y).2.1|exact(CT u B C Y Y).2.2|(rw[aoa (n:=n) Y]<;>rfl)|(rw[ai2 (n:=n) Y Y]<;>rfl)|(rw[alo (n:=n) Y Y Y Y]<;>rfl)|(rw[ahl (n:=n) Y Y Y Y]<;>rfl)|(rw[ahM (n:=n) Y Y Y Y]<;>rfl)|(rw[agG (n:=n) Y Y Y Y]<;>rfl)
def wx:=(ae Jc (ae Fk vG))
theorem r8.cut{P:Program}{shp:TypeId->Option Sh}{f:Nat}{args p:List oh}{k A I:AH}{pre:List Prop}(m:Nat)(L:lV (x4 0 m)=true)(Z:jc A (x4 0 m) (x4 0 m)=true)(m3:ru (posOf · (x4 0 m)) (nj A (x4 0 m))=I)(q:∀o∈k.drop m,∃t s B,o=AO.row t s B)(C:∀(c Q:Cx) (D d:List RE) u,hY (eh c D) p u->hY (eh Q d) p u)(h:r8 P shp f args k ⟨pre,p,some A,false⟩):r8 P shp f args k ⟨pre,p,some I,false⟩:=by
 refine⟨h.1,λG D w S T F U=>(h.2 G D w S T F U).mono ?_⟩;rintro v w' ⟨u,V,d,H,e,R,E,k5⟩;obtain⟨J,m2⟩:=H.sub (σ:=x4 0 m) (Z':=G.Z) L Z H.z (λ_ h _=>h) (λb y=>by
  obtain⟨i,r,a,z⟩:=iT y;exact(H.u0 i r b a z).2.2)
 rw[m3]at J;refine⟨u,V,eu d (x4 0 m),J,⟨e.os,e.tape,e.output,e.size,λb K y=>⟨λh=>(e.z7 b K y).1 (iT h),(e.z7 b K y).2⟩⟩,λi g h=>?_,C _ _ _ _ _ E,λh=>by cases h⟩;have l:i<k.length:=by
  have a:=(sy.1 h).1;have h3:=F.obj.length;omega
 by_cases n:i<m
 .refine(yI (j:=i) (i:=i) ?_).trans (o9 some (getD_some (R i g h)));rw[tX n,A3]
 obtain⟨t,s,B,x⟩:=q (k[i]) (List.mem_iff_getElem?.2 ⟨i-m,by rw[D1,show m+(i-m)=i by omega,r5 l]⟩);obtain⟨r,q,a⟩:=F.at_ (i:=i) (o:=.row t s B) (by rw[r5 l,x]);rw[h]at q;cases q;obtain⟨_,_,a|⟨_,_,_,_,a,_⟩⟩:=a
 .exact absurd a.1 aa
 cases a
def Ww:∀o∈(om n).drop 3,∃t s a,o=AO.row t s a:=by
 intro o h;simp[om,Z4]at h;rcases h with h|h|h|h|h<;>exact⟨_,_,_,h⟩
def afQ{e:Int}(c b:Cx)(f a:List RE)(d:List Value)(h:hY (eh c f) [.c (.int e)] d):hY (eh b a) [.c (.int e)] d:=by
 cases h with|cons g i=>?_
 cases i;cases g with|int j=>exact .cons (show Pd b (.int e) _ from .int j) .nil
def eM(me a:Int):Nd:=⟨⟨me,a,0,p0,0,0,0,⟨0,0,0,0,[],[],[]⟩⟩,⟨[],0,true,false,0⟩,[],[],[],[],[]⟩
def Ws:(j9.mk [] 0 false false 0).bR 0=⟨[],0,true,false,0⟩:=by decide
def Jb:CK 5 (aD ij av λ(me,a,_) _=>⟨[3<=a/\a<=5/\0<=me/\me<a],[.c (.ptr 0 0),.c (.int (0))],some ([.box 83 (SZ 0 ((eM me a).c)++[.em true,.em true,.em true,.em true,.em true]),.box 115 ([.own 2,.int ((eM me a).d.b7),.bool (.atom ((eM me a).d.down)),.bool (.atom ((eM me a).d.c9)),.int ((eM me a).d.dc)]),.row 5 .u8 ((eM me a).d.b)]),true⟩):=ag λ(me,a,_) _ i=>by
 have j:=bw i;refine bU wx [] func5 (?_:(λ(e:Int)=>(λ(h:j9)(g:Nd)=>(λ(f:w8)=>W me->W a->(((a<(3:Int)\/(5:Int)<a)\/me<e)\/a<=me->False/\(1:Int)=e/\False/\False/\g.d.b=[])/\((((3:Int)<=a/\a<=(5:Int))/\e<=me)/\me<a->(e<=e/\e<=(↑(0:Nat):Int)/\(0:Nat)<=(65536:Nat))/\e=e/\me=f.me/\a=f.ea/\e=f.bin/\e=f.st.floor/\e=f.st.a8/\e=f.st.hQ/\f.st.log=[]/\e=f.ee/\e=f.b8/\e=f.b5/\e=f.s.bo/\e=f.s.next/\e=f.s.dc/\e=f.s.eR/\f.s.c8=[]/\f.s.eb=[]/\f.s.c3=[]/\h.b7=g.d.b7/\h.down=g.d.down/\h.c9=g.d.c9/\h.dc=g.d.dc/\h.b=g.d.b)) g.c) ((j9.mk [] e false false e).bR e) (eM me a)) (0:Int));repeat' first|(with_reducible first|apply aH|refine aI ?_|intro)|exact aZ|exact rfl|(rw[Ws]<;>rfl)|(exfalso;omega)
def Yn(me:Int)(a:Int)(f:3<=a/\a<=5/\0<=me/\me<a):r8 prog (bj p6) 5 [.c (.int me),.c (.int a)] [] ⟨[3<=a/\a<=5/\0<=me/\me<a],[.c (.ptr 0 0),.c (.int (0))],some ([.box 83 (SZ 0 ((eM me a).c)++[.em true,.em true,.em true,.em true,.em true]),.box 115 ([.own 2,.int ((eM me a).d.b7),.bool (.atom ((eM me a).d.down)),.bool (.atom ((eM me a).d.c9)),.int ((eM me a).d.dc)]),.row 5 .u8 ((eM me a).d.b)]),true⟩:=Jb _ _ _ rfl (by intro p e;simp only[v7,T1,or_false]at e;subst e;exact f)
def adh(me:Int)(a:Int)(b:3<=a/\a<=5/\0<=me/\me<a):r8 prog (bj p6) 5 [.c (.int me),.c (.int a)] [] ⟨[3<=a/\a<=5/\0<=me/\me<a],[.c (.ptr 0 0),.c (.int (0))],some (om (eM me a)),true⟩:=r8.vk 0 22 3 .int cj rfl rfl (r8.vk 0 21 3 .int cj rfl rfl (r8.vk 0 20 3 .int cj rfl rfl (r8.vk 0 19 4 .bool cj rfl rfl (r8.vk 0 18 72 (.nm .l8) cj rfl rfl (Yn me a b) rfl) rfl) rfl) rfl) rfl
def ad5:CK 5 (aD ij av λ(me,a,_) _=>⟨[3<=a/\a<=5/\0<=me/\me<a],[.c (.ptr 0 0),.c (.int (0))],some (om (eM me a)),true⟩):=ag λ(me,a,_) _ b=>adh me a (bw b)
def PI:CK 31 (aD (ak iD (ak vH bS)) (bl (iX 83 (lNd 0 (bg (R4 true) (bg (R4 true) (bg (R4 true) (bg (R4 true) (bg (R4 true) jf))))))) (bl (iX 115 (bg (iY 2) Rh)) (bl (jL 5 .u8) av))) λ(_,l,_) ((a,_,_,_,_,_,_),(_,f,h,i,j,_),g,_)=>⟨[(j9.mk g f h i j).OK,a.st.log.length<=10000,l.length<=1000],[.c (.int ((Nd.mk a ⟨g,f,h,i,j⟩ [] [] [] [] []).aB l))],some ([.box 83 (SZ 0 (((Nd.mk a ⟨g,f,h,i,j⟩ [] [] [] [] []).fl l).c)++[.em true,.em true,.em true,.em true,.em true]),.box 115 ([.own 2,.int (((Nd.mk a ⟨g,f,h,i,j⟩ [] [] [] [] []).fl l).d.b7),.bool (.atom (((Nd.mk a ⟨g,f,h,i,j⟩ [] [] [] [] []).fl l).d.down)),.bool (.atom (((Nd.mk a ⟨g,f,h,i,j⟩ [] [] [] [] []).fl l).d.c9)),.int (((Nd.mk a ⟨g,f,h,i,j⟩ [] [] [] [] []).fl l).d.dc)]),.row 5 .u8 (((Nd.mk a ⟨g,f,h,i,j⟩ [] [] [] [] []).fl l).d.b)]),false⟩):=ag λ(_,l,_) ((a,_,_,_,_,_,_),(_,f,h,i,j,_),g,_) o=>by
 have r:=bw o;have t:=bw (de o);have u:=bw (de (de o));refine bh wx [] func31 (?_:(λp k=>(λm e=>(λq=>l.length*48<=140737488355328->((0<=f/\f<=(g.length:Int)/\g.length<=65536)/\a.st.log.length<=10000/\l.length<=1000)/\bz k.2.1 (W k.2.2->(¬k.2.2=0->k.2.2=p.aB l/\a.me=e.c.me/\a.ea=e.c.ea/\a.bin=e.c.bin/\ai a.st e.c.st q)/\(k.2.2=0->0=p.aB l/\a.me=e.c.me/\a.ea=e.c.ea/\a.bin=e.c.bin/\ai k.2.1 e.c.st q))) (a.ee=e.c.ee/\a.b8=e.c.b8/\a.b5=e.c.b5/\aw a.s e.c.s (m.b7=e.d.b7/\m.down=e.d.down/\m.c9=e.d.c9/\m.dc=e.d.dc/\m.b=e.d.b))) k.1 (p.fl l)) (Nd.mk a (j9.mk g f h i j) [] [] [] [] []) (ik (j9.mk g f h i j) a.st l));obtain⟨v,w,y⟩:=id r;repeat' first|(with_reducible first|apply aH|refine aI ?_|intro)|exact aZ|exact rfl|exact(Eq.symm Y)|exact(o9 b9.floor (gX Y)).symm|exact(o9 b9.a8 (gX Y)).symm|exact(o9 b9.hQ (gX Y)).symm|exact(o9 b9.log (gX Y)).symm
def uR:=(ae PI (ae ad5 (ae Jb wx)))
theorem an1{m:Nd}(a:m.rp=[])(b:m.vs=[])(e:m.bn=[])(f:m.nx=[])(g:m.mt=[]):om m=om ⟨m.c,m.d,[],[],[],[],[]⟩:=by
 cases m;grind
def apA{p:Prop}{x:Bool}(h:x=true)(a:x=false):p:=by rw[h]at a;cases a
def aaj{b:List UInt8}:(hX b).1.log.length<=10000:=by have:=oM b;omega
def RN{r:dm}:[r].length<=1000:=by simp
section
variable{n:Nd}{b:Int}
def afu(a:p5 n)(h:n.d.down=true):((if n.d.down=true then n.d.up else n.d).cut (hX n.d.b).2).OK:=(rK h a.d).1
def Jm(a:p5 n):(if n.d.down=true then n.d.up else n.d).OK:=by
 split
 .exact aaI a.d
 exact a.d
def agw{p:Prop}(a:p5 n)(h:n.d.down=true)(c:¬(if n.d.down=true then n.d.up else n.d).jq (hX n.d.b).2=0):p:=absurd (rK h a.d).2.1 c
def agL{p:Prop}(h:n.d.down=true)(a:¬(if n.d.down=true then(0:Int) else 31)=0):p:=absurd (O h) a
def af2(a:p5 n)(h:n.d.down=true):((n.fr b).fl [⟨1,b,0,[]⟩]).d.OK:=qU (rK h a.d).1
theorem ami{p:Prop}(h:n.d.down=false\/¬bH b (max (hX n.d.b).1.floor 1)=0)(a:n.d.down=true)(c:bH b (max (hX n.d.b).1.floor 1)=0):p:=by grind
end
def xQ:CK 11 (aD iR tj λ(_,b,_) n=>⟨[p5 n,n.d.down=true,bH b (max (hX n.d.b).1.floor 1)=0],[.c (.int ((bk n b).e))],some ([.box 83 (SZ 0 ((bk n b).n.c)++[.em true,.em true,.em true,.em true,.em true]),.box 115 ([.own 2,.int ((bk n b).n.d.b7),.bool (.atom ((bk n b).n.d.down)),.bool (.atom ((bk n b).n.d.c9)),.int ((bk n b).n.d.dc)]),.row 5 .u8 ((bk n b).n.d.b),.row 72 (.nm .l8) n.rp,.row 4 .bool n.vs,.row 3 .int n.bn,.row 3 .int n.nx,.row 3 .int n.mt]),false⟩):=ag λ(_,b,_) n Q=>by
 have m:=bw Q;have o:=bw (de Q);have P:=bw (de (de Q));refine bh uR [] func11 (?_:(λ(p:Bool)(j:w8)(D:Int)(B:Int)(h:Int)=>(λ(v:Int)=>(λ(F:List (l7 (Sh.nm NT.record)))=>(λ(C:b9×Int)=>(λ(w:Int)(l:Int)(T:w8)(K:Prop)(S:Nd)=>(λ(f:j9)=>(λ(q:Bool)(r:Int)(a:w8)=>(λ(G:Prop)(H:Prop)(I:Prop)(y:Prop)(J:Prop)(z:Prop)=>(λ(L:Prop)(k:j9)=>(λ(i:j9)=>(λ(d:Nd)=>(λ(A:Int)(s:Prop)(t:Nd)=>(λ(g:w8)(u:j9)=>W b->(p=false->(31:Int)=D/\L)/\(p=true->(h<=n.d.b7/\n.d.b7<=(n.d.b.length:Int)/\n.d.b.length<=(65536:Nat))/\n.d.b.length<=(1000000:Nat)/\bz C.1 (W l->W w->(¬w=h->w=D/\L)/\(w=h->W v->(¬v=h->v=D/\y/\z/\G/\ai j.st a.st (H/\I/\J/\aw j.s a.s (False/\False/\False/\False/\False/\k.b7=r/\k.down=f.down/\k.c9=q/\k.dc=f.dc/\k.b=f.b/\K)))/\(v=h->(h<=k.b7/\k.b7<=(k.b.length:Int)/\k.b.length<=(65536:Nat))/\(W (k.jq l)->(¬k.jq l=h->k.jq l=D/\y/\z/\G/\ai j.st a.st (H/\I/\J/\aw j.s a.s (False/\False/\False/\False/\False/\s)))/\(k.jq l=h->W B->W B->W h->W h->(0:Nat)*(32:Nat)<=(140737488355328:Nat)->(0:Nat)*(16:Nat)<=(140737488355328:Nat)->(0:Nat)*(64:Nat)<=(140737488355328:Nat)->(C.1.floor<b->(h<=i.b7/\i.b7<=(i.b.length:Int)/\i.b.length<=(65536:Nat))/\C.1.log.length<=(10000:Nat)/\F.length<=(1000:Nat)/\(W A->(¬A=h->(h<=t.d.b7/\t.d.b7<=(t.d.b.length:Int)/\t.d.b.length<=(65536:Nat))/\A=D/\g.me=a.me/\g.ea=a.ea/\g.bin=a.bin/\ai g.st a.st (g.ee=a.ee/\g.b8=a.b8/\g.b5=a.b5/\aw g.s a.s (u.b7=r/\u.down=f.down/\u.c9=q/\u.dc=f.dc/\u.b=f.b/\K)))/\(A=h->h=D/\g.me=a.me/\g.ea=a.ea/\g.bin=a.bin/\ai g.st a.st (g.ee=a.ee/\g.b8=a.b8/\g.b5=a.b5/\aw g.s a.s (t.d.b7=r/\t.d.down=f.down/\t.d.c9=q/\t.d.dc=f.dc/\t.d.b=f.b/\K)))))/\(b<=C.1.floor->h=D/\y/\z/\b=a.bin/\ai C.1 a.st (h=a.ee/\h=a.b8/\h=a.b5/\aw (c5.mk B B h h [] [] []) a.s s))))))))) t.c (t.d.bR h)) (d.aB F) (i.b7=r/\i.down=f.down/\i.c9=q/\i.dc=f.dc/\i.b=f.b/\K) (d.fl F)) (Nd.mk T i [] [] [] [] [])) (k.cut l)) (y/\z/\G/\ai j.st a.st (H/\I/\J/\aw j.s a.s (False/\False/\False/\False/\False/\n.d.b7=r/\p=f.down/\n.d.c9=q/\n.d.dc=f.dc/\n.d.b=f.b/\K))) (if p=true then n.d.up else n.d)) (j.bin=a.bin) (j.ee=a.ee) (j.b8=a.b8) (j.me=a.me) (j.b5=a.b5) (j.ea=a.ea)) f.c9 f.b7 S.c) S.d) (bH b (max C.1.floor B)) C.2 (w8.mk j.me j.ea b C.1 h h h (c5.mk B B h h [] [] [])) (n.rp=n.rp/\n.vs=n.vs/\n.bn=n.bn/\n.nx=n.nx/\n.mt=n.mt) (bk n b).n) (hX n.d.b)) [dm.mk B b h []]) (if p=true then h else(31:Int))) n.d.down n.c (bk n b).e (1:Int) (0:Int))
 obtain⟨U,V,c⟩:=id m.d;have e:=m.log;repeat' first|(with_reducible first|apply aH|refine aI ?_|intro)|exact aZ|exact(apA o Y)|exact(absurd P Y)|exact(agw m o Y)|exact(agL o Y)|exact aaj|exact RN|exact(afu m o).1|exact(afu m o).2.1|exact(afu m o).2.2|exact(Jm m).1|exact(Jm m).2.1|exact(Jm m).2.2|exact(af2 m o).1|exact(af2 m o).2.1|exact(af2 m o).2.2|(rw[Yz (n:=n) (b:=b) o P Y Y]<;>rfl)|(rw[ZJ (n:=n) (b:=b) o P Y Y]<;>rfl)|(rw[YU (n:=n) (b:=b) o P Y]<;>rfl)
theorem K_(b:Int)(n:Nd)(f:p5 n)(g:n.d.down=true)(h:bH b (max (hX n.d.b).1.floor 1)=0):r8 prog (bj p6) 11 [.c (.ptr 0 0),.c (.int b)] (om n) ⟨[p5 n,n.d.down=true,bH b (max (hX n.d.b).1.floor 1)=0],[.c (.int ((bk n b).e))],some ([.box 83 (SZ 0 ((bk n b).n.c)++[.em true,.em true,.em true,.em true,.em true]),.box 115 ([.own 2,.int ((bk n b).n.d.b7),.bool (.atom ((bk n b).n.d.down)),.bool (.atom ((bk n b).n.d.c9)),.int ((bk n b).n.d.dc)]),.row 5 .u8 ((bk n b).n.d.b),.row 72 (.nm .l8) n.rp,.row 4 .bool n.vs,.row 3 .int n.bn,.row 3 .int n.nx,.row 3 .int n.mt]),false⟩:=xQ _ _ _ rfl (by intro p a;simp only[v7,T1,or_false]at a;rcases a with rfl|rfl|rfl<;>assumption)
def xn:CK 11 (aD iR tj λ(_,b,_) n=>⟨[p5 n,n.d.down=false\/¬bH b (max (hX n.d.b).1.floor 1)=0],[.c (.int ((bk n b).e))],some (om ((bk n b).n)),false⟩):=ag λ(_,b,_) n A=>by
 have B:=bw A;have C:=bw (de A);refine bh uR [] func11 (?_:(λ(z:Bool)(u:Int)(r:Int)(h:Int)=>(λ(p:Int)=>(λ(w:List (l7 (Sh.nm NT.record)))=>(λ(t:b9×Int)=>(λ(j:Int)(q:Int)(o:j9)=>(λ(i:j9)(k:Nd)=>(λ(g:j9)(a:w8)(v:Prop)(y:Nd)=>(λ(l:Nd)=>(λ(f:w8)(m:j9)=>W b->(z=false->(31:Int)=u/\cT n k)/\(z=true->(h<=n.d.b7/\n.d.b7<=(n.d.b.length:Int)/\n.d.b.length<=(65536:Nat))/\n.d.b.length<=(1000000:Nat)/\bz t.1 (W j->W q->(¬q=h->q=u/\cT n k)/\(q=h->W p->(¬p=h->p=u/\cT (Nd.mk n.c o n.rp n.vs n.bn n.nx n.mt) k)/\(p=h->(h<=o.b7/\o.b7<=(o.b.length:Int)/\o.b.length<=(65536:Nat))/\(W (o.jq j)->(¬o.jq j=h->o.jq j=u/\cT (Nd.mk n.c i n.rp n.vs n.bn n.nx n.mt) k)/\(o.jq j=h->W r->W r->W h->W h->(0:Nat)*(32:Nat)<=(140737488355328:Nat)->(0:Nat)*(16:Nat)<=(140737488355328:Nat)->(0:Nat)*(64:Nat)<=(140737488355328:Nat)->(t.1.floor<b->(h<=i.b7/\i.b7<=(i.b.length:Int)/\i.b.length<=(65536:Nat))/\t.1.log.length<=(10000:Nat)/\w.length<=(1000:Nat)/\(W (y.aB w)->(¬y.aB w=h->(h<=l.d.b7/\l.d.b7<=(l.d.b.length:Int)/\l.d.b.length<=(65536:Nat))/\y.aB w=u/\f.me=a.me/\f.ea=a.ea/\f.bin=a.bin/\ai f.st a.st (f.ee=a.ee/\f.b8=a.b8/\f.b5=a.b5/\aw f.s a.s (False/\False/\False/\False/\False/\m.b7=g.b7/\m.down=g.down/\m.c9=g.c9/\m.dc=g.dc/\m.b=g.b/\v)))/\(y.aB w=h->h=u/\f.me=a.me/\f.ea=a.ea/\f.bin=a.bin/\ai f.st a.st (f.ee=a.ee/\f.b8=a.b8/\f.b5=a.b5/\aw f.s a.s (False/\False/\False/\False/\False/\l.d.b7=g.b7/\l.d.down=g.down/\l.d.c9=g.c9/\l.d.dc=g.dc/\l.d.b=g.b/\v)))))/\(b<=t.1.floor->h=u/\n.c.me=a.me/\n.c.ea=a.ea/\b=a.bin/\ai t.1 a.st (h=a.ee/\h=a.b8/\h=a.b5/\aw (c5.mk r r h h [] [] []) a.s (False/\False/\False/\False/\False/\i.b7=g.b7/\i.down=g.down/\i.c9=g.c9/\i.dc=g.dc/\i.b=g.b/\v)))))))))) l.c (l.d.bR h)) (y.fl w)) k.d k.c (n.rp=k.rp/\n.vs=k.vs/\n.bn=k.bn/\n.nx=k.nx/\n.mt=k.mt) (Nd.mk (w8.mk n.c.me n.c.ea b t.1 h h h (c5.mk r r h h [] [] [])) i [] [] [] [] [])) (o.cut j) (bk n b).n) t.2 (bH b (max t.1.floor r)) (if z=true then n.d.up else n.d)) (hX n.d.b)) [dm.mk r b h []]) (if z=true then h else(31:Int))) n.d.down (bk n b).e (1:Int) (0:Int));obtain⟨D,F,G⟩:=id B.d;have H:=B.log;repeat' first|(with_reducible first|apply aH|refine aI ?_|intro)|exact aZ|exact(ami C Y Y)|(rw[abw (n:=n) (b:=b) Y]<;>rfl)|(rw[afZ (n:=n) (b:=b) Y Y]<;>rfl)
theorem xl(b:Int)(n:Nd)(f:p5 n)(g:n.d.down=false\/¬bH b (max (hX n.d.b).1.floor 1)=0):r8 prog (bj p6) 11 [.c (.ptr 0 0),.c (.int b)] (om n) ⟨[p5 n,n.d.down=false\/¬bH b (max (hX n.d.b).1.floor 1)=0],[.c (.int ((bk n b).e))],some (om ((bk n b).n)),false⟩:=xn _ _ _ rfl (by intro p a;simp only[v7,T1,or_false]at a;rcases a with rfl|rfl<;>assumption)
def TU(b:Int)(n:Nd)(a:p5 n):r8 prog (bj p6) 11 [.c (.ptr 0 0),.c (.int b)] (om n) ⟨[p5 n],[.c (.int ((bk n b).e))],some (om ((bk n b).n)),false⟩:=by
 by_cases f:n.d.down=true
 .by_cases g:bH b (max (hX n.d.b).1.floor 1)=0
  .have h:=r8.vk 0 22 3 .int cj rfl rfl (r8.vk 0 21 3 .int cj rfl rfl (r8.vk 0 20 3 .int cj rfl rfl (r8.vk 0 19 4 .bool cj rfl rfl (r8.vk 0 18 72 (.nm .l8) cj rfl rfl (r8.cut 3 rfl cj rfl Ww afQ (K_ b n a f g)) rfl) rfl) rfl) rfl) rfl;obtain⟨i,j,k,l,m⟩:=ark f g;rw[an1 i j k l m];exact⟨h.1,h.2⟩
  have h:=xl b n a (.inr g);exact⟨h.1,h.2⟩
 have h:=xl b n a (.inl (by simpa using f));exact⟨h.1,h.2⟩
def RQ:CK 11 (aD iR tj λ(_,b,_) n=>⟨[p5 n],[.c (.int ((bk n b).e))],some (om ((bk n b).n)),false⟩):=ag λ(_,b,_) n a=>TU b n (bw a)
def By:=(ae RQ (ae xn (ae xQ uR)))
def arb(n:Nd):AH:=.box 24 [.ptr 1 0]::Z4 1 n
def adS:PH Nd:=PH.UQ (bl (iX 24 (bg (tk 1 0) jf)) (ahs 1 av)) (·.2.1) (λn=>(((),()),n,()))
def fL(n:Nd)(r:dm):Bool:=decide (r.kind=4)&&decide (r.a<=n.c.b8)
def QF(n:Nd)(l:List dm):Int:=if l.any (fL n)=true then(l.findIdx (fL n):Int)else -1
section
variable{n:Nd}{l:List dm}{k:Nat}{r:dm}
def akF(h:(l.take k).any (fL n)=false)(a:l[k]? =some r)(b:fL n r=false):(l.take (k+1)).any (fL n)=false:=by
 rw[ah a,List.any_append,h];simp[b]
def aoS(h:(l.take k).any (fL n)=false)(b:l[k]? =some r)(c:fL n r=true):(k:Int)=QF n l:=by
 have a:=sy.1 b;have d:l.any (fL n)=true:=List.any_eq_true.2 ⟨r,C5 b,c⟩;rw[QF,O d];have e:l.findIdx (fL n)=k:=by
  rw[List.findIdx_eq a.1];refine⟨by rw[a.2];exact c,λj f=>?_⟩;have:=List.any_eq_false.1 h (l[j]'(by have:=a.1;omega)) (List.mem_iff_getElem?.2 ⟨j,by rw[List.getElem?_take_of_lt f,r5]⟩);simpa using this
 rw[e]
def aru(h:(l.take k).any (fL n)=false)(a:(l.length:Int)<=k):-1=QF n l:=by
 rw[take_of_length_le N]at h;rw[QF,X (by rw[h];decide)]
def apT:decide (0<=QF n l)=l.any (fL n):=by
 unfold QF;cases h:l.any (fL n)<;>simp
end
theorem W_:CK 115 (aD (ak (kT (.nm .record)) dA) adS λ(r,_,_) n=>{rs:=[.c (.bool (.atom (fL n r)))]}):=ag λ(r,_,_) n _=>by
 refine al By [] func115 (?_:cD r ((r.kind=4->decide (r.a<=n.c.b8)=fL n r)/\(¬r.kind=4->false=fL n r)));repeat' first|(with_reducible first|apply aH|refine aI ?_|intro)|exact aZ|(simp only[fL];simp_all;done)|exact rfl
def Bl:=(ae W_ By)
def am6(l:List dm)(n:Nd):List (Nat×LI):=[(2,{σ:=Nat,F:=λk=>([(0,one (.fz (.nm .record) l)),(1,one (.fn 115 [] [(0,0)])),(7,one (.int l.length)),(8,one (.int k))],(arb n)),J:=λk=>k<=l.length/\(l.take k).any (fL n)=false,μ:=λk=>l.length-k})]
theorem ahN:CK 165 (aD (ak vH (ak (kC (ub 115 [] [(0,0)])) bS)) adS λ(l,_,_) n=>{rs:=[.c (.int (QF n l))]}):=ag λ(l,_,_) n _=>by
 refine al Bl (am6 l n) func165 (?_:(λ(a:Nat)=>l.length*48<=140737488355328->∃(d:Nat),(l=l/\(l.length:Int)=(a:Int)/\0=(d:Int)/\cT n n)/\(d<=a/\(take d l).any (fL n)=false)/\∀(s:Nat),s<=a/\(take s l).any (fL n)=false->((s:Int)<(a:Int)->0<=(s:Int)/\(s:Int)<(l.length:Int)/\∀(x:dm),l[s]? =some x->cD x ((fL n x=true->(s:Int)=QF n l)/\(fL n x=false->W ((s:Int)+1)/\∃(b:Nat),(l=l/\(a:Int)=(a:Int)/\(s:Int)+1=(b:Int)/\cT n n)/\(b<=a/\(take b l).any (fL n)=false)/\a-b<a-s)))/\((a:Int)<=(s:Int)-> -1=QF n l)) l.length);repeat' first|(with_reducible first|apply aH|refine aI ?_|intro)|exact aZ|exact rfl|exact(akF Y Y Y)|exact(aoS Y Y Y)|exact(aru Y Y)|refine⟨‹Nat›+1,?_⟩|refine⟨0,?_⟩
def DD:=(ae ahN Bl)
def ago:CK 114 (aD (ak vH (ak (kC (ub 115 [] [(0,0)])) bS)) adS λ(l,_,_) n=>{rs:=[.c (.bool (.atom (l.any (fL n))))]}):=ag λ(l,_,_) n _=>by
 refine al DD [] func114 (?_:l.length*48<=140737488355328->W (QF n l)->decide (0<=QF n l)=l.any (fL n));repeat' first|(with_reducible first|apply aH|refine aI ?_|intro)|exact aZ|exact apT
def Bv:=(ae ago DD)
variable{n:w8}
def aaz(h:(¬nd x=0\/¬x.to=n.me)\/n.ea<=x.l5):cm n x=false:=O h
def aaZ(h:nd x=0)(b:x.to=n.me)(c:x.l5<n.ea)(a:¬x.kind=3):cm n x=true:=by rw[cm,X N,O a]
def Sm(h:nd x=0)(b:x.to=n.me)(c:x.l5<n.ea)(d:x.kind=3)(a:¬(aq n.st x).2.2.2=0):cm n x=false:=by rw[cm,X N,X N,O a]
variable{n:Nd}
def Sg(h:nd x=0)(a:x.to=n.c.me)(b:x.l5<n.c.ea)(d:x.kind=3)(e:(aq n.c.st x).2.2.2=0):(!(aq n.c.st x).1.any (fL n))=cm n.c x:=by rw[cm,X N,X N,X N];rfl
def ac5:CK 68 (aD nr tj λ(_,x,_) n=>{rs:=[.c (.bool (.atom (cm n.c x)))]}):=ag λ(_,x,_) n _=>by
 refine al Bv [] func68 (?_:(λa b=>aP x ((¬nd x=0->W (nd x)->b)/\(nd x=0->(¬x.to=n.c.me->W (nd x)->b)/\(x.to=n.c.me->W (nd x)->(n.c.ea<=x.l5->b)/\(x.l5<n.c.ea->(¬x.kind=3->true=cm n.c x)/\(x.kind=3->(aq n.c.st x).1.length*48<=140737488355328->W a.1->W a.2->(¬a.2=0->b)/\(a.2=0->(!(aq n.c.st x).1.any (fL n))=cm n.c x))))))) (aq n.c.st x).2.2 (false=cm n.c x));repeat' first|(with_reducible first|apply aH|refine aI ?_|intro)|exact aZ|exact(Sg Y Y Y Y Y)|exact(aaz N).symm|exact(aaZ Y Y Y Y).symm|exact(Sm Y Y Y Y Y).symm
def uo:=(ae ac5 Bv)
theorem Qj:∀{k:Nat} {n:Nd},(n.dk k).nx=n.nx/\(n.dk k).d=n.d/\(n.dk k).c.me=n.c.me/\(n.dk k).c.st=n.c.st
 |0,_=>⟨rfl,rfl,rfl,rfl⟩
 |k+1,n=>by
  unfold Nd.dk;split
  .split
   .exact Qj
   grind
  grind
def aaT:n.apply.nx=n.nx:=Qj.1
theorem DZ{s:b9}{l:List Int}{k:Int}(h:k<=(s.log.length:Int)):iW s l k<=(s.log.length:Int):=by
 unfold iW;grind
abbrev EU(n:Nd)(x:ep):Nd:=⟨⟨n.c.me,n.c.ea,n.c.bin,n.c.st,n.c.ee,iW n.c.st ((n.mt.set x.l5.toNat (max (n.mt.getD x.l5.toNat (c4 Sh.int)) (min x.a (n.c.st.log.length:Int)))).set n.c.me.toNat (n.c.st.log.length:Int)) n.c.b8,n.c.b5,n.c.s⟩,n.d,n.rp,n.vs,n.bn,n.nx.set x.l5.toNat (min (fM (n.nx.getD x.l5.toNat (c4 Sh.int)) x) ((n.c.st.log.length:Int)+1)),n.mt.set x.l5.toNat (max (n.mt.getD x.l5.toNat (c4 Sh.int)) (min x.a (n.c.st.log.length:Int)))⟩
abbrev EG(n:Nd)(x:ep):Nd:=⟨⟨n.c.me,n.c.ea,n.c.bin,n.c.st,n.c.ee,iW n.c.st (n.mt.set n.c.me.toNat (n.c.st.log.length:Int)) n.c.b8,n.c.b5,n.c.s⟩,n.d,n.rp,n.vs,n.bn,n.nx.set x.l5.toNat (min (fM (n.nx.getD x.l5.toNat (c4 Sh.int)) x) ((n.c.st.log.length:Int)+1)),n.mt⟩
section
variable{n:Nd}{x:ep}
def BU(h:x.ok=true):n.sG x=EU n x:=by
 unfold Nd.sG;dsimp only;rw[O h];rfl
def BB(h:x.ok=false):n.sG x=EG n x:=by
 unfold Nd.sG;dsimp only;rw[X (jP h)];rfl
def Ta:(EU n x).apply.nx.length=n.nx.length:=by rw[aaT];exact B1
def OS:(EG n x).apply.nx.length=n.nx.length:=by rw[aaT];exact B1
variable{G:Nd}
def ak3(a:n.sG x=G)(h:(n.c.st.log.length:Int)<G.apply.nx.getD x.l5.toNat (c4 Sh.int)):gP n x=⟨G.apply,[],0⟩:=by
 rw[gP,a];exact O h
def ai1(a:n.sG x=G)(h:G.apply.nx.getD x.l5.toNat (c4 Sh.int)<=(n.c.st.log.length:Int))(b:¬(iJ G.apply x.l5).2=0):gP n x=⟨G.apply,[],(iJ G.apply x.l5).2⟩:=by
 rw[gP,a];exact(X (G6.2 h)).trans (X b)
def akc(a:n.sG x=G)(h:G.apply.nx.getD x.l5.toNat (c4 Sh.int)<=(n.c.st.log.length:Int))(b:(iJ G.apply x.l5).2=0):gP n x=⟨G.apply,[(iJ G.apply x.l5).1],0⟩:=by
 rw[gP,a];exact(X (G6.2 h)).trans (O b)
end
def ef(n:Nd)(k:Nat):Nd:={n with c:={n.c with ee:=2},nx:=replicate k ((n.c.st.log.length:Int)+1)++n.nx.drop k,mt:=replicate k (0:Int)++n.mt.drop k}
theorem tu{b:Type}{a:b}:∀{l:List b} {k:Nat},k<l.length->(replicate k a++l.drop k).set k a=replicate (k+1) a++l.drop (k+1)
 |x::l,0,_=>by simp
 |x::l,k+1,h=>by
  rw[List.replicate_succ,List.drop_succ_cons,E4,List.set_cons_succ,tu (by simpa using h),List.replicate_succ (n:=k+1),E4,List.drop_succ_cons]
section
variable{n:Nd}{k:Nat}
def alO(h:(k:Int)<(n.nx.length:Int)):(ef n k).nx.set k ((n.c.st.log.length:Int)+1)=(ef n (k+1)).nx:=tu N
def ai6(h:(k:Int)<(n.mt.length:Int)):(ef n k).mt.set k 0=(ef n (k+1)).mt:=tu N
def aaV(h:k<=n.nx.length):(ef n k).nx.length=n.nx.length:=by
 simp[ef];omega
def aik(h:k<=n.mt.length):(ef n k).mt.length=n.mt.length:=by
 simp[ef];omega
variable(h1:(n.nx.length:Int)=n.c.ea)(h2:(n.mt.length:Int)=n.c.ea)(hk:k<=n.c.ea.toNat)(hm:n.c.ea<=k)
include h1 h2 hk hm
theorem ace:ef n k={n with c:={n.c with ee:=2},nx:=replicate n.nx.length ((n.c.st.log.length:Int)+1),mt:=replicate n.mt.length 0}:=by
 unfold ef;grind
def ao3(h:(n.c.st.log.length:Int)+1<=64)(a:(ef n k).aB [⟨3,(n.c.st.log.length:Int)+1,(ef n k).c.st.a8,[]⟩]=0):gC n=⟨(ef n k).fl [⟨3,(n.c.st.log.length:Int)+1,(ef n k).c.st.a8,[]⟩],(cM ((ef n k).fl [⟨3,(n.c.st.log.length:Int)+1,(ef n k).c.st.a8,[]⟩])).1,(cM ((ef n k).fl [⟨3,(n.c.st.log.length:Int)+1,(ef n k).c.st.a8,[]⟩])).2⟩:=by
 rw[ace h1 h2 hk hm]at a⊢;exact(O h).trans (O a)
def apN(h:(n.c.st.log.length:Int)+1<=64)(a:¬(ef n k).aB [⟨3,(n.c.st.log.length:Int)+1,(ef n k).c.st.a8,[]⟩]=0):gC n=⟨(ef n k).fl [⟨3,(n.c.st.log.length:Int)+1,(ef n k).c.st.a8,[]⟩],[],(ef n k).aB [⟨3,(n.c.st.log.length:Int)+1,(ef n k).c.st.a8,[]⟩]⟩:=by
 rw[ace h1 h2 hk hm]at a⊢;exact(O h).trans (X a)
def aoL(h:64<(n.c.st.log.length:Int)+1):gC n=⟨ef n k,(cM (ef n k)).1,(cM (ef n k)).2⟩:=by
 rw[ace h1 h2 hk hm];exact X N
end
def adk(n:Nd):List (Nat×LI):=[(4,{σ:=Nat,F:=λk=>([(0,one (.ptr 0 0)),(4,one (.int (n.c.st.log.length+1))),(22,one (.int n.c.ea)),(23,one (.int k))],(om (ef n k))),J:=λk=>k<=n.c.ea.toNat,μ:=λk=>n.c.ea.toNat-k})]
def WW:CK 121 (aD nr tj λ(_,x,_) n=>⟨[p5 n,0<=x.l5/\x.l5<n.c.ea,n.c.ee=2,0<=x.a/\x.a<=64],[.c (.fz (.nm .letter) ((gP n x).l)),.c (.int ((gP n x).e))],some (om ((gP n x).n)),false⟩):=ag λ(_,x,_) n I=>by
 have w:=bw I;have J:=bw (de I);have K:=bw (de (de I));have L:=bw (de (de (de I)));refine bh uo [] func121 (?_:(λb=>(λm C h=>(λD r B g k j=>(λi f=>(λt y o=>(λF z H=>(λA p=>(λu q=>(λv=>aP x ((i/\j<(n.nx.length:Int))/\(W y->k<=x.a/\x.a<=64)/\W (o+1)/\(W y->W (fM y x)->i/\j<(n.nx.length:Int))/\(W y->W (fM y x)->W y->(x.ok=true->(i/\j<(n.mt.length:Int))/\(W t->i/\j<(n.mt.length:Int))/\(W t->W t->k<=b.me/\b.me<(H.length:Int)/\(W (H.getD B r)->(H.set B o).length<=12/\(W A->((k<=m/\A<=(h.log.length:Int))/\D)/\(i/\j<(q.nx.length:Int))/\(W (q.nx.getD f r)->(o<q.nx.getD f r->g.l=[]/\k=g.e/\cT q g.n)/\(q.nx.getD f r<=o->(i/\j<(q.nx.length:Int))/\aP (iJ q j).1 (W v->(¬v=k->g.l=[]/\v=g.e/\cT q g.n)/\(v=k->[(iJ q j).1]=g.l/\k=g.e/\cT q g.n))))))))/\(x.ok=false->k<=b.me/\b.me<(n.mt.length:Int)/\(W (n.mt.getD B r)->(n.mt.set B o).length<=12/\(W z->((k<=m/\z<=(h.log.length:Int))/\D)/\(i/\j<(p.nx.length:Int))/\(W (p.nx.getD f r)->(o<p.nx.getD f r->g.l=[]/\k=g.e/\cT p g.n)/\(p.nx.getD f r<=o->(i/\j<(p.nx.length:Int))/\aP (iJ p j).1 (W u->(¬u=k->g.l=[]/\u=g.e/\cT p g.n)/\(u=k->[(iJ p j).1]=g.l/\k=g.e/\cT p g.n)))))))))) (iJ q j).2) (iJ p j).2 (Nd.mk (w8.mk b.me b.ea b.bin h b.ee A m b.s) n.d n.rp n.vs n.bn F H).apply) (iW h (H.set B o) C) (Nd.mk (w8.mk b.me b.ea b.bin h b.ee z m b.s) n.d n.rp n.vs n.bn F n.mt).apply) (n.nx.set f (min (fM y x) (o+1))) (iW h (n.mt.set B o) C) (n.mt.set f (max t (min x.a o)))) (n.mt.getD f r) (n.nx.getD f r) (h.log.length:Int)) (k<=j) j.toNat) ((n.rp.length:Int)<=m/\h.log.length<=10000) (c4 Sh.int) b.me.toNat (gP n x) (0:Int) x.l5) b.b5 b.b8 b.st) n.c);obtain⟨d,l,P⟩:=id w.d;have Q:=w.log;have S:=w.ea;have T:=w.me;have o7:=w.y1;have U:=w.a8;have V:=w.rp;obtain⟨c,e,a,Z⟩:=w.len.resolve_left N;repeat' first|(with_reducible first|apply aH|refine aI ?_|intro)|exact aZ|exact(DZ o7.2.2)|(rw[Ta];omega)|(rw[OS];omega)|(rw[B1];omega)|(rw[B1,B1];omega)|(rw[ak3 (n:=n) (x:=x) (G:=EU n x) (BU Y) Y]<;>rfl)|(rw[ai1 (n:=n) (x:=x) (G:=EU n x) (BU Y) Y Y]<;>rfl)|(rw[akc (n:=n) (x:=x) (G:=EU n x) (BU Y) Y Y]<;>rfl)|(rw[ak3 (n:=n) (x:=x) (G:=EG n x) (BB Y) Y]<;>rfl)|(rw[ai1 (n:=n) (x:=x) (G:=EG n x) (BB Y) Y Y]<;>rfl)|(rw[akc (n:=n) (x:=x) (G:=EG n x) (BB Y) Y Y]<;>rfl)
theorem ZM:CK 120 (aD dA tj λ_ n=>⟨[p5 n,n.c.ee=1],[.c (.fz (.nm .letter) ((gC n).l)),.c (.int ((gC n).e))],some (om ((gC n).n)),false⟩):=ag λ_ n u=>by
 have j:=bw u;have D:=bw (de u);refine bh uo (adk n) func120 (?_:(λ(v:Int)(h:B7)(i:Int)(f:Int)(w:Int)(m:Int)=>W v/\∃(r:Nat),(v=m/\f=f/\i=(r:Int)/\cT (Nd.mk (w8.mk n.c.me f n.c.bin n.c.st 2 n.c.b8 n.c.b5 n.c.s) n.d n.rp n.vs n.bn n.nx n.mt) (ef n r))/\r<=f.toNat/\∀(s:Nat),(λ(a:Nd)=>(λ(o:List (l7 (Sh.nm NT.record)))=>(λ(g:Nd)=>s<=f.toNat->((s:Int)<f->(i<=(s:Int)/\(s:Int)<(a.nx.length:Int))/\(W (a.nx.getD s (c4 Sh.int))->i<=(s:Int)/\(s:Int)<(a.mt.length:Int))/\(W (a.nx.getD s (c4 Sh.int))->W (a.mt.getD s (c4 Sh.int))->W ((s:Int)+1)/\∃(p:Nat),(m=m/\f=f/\(s:Int)+1=(p:Int)/\cT (Nd.mk a.c a.d a.rp a.vs a.bn (a.nx.set s m) (a.mt.set s i)) (ef n p))/\p<=f.toNat/\f.toNat-p<f.toNat-s))/\(f<=(s:Int)->(m<=64->(i<=a.d.b7/\a.d.b7<=(a.d.b.length:Int)/\a.d.b.length<=65536)/\a.c.st.log.length<=10000/\o.length<=1000/\(W (a.aB o)->(¬a.aB o=i->h.l=[]/\a.aB o=h.e/\cT g h.n)/\(a.aB o=i->g.c.ea<=5/\(g.c.ee=i\/(g.nx.length:Int)=g.c.ea)/\((cM g).1.length*96<=140737488355328->W (cM g).2->(cM g).1=h.l/\(cM g).2=h.e/\cT g h.n))))/\(64<m->a.c.ea<=5/\(a.c.ee=i\/(a.nx.length:Int)=a.c.ea)/\((cM a).1.length*96<=140737488355328->W (cM a).2->(cM a).1=h.l/\(cM a).2=h.e/\cT a h.n)))) (a.fl o)) [dm.mk w m a.c.st.a8 []]) (ef n s)) ((n.c.st.log.length:Int)+1) (gC n) 0 n.c.ea 3 ((n.c.st.log.length:Int)+1));obtain⟨y,z,A⟩:=id j.d;have B:=j.log;have C:=j.ea;have F:=j.me;have o7:=j.y1;have G:=j.a8;have H:=j.rp;obtain⟨I,J,q,t⟩:=j.len.resolve_left N;repeat' first|(with_reducible first|apply aH|refine aI ?_|intro)|exact aZ|exact rfl|exact(alO N)|exact(ai6 N)|(rw[aaV N];omega)|(rw[aik N];omega)|exact(.inr ((o9 Int.ofNat (aaV N)).trans q))|exact RN|exact C.2|exact y|exact z|exact A|exact(zc B am)|(rw[ao3 (n:=n) (k:=‹Nat›) q t Y Y Y Y]<;>rfl)|(rw[apN (n:=n) (k:=‹Nat›) q t Y Y Y Y]<;>rfl)|(rw[aoL (n:=n) (k:=‹Nat›) q t Y Y Y]<;>rfl)|refine⟨‹Nat›+1,?_⟩|refine⟨0,?_⟩
def Dv:=(ae ZM (ae WW uo))
variable{t:Int}
theorem KS{s:b9}:(eg s (ao s t)).1.log=s.log:=by
 unfold ao;split
 .rfl
 rw[eg];split
 .rw[eg];unfold aK;split
  .rfl
  split
  .rename_i u h;rw[dO,X (show¬(2:Int)=1 by decide),O rfl,fK]at h;grind
  rfl
 rfl
abbrev R3(n:Nd)(x:ep):Nd:=⟨(n.fl (ao n.c.st x.a8)).c,(n.fl (ao n.c.st x.a8)).d,(n.fl (ao n.c.st x.a8)).rp,(n.fl (ao n.c.st x.a8)).vs,(n.fl (ao n.c.st x.a8)).bn.set x.l5.toNat x.bin,(n.fl (ao n.c.st x.a8)).nx,(n.fl (ao n.c.st x.a8)).mt⟩
abbrev UM(n:Nd)(x:ep):Nd:=⟨(n.fl (ao n.c.st x.a8)).c,(n.fl (ao n.c.st x.a8)).d,(n.fl (ao n.c.st x.a8)).rp,(n.fl (ao n.c.st x.a8)).vs.set x.l5.toNat true,(n.fl (ao n.c.st x.a8)).bn.set x.l5.toNat x.bin,(n.fl (ao n.c.st x.a8)).nx,(n.fl (ao n.c.st x.a8)).mt⟩
def BL{s:b9}:(ao s t).length<=1000:=zc gA am
section
variable{n:Nd}{x:ep}
def aby(h:¬n.aB (ao n.c.st x.a8)=0):bQ n x=⟨n.fl (ao n.c.st x.a8),[],n.aB (ao n.c.st x.a8)⟩:=O h
variable(h:n.aB (ao n.c.st x.a8)=0)
include h
def XU(a:¬x.a8=(n.fl (ao n.c.st x.a8)).c.st.a8\/(n.fl (ao n.c.st x.a8)).c.ee=0):bQ n x=⟨n.fl (ao n.c.st x.a8),[],0⟩:=(X (A0.2 h)).trans (O a)
def UH(a:p5 n):p5 (n.fl (ao n.c.st x.a8)):=by
 have e:(n.fl (ao n.c.st x.a8)).c.st=(eg n.c.st (ao n.c.st x.a8)).1:=(Aq h).1;have b:=qb (l:=ao n.c.st x.a8) a.log a.a8;rw[<-e]at b;refine⟨qU a.d,a.ea,a.me,b.1,b.2,⟨a.y1.1,a.y1.2.1,?_⟩,a.len,a.rp⟩;rw[e,KS];exact a.y1.2.2
def adK(a:p5 n):p5 (R3 n x):=by
 have k:=UH h a;exact⟨k.d,k.ea,k.me,k.log,k.a8,k.y1,k.len.imp id λq=>⟨q.1,by rw[B1];exact q.2.1,q.2.2⟩,k.rp⟩
def abT(a:p5 n):p5 (UM n x):=by
 have k:=UH h a;exact⟨k.d,k.ea,k.me,k.log,k.a8,k.y1,k.len.imp id λq=>⟨by rw[B1];exact q.1,by rw[B1];exact q.2.1,q.2.2⟩,k.rp⟩
omit h in
theorem agF(a:p5 n)(d:x.l5<n.c.ea)(b:¬(n.fl (ao n.c.st x.a8)).c.ee=0):x.l5<((n.fl (ao n.c.st x.a8)).bn.length:Int)/\x.l5<((n.fl (ao n.c.st x.a8)).vs.length:Int):=by
 have q:=a.len.resolve_left b;exact⟨by show x.l5<(n.bn.length:Int);omega,by show x.l5<(n.vs.length:Int);omega⟩
variable(h1:x.a8=(n.fl (ao n.c.st x.a8)).c.st.a8)(h2:¬(n.fl (ao n.c.st x.a8)).c.ee=0)
include h1 h2
def KZ:bQ n x=if(x.kind=2/\x.ok=true)/\(n.fl (ao n.c.st x.a8)).c.ee=1 then(if gp (UM n x).vs=true then gC (UM n x)else⟨UM n x,[],0⟩)else if x.kind=4/\(n.fl (ao n.c.st x.a8)).c.ee=2 then gP (R3 n x) x else⟨R3 n x,[],0⟩:=
 (X (A0.2 h)).trans (X (by rintro(q|q);exact q h1;exact h2 q))
def am8(a:x.kind=2)(b:x.ok=true)(d:(n.fl (ao n.c.st x.a8)).c.ee=1)(e:gp (UM n x).vs=true):bQ n x=gC (UM n x):=(KZ h h1 h2).trans ((O ⟨⟨a,b⟩,d⟩).trans (O e))
def aqG(a:x.kind=2)(b:x.ok=true)(d:(n.fl (ao n.c.st x.a8)).c.ee=1)(e:gp (UM n x).vs=false):bQ n x=⟨UM n x,[],0⟩:=(KZ h h1 h2).trans ((O ⟨⟨a,b⟩,d⟩).trans (X (jP e)))
def anI(d:(¬x.kind=2\/x.ok=false)\/¬(n.fl (ao n.c.st x.a8)).c.ee=1)(e:x.kind=4)(f:(n.fl (ao n.c.st x.a8)).c.ee=2):bQ n x=gP (R3 n x) x:=
 (KZ h h1 h2).trans ((X (by rintro⟨⟨a,b⟩,c⟩;rcases d with(q|q)|q;exact q a;exact jP q b;exact q c)).trans (O ⟨e,f⟩))
def aco(d:(¬x.kind=2\/x.ok=false)\/¬(n.fl (ao n.c.st x.a8)).c.ee=1)(e:¬x.kind=4\/¬(n.fl (ao n.c.st x.a8)).c.ee=2):bQ n x=⟨R3 n x,[],0⟩:=
 (KZ h h1 h2).trans ((X (by rintro⟨⟨a,b⟩,c⟩;rcases d with(q|q)|q;exact q a;exact jP q b;exact q c)).trans (X (by rintro⟨a,b⟩;rcases e with q|q;exact q a;exact q b)))
end
def Bi:CK 71 (aD nr tj λ(_,x,_) n=>⟨[p5 n,0<=x.l5/\x.l5<n.c.ea,0<=x.a/\x.a<=64],[.c (.fz (.nm .letter) ((bQ n x).l)),.c (.int ((bQ n x).e))],some (om ((bQ n x).n)),false⟩):=ag λ(_,x,_) n s=>by
 have m:=bw s;have u:=bw (de s);have y:=bw (de (de s));refine bh Dv [] func71 (?_:(λw h o p g=>(λr f=>(λq j v=>(λi k=>aP x (((h<=n.d.b7/\n.d.b7<=(n.d.b.length:Int)/\n.d.b.length<=65536)/\n.c.st.log.length<=10000/\o.length<=1000)/\(W (n.aB o)->(¬n.aB o=h->r/\n.aB o=g.e/\cT f g.n)/\(n.aB o=h->(¬x.a8=f.c.st.a8->q)/\(x.a8=f.c.st.a8->(j=h->q)/\(¬j=h->(h<=x.l5/\x.l5<(f.bn.length:Int))/\(W (f.bn.getD p (c4 Sh.int))->((x.kind=2/\x.ok=true)/\j=1->(h<=x.l5/\x.l5<(f.vs.length:Int))/\(gp (f.vs.set p true)=true->p5 k/\j=1/\((gC k).l.length*96<=140737488355328->W (gC k).e->(gC k).l=g.l/\(gC k).e=g.e/\cT (gC k).n g.n))/\(gp (f.vs.set p true)=false->r/\h=g.e/\cT k g.n))/\((¬x.kind=2\/x.ok=false)\/¬j=1->(x.kind=4/\j=2->p5 v/\(h<=x.l5/\x.l5<f.c.ea)/\j=2/\(h<=x.a/\x.a<=64)/\(i.l.length*96<=140737488355328->W i.e->i.l=g.l/\i.e=g.e/\cT i.n g.n))/\(¬x.kind=4\/¬j=2->r/\h=g.e/\cT v g.n))))))))) (gP v x) (Nd.mk f.c f.d f.rp (f.vs.set p true) (f.bn.set p w) f.nx f.mt)) (r/\h=g.e/\cT f g.n) f.c.ee (Nd.mk f.c f.d f.rp f.vs (f.bn.set p w) f.nx f.mt)) (g.l=[]) (n.fl o)) x.bin (0:Int) (ao n.c.st x.a8) x.l5.toNat (bQ n x));obtain⟨z,A,B⟩:=id m.d;have C:=m.log;repeat' first|(with_reducible first|apply aH|refine aI ?_|intro)|exact aZ|exact BL|exact(abT Y m)|exact(adK Y m)|exact(agF m u.2 Y).1|exact(agF m u.2 Y).2|exact u.2|(rw[aby (n:=n) (x:=x) Y]<;>rfl)|(rw[am8 (n:=n) (x:=x) Y Y Y Y Y Y Y]<;>rfl)|(rw[aqG (n:=n) (x:=x) Y Y Y Y Y Y Y]<;>rfl)|(rw[XU (n:=n) (x:=x) Y (.inl Y)]<;>rfl)|(rw[XU (n:=n) (x:=x) Y (.inr Y)]<;>rfl)|(rw[anI (n:=n) (x:=x) Y Y Y Y Y Y]<;>rfl)|(rw[aco (n:=n) (x:=x) Y Y Y Y Y]<;>rfl)|(rw[aco (n:=n) (x:=x) Y Y Y Y (.inl Y)]<;>rfl)|(rw[aco (n:=n) (x:=x) Y Y Y Y (.inr Y)]<;>rfl)
def DB:=(ae Bi Dv)
section
variable{n:Nd}{x:ep}
def qq(b:cm n.c x=true):0<=x.l5/\x.l5<n.c.ea/\0<=x.a/\x.a<=64/\1<=x.kind/\x.kind<=4:=by
 have h:=(ry b).1;have:=fC h.may;have:=h.l5;omega
def anV{p:Prop}(a:cm n.c x=true)(b:¬x.kind=1)(d:¬x.kind=2)(e:¬x.kind=3)(f:¬x.kind=4):p:=by
 have:=qq a;omega
def Kg(h:p5 n):p5 n.follow:=⟨h.d,h.ea,h.me,h.log,h.a8,h.y1,.inl rfl,h.rp⟩
def aeW(a:cm n.c x=true):cm n.follow.c x=true:=a
def acH(h:n.d.down=true):bL n x=⟨n,[],30⟩:=O h
variable(h:n.d.down=false)
include h
def ab_(a:cm n.c x=false):bL n x=⟨n,[],1⟩:=(X (jP h)).trans (O a)
variable(hm:cm n.c x=true)
include hm
def KX(a:n.c.st.a8<x.a8):bL n x=if x.kind=1 then dF n.follow x else if x.kind=3 then cN n.follow x else bQ n.follow x:=by
 rw[bL,X (jP h),X (by rw[hm];decide),O a]
def KL(a:x.a8<=n.c.st.a8):bL n x=if x.kind=1 then dF n x else if x.kind=3 then cN n x else bQ n x:=by
 rw[bL,X (jP h),X (by rw[hm];decide),X (show¬n.c.st.a8<x.a8 by omega)]
section
variable(ht:n.c.st.a8<x.a8)
include ht
def arJ(a:x.kind=1):bL n x=dF n.follow x:=(KX h hm ht).trans (O a)
def ap9(a:x.kind=3):bL n x=cN n.follow x:=(KX h hm ht).trans ((X N).trans (O a))
def arI(a:x.kind=2):bL n x=bQ n.follow x:=(KX h hm ht).trans ((X N).trans (X N))
def apg(a:x.kind=4):bL n x=bQ n.follow x:=(KX h hm ht).trans ((X N).trans (X N))
end
section
variable(ht:x.a8<=n.c.st.a8)
include ht
def arY(a:x.kind=1):bL n x=dF n x:=(KL h hm ht).trans (O a)
def aqd(a:x.kind=3):bL n x=cN n x:=(KL h hm ht).trans ((X N).trans (O a))
def aqP(a:x.kind=2):bL n x=bQ n x:=(KL h hm ht).trans ((X N).trans (X N))
def an6(a:x.kind=4):bL n x=bQ n x:=(KL h hm ht).trans ((X N).trans (X N))
end
end
def Et:CK 42 (aD nr tj λ(_,x,_) n=>⟨[p5 n],[.c (.fz (.nm .letter) ((bL n x).l)),.c (.int ((bL n x).e))],some (om ((bL n x).n)),false⟩):=ag λ(_,x,_) n C=>by
 have y:=bw C;refine bh DB [] func42 (?_:(λh i f g q u v w z o A b=>(λB p=>(λj k m=>(λr=>aP x ((n.d.down=true->b.l=[]/\30=b.e/\cT n b.n)/\(n.d.down=false->(cm n.c x=false->b.l=[]/\1=b.e/\cT n b.n)/\(cm n.c x=true->(n.c.st.a8<x.a8->(u->r)/\(¬u->(v->r)/\(¬v->(o->aP x (p5 p/\cm z x=true/\o)/\aP x (k.l.length*g<=f->W k.e->k.l=b.l/\k.e=b.e/\cT k.n b.n))/\(¬o->(w->aP x (p5 p)/\aP x (j.l.length*g<=f->W j.e->j.l=b.l/\j.e=b.e/\cT j.n b.n))/\(¬w->False)))))/\(x.a8<=n.c.st.a8->(u->B)/\(¬u->(v->B)/\(¬v->(o->aP x (p5 n/\cm n.c x=true/\o)/\aP x (i.l.length*g<=f->W i.e->i.l=b.l/\i.e=b.e/\cT i.n b.n))/\(¬o->(w->aP x (p5 n)/\aP x (h.l.length*g<=f->W h.e->h.l=b.l/\h.e=b.e/\cT h.n b.n))/\(¬w->False))))))))) (aP x (p5 p/\A)/\aP x (m.l.length*g<=f->W m.e->m.l=b.l/\m.e=b.e/\cT m.n b.n))) (dF p x) (cN p x) (bQ p x)) (aP x (p5 n/\A)/\aP x (q.l.length*g<=f->W q.e->q.l=b.l/\q.e=b.e/\cT q.n b.n)) (Nd.mk z n.d n.rp n.vs n.bn n.nx n.mt)) (dF n x) (cN n x) (140737488355328:Nat) (96:Nat) (bQ n x) (x.kind=4) (x.kind=2) (x.kind=1) (w8.mk n.c.me n.c.ea n.c.bin n.c.st 0 n.c.b8 n.c.b5 n.c.s) (x.kind=3) ((0<=x.l5/\x.l5<n.c.ea)/\0<=x.a/\x.a<=64) (bL n x));repeat' first|(with_reducible first|apply aH|refine aI ?_|intro)|exact aZ|exact y|exact(Kg y)|exact(aeW (n:=n) Y)|exact(anV (n:=n) Y Y Y Y Y)|exact(qq (n:=n) Y).1|exact(qq (n:=n) Y).2.1|exact(qq (n:=n) Y).2.2.1|exact(qq (n:=n) Y).2.2.2.1|(rw[acH (n:=n) (x:=x) Y]<;>rfl)|(rw[ab_ (n:=n) (x:=x) Y Y]<;>rfl)|(rw[arJ (n:=n) (x:=x) Y Y Y Y]<;>rfl)|(rw[ap9 (n:=n) (x:=x) Y Y Y Y]<;>rfl)|(rw[arI (n:=n) (x:=x) Y Y Y Y]<;>rfl)|(rw[apg (n:=n) (x:=x) Y Y Y Y]<;>rfl)|(rw[arY (n:=n) (x:=x) Y Y Y Y]<;>rfl)|(rw[aqd (n:=n) (x:=x) Y Y Y Y]<;>rfl)|(rw[aqP (n:=n) (x:=x) Y Y Y Y]<;>rfl)|(rw[an6 (n:=n) (x:=x) Y Y Y Y]<;>rfl)
def mO:=(ae Et DB)
