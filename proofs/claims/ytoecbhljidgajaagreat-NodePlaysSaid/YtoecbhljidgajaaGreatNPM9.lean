/- What leads to the law, part 9. Conditions: each lemma's own. -/
import Derived.Test.YtoecbhljidgajaaGreatNPM8
set_option linter.unusedVariables false
set_option linter.unusedSimpArgs false
set_option maxHeartbeats 2000000
set_option linter.defProp false
noncomputable section
open List (all_nil countP drop foldl getD_eq_getElem?_getD length_drop prefix_refl replicate take take_of_length_le)
open UInt8 (ofNat toNat)
namespace Go.Proofs.YtoecbhljidgajaaGreat
open Go.Proofs.Tryz
open Go.RowKit
def X3:=@List.exists_cons_of_length_eq_add_one
def L6:=@Nat.succ.inj
variable{b:List UInt8}{t:Int}
theorem TX{s:b9}(h:(eg s [⟨3,(s.log.length:Int)+1,t,b⟩]).2=0):(eg s [⟨3,(s.log.length:Int)+1,t,b⟩]).1={s with log:=s.log++[⟨t,b⟩]}:=by
 have a:(aK s ⟨3,(s.log.length:Int)+1,t,b⟩).2=0:=by
  rw[eg]at h;grind
 obtain⟨_,c⟩:=kH a;rw[dO,X (show¬(3:Int)=1 by decide),X (show¬(3:Int)=2 by decide),O rfl,ei,X (by dsimp only;omega)]at c;rw[lS a];grind
def Ly{d:j9}{s:b9}{l:List dm}(h:(ik d s l).2.2=0):(eg s l).2=0:=(Aq h).2
variable{L L':List dm}{m n:Nd}
def p4.of_eq{a:Nd}{l:List ep}(h:p4 m L a l L')(e:m.d=n.d)(f:m.c.me=n.c.me/\m.c.ea=n.c.ea/\m.c.b8=n.c.b8/\m.c.st=n.c.st/\m.c.bin=n.c.bin):p4 n L a l L':=by
 obtain⟨g,i,j,k,o⟩:=f;exact⟨h.inv,h.pre,by rw[<-g,<-i];exact h.me,by rw[<-e];exact h.len,h.lets,λp q=>by rw[<-j,<-k,<-o];exact h.mono (by rw[e];exact p) q⟩
theorem Im(h:rl n L)(a:n.d.down=false)(j:1<=t):∃L',p4 n L (n.fl [⟨3,(n.c.st.log.length:Int)+1,t,b⟩]) [] L':=by
 have i:∀r∈[dm.mk 3 ((n.c.st.log.length:Int)+1) t b],r.kind=3->1<=r.b:=λr e _=>by rw[D0.1 e];exact j
 by_cases f:n.aB [⟨3,(n.c.st.log.length:Int)+1,t,b⟩]=0
 .have y:=nO h a aa i f;have k:=h.up a;have g:=y.st;rw[TX (Ly f)]at g;have l:=h.ok.y1;refine⟨_,nP h a y (λe=>by rw[g];exact k.hQ e) (by rw[g]) ?_ ?_ λ_=>?_⟩
  .grind
  .grind
  grind
 exact ns h a aa i f
def MH{c:Type}{a d:c}:∀{k i:Nat},i<k->(replicate k a).getD i d=a:=λh=>by
 rw[getD_eq_getElem?_getD,List.getElem?_replicate,O h];rfl
def OJ(h:rl n L)(j:n.d.down=false)(q:n.c.ee=1):∃L',p4 n L (gC n).n (gC n).l L':=by
 have a:=h.up j;have k:=a.hQ N;have e:=h.ok.len.resolve_left N;have o:rl {n with c:={n.c with ee:=2},nx:=replicate n.nx.length ((n.c.st.log.length:Int)+1),mt:=replicate n.mt.length 0} L:=
  ⟨⟨h.ok.d,h.ok.ea,h.ok.me,h.ok.log,h.ok.a8,h.ok.y1,.inr ⟨e.1,e.2.1,by dsimp only;rw[J6];exact e.2.2.1,by dsimp only;rw[J6];exact e.2.2.2⟩,h.ok.rp⟩,h.d,h.le,λ_=>
   ⟨a.st,a.bin,⟨(by decide:(0:Int)<=2),(by decide:(2:Int)<=2)⟩,λ_=>k,λ_ i f=>by
    dsimp only at f⊢;rw[MH N];omega,a.pl⟩⟩
 unfold gC;dsimp only;split
 .obtain⟨L',p⟩:=Im (t:=n.c.st.a8) (b:=[]) o j k.2;split
  .exact⟨L',(p.of_eq (n:=n) rfl ⟨rfl,rfl,rfl,rfl,rfl⟩).tell λx g=>rq g⟩
  exact⟨L',p.of_eq (n:=n) rfl ⟨rfl,rfl,rfl,rfl,rfl⟩⟩
 exact⟨L,((p4.refl o).of_eq (n:=n) rfl ⟨rfl,rfl,rfl,rfl,rfl⟩).tell λx g=>rq g⟩
variable{k:Int}
def abJ{s:b9}{l:List Int}:k<=iW s l k:=by
 unfold iW;split<;>omega
variable{x:ep}
theorem afE(c:0<=x.a):1<=fM k x:=by
 unfold fM;grind
theorem Qv(h:rl n L)(o:n.d.down=false)(p:n.c.ee=2)(v:0<=x.a)(w:x.l5≠n.c.me/\0<=x.l5/\x.l5<n.c.ea):∃L',p4 n L (gP n x).n (gP n x).l L':=by
 have g:=h.up o;have j:=h.ok.len.resolve_left N;generalize f:n.nx.set x.l5.toNat (min (fM (n.nx.getD x.l5.toNat 0) x) ((n.c.st.log.length:Int)+1))=nx;generalize q:(if x.ok=true then n.mt.set x.l5.toNat (max (n.mt.getD x.l5.toNat 0) (min x.a (n.c.st.log.length:Int)))else n.mt)=mt;have y:nx.length=n.nx.length:=by rw[<-f,B1]
 have A:mt.length=n.mt.length:=by grind
 have B:rl {n with nx:=nx,mt:=mt} L:=⟨⟨h.ok.d,h.ok.ea,h.ok.me,h.ok.log,h.ok.a8,h.ok.y1,.inr ⟨j.1,j.2.1,by dsimp only;rw[y];exact j.2.2.1,by dsimp only;rw[A];exact j.2.2.2⟩,h.ok.rp⟩,h.d,h.le,λ_=>
   ⟨g.st,g.bin,g.ee,g.hQ,λp i r=>by
    dsimp only;rw[<-f];by_cases e:x.l5.toNat=i
    .subst e;rw[getD_eq_getElem?_getD,G5 N];have:=afE (k:=n.nx.getD x.l5.toNat 0) v;grind
    rw[getD_eq_getElem?_getD,N9 e,<-getD_eq_getElem?_getD];exact g.nx p i r,g.pl⟩⟩
 have C:n.sG x={({n with nx:=nx,mt:=mt}:Nd)with c:={n.c with b8:=iW n.c.st (mt.set n.c.me.toNat (n.c.st.log.length:Int)) n.c.b8}}:=by
  unfold Nd.sG;dsimp only;rw[f,q]
 obtain⟨s,u⟩:=((p4.refl B).of_eq (n:=n) rfl ⟨rfl,rfl,rfl,rfl,rfl⟩).b8 o (c:=iW n.c.st (mt.set n.c.me.toNat (n.c.st.log.length:Int)) n.c.b8) abJ (DZ h.ok.y1.2.2);dsimp only at s u;rw[<-C]at s u;obtain⟨D,F,G,K,a,H⟩:=u;unfold gP;dsimp only;split
 .grind
 split
 .rename_i I;refine⟨L,s.tell λz J=>?_⟩;rw[D0.1 J];exact HC (by rw[D];exact o) (by rw[H];exact p) I (by rw[F,G];exact w)
 grind
def vS(h:rl n L)(i:n.d.down=false)(q:G0 n x)(B:n.c.ee≠0->x.a8<=n.c.st.a8):∃L',p4 n L (bQ n x).n (bQ n x).l L':=by
 have H:=fC q.may;have C:=nR q.may;have u:x.l5≠n.c.me/\0<=x.l5/\x.l5<n.c.ea:=⟨by have:=q.to;omega,N,q.l5⟩;have g:=h.up i;have f:(ao n.c.st x.a8).length<=6:=zc gA am;by_cases j:n.aB (ao n.c.st x.a8)=0;case neg=>
  rw[aby j];exact ns h i f kF j
 have y:=nO h i f kF j;have o:=y.st;rw[(pD (s:=n.c.st) (t:=x.a8) N N).1]at o;have z:n.c.ee≠0->n.fl (ao n.c.st x.a8)=n:=λa=>y.no (by unfold ao;rw[O (B a)]);have v:p4 n L (n.fl (ao n.c.st x.a8)) [] (L++ao n.c.st x.a8):=nP h i y (λa=>by rw[z a];exact g.hQ a) (by rw[o]) (by rw[o]) (by rw[o];exact h.ok.y1.2.2) (λ_=>by rw[o];exact tw _);by_cases p:¬x.a8=(n.fl (ao n.c.st x.a8)).c.st.a8\/(n.fl (ao n.c.st x.a8)).c.ee=0
 .rw[XU j p];exact⟨_,v⟩
 rw[not_or]at p;have A:n.c.ee≠0:=p.2;have e:=z A;rw[KZ j (A0.1 p.1) p.2];unfold R3 UM;rw[e];have w:=h.ok.len.resolve_left A;have r:∀{vs:List Bool},vs.length=n.vs.length->rl ⟨n.c,n.d,n.rp,vs,n.bn.set x.l5.toNat x.bin,n.nx,n.mt⟩ L:=λ{vs} D=>
  ⟨⟨h.ok.d,h.ok.ea,h.ok.me,h.ok.log,h.ok.a8,h.ok.y1,.inr ⟨by dsimp only;rw[D];exact w.1,by dsimp only;rw[B1];exact w.2.1,w.2.2⟩,h.ok.rp⟩,h.d,h.le,λ_=>⟨g.st,g.bin,g.ee,g.hQ,g.nx,g.pl⟩⟩
 split
 .rename_i F;split
  .obtain⟨L',k⟩:=OJ (r (vs:=n.vs.set x.l5.toNat true) B1) i F.2;exact⟨L',k.of_eq (n:=n) rfl ⟨rfl,rfl,rfl,rfl,rfl⟩⟩
  exact⟨L,(p4.refl (r (vs:=n.vs.set x.l5.toNat true) B1)).of_eq (n:=n) rfl ⟨rfl,rfl,rfl,rfl,rfl⟩⟩
 split
 .rename_i G;obtain⟨L',k⟩:=Qv (x:=x) (r (vs:=n.vs) rfl) i G.2 N u;exact⟨L',k.of_eq (n:=n) rfl ⟨rfl,rfl,rfl,rfl,rfl⟩⟩
 exact⟨L,(p4.refl (r (vs:=n.vs) rfl)).of_eq (n:=n) rfl ⟨rfl,rfl,rfl,rfl,rfl⟩⟩
theorem LY(h:rl n L):∃L',p4 n L (bL n x).n (bL n x).l L':=by
 cases a:n.d.down;case true=>rw[acH a];exact⟨L,.refl h⟩
 cases f:cm n.c x
 .rw[ab_ a f];exact⟨L,.refl h⟩
 have g:=(ry f).1;by_cases j:n.c.st.a8<x.a8
 .rw[KX a f j];have e:n.follow.c.ee≠0->x.a8<=n.follow.c.st.a8:=λe=>absurd rfl e;have i:G0 n.follow x:=⟨g.may,g.to,g.l5⟩;split
  .obtain⟨L',k⟩:=IP h.follow a i e;exact⟨L',k.nS⟩
  split
  .rename_i o;obtain⟨L',k⟩:=BO h.follow a (aeW f) o;exact⟨L',k.nS⟩
  obtain⟨L',k⟩:=vS h.follow a i e;exact⟨L',k.nS⟩
 rw[KL a f N];have e:n.c.ee≠0->x.a8<=n.c.st.a8:=λ_=>by omega
 split
 .exact IP h a g e
 split
 .simp_all[BO]
 exact vS h a g e
theorem adP{c:b6}(h:rl n L):∃L',p4 n L (dB n c).n [] L':=by
 unfold dB;split
 .exact⟨L,.refl h⟩
 rename_i f;have a:n.d.down=false:=by simpa using f
 split
 .exact⟨L,.refl h⟩
 rename_i j;split
 .exact⟨L,.refl h⟩
 split
 .exact⟨L,.refl h⟩
 split
 .exact⟨L,.refl h⟩
 split
 .exact⟨L,.refl h⟩
 split
 .exact⟨L,.refl h⟩
 rename_i e;have g:(ew c n.c.st.a8 n.c.s.bo).1.a8=n.c.st.a8:=by
  unfold ew at e⊢;split at e
  .grind
  grind
 have i:=((h.up a).hQ N).2;obtain⟨L',k⟩:=Im (t:=(ew c n.c.st.a8 n.c.s.bo).1.a8) (b:=(ew c n.c.st.a8 n.c.s.bo).1.b) h a (by rw[g];exact i);dsimp only;split
 .grind
 exact⟨L',k⟩
theorem E6.bR{d:j9}{L:List dm}{k:Int}(h:E6 d L):E6 (d.bR k) L/\(d.bR k).b=d.b:=by
 have f:=h.X0;have c:d.at_ k=d.b.length:=by unfold j9.at_;omega
 have a:(d.bR k).b=d.b:=by
  show d.b.take (d.at_ k).toNat=d.b;simp_all
 refine⟨⟨h.st,by rw[a];exact h.D2,by rw[a];exact h.pre,?_,λe=>by cases e⟩,a⟩;rw[a];exact c
def rl.dead(h:rl n L)(g:m.c=n.c/\m.rp=n.rp/\m.vs=n.vs/\m.bn=n.bn/\m.nx=n.nx/\m.mt=n.mt)(i:m.d.OK)(j:E6 m.d L')(l:∀r∈L',r.kind=3->1<=r.b)(e:m.d.down=true):rl m L':=by
 obtain⟨a,o,p,q,s,u⟩:=g;exact⟨⟨i,by rw[a];exact h.ok.ea,by rw[a];exact h.ok.me,by rw[a];exact h.ok.log,by rw[a];exact h.ok.a8,by rw[a];exact h.ok.y1,by rw[a,p,q,s,u];exact h.ok.len,by rw[a,o];exact h.ok.rp⟩,j,l,λf=>by rw[e]at f;cases f⟩
def HE(h:rl n L):p4 n L {n with d:=n.d.bR k} [] L:=by
 obtain⟨a,c⟩:=h.d.bR (k:=k);exact⟨h.dead ⟨rfl,rfl,rfl,rfl,rfl,rfl⟩ (wR h.ok.d) a h.le rfl,prefix_refl _,⟨rfl,rfl⟩,by dsimp only;rw[c];omega,λ_ e=>(by cases e),λ_ f=>by cases f⟩
def afd(h:rl n L):p4 n L {n with d:=⟨n.d.b,n.d.b7,n.d.down,true,k⟩} [] L:=by
 have c:E6 ⟨n.d.b,n.d.b7,n.d.down,true,k⟩ L:=⟨h.d.st,h.d.D2,h.d.pre,h.d.X0,h.d.up⟩;exact⟨⟨⟨h.ok.d,h.ok.ea,h.ok.me,h.ok.log,h.ok.a8,h.ok.y1,h.ok.len,h.ok.rp⟩,c,h.le,λa=>⟨(h.up a).st,(h.up a).bin,(h.up a).ee,(h.up a).hQ,(h.up a).nx,(h.up a).pl⟩⟩,prefix_refl _,⟨rfl,rfl⟩,by dsimp only;omega,λ_ e=>(by cases e),λ_ _=>⟨x5 _,rfl,rfl⟩⟩
def afN(h:rl n L):p4 n L n (cM n).1 L:=(p4.refl h).tell λ_ a=>rq a
theorem Lz{a b:Int}(h:bH a b=0):1<=a/\a<=3/\1<=b/\b<=a:=by
 unfold bH at h;grind
theorem Pz{s:b9}{b:Int}(a:1<=b)(c:b<=3)(h:s.floor<b):eg s [⟨1,b,0,[]⟩]=({s with floor:=b},0):=by
 have e:aK s ⟨1,b,0,[]⟩=({s with floor:=b},0):=by
  refine qS (an2 ⟨rfl,a,c,rfl,rfl⟩) ?_;rw[dO,O rfl,ey,X (by dsimp only;omega)]
 rw[lS (by rw[e]),e]
theorem Gf{b:Int}(h:rl n L):∃L',p4 n L (bk n b).n [] L':=by
 cases f:n.d.down;case false=>rw[abw f];exact⟨L,.refl h⟩
 by_cases s:bH b (max (hX n.d.b).1.floor 1)=0;case neg=>rw[afZ f s];exact⟨L,.refl h⟩
 obtain⟨F,G,T,U⟩:=Lz s;obtain⟨z,V,d⟩:=rK f h.ok.d;have u:=h.d.D2;obtain⟨t,E⟩:=h.d.pre;have a:=oM n.d.b
 have c:n.d.b.take (hX n.d.b).2.toNat=l1 L:=by grind[Int.toNat_natCast,List.take_left]
 have v:(n.fr b).d=⟨l1 L,((l1 L).length:Int),false,false,0⟩:=by grind
 have g:E6 (n.fr b).d L:=by rw[v];exact E6.enc h.d.st rfl rfl
 have j:(n.fr b).c.st=(eg p0 L).1:=by show(hX n.d.b).1=_;rw[u]
 have A:p5 (n.fr b):=⟨z,h.ok.ea,h.ok.me,a.1.1,a.1.2,⟨x5 0,x5 0,J8 _⟩,.inl rfl,rfl⟩;have H:(n.fr b).d.b.length<=n.d.b.length:=by grind[List.length_append]
 have B:x3 b ((hX n.d.b).1.log.take 0)/\z6=pS b z6 ((hX n.d.b).1.log.take 0)/\([]:List l3)=pR b z6 ((hX n.d.b).1.log.take 0):=⟨λx o=>(by cases o),rfl,rfl⟩;by_cases I:(hX n.d.b).1.floor<b;case neg=>
  rw[YU f s N];exact⟨L,⟨A,g,h.le,λ_=>⟨j,⟨F,G,by show(hX n.d.b).1.floor=b;omega⟩,⟨x5 0,(by decide:(0:Int)<=2)⟩,λhr=>absurd rfl hr,λhr=>absurd (show(0:Int)=2 from hr) am,B⟩⟩,prefix_refl _,⟨rfl,rfl⟩,by show(n.fr b).d.b.length<=_;omega,λ_ o=>(by cases o),λe=>by rw[f]at e;cases e⟩
 have C:(n.fr b).d.down=false:=by rw[v]
 have p:=FN (l:=[⟨1,b,0,[]⟩]) g C j;have Z:=uu p aa;have w:∀(i:Nat),∀r∈L++[dm.mk 1 b 0 []].take i,r.kind=3->1<=r.b:=λi r hr=>by
  rcases A7.1 hr with hr|hr
  .exact h.le r hr
  grind
 by_cases y:(n.fr b).aB [⟨1,b,0,[]⟩]=0
 .rw[Yz f s I y];obtain⟨J,K,q,m,k5,k6,k7,k8⟩:=p.ok y;have D:((n.fr b).fl [⟨1,b,0,[]⟩]).c.st={(n.fr b).c.st with floor:=b}:=by grind[Pz]
  refine⟨L++[⟨1,b,0,[]⟩],⟨⟨qU z,h.ok.ea,h.ok.me,by rw[D];exact a.1.1,by rw[D];exact a.1.2,⟨x5 0,x5 0,J8 _⟩,.inl rfl,rfl⟩,K,λr hr=>w 1 r hr,λ_=>⟨?_,⟨F,G,by rw[D]⟩,⟨x5 0,(by decide:(0:Int)<=2)⟩,λhr=>absurd rfl hr,λhr=>absurd (show(0:Int)=2 from hr) am,?_⟩⟩,List.prefix_append _ _,⟨rfl,rfl⟩,by show(ik (n.fr b).d (n.fr b).c.st _).1.b.length<=_;omega,λ_ o=>(by cases o),λe=>by rw[f]at e;cases e⟩
  .show(ik _ _ _).2.1=_;rw[q,eJ h.d.st,<-j]
  grind
 rw[ZJ f s I y];obtain⟨J,K,q⟩:=p.no y;have R:((n.fr b).fl [⟨1,b,0,[]⟩]).c=(n.fr b).c:=by rw[Pm,J]
 have m3:∃i,E6 ((n.fr b).fl [⟨1,b,0,[]⟩]).d (L++[dm.mk 1 b 0 []].take i):=by
  rcases q with⟨q,_⟩|⟨_,_,_,_,i,_,q⟩
  .exact⟨0,by rw[R1,A1,Mt,q];exact g⟩
  grind
 obtain⟨i,P⟩:=m3;obtain⟨Q,S⟩:=P.bR (k:=0);refine⟨_,⟨⟨wR (qU z),h.ok.ea,h.ok.me,by rw[R];exact a.1.1,by rw[R];exact a.1.2,⟨x5 0,x5 0,J8 _⟩,.inl rfl,rfl⟩,Q,w i,λe=>by cases e⟩,AY,⟨rfl,rfl⟩,?_,λ_ o=>(by cases o),λe=>by rw[f]at e;cases e⟩;show(((n.fr b).fl [⟨1,b,0,[]⟩]).d.bR 0).b.length<=_;rw[S];show(ik (n.fr b).d (n.fr b).c.st _).1.b.length<=_;omega
structure E1 where
 l:List ep
 a:Int
 b:Int
 e:Int
def mw(x:ep):ep:={x with l:=(x.l.take 6).map λy=>⟨y.a8,y.b.take 250⟩}
def iU(c:b6):b6:={c with c6:=c.c6.take 12,text:=⟨c.text.b.take 40⟩}
def cY(n:Nd)(o:A5):Nd×E1:=
 if o.kind.toNat%8=0 then((bk n o.n).n,⟨[],0,0,(bk n o.n).e⟩)
 else if o.kind.toNat%8=1 then((bq n).n,⟨(bq n).l,0,0,(bq n).e⟩)
 else if o.kind.toNat%8=2 then(n,⟨(cM n).1,0,0,(cM n).2⟩)
 else if o.kind.toNat%8=3 then((bL n (mw o.x)).n,⟨(bL n (mw o.x)).l,0,0,(bL n (mw o.x)).e⟩)
 else if o.kind.toNat%8=4 then((dB n (iU o.c)).n,⟨[],(dB n (iU o.c)).a,(dB n (iU o.c)).b,(dB n (iU o.c)).e⟩)
 else if o.kind.toNat%8=5 then({n with d:=⟨n.d.b,n.d.b7,n.d.down,true,o.n⟩},⟨[],0,0,0⟩)
 else if o.kind.toNat%8=6 then({n with d:=n.d.bR o.n},⟨[],0,0,0⟩)
 else(n,⟨[],0,0,0⟩)
def adv{o:A5}(h:rl n L):∃L',p4 n L (cY n o).1 (cY n o).2.l L':=by
 unfold cY;split
 .exact Gf h
 split
 .exact yf h
 split
 .exact⟨L,afN h⟩
 split
 .exact LY h
 split
 .exact adP h
 split
 .exact⟨L,afd h⟩
 split
 .exact⟨L,HE h⟩
 exact⟨L,.refl h⟩
def Hw{me a:Int}(h:3<=a/\a<=5/\0<=me/\me<a):rl (eM me a) []:=
 ⟨⟨⟨x5 0,x5 0,H4 _⟩,⟨h.1,h.2.1⟩,h.2.2,H4 _,⟨x5 0,(by decide:(0:Int)<=1048576)⟩,⟨x5 0,x5 0,J8 _⟩,.inl rfl,rfl⟩,⟨rfl,wu (L:=[]) rfl,⟨[],rfl⟩,rfl,λ_=>rfl⟩,λr c=>(by cases c),λd=>(by cases d)⟩
theorem Ht:∀{l:List dm} {s:b9},s.log.all bF=true->(∀r∈l,r.kind=3->1<=r.b)->(eg s l).1.log.all bF=true
 |[],_,h,_=>h
 |r::l,s,h,c=>by
  rw[eg];split
  .rename_i d;obtain⟨e,a⟩:=kH d;refine Ht ?_ λq f=>c q (by simp[f]);have j:=cq.1 e;generalize(aK s r).1=t at a⊢;unfold dO at a;split at a
   .unfold ey at a;split at a<;>cases a;exact h
   split at a
   .unfold fK at a;split at a<;>cases a;exact h
   split at a
   .rename_i g;unfold ei at a;split at a<;>cases a;show(s.log++[_]).all bF=true;rw[K1,h,Bool.true_and,K7,all_nil,O6,nV];have:=c r aa g;dsimp only;omega
   unfold fW at a;split at a<;>cases a;exact Hm.2 λy i=>Hm.1 h y (X8 i)
  exact h
section
variable{n m:Nd}{L:List dm}{x:ep}{l:List dm}
def rl.aoW(h:rl n L)(a:n.d.down=false):n.c.st.log.all bF=true:=by rw[(h.up a).st];exact Ht rfl h.le
def OW{l:List eA}(h:l.all bF=true)(a:0<=k)(c:k<=l.length):0<=bM l k/\bM l k<=1048576:=by
 unfold bM;split
 .omega
 rename_i d;rw[X N,getD_eq_getElem?_getD,r5 N];have:=nV.1 (Hm.1 h _ (I1 (l:=l) (n:=(k-1).toNat) N));simp only[O2];omega
theorem aeO{l:List eA}(h:l.all bF=true):(dx l k 4).all bF=true/\(dx l k 4).length<=4:=by
 unfold dx;split
 .exact⟨rfl,aa⟩
 grind
def aet{a:Int}(h:rl n L)(e:n.d.down=false)(g:n.c.ee=2)(p:a≠n.c.me/\0<=a/\a<n.c.ea):(iJ n a).2=0:=by
 have u:=h.up e;have q:=u.nx g a.toNat N;have r:=u.hQ N;have f:=h.aoW e;have s:=h.ok.log;have i:=h.ok.a8;have v:=h.ok.ea;have j:=h.ok.me;have w:=h.ok.y1;have y:=u.bin;have t:=OW (k:=n.nx.getD a.toNat 0-1) f N N;obtain⟨o,z⟩:=aeO (k:=n.nx.getD a.toNat 0-1) f;unfold iJ eD;rw[X (by dsimp only;omega)];have:nd (na n.c.st ⟨n.c.me,a,n.nx.getD a.toNat 0,n.c.b8,n.c.bin⟩)=0:=by
  unfold nd;rw[O];refine⟨?_,o⟩;simp only[jj,na,eV,aM,r3,H2,S9,u9,J2];simp[-getD_eq_getElem?_getD];refine⟨⟨⟨⟨⟨⟨⟨⟨⟨?_,?_⟩,?_,?_⟩,?_⟩,?_,?_⟩,?_,?_⟩,?_,?_⟩,?_,?_⟩,?_,?_⟩,?_⟩;all_goals first|omega|(apply F5;omega)|(apply D7;omega)
 rw[X (by rw[this];simp)]
end
variable{k:Nat}{l:List eA}
def ahq{y:eA}(a:l[k]? =some y):(l.take k).map (λz:eA=>(⟨z.a8,z.b.take 250⟩:eA))++[eA.mk y.a8 (y.b.take 250)]=(l.take (k+1)).map (λz:eA=>(⟨z.a8,z.b.take 250⟩:eA)):=by
 rw[ah a,L0];rfl
def aq3{y:eA}(a:l[k]? =some y)(h:(y.b.length:Int)<=250):(l.take k).map (λz:eA=>(⟨z.a8,z.b.take 250⟩:eA))++[y]=(l.take (k+1)).map (λz:eA=>(⟨z.a8,z.b.take 250⟩:eA)):=by
 rw[<-ahq a,take_of_length_le (l:=y.b) N]
theorem anj(a:k<=6)(h:(l.length:Int)<=k\/6<=(k:Int)):(l.take k).map (λz:eA=>(⟨z.a8,z.b.take 250⟩:eA))=(l.take 6).map (λz:eA=>(⟨z.a8,z.b.take 250⟩:eA)):=by grind[take_of_length_le]
def ah1:rl (eM 0 3) []:=Hw ⟨am,am,am,am⟩
abbrev sw1:B7:=bk (eM 0 3) 1
abbrev U5:=bq sw1.n
def anW:p5 sw1.n:=let⟨_,h⟩:=Gf (b:=1) ah1;h.inv.ok
def arZ:(decide (sw1.e=0)&&decide (U5.e=0)&&decide ((U5.l.length:Int)=2)&&decide ((U5.l.getD 0 (c4 (.nm .letter))).kind=1)&&decide ((U5.l.getD 1 (c4 (.nm .letter))).to=2)&&decide ((U5.l.getD 0 (c4 (.nm .letter))).a8=1)&&decide ((mY U5.n).ee=1))=true:=cj
def Kv(x:ep):List (Nat×LI):=[(3,{σ:=Nat,F:=λk=>([(1,one (.ptr 0 0)),(2,one (.ptr 1 0)),(3,one (.own 2)),(4,one (.int k))],[.box 34 (cellsOf (.nm .letter) x),.box 34 (cellsOf (.nm .letter) dp),.row 113 (.nm .entry) ((x.l.take k).map (λz:eA=>(⟨z.a8,z.b.take 250⟩:eA)))]),J:=λk=>k<=x.l.length/\k<=6,μ:=λk=>6-k})]
theorem EJ:CK 43 (aD tn av λ(x,_) _=>{rs:=[.agg (cellsOf (.nm .letter) (mw x))]}):=ag λ(x,_) _ _=>by
 refine al mO (Kv x) func43 (?_:(λ(g:Nat)(h:Nat)(e:Int)=>aP x (∃(j:Nat),(e=(j:Int)/\fk x x (e=dp.kind/\e=dp.l5/\e=dp.to/\e=dp.a8/\e=dp.a/\e=dp.b/\e=dp.c/\e=dp.bin/\false=dp.ok/\dp.l=[]/\List.map (λ(z:eA)=>eA.mk z.a8 (take h z.b)) (take j x.l)=[]))/\(j<=x.l.length/\j<=g)/\∀(s:Nat),(λ(o:Int)=>(λ(i:List (l7 (Sh.nm NT.entry)))=>s<=x.l.length/\s<=g->((s:Int)<(x.l.length:Int)/\(s:Int)<6->e<=(s:Int)/\(s:Int)<(x.l.length:Int)/\∀(d:eA),x.l[s]? =some d->W d.a8->d.b.length*1<=140737488355328->(250<(d.b.length:Int)->e<=250/\250<=(d.b.length:Int)/\(i.length+[eA.mk d.a8 (take h d.b)].length)*32<=140737488355328/\W o/\∃(f:Nat),(o=(f:Int)/\fk x x (fk dp dp (i++[eA.mk d.a8 (take h d.b)]=List.map (λ(z:eA)=>eA.mk z.a8 (take h z.b)) (take f x.l))))/\(f<=x.l.length/\f<=g)/\g-f<g-s)/\((d.b.length:Int)<=250->(i.length+[d].length)*32<=140737488355328/\W o/\∃(f:Nat),(o=(f:Int)/\fk x x (fk dp dp (i++[d]=List.map (λ(z:eA)=>eA.mk z.a8 (take h z.b)) (take f x.l))))/\(f<=x.l.length/\f<=g)/\g-f<g-s))/\((x.l.length:Int)<=(s:Int)\/6<=(s:Int)->um (ep.mk x.kind x.l5 x.to x.a8 x.a x.b x.c x.bin x.ok i) (mw x))) (List.map (λ(z:eA)=>eA.mk z.a8 (take h z.b)) (take s x.l))) ((s:Int)+1))) 6 250 0);repeat' first|(with_reducible first|apply aH|refine aI ?_|intro)|exact aZ|exact rfl|exact(ahq Y)|exact(aq3 Y Y)|exact(anj N Y)|(simp only[K9,sh,x7,B2];omega)|refine⟨‹Nat›+1,?_⟩|refine⟨0,?_⟩
def Xy:CK 45 (aD Ct av λ(c,_) _=>{rs:=[.agg (cellsOf (.nm .command) (iU c))]}):=ag λ(c,_) _ _=>by
 refine al mO [] func45 (?_:(λe a d=>bf c (((12:Int)<e->(0:Int)<=(12:Int)/\(12:Int)<=e/\(a<d->(0:Int)<=a/\a<=d/\aQ (b6.mk c.kind c.a6 c.seq c.set c.id c.n (take (12:Nat) c.c6) (n9.mk (take (40:Nat) c.text.b))) (iU c))/\(d<=a->aQ (b6.mk c.kind c.a6 c.seq c.set c.id c.n (take (12:Nat) c.c6) c.text) (iU c)))/\(e<=(12:Int)->(a<d->(0:Int)<=a/\a<=d/\aQ (b6.mk c.kind c.a6 c.seq c.set c.id c.n c.c6 (n9.mk (take (40:Nat) c.text.b))) (iU c))/\(d<=a->aQ c (iU c))))) (c.c6.length:Int) (40:Int) (c.text.b.length:Int));repeat' first|(with_reducible first|apply aH|refine aI ?_|intro)|exact aZ|exact rfl|(dsimp only[iU];first|exact(take_of_length_le N).symm|exact Qb N)
def ZQ:CK 7 (aD (ak (kC (cL (.nm .nop))) bS) av λ(l,_) _=>{rs:=[.c (.fz (.nm .nop) (l.take 40))]}):=ag λ(l,_) _ _=>by
 refine al mO [] func7 (?_:l.length*(200:Nat)<=(140737488355328:Nat)->((40:Int)<(l.length:Int)->(0:Int)<=(40:Int)/\(40:Int)<=(l.length:Int)/\take (40:Nat) l=take (40:Nat) l)/\((l.length:Int)<=(40:Int)->l=take (40:Nat) l));repeat' first|(with_reducible first|apply aH|refine aI ?_|intro)|exact aZ|exact rfl|exact(take_of_length_le N).symm
theorem Kw:CK 4 (aD bS av λ_ _=>{rs:=[.c (.bool (.atom true))]}):=ag λ_ _ _=>by
 refine al mO [] func4 (?_:(λv q z o B C g=>(λw A=>(λp=>(λj=>(λr h=>(λi f d=>(λy s=>(λu=>(v<=v/\v<=5/\g<=g/\g<v)/\(W g->(false=true\/¬g=g->false=true)/\(false=false/\g=g->p5 (eM g v)/\(W w.e->p5 w.n/\(p.l.length*96<=q->W p.e->(r->g<=g/\g<j)/\((r->y)->(s->g<=o/\o<j)/\((s->W f.kind/\W f.l5/\W f.to/\W f.a8/\W f.a/\W f.b/\W f.c/\W f.bin/\f.l.length*32<=q)->(u->g<=g/\g<j)/\((u->y)->(u/\d.a8=o->W h.ee/\W h.binary/\W h.floor/\W h.a8/\W h.hQ/\W h.b8/\W h.b5/\h.log.length*32<=q/\W i.bo/\W i.next/\W i.dc/\W i.eR/\i.c8.length*32<=q/\i.eb.length*16<=q/\i.c3.length*64<=q)->(decide (w.e=g)&&decide (p.e=g)&&decide (j=z)&&decide (d.kind=o)&&decide (f.to=z)&&decide (d.a8=o)&&decide (h.ee=o))=true)))))))) (s/\f.to=z)) (W d.kind/\W d.l5/\W d.to/\W d.a8/\W d.a/\W d.b/\W d.c/\W d.bin/\d.l.length*32<=q) (r/\d.kind=o)) h.state (p.l.getD B A) (p.l.getD C A)) ((w.e=g/\p.e=g)/\j=z) (mY p.n)) (p.l.length:Int)) (bq w.n)) (bk (eM g v) o) (c4 (Sh.nm NT.letter))) (3:Int) (140737488355328:Nat) (2:Int) (1:Int) (1:Nat) (0:Nat) (0:Int));repeat' first|(with_reducible first|apply aH|refine aI ?_|intro)|exact aZ|exact rfl|exact ah1.ok|exact anW|exact arZ|(simp_all;done)
def Ca:=(ae Kw (ae ZQ (ae Xy (ae EJ mO))))
section
variable{n:Nd}{o:A5}{k:UInt8}
def o7:(k&&&ofNat 7).toNat=k.toNat%8:=by
 rw[UInt8.toNat_and];exact Nat.and_two_pow_sub_one_eq_mod k.toNat 3
variable{i:Nat}
def pK(h:((k&&&ofNat 7).toNat:Int)=((ofNat i).toNat:Int))(a:i<8):k.toNat%8=i:=by
 rw[o7,show(ofNat i).toNat=i by rw[J7];omega]at h;omega
theorem ql(h:¬((k&&&ofNat 7).toNat:Int)=((ofNat i).toNat:Int))(a:i<8):¬k.toNat%8=i:=by
 rw[o7,show(ofNat i).toNat=i by rw[J7];omega]at h;omega
def aoz(h:((o.kind&&&ofNat 7).toNat:Int)=((ofNat 0).toNat:Int)):cY n o=((bk n o.n).n,⟨[],0,0,(bk n o.n).e⟩):=by
 have e:=pK h am;simp[cY,e]
def aqD(h:((o.kind&&&ofNat 7).toNat:Int)=((ofNat 1).toNat:Int)):cY n o=((bq n).n,⟨(bq n).l,0,0,(bq n).e⟩):=by
 have e:=pK h am;simp[cY,e]
def apd(h:((o.kind&&&ofNat 7).toNat:Int)=((ofNat 2).toNat:Int)):cY n o=(n,⟨(cM n).1,0,0,(cM n).2⟩):=by
 have e:=pK h am;simp[cY,e]
def ary(h:((o.kind&&&ofNat 7).toNat:Int)=((ofNat 3).toNat:Int)):cY n o=((bL n (mw o.x)).n,⟨(bL n (mw o.x)).l,0,0,(bL n (mw o.x)).e⟩):=by
 have e:=pK h am;simp[cY,e]
def aqt(h:((o.kind&&&ofNat 7).toNat:Int)=((ofNat 4).toNat:Int)):cY n o=((dB n (iU o.c)).n,⟨[],(dB n (iU o.c)).a,(dB n (iU o.c)).b,(dB n (iU o.c)).e⟩):=by
 have e:=pK h am;simp[cY,e]
def apr(h:((o.kind&&&ofNat 7).toNat:Int)=((ofNat 5).toNat:Int)):cY n o=({n with d:=⟨n.d.b,n.d.b7,n.d.down,true,o.n⟩},⟨[],0,0,0⟩):=by
 have e:=pK h am;simp[cY,e]
def ao9(h:((o.kind&&&ofNat 7).toNat:Int)=((ofNat 6).toNat:Int)):cY n o=({n with d:=n.d.bR o.n},⟨[],0,0,0⟩):=by
 have e:=pK h am;simp[cY,e]
def ano(a:¬((o.kind&&&ofNat 7).toNat:Int)=((ofNat 0).toNat:Int))(c:¬((o.kind&&&ofNat 7).toNat:Int)=((ofNat 1).toNat:Int))(d:¬((o.kind&&&ofNat 7).toNat:Int)=((ofNat 2).toNat:Int))(e:¬((o.kind&&&ofNat 7).toNat:Int)=((ofNat 3).toNat:Int))(f:¬((o.kind&&&ofNat 7).toNat:Int)=((ofNat 4).toNat:Int))(g:¬((o.kind&&&ofNat 7).toNat:Int)=((ofNat 5).toNat:Int))(h:¬((o.kind&&&ofNat 7).toNat:Int)=((ofNat 6).toNat:Int)):cY n o=(n,⟨[],0,0,0⟩):=by
 simp[cY,ql a am,ql c am,ql d am,ql e am,ql f am,ql g am,ql h am]
end
def PK:CK 12 (aD (ak iD (ak (kT (.nm .nop)) bS)) tj λ(_,o,_) n=>⟨[p5 n],[.agg ([.fz (.nm .letter) ((cY n o).2.l),.int ((cY n o).2.a),.int ((cY n o).2.b),.int ((cY n o).2.e)])],some (om ((cY n o).1)),false⟩):=ag λ(_,o,_) n y=>by
 have w:=bw y;refine bh Ca [] func12 (?_:(λs u i j p f=>(λv q r g=>vE o ((g=(↑(ofNat 0).toNat:Int)->p5 n/\(W (bk n o.n).e->v/\r/\q/\(bk n o.n).e=f.e/\cT (bk n o.n).n i))/\(¬g=(↑(ofNat 0).toNat:Int)->(g=(↑(ofNat 1).toNat:Int)->p5 n/\(s.l.length*96<=140737488355328->W s.e->s.l=f.l/\r/\q/\s.e=f.e/\cT s.n i))/\(¬g=(↑(ofNat 1).toNat:Int)->(g=(↑(ofNat 2).toNat:Int)->n.c.ea<=5/\(n.c.ee=p\/(n.nx.length:Int)=n.c.ea)/\((cM n).1.length*96<=140737488355328->W (cM n).2->(cM n).1=f.l/\r/\q/\(cM n).2=f.e/\cT n i))/\(¬g=(↑(ofNat 2).toNat:Int)->(g=(↑(ofNat 3).toNat:Int)->aP (mw o.x) (p5 n/\(u.l.length*96<=140737488355328->W u.e->u.l=f.l/\r/\q/\u.e=f.e/\cT u.n i)))/\(¬g=(↑(ofNat 3).toNat:Int)->(g=(↑(ofNat 4).toNat:Int)->bf (iU o.c) (p5 n/\(W j.a->W j.b->W j.e->v/\j.a=f.a/\j.b=f.b/\j.e=f.e/\cT j.n i)))/\(¬g=(↑(ofNat 4).toNat:Int)->(g=(↑(ofNat 5).toNat:Int)->v/\r/\q/\p=f.e/\cT (Nd.mk n.c (j9.mk n.d.b n.d.b7 n.d.down true o.n) n.rp n.vs n.bn n.nx n.mt) i)/\(¬g=(↑(ofNat 5).toNat:Int)->(g=(↑(ofNat 6).toNat:Int)->(p<=n.d.b7/\n.d.b7<=(n.d.b.length:Int)/\n.d.b.length<=65536)/\v/\r/\q/\p=f.e/\cT (Nd.mk n.c (n.d.bR o.n) n.rp n.vs n.bn n.nx n.mt) i)/\(¬g=(↑(ofNat 6).toNat:Int)->v/\r/\q/\p=f.e/\cT n i))))))))) (f.l=[]) (p=f.b) (p=f.a) (↑(o.kind&&&ofNat 7).toNat:Int)) (bq n) (bL n (mw o.x)) (cY n o).1 (dB n (iU o.c)) (0:Int) (cY n o).2);obtain⟨z,A,B⟩:=id w.d;repeat' first|(with_reducible first|apply aH|refine aI ?_|intro)|exact aZ|exact w|exact w.ea.2|exact(w.len.imp_right λh=>h.2.2.1)|(rw[aoz (n:=n) (o:=o) Y]<;>rfl)|(rw[aqD (n:=n) (o:=o) Y]<;>rfl)|(rw[apd (n:=n) (o:=o) Y]<;>rfl)|(rw[ary (n:=n) (o:=o) Y]<;>rfl)|(rw[aqt (n:=n) (o:=o) Y]<;>rfl)|(rw[apr (n:=n) (o:=o) Y]<;>rfl)|(rw[ao9 (n:=n) (o:=o) Y]<;>rfl)|(rw[ano (n:=n) (o:=o) Y Y Y Y Y Y Y]<;>rfl)
def kU:=(ae PK Ca)
def al1{x y:eA}(h:x.a8=y.a8)(a:n9.mk x.b=n9.mk y.b):x=y:=by
 cases x;cases y;simp only[n9.mk.injEq]at*;subst h;subst a;rfl
section
variable{a b:List eA}{k:Nat}{d:eA}
def aoA(h:a.take k=b.take k)(c:k<a.length)(g:a.length=b.length)(e:(a.getD k d).a8=(b.getD k d).a8)(f:n9.mk (a.getD k d).b=n9.mk (b.getD k d).b):a.take (k+1)=b.take (k+1):=xL h c N (al1 e f)
def aj8(e:¬(a.getD k d).a8=(b.getD k d).a8\/¬n9.mk (a.getD k d).b=n9.mk (b.getD k d).b):false=decide (a=b):=(D7 (by rintro rfl;simp at e)).symm
variable{α:Type}
def ajK[DecidableEq α]{a b:List α}(h:a.take k=b.take k)(c:a.length<=k)(e:a.length=b.length):true=decide (a=b):=by
 rw[take_of_length_le c,take_of_length_le N]at h;exact(F5 h).symm
def aiy[DecidableEq α]{a b:List α}(h:¬(a.length:Int)=b.length):false=decide (a=b):=(D7 (by rintro rfl;exact h rfl)).symm
end
def MX(a:List eA)(b:List eA):List (Nat×LI):=[(4,{σ:=Nat,F:=λk=>([(0,one (.fz (.nm .entry) a)),(1,one (.fz (.nm .entry) b)),(5,one (.int k))],[]),J:=λk=>k<=a.length/\a.length=b.length/\a.take k=b.take k,μ:=λk=>a.length-k})]
theorem JT:CK 55 (aD (ak xc vd) av λ(a,b,_) _=>{rs:=[.c (.bool (.atom (decide (a=b))))]}):=ag λ(a,b,_) _ _=>by
 refine al kU (MX a b) func55 (?_:(λ(y:Int)(z:Prop)(g:Nat)(A:Int)(B:Nat)(o:Int)(v:Nat)=>(λ(j:l7 (Sh.nm NT.entry))=>a.length*32<=v->b.length*32<=v->(¬o=A->z)/\(o=A->∃(w:Nat),(a=a/\b=b/\y=(w:Int))/\(w<=g/\g=b.length/\take w a=take w b)/\∀(s:Nat),(λ(p:Prop)(d:Int)=>(λ(h:Prop)(i:Prop)(e:Int)(f:Int)(q:Prop)(r:Prop)=>s<=g/\g=b.length/\take s a=take s b->(d<o->(¬f=e->h/\i/\(W f->r->W e->q->z))/\(f=e->h/\i/\(W f->r->W e->q->h)/\(W f->r->W e->q->i)/\(W f->r->W e->q->W f->r->W e->q->(¬p->z)/\(p->W (d+1)/\∃(u:Nat),(a=a/\b=b/\d+1=(u:Int))/\(u<=g/\g=b.length/\take u a=take u b)/\g-u<g-s))))/\(o<=d->true=decide (a=b))) (y<=d/\d<o) (y<=d/\d<A) (b.getD s j).a8 (a.getD s j).a8 ((b.getD s j).b.length*B<=v) ((a.getD s j).b.length*B<=v)) (n9.mk (a.getD s j).b=n9.mk (b.getD s j).b) (s:Int))) (c4 (Sh.nm NT.entry))) 0 (false=decide (a=b)) a.length (b.length:Int) 1 (a.length:Int) 140737488355328);repeat' first|(with_reducible first|apply aH|refine aI ?_|intro)|exact aZ|exact rfl|exact(aiy Y)|exact(aoA Y N Y Y Y)|exact(aj8 (.inl Y))|exact(aj8 (.inr Y))|exact(ajK Y N Y)|refine⟨‹Nat›+1,?_⟩|refine⟨0,?_⟩
def vO:=(ae JT kU)
section
variable{a b:List ep}{k:Nat}{d:ep}
def ap3(h:a.take k=b.take k)(c:k<a.length)(f:a.length=b.length)(e:a.getD k d=b.getD k d):a.take (k+1)=b.take (k+1):=xL h c N e
def anA(e:¬a.getD k d=b.getD k d):false=decide (a=b):=(D7 (by rintro rfl;exact e rfl)).symm
end
theorem TB:CK 54 (aD (ak (kT (.nm .letter)) tn) av λ(a,b,_) _=>{rs:=[.c (.bool (.atom (decide (a=b))))]}):=ag λ(a,b,_) _ _=>by
 refine al vO [] func54 (?_:aP a (aP b ((decide (a.l=b.l)&&decide (a.kind=b.kind)&&decide (a.l5=b.l5)&&decide (a.to=b.to)&&decide (a.a8=b.a8)&&decide (a.a=b.a)&&decide (a.b=b.b)&&decide (a.c=b.c)&&decide (a.bin=b.bin)&&a.ok==b.ok)=decide (a=b))));(repeat intro);cases a;cases b;simp only[ep.mk.injEq];grind
theorem Ui:CK 15 (aD (ak (kT (.nm .site)) (ak (kT (.nm .site)) bS)) av λ(a,b,_) _=>{rs:=[.c (.bool (.atom (decide (a=b))))]}):=ag λ(a,b,_) _ _=>by
 refine al vO [] func15 (?_:zu a (zu b ((decide (a.log=b.log)&&decide (a.state=b.state)&&a.up==b.up&&decide (a.ee=b.ee)&&decide (a.binary=b.binary)&&decide (a.floor=b.floor)&&decide (a.a8=b.a8)&&decide (a.hQ=b.hQ)&&decide (a.b8=b.b8)&&decide (a.b5=b.b5))=decide (a=b))));(repeat intro);cases a;cases b;simp only[Site.mk.injEq];grind
def AB:=(ae Ui (ae TB vO))
def Vc(a:List ep)(b:List ep):List (Nat×LI):=[(4,{σ:=Nat,F:=λk=>([(0,one (.fz (.nm .letter) a)),(1,one (.fz (.nm .letter) b)),(5,one (.int k))],[]),J:=λk=>k<=a.length/\a.length=b.length/\a.take k=b.take k,μ:=λk=>a.length-k})]
theorem MC:CK 14 (aD (ak (kC (cL (.nm .letter))) (ak (kC (cL (.nm .letter))) bS)) av λ(a,b,_) _=>{rs:=[.c (.bool (.atom (decide (a=b))))]}):=ag λ(a,b,_) _ _=>by
 refine al AB (Vc a b) func14 (?_:(λ(d:Nat)(e:Int)=>(λ(g:l7 (Sh.nm NT.letter))=>a.length*96<=140737488355328->b.length*96<=140737488355328->(¬e=(b.length:Int)->false=decide (a=b))/\(e=(b.length:Int)->∃(h:Nat),(a=a/\b=b/\0=(h:Int))/\(h<=d/\d=b.length/\take h a=take h b)/\∀(s:Nat),(λ(i:Bool)=>s<=d/\d=b.length/\take s a=take s b->((s:Int)<e->(0<=(s:Int)/\(s:Int)<e)/\(0<=(s:Int)/\(s:Int)<(b.length:Int))/\aP (a.getD s g) (aP (b.getD s g) ((i=false->false=decide (a=b))/\(i=true->W ((s:Int)+1)/\∃(f:Nat),(a=a/\b=b/\(s:Int)+1=(f:Int))/\(f<=d/\d=b.length/\take f a=take f b)/\d-f<d-s))))/\(e<=(s:Int)->true=decide (a=b))) (decide (a.getD s g=b.getD s g)))) (c4 (Sh.nm NT.letter))) a.length (a.length:Int));repeat' first|(with_reducible first|apply aH|refine aI ?_|intro)|exact aZ|exact rfl|exact(aiy Y)|exact(ap3 Y N Y (C6 Y))|exact(anA (T0 Y))|exact(ajK Y N Y)|refine⟨‹Nat›+1,?_⟩|refine⟨0,?_⟩
def BK:=(ae MC AB)
def agW(s:Nat)(b:List UInt8):List (Nat×LI):=[(4,{σ:=Nat,F:=λk=>([(1,one (.fz .u8 b)),(5,one (.xx (.w ((gG (s%65536%65521,s/65536%65521) (b.take k)).1)) [])),(6,one (.xx (.w ((gG (s%65536%65521,s/65536%65521) (b.take k)).2)) [])),(7,one (.int k))],[]),J:=λk=>k<=b.length,μ:=λk=>b.length-k})]
theorem ael:CK 213 (aD (ak (kC cW) gl) av λ(s,b,_) _=>{rs:=[.c (.xx (.w (dv s b)) [])]}):=ag λ(s,b,_) _ _=>by
 refine al BK (agW s b) func213 (?_:(λf e d=>(λg=>b.length*1<=140737488355328->f<e/\f<d/\f<e/\f<d/\∃i,(b=b/\s%e%d=(gG g (take i b)).1/\s/e%d=(gG g (take i b)).2/\0=(i:Int))/\i<=b.length/\∀(a:Nat),(λj=>a<=b.length->((a:Int)<(b.length:Int)->0<=(a:Int)/\(a:Int)<(b.length:Int)/\∀(x:UInt8),(λo=>b[a]? =some x->f<d/\f<d/\W ((a:Int)+1)/\∃h,(b=b/\o=(gG g (take h b)).1/\(j.2+o)%4294967296%d=(gG g (take h b)).2/\(a:Int)+1=(h:Int))/\h<=b.length/\b.length-h<b.length-a) ((j.1+x.toNat)%4294967296%d))/\((b.length:Int)<=(a:Int)->(e*j.2%4294967296+j.1)%4294967296=dv s b)) (gG g (take a b))) (s%e%d,s/e%d)) (0:Nat) (65536:Nat) (65521:Nat));(repeat' with_reducible first|apply aH|refine aI ?_|intro)
 all_goals try(refine⟨0,?_⟩;(repeat' with_reducible first|apply aH|refine aI ?_|intro))
 all_goals try(refine⟨‹Nat›+1,?_⟩;(repeat' with_reducible first|apply aH|refine aI ?_|intro))
 all_goals(first|exact aZ|exact rfl|exact(Mq Y)|exact(MP Y)|exact(Ts Y))
def wK:=(ae ael BK)
def WH:CK 187 (aD gl av λ(b,_) _=>{rs:=[.c (.xx (.w (dv 1 b)) [])]}):=ag λ(b,_) _ _=>by
 refine al wK [] func187 (?_:b.length*1<=140737488355328->dv 1 b=dv 1 b);intros;rfl
theorem ad9:CK 185 (aD xj av λ(x,lo,a,_) _=>{rs:=[.c (.bool (.atom (decide (lo<=x)&&decide (x<=a))))]}):=ag λ(x,lo,a,_) _ _=>by
 refine al wK [] func185 (?_:(λd=>W x->W lo->W a->d=d) (decide (lo<=x)&&decide (x<=a)));(repeat' with_reducible first|apply aH|refine aI ?_|intro)<;>first|(first|with_reducible rfl|with_reducible assumption|omega|(refine aY ?_ ?_<;>omega))|grind
def Ay:=(ae ad9 (ae WH wK))
theorem ar8{x:List UInt8}:[DW (Int.tdiv (x.length:Int) 256),DW (Int.tmod (x.length:Int) 256)]++x=gO x:=by
 have a:Int.tdiv (x.length:Int) 256=((x.length/256:Nat):Int):=(Int.ofNat_tdiv _ _).symm;have c:Int.tmod (x.length:Int) 256=((x.length%256:Nat):Int):=(Int.ofNat_tmod _ _).symm;have d:ofNat (x.length%256)=ofNat x.length:=by apply toNat.inj;simp
 rw[a,c,tH,tH,d,gO]
def Mc{x:List UInt8}:(gO x).length=x.length+2:=by simp[gO]
theorem Rf:CK 132 (aD gl av λ(x,_) _=>{rs:=[.c (.fz .u8 ((gq x).1)),.c (.int ((gq x).2))]}):=ag λ(x,_) _ _=>by
 refine al (yR Ay) [] func132 (?_:(λh g d e a=>(λi=>(λf=>(λj=>x.length*e<=140737488355328->(a=d\/4096<a->(gq x).1=[]/\4=(gq x).2)/\(¬a=d/\a<=4096->d<=a/\d<g/\d<=a/\d<g/\(i.length+x.length)*e<=140737488355328/\24<32/\16<32/\8<32/\(f.length+j.length)*e<=140737488355328/\f++j=(gq x).1/\d=(gq x).2)) [ofNat (dv e f/h^24),ofNat (dv e f/h^16),ofNat (dv e f/h^8),ofNat (dv e f)]) (i++x)) [DW (a.tdiv g),DW (a.tmod g)]) (2:Nat) (256:Int) (0:Int) (1:Nat) (x.length:Int));repeat' first|(with_reducible first|apply aH|refine aI ?_|intro)|exact aZ|(simp only[ar8,gq,fy,rz,Q9]at*;have:=Mc (x:=x);grind)
def DE:=(ae Rf Ay)
theorem Cf:cA b=256*((b.getD 0 (c4 .u8):UInt8).toNat:Int)+((b.getD 1 (c4 .u8):UInt8).toNat:Int):=by
 have a:((b.getD 0 (c4 .u8):UInt8).toNat:Int)*2^8=(((b.getD 0 (c4 .u8):UInt8).toNat*256:Nat):Int):=by omega
 rw[cA,a,Zl,G3,G3,ow (UInt8.toNat_lt _)];omega
theorem SG{l:List UInt8}(h:l.length=4):rz (As l)=l:=by
 obtain⟨a,l,rfl⟩:=X3 h;obtain⟨b,l,rfl⟩:=X3 (L6 h);obtain⟨c,l,rfl⟩:=X3 (L6 (L6 h));obtain⟨d,l,rfl⟩:=X3 (L6 (L6 (L6 h)));obtain rfl:=A6 (L6 (L6 (L6 (L6 h))));have f:=a.toNat_lt;have g:=b.toNat_lt;have i:=c.toNat_lt;have j:=d.toNat_lt;have e:As [a,b,c,d]=((a.toNat*256+b.toNat)*256+c.toNat)*256+d.toNat:=by
  simp only[As,List.foldl_cons,List.foldl_nil];rw[show(0*256)%4294967296=0*256 from rfl,ow (a:=0) f,O7,A3,E9 (a:=a.toNat*256) N,ow g,E9 (a:=(a.toNat*256+b.toNat)*256) N,ow i,E9 N,ow j]
 rw[e,rz];have k:∀(x:UInt8) (n:Nat),n%256=x.toNat->ofNat n=x:=λx n h=>toNat.inj (by rw[ofNat_toNat,h]);rw[k a _ N,k b _ N,k c _ N,k d _ N]
section
variable{b:List UInt8}
theorem ahA(a:¬(b.length:Int)<2)(g:cA b+6<=(b.length:Int)):gO ((b.drop 2).take (cA b).toNat)=b.take (cA b+2).toNat:=by
 obtain⟨x,l,rfl⟩:=List.exists_cons_of_ne_nil (l:=b) (by rintro rfl;simp at a);obtain⟨y,l,rfl⟩:=List.exists_cons_of_ne_nil (l:=l) (by rintro rfl;simp at a);have e:cA (x::y::l)=256*(x.toNat:Int)+(y.toNat:Int):=Cf;have i:=x.toNat_lt;have j:=y.toNat_lt;have o:((x::y::l).length:Int)=l.length+2:=by simp;omega
 have c:(cA (x::y::l)).toNat=256*x.toNat+y.toNat:=by omega
 have d:(cA (x::y::l)+2).toNat=256*x.toNat+y.toNat+2:=by omega
 have k:∀(x:UInt8) (n:Nat),n%256=x.toNat->ofNat n=x:=λx n h=>toNat.inj (by rw[ofNat_toNat,h]);rw[gO,c,d];have f:(((x::y::l).drop 2).take (256*x.toNat+y.toNat)).length=256*x.toNat+y.toNat:=by grind
 rw[f,k x _ N,k y _ N];rfl
theorem aaf(a:¬(b.length:Int)<2)(g:¬cA b=0)(i:¬cA b>4096)(c:cA b+6<=(b.length:Int)):aG b=if(gq ((b.drop 2).take (cA b).toNat)).1=b.take (cA b+6).toNat then((b.drop 2).take (cA b).toNat,cA b+6,0)else([],0,3):=by
 have j:=Am b;have o:((b.drop 2).take (cA b).toNat).length=(cA b).toNat:=by rw[sh,length_drop];omega
 have d:(2+cA b)=cA b+2:=by omega
 have e:b.take (cA b+6).toNat=b.take (cA b+2).toNat++(b.drop (cA b+2).toNat).take 4:=by
  rw[show(cA b+6).toNat=(cA b+2).toNat+4 by omega,List.take_add]
 have p:((b.drop (cA b+2).toNat).take 4).length=4:=by rw[sh,length_drop];omega
 have f:(gq ((b.drop 2).take (cA b).toNat)).1=b.take (cA b+2).toNat++rz (dv 1 (b.take (cA b+2).toNat)):=by
  rw[gq,X N,fy,ahA a c]
 rw[f,aG,X N,X N,X N,e,d,show(cA b+2).toNat-2=(cA b).toNat by omega,show cA b+2+4=cA b+6 by omega];by_cases h:dv 1 (b.take (cA b+2).toNat)=As ((b.drop (cA b+2).toNat).take 4)
 .grind[SG]
 grind[List.append_cancel_left,IZ,Dt]
abbrev zO(b:List UInt8):Int:=256*((b.getD 0 (c4 .u8):UInt8).toNat:Int)+((b.getD 1 (c4 .u8):UInt8).toNat:Int)
abbrev RT(b:List UInt8):List UInt8:=(b.drop 2).take ((zO b+2).toNat-2)
def Ie(h:(b.length:Int)<2):([],0,2)=aG b:=by rw[aG,O N]
def Is(a:(2:Int)<=b.length)(h:zO b=0\/4096<zO b):([],0,3)=aG b:=by
 rw[zO,<-Cf]at h;rw[aG,X N,O N]
def HZ(c:(2:Int)<=b.length)(g:¬zO b=0)(h:zO b<=4096)(a:(b.length:Int)<zO b+6):([],0,2)=aG b:=by
 rw[zO,<-Cf]at g h a;rw[aG,X N,X N,O N]
theorem Ja(a:(2:Int)<=b.length)(g:¬zO b=0)(h:zO b<=4096)(c:zO b+6<=(b.length:Int))(e:¬n9.mk (gq (RT b)).1=n9.mk (b.take (zO b+6).toNat)):([],0,3)=aG b:=by grind[Cf,aaf]
theorem TF(a:(2:Int)<=b.length)(g:¬zO b=0)(h:zO b<=4096)(c:zO b+6<=(b.length:Int))(e:n9.mk (gq (RT b)).1=n9.mk (b.take (zO b+6).toNat)):(RT b,zO b+6,0)=aG b:=by grind[Cf,aaf]
def ae5(g:¬zO b=0)(h:zO b<=4096):(RT b).length*1<=140737488355328:=by rw[RT,sh];omega
end
def Lb:CK 183 (aD gl av λ(b,_) _=>{rs:=[.c (.fz .u8 ((aG b).1)),.c (.int ((aG b).2.1)),.c (.int ((aG b).2.2))]}):=ag λ(b,_) _ _=>by
 refine al DE [] func183 (?_:(λp r i v s d h=>(λu g=>(λj f=>(λa e=>(λo=>b.length*1<=140737488355328->(h<g->j)/\(g<=h->(d<=d/\d<h)/\W r/\(d<=1/\1<h)/\W f/\(f=d\/4096<f->u)/\(¬f=d/\f<=4096->W a/\(h<a->j)/\(a<=h->W (f+g)/\d<=g/\g<=f+g/\f+g<=h/\e.length*1<=140737488355328/\((gq e).1.length*1<=140737488355328->W (gq e).2->W a/\(d<=a/\a<=h)/\(¬o->u)/\(o->W a/\e=(aG b).1/\a=i.1/\d=i.2)))))) (n9.mk (gq e).1=n9.mk (take a.toNat b))) (f+v) (take ((f+g).toNat-s) (drop s b))) (p/\d=i.1/\g=i.2) (r+(↑(toNat (b.getD 1 (c4 Sh.u8))):Int))) (p/\d=i.1/\3=i.2) (2:Int)) ((aG b).1=[]) (256*(↑(toNat (b.getD 0 (c4 Sh.u8))):Int)) (aG b).2 (6:Int) (2:Nat) (0:Int) (b.length:Int));have w:=(b.getD 0 (c4 .u8):UInt8).toNat_lt;have y:=(b.getD 1 (c4 .u8):UInt8).toNat_lt;repeat' first|(with_reducible first|apply aH|refine aI ?_|intro)|exact aZ|exact(o9 Prod.fst (Ie Y))|exact(o9 (λq=>q.2.1) (Ie Y))|exact(o9 (λq=>q.2.2) (Ie Y))|exact(o9 Prod.fst (Is Y Y))|exact(o9 (λq=>q.2.1) (Is Y Y))|exact(o9 (λq=>q.2.2) (Is Y Y))|exact(o9 Prod.fst (HZ Y Y Y Y))|exact(o9 (λq=>q.2.1) (HZ Y Y Y Y))|exact(o9 (λq=>q.2.2) (HZ Y Y Y Y))|exact(o9 Prod.fst (Ja Y Y Y Y Y))|exact(o9 (λq=>q.2.1) (Ja Y Y Y Y Y))|exact(o9 (λq=>q.2.2) (Ja Y Y Y Y Y))|exact(o9 Prod.fst (TF Y Y Y Y Y))|exact(o9 (λq=>q.2.1) (TF Y Y Y Y Y))|exact(o9 (λq=>q.2.2) (TF Y Y Y Y Y))|exact(o9 Prod.fst (Ie Y)).symm|exact(o9 Prod.fst (Is Y Y)).symm|exact(o9 Prod.fst (HZ Y Y Y Y)).symm|exact(o9 Prod.fst (Ja Y Y Y Y Y)).symm|exact(ae5 Y Y)
def AZ:=(ae Lb DE)
def Q3:Nat->List UInt8->List (List UInt8)
 |0,_=>[]
 |n+1,b=>if(aG b).2.2=0 then(aG b).1::Q3 n (b.drop (aG b).2.1.toNat)else[]
def Q2:Nat->List UInt8->Int
 |0,_=>0
 |n+1,b=>if(aG b).2.2=0 then(aG b).2.1+Q2 n (b.drop (aG b).2.1.toNat)else 0
def aF(b:List UInt8):List (List UInt8):=Q3 (b.length+1) b
def aN(b:List UInt8):Int:=Q2 (b.length+1) b
theorem De:∀{n m:Nat} {b:List UInt8},b.length<n->b.length<m->Q3 n b=Q3 m b/\Q2 n b=Q2 m b
 |0,_,_,h,_=>absurd h N
 |_,0,_,_,h=>absurd h N
 |n+1,m+1,b,e,f=>by
  simp[Q3,Q2];by_cases a:(aG b).2.2=0
  .have g:=dX a;have i:(b.drop (aG b).2.1.toNat).length<b.length:=by rw[length_drop];omega
   obtain⟨c,d⟩:=De (n:=n) (m:=m) (b:=b.drop (aG b).2.1.toNat) N N;rw[c,d];exact⟨rfl,rfl⟩
  simp[X a]
theorem QY(h:(aG b).2.2=0):aF b=(aG b).1::aF (b.drop (aG b).2.1.toNat)/\aN b=(aG b).2.1+aN (b.drop (aG b).2.1.toNat):=by
 have d:=dX h;have e:(b.drop (aG b).2.1.toNat).length<b.length:=by rw[length_drop];omega
 obtain⟨a,c⟩:=De (n:=b.length) (m:=(b.drop (aG b).2.1.toNat).length+1) (b:=b.drop (aG b).2.1.toNat) N N;rw[aF,aN,Q3,Q2,O h,O h,a,c];exact⟨rfl,rfl⟩
def Sa(h:¬(aG b).2.2=0):aF b=[]/\aN b=0:=by
 rw[aF,aN,Q3,Q2,X h,X h];exact⟨rfl,rfl⟩
structure J5 where
 l:List (List UInt8)
 a:Int
structure L7(b:List UInt8)(q:J5):Prop where
 a0:0<=q.a
 a1:q.a<=b.length
 n:7*(q.l.length:Int)<=q.a
 f:aF b=q.l++aF (b.drop q.a.toNat)
 s:aN b=q.a+aN (b.drop q.a.toNat)
section
variable{b:List UInt8}{q:J5}
def arU:L7 b ⟨[],0⟩:=⟨x5 0,J8 _,x5 0,rfl,(Int.zero_add _).symm⟩
theorem anX(h:L7 b q)(e:(aG (b.drop q.a.toNat)).2.2=0):L7 b ⟨q.l++[(aG (b.drop q.a.toNat)).1],q.a+(aG (b.drop q.a.toNat)).2.1⟩:=by
 have f:=dX e;have⟨j,o,p,r,c⟩:=h;rw[length_drop]at f;obtain⟨g,d⟩:=QY e;have i:(b.drop q.a.toNat).drop (aG (b.drop q.a.toNat)).2.1.toNat=b.drop (q.a+(aG (b.drop q.a.toNat)).2.1).toNat:=by grind[List.drop_drop]
 rw[i]at g d;refine⟨by dsimp only;omega,by dsimp only;omega,?_,?_,?_⟩
 .simp;omega
 .grind
 dsimp only;rw[c,d];omega
def acG(h:L7 b q)(e:¬(aG (b.drop q.a.toNat)).2.2=0):q.l=aF b/\q.a=aN b:=by
 have⟨f,g,i,c,d⟩:=h;rw[c,d,(Sa e).1,(Sa e).2,A1];exact⟨rfl,(Int.add_zero _).symm⟩
end
def ac4(b:List UInt8):List (Nat×LI):=[(3,{σ:=J5,F:=λq=>([(0,one (.fz .u8 b)),(4,one (.own 0)),(5,one (.int q.a))],[.row 60 (.F9 .u8) q.l]),J:=λq=>L7 b q,μ:=λq=>(b.length-q.a).toNat})]
theorem Xb:CK 127 (aD gl av λ(b,_) _=>{pre:=[b.length<=1000000],rs:=[.c (.fz (.F9 .u8) (aF b)),.c (.int (aN b))]}):=ag λ(b,_) _ g=>by
 have j:=bw g;refine al AZ (ac4 b) func127 (?_:b.length*1<=140737488355328->∃f,(b=b/\0=f.a/\f.l=[])/\L7 b f/\∀(s:J5),(λd=>L7 b s->0<=s.a/\s.a<=(b.length:Int)/\(d.1.length*1<=140737488355328->W d.2.1->W d.2.2->(¬d.2.2=0->s.l=aF b/\s.a=aN b)/\(d.2.2=0->(s.l.length+[d.1].length)*24<=140737488355328/\W (s.a+d.2.1)/\∃e,(b=b/\s.a+d.2.1=e.a/\s.l++[d.1]=e.l)/\L7 b e/\((b.length:Int)-e.a).toNat<((b.length:Int)-s.a).toNat))) (aG (drop s.a.toNat b)));repeat' first|(with_reducible first|apply aH|refine aI ?_|intro)|exact aZ|exact rfl|exact arU|exact(anX Y Y)|exact(acG Y Y).1|exact(acG Y Y).2|exact(acG Y Y).1.symm|(have h:=(show L7 b ‹J5› by assumption);have⟨_,_,_,_,_⟩:=h;first|omega|(refine aY ?_ ?_<;>omega)|(have i:=dX (b:=(drop (‹J5›.a).toNat b)) Y;rw[length_drop]at i;first|omega|(refine aY ?_ ?_<;>omega)|(dsimp only;omega)|(rw[show∀x:List UInt8,[x].length=1 from λ_=>rfl];omega)))|refine⟨J5.mk (‹J5›.l++[(aG (drop (‹J5›.a).toNat b)).1]) (‹J5›.a+(aG (drop (‹J5›.a).toNat b)).2.1),?_⟩|refine⟨J5.mk [] 0,?_⟩
def A_:=(ae Xb AZ)
section
variable{r:dm}
def lp:k9 r=true↔(r.kind=1/\1<=r.a/\r.a<=3/\r.b=0/\(r.x.length:Int)<=0)\/(r.kind=2/\0<=r.a/\r.a<=1048576/\0<=r.b/\r.b<=5/\(r.x.length:Int)<=0)\/(r.kind=3/\1<=r.a/\r.a<=64/\0<=r.b/\r.b<=1048576/\(r.x.length:Int)<=200)\/(r.kind=4/\1<=r.a/\r.a<=64/\r.b=0/\(r.x.length:Int)<=0):=by
 have e:r.x=[]↔(r.x.length:Int)<=0:=by rw[<-List.length_eq_zero_iff];omega
 rw[cq,e];omega
def agS(h:¬k9 r=true):aC r=([],1):=X h
def aaw(h:k9 r=true):DW r.kind=ofNat r.kind.toNat:=by
 have:=d_ h;rw[show r.kind=((r.kind.toNat:Nat):Int) by omega,tH,G3]
def ajt(c:k9 r=true)(h:r.kind=2\/r.kind=3):[DW r.kind]++bm r.a.toNat++bm r.b.toNat++r.x=(aC r).1:=by
 rw[zo c,p7,aaw c,O (by rcases h with h|h<;>rw[h]<;>rfl)]
def aj1(c:k9 r=true)(h:¬r.kind=2/\¬r.kind=3):[DW r.kind]++bm r.a.toNat++r.x=(aC r).1:=by
 have e:r.kind=1\/r.kind=4:=by have:=lp.1 c;omega
 rw[zo c,p7,aaw c,X (by rcases e with h|h<;>rw[h]<;>decide),A1]
end
theorem Zy:CK 131 (aD pX av λ(r,_) _=>{rs:=[.c (.fz .u8 ((aC r).1)),.c (.int ((aC r).2))]}):=ag λ(r,_) _ _=>by
 refine al (yR A_) [] func131 (?_:(λi C z A p q h=>(λs u v w o j=>(λd e f g y=>cD r ((r.kind=1->((C=false\/g)\/f->q)/\((C=true/\e)/\d->y))/\(¬r.kind=1->(o->(((v=false\/u=false)\/g)\/f->q)/\(((v=true/\u=true)/\e)/\d->y))/\(¬o->(j->((((A=false\/s=false)\/200<z)\/g)\/f->q)/\((((A=true/\s=true)/\z<=200)/\e)/\d->y))/\(¬j->(r.kind=4->((A=false\/g)\/f->q)/\((A=true/\e)/\d->y))/\(¬r.kind=4->(((!false)=true\/g)\/f->q)/\(((!false)=false/\e)/\d->y))))))) (j\/z<=h) ((o\/j)\/w) (¬j/\h<z) ((¬o/\¬j)/\¬w) (h<=r.a/\([DW r.kind].length+(bm r.a.toNat).length)*1<=140737488355328/\(o\/j->h<=i/\(p.length+(bm i.toNat).length)*1<=140737488355328/\((p++bm i.toNat).length+r.x.length)*1<=140737488355328/\p++bm i.toNat++r.x=(aC r).1/\h=(aC r).2)/\(¬o/\¬j->(p.length+r.x.length)*1<=140737488355328/\p++r.x=(aC r).1/\h=(aC r).2))) (decide (h<=i)&&decide (i<=1048576)) (decide (h<=i)&&decide (i<=5)) (decide (h<=r.a)&&decide (r.a<=1048576)) (i=h) (r.kind=2) (r.kind=3)) r.b (decide (1<=r.a)&&decide (r.a<=3)) (r.x.length:Int) (decide (1<=r.a)&&decide (r.a<=64)) ([DW r.kind]++bm r.a.toNat) ((aC r).1=[]/\1=(aC r).2) (0:Int));repeat' first|(with_reducible first|apply aH|refine aI ?_|intro)|exact aZ|(rw[agS (by rw[lp];simp only[r3,u9,S7,J2]at*;omega)];done)|(have B:k9 r=true:=(by rw[lp];simp only[r3,u9,S7,J2]at*;omega);have D:=d_ B;first|omega|(simp only[s8,x7,B2];omega)|exact ajt B Y|exact aj1 B N|(rw[zo B];done))|(simp_all;done)|skip
def CW:=(ae Zy A_)
section
variable{n m:Nd}{L l:List dm}{x:ep}{o:A5}{c:b6}{b k:Int}
end
abbrev B4(b:List UInt8):List UInt8:=b.drop (1+((c7 (b.drop 1)).2.1:Int)).toNat
structure V3(b:List UInt8)(r:dm):Prop where
 ok:k9 r=true
 put:b=p7 r
 len:¬(b.length:Int)=0
 kd:b[0]? =some (ofNat r.kind.toNat)
 a:(c7 (b.drop 1)).1=r.a.toNat
 e:(c7 (b.drop 1)).2.2=0
 b2:r.kind=2\/r.kind=3->(c7 (B4 b)).1=r.b.toNat/\(c7 (B4 b)).2.2=0/\(B4 b).drop (c7 (B4 b)).2.1=r.x
section
variable{b:List UInt8}{x:UInt8}{r:dm}
def Fq(h:(aL b).2=0):V3 b (aL b).1:=by
 obtain⟨e,g⟩:=zR h;generalize(aL b).1=r at*;subst g;have i:=d_ e;have c:p7 r=ofNat r.kind.toNat::(bm r.a.toNat++((if sY r.kind=true then bm r.b.toNat else[])++r.x)):=by simp[p7]
 have f:(p7 r).drop 1=bm r.a.toNat++((if sY r.kind=true then bm r.b.toNat else[])++r.x):=by rw[c];rfl
 have d:c7 ((p7 r).drop 1)=(r.a.toNat,(bm r.a.toNat).length,0):=by rw[f];exact jl N _
 refine⟨e,rfl,by rw[c];simp;omega,by rw[c];rfl,by rw[d],by rw[d],λj=>?_⟩;have o:B4 (p7 r)=bm r.b.toNat++r.x:=by
  rw[B4,d,show(1+((bm r.a.toNat).length:Int)).toNat=1+(bm r.a.toNat).length by omega,<-J1,f,V6,O (by rcases j with h|h<;>rw[h]<;>rfl)]
 rw[o,jl N];exact⟨rfl,rfl,V6⟩
theorem HM(h:¬(aL b).2=0):aL b=(mu,3):=by
 revert h;unfold aL;split
 .intro _;rfl
 grind
def Hl(a:b[0]? =some x)(q:V3 b r):(x.toNat:Int)=r.kind:=by
 have c:=d_ q.ok;have e:=q.kd;rw[a]at e;cases e;rw[ofNat_toNat];omega
def agD(h:(b.length:Int)=0):aL b=(mu,3):=HM λk=>(Fq k).len h
def akr(h:¬(c7 (b.drop 1)).2.2=0\/((1073741824:Nat):Int)<((c7 (b.drop 1)).1:Int)):aL b=(mu,3):=HM λk=>by
 have q:=Fq k;have c:=d_ q.ok;rw[q.e,q.a]at h;omega
def ah6(h:¬(c7 (B4 b)).2.2=0\/((1073741824:Nat):Int)<((c7 (B4 b)).1:Int))(c:b[0]? =some x)(a:(x.toNat:Int)=2\/(x.toNat:Int)=3):aL b=(mu,3):=HM λk=>by
 have q:=Fq k;have d:=d_ q.ok;rw[Hl c q]at a;rw[(q.b2 a).2.1,(q.b2 a).1]at h;omega
def N_(a:(aL b).2=0->(aL b).1=r)(h:¬(aC r).2=0\/¬n9.mk (aC r).1=n9.mk b):aL b=(mu,3):=HM λk=>by
 have q:=Fq k;rw[a k]at q;rw[zo q.ok]at h;rcases h with h|h
 .exact h rfl
 exact h (o9 n9.mk q.put.symm)
def aj4(h:(aC r).2=0)(a:n9.mk (aC r).1=n9.mk b):aL b=(r,0):=by
 have c:=dt.1 h;rw[zo c]at a;rw[<-n9.mk.inj a];exact Cj c
variable{a:Int}
def Cw{n:Nat}(h:n=a.toNat)(c:0<=a)(d:a<=1048576):a=cF n:=by
 rw[h,oW N];omega
theorem rec_eq{k c:Int}{y:List UInt8}(d:r.kind=k)(e:r.a=a)(f:r.b=c)(g:r.x=y):r=⟨k,a,c,y⟩:=by cases r;simp_all
def ali(h:¬(aC ⟨(x.toNat:Int),cF (c7 (b.drop 1)).1,cF (c7 (B4 b)).1,(B4 b).drop (c7 (B4 b)).2.1⟩).2=0\/¬n9.mk (aC ⟨(x.toNat:Int),cF (c7 (b.drop 1)).1,cF (c7 (B4 b)).1,(B4 b).drop (c7 (B4 b)).2.1⟩).1=n9.mk b)(d:b[0]? =some x)(f:(x.toNat:Int)=3):aL b=(mu,3):=N_ (λk=>by
 have q:=Fq k;have g:=d_ q.ok;have e:=Hl d q;have c:=q.b2 (.inr N);exact rec_eq e.symm (Cw q.a N N) (Cw c.1 N N) c.2.2.symm) h
def agK(h:¬(aC ⟨(x.toNat:Int),cF (c7 (b.drop 1)).1,cF (c7 (B4 b)).1,[]⟩).2=0\/¬n9.mk (aC ⟨(x.toNat:Int),cF (c7 (b.drop 1)).1,cF (c7 (B4 b)).1,[]⟩).1=n9.mk b)(c:b[0]? =some x)(g:(x.toNat:Int)=2\/(x.toNat:Int)=3)(d:¬(x.toNat:Int)=3):aL b=(mu,3):=N_ (λk=>by
 have q:=Fq k;have i:=d_ q.ok;have e:=Hl c q;have f:=q.b2 (.inl N);have c:(aL b).1.x=[]:=A6 (by have:=lp.1 q.ok;omega);exact rec_eq e.symm (Cw q.a N N) (Cw f.1 N N) c) h
def ah5(h:¬(aC ⟨(x.toNat:Int),cF (c7 (b.drop 1)).1,0,[]⟩).2=0\/¬n9.mk (aC ⟨(x.toNat:Int),cF (c7 (b.drop 1)).1,0,[]⟩).1=n9.mk b)(c:b[0]? =some x)(d:¬(x.toNat:Int)=2/\¬(x.toNat:Int)=3):aL b=(mu,3):=N_ (λk=>by
 have q:=Fq k;have f:=d_ q.ok;have e:=Hl c q;have g:=lp.1 q.ok;have c:(aL b).1.x=[]:=A6 N;exact rec_eq e.symm (Cw q.a N N) N c) h
def aad(c:b[0]? =some x):1+((c7 (b.drop 1)).2.1:Int)<=(b.length:Int):=by
 have:=TJ (b.drop 1);have d:=(sy.1 c).1;rw[length_drop]at this;omega
end
def RX:CK 128 (aD gl av λ(b,_) _=>{rs:=[.agg (cellsOf (.nm .record) ((aL b).1)),.c (.int ((aL b).2))]}):=ag λ(b,_) _ _=>by
 refine al CW [] func128 (?_:(λA r f H F G y h=>(λs=>(λu d z=>(λB C=>(λv g=>(λD w=>b.length*y<=f->(G=d->B)/\(¬G=d->d<=d/\d<G/\∀(x:UInt8),(λe=>(λi j o p q=>b[(0:Nat)]? =some x->d<=A/\A<=G/\(s.1<(18446744073709551616:Nat)->W (s.2.1:Int)->W s.2.2->(¬s.2.2=d\/r<(s.1:Int)->B)/\(s.2.2=d/\(s.1:Int)<=r->W u/\d<=u/\u<=G/\(e=(2:Int)\/i->v<(18446744073709551616:Nat)->W (g.1:Int)->W g.2->(¬g.2=d\/r<(v:Int)->B)/\(g.2=d/\(v:Int)<=r->d<=(g.1:Int)/\(g.1:Int)<=(C.length:Int)/\(i->D.length*y<=f/\(q.1.length*y<=f->W q.2->(¬q.2=d\/¬n9.mk q.1=n9.mk b->B)/\(q.2=d/\n9.mk q.1=n9.mk b->mE (dm.mk e z w D) h (d=F))))/\(¬i->p.1.length*y<=f->W p.2->(¬p.2=d\/¬n9.mk p.1=n9.mk b->B)/\(p.2=d/\n9.mk p.1=n9.mk b->e=h.kind/\z=h.a/\w=h.b/\h.x=[]/\d=F))))/\(¬e=(2:Int)/\¬i->(i->C.length*y<=f/\(j.1.length*y<=f->W j.2->(¬j.2=d\/¬n9.mk j.1=n9.mk b->B)/\(j.2=d/\n9.mk j.1=n9.mk b->mE (dm.mk e z d C) h (d=F))))/\(¬i->o.1.length*y<=f->W o.2->(¬o.2=d\/¬n9.mk o.1=n9.mk b->B)/\(o.2=d/\n9.mk o.1=n9.mk b->e=h.kind/\z=h.a/\d=h.b/\h.x=[]/\d=F)))))) (e=H) (aC (dm.mk e z d C)) (aC (dm.mk e z d [])) (aC (dm.mk e z w [])) (aC (dm.mk e z w D))) (x.toNat:Int))) (drop g.1 C) (cF v)) (c7 C).1 (c7 C).2) (d=h.kind/\d=h.a/\d=h.b/\h.x=[]/\H=F) (drop u.toNat b)) (A+(s.2.1:Int)) (0:Int) (cF s.1)) (c7 (drop y b))) (1:Int) (↑(1073741824:Nat):Int) (140737488355328:Nat) (3:Int) (aL b).2 (b.length:Int) (1:Nat) (aL b).1);repeat' first|(with_reducible first|apply aH|refine aI ?_|intro)|exact aZ|(rw[agD Y]<;>rfl)|(rw[akr Y]<;>rfl)|(rw[ah6 Y Y Y]<;>rfl)|(rw[ali Y Y Y]<;>rfl)|(rw[agK Y Y Y Y]<;>rfl)|(rw[ah5 Y Y N]<;>rfl)|(rw[aj4 Y Y]<;>rfl)|exact(aad Y)|exact(TJ _)|(have:=aad (b:=b) Y;exact aY N N)|(simp only[length_drop];omega)
def BM:=(ae RX CW)
section
variable{s:b9}{r:dm}
def akK(h:¬(aC r).2=0):aK s r=(s,(aC r).2):=by
 rw[(jN h).1,aK,O (jN h).2]
variable(h0:(aC r).2=0)
include h0
def Hn(e:dO s r=none):aK s r=(s,5):=by rw[aK,X (by rw[dt.1 h0];decide),e]
def Hb{t:b9}(e:dO s r=some t):aK s r=(t,0):=by rw[aK,X (by rw[dt.1 h0];decide),e]
def ahZ(c:r.kind=1)(h:r.a<s.floor):aK s r=(s,5):=Hn h0 (by rw[dO,O c,ey,O h])
def aiC(c:r.kind=1)(h:s.floor<=r.a):aK s r=(⟨r.a,s.a8,s.hQ,s.log⟩,0):=Hb h0 (by rw[dO,O c,ey,X N])
def ak4(c:r.kind=2)(d:r.a<=s.a8)(h:¬r.a=s.a8\/¬s.hQ=0/\¬s.hQ=r.b):aK s r=(s,5):=Hn h0 (by rw[dO,X N,O c,fK,O N])
def ak_(c:r.kind=2)(h:s.a8<r.a\/r.a=s.a8/\(s.hQ=0\/s.hQ=r.b)):aK s r=(⟨s.floor,r.a,r.b,s.log⟩,0):=Hb h0 (by rw[dO,X N,O c,fK,X N])
def ahD(c:r.kind=3)(h:¬r.a=(s.log.length:Int)+1):aK s r=(s,5):=Hn h0 (by rw[dO,X N,X N,O c,ei,O h])
def agU(c:r.kind=3)(h:r.a=(s.log.length:Int)+1):aK s r=(⟨s.floor,s.a8,s.hQ,s.log++[⟨r.b,r.x⟩]⟩,0):=Hb h0 (by rw[dO,X N,X N,O c,ei,X (A0.2 h)])
def ahd(c:r.kind=4)(h:(s.log.length:Int)<r.a):aK s r=(s,5):=Hn h0 (by rw[dO,X N,X N,X N,fW,O h])
def ah2(c:r.kind=4)(h:r.a<=(s.log.length:Int)):aK s r=(⟨s.floor,s.a8,s.hQ,s.log.take (r.a-1).toNat⟩,0):=Hb h0 (by rw[dO,X N,X N,X N,fW,X N])
def agu(a:¬r.kind=1)(c:¬r.kind=2)(d:¬r.kind=3)(e:¬r.kind=4):aK s r=(s,5):=by have:=lp.1 (dt.1 h0);omega
def agm:0<=r.a/\r.a<=1048576/\(r.kind=4->0<=r.a-1):=by have:=lp.1 (dt.1 h0);omega
end
def NO:CK 129 (aD (ak iO pX) av λ(s,r,_) _=>{pre:=[s.log.length<=1000000],rs:=[.agg (cellsOf (.nm .stable) ((aK s r).1)),.c (.int ((aK s r).2))]}):=ag λ(s,r,_) _ p=>by
 have q:=bw p;refine al BM [] func129 (?_:(λo d h f g=>(λj e i=>bz s (cD r ((aC r).1.length*1<=140737488355328->W o->(¬o=h->ai s g (o=(aK s r).2))/\(o=h->s.log.length*32<=140737488355328/\(r.kind=f->(d<s.floor->i)/\(s.floor<=d->ai (b9.mk d s.a8 s.hQ s.log) g j))/\(¬r.kind=f->(r.kind=2->(d<=s.a8/\(¬d=s.a8\/¬s.hQ=h/\¬s.hQ=r.b)->i)/\(s.a8<d\/d=s.a8/\(s.hQ=h\/s.hQ=r.b)->ai (b9.mk s.floor d r.b s.log) g j))/\(¬r.kind=2->(r.kind=3->W (e+f)/\r.x.length*1<=140737488355328/\(s.log.length+[eA.mk r.b r.x].length)*32<=140737488355328/\(¬d=e+f->i)/\(d=e+f->ai (b9.mk s.floor s.a8 s.hQ (s.log++[eA.mk r.b r.x])) g j))/\(¬r.kind=3->(r.kind=4->(d<=e->W (d-f)/\h<=d-f/\d-f<=e/\(e<d->i)/\(d<=e->ai (b9.mk s.floor s.a8 s.hQ (take (d-f).toNat s.log)) g j))/\(e<d->(e<d->i)/\(d<=e->ai s g j)))/\(¬r.kind=4->i)))))))) (h=(aK s r).2) (s.log.length:Int) (ai s g (5=(aK s r).2))) (aC r).2 r.a (0:Int) (1:Int) (aK s r).1);repeat' first|(with_reducible first|apply aH|refine aI ?_|intro)|exact aZ|(rw[akK Y]<;>rfl)|(rw[agu Y Y Y Y Y]<;>rfl)|(rw[ahZ Y Y Y]<;>rfl)|(rw[aiC Y Y Y]<;>rfl)|(rw[ak4 Y Y Y Y]<;>rfl)|(rw[ak_ Y Y Y]<;>rfl)|(rw[ahD Y Y Y]<;>rfl)|(rw[agU Y Y Y]<;>rfl)|(rw[ahd Y Y Y]<;>rfl)|(rw[ah2 Y Y Y]<;>rfl)|(have:=agm Y;first|omega|exact aY N N)|(simp only[x7,B2];omega)
def Ci:=(ae NO BM)
structure J0 where
 i:Nat
 s:b9
 u:Int
structure RK(b:List UInt8)(q:J0):Prop where
 rj:RJ b q.s q.u
 d:(aF b).drop q.i=aF (b.drop q.u.toNat)
section
variable{b x:List UInt8}{q:J0}
theorem xR(h:(aG b).2.2=0):(aG b).2.1=((aG b).1.length:Int)+6:=by
 have a:=Am b;revert h;unfold aG;split
 .intro h;cases h
 split
 .intro h;cases h
 split
 .intro h;cases h
 split
 .grind
 intro h;cases h
def art:RK b ⟨0,p0,0⟩:=⟨aiX,rfl⟩
theorem Xs(h:RK b q)(a:(aF b)[q.i]? =some x):(aG (b.drop q.u.toNat)).2.2=0/\x=(aG (b.drop q.u.toNat)).1/\(aF b).drop (q.i+1)=aF ((b.drop q.u.toNat).drop (aG (b.drop q.u.toNat)).2.1.toNat):=by
 obtain⟨c,a⟩:=sy.1 a;have e:=K6 c;rw[h.d,a]at e;by_cases f:(aG (b.drop q.u.toNat)).2.2=0
 .grind[QY]
 rw[(Sa f).1]at e;cases e
def aql(h:RK b q)(c:(aF b)[q.i]? =some x)(d:¬(aL x).2=0):hX b=(q.s,q.u):=by
 obtain⟨a,rfl,_⟩:=Xs h c;exact amd h.rj a d
def aoG(h:RK b q)(c:(aF b)[q.i]? =some x)(d:(aL x).2=0)(e:¬(aK q.s (aL x).1).2=0):hX b=(q.s,q.u):=by
 obtain⟨a,rfl,_⟩:=Xs h c;exact aiG h.rj a d e
def abE(a:(aF b)[k]? =some x):x=(aF b).getD k []:=by rw[getD_eq_getElem?_getD,a];rfl
def Vk{s:b9}(a:(aF b)[k]? =some x):aK s (aL x).1=aK s (aL ((aF b).getD k [])).1:=by rw[<-abE a]
def arG(f:(aK q.s (aL x).1).2=0)(g:(aL x).2=0)(d:(aF b)[q.i]? =some x)(h:RK b q):RK b ⟨q.i+1,(aK q.s (aL ((aF b).getD q.i [])).1).1,q.u+(((aF b).getD q.i []).length:Int)+6⟩:=by
 rw[<-abE d];obtain⟨a,rfl,c⟩:=Xs h d;have e:q.u+(((aG (b.drop q.u.toNat)).1.length:Nat):Int)+6=q.u+(aG (b.drop q.u.toNat)).2.1:=by rw[xR a];omega
 have j:=dX a;have o:=h.rj.le;rw[e];refine⟨akV h.rj a g f,?_⟩;show(aF b).drop (q.i+1)=_;rw[c,J1,show q.u.toNat+(aG (b.drop q.u.toNat)).2.1.toNat=(q.u+(aG (b.drop q.u.toNat)).2.1).toNat by omega]
def anh(h:RK b q)(c:((aF b).length:Int)<=(q.i:Int)):hX b=(q.s,q.u):=by
 refine aj5 h.rj λa=>?_;have e:=h.d;rw[M1 N,(QY a).1]at e;cases e
def ahF(h:RK b q)(c:(aF b)[q.i]? =some x)(f:b.length<=1000000):W (q.u+(x.length:Int))/\W (q.u+(x.length:Int)+6):=by
 obtain⟨a,rfl,_⟩:=Xs h c;have e:=xR a;have d:=dX a;have g:=h.rj.le;rw[length_drop]at d;exact⟨aY N N,aY N N⟩
end
def Js(b:List UInt8):List (Nat×LI):=[(5,{σ:=J0,F:=λq=>([(2,one (.ptr 0 0)),(4,one (.ptr 1 0)),(5,one (.fz (.F9 .u8) (aF b))),(7,one (.int q.u)),(8,one (.int q.i))],[.box 66 (cellsOf (.nm .stable) p0),.box 66 (cellsOf (.nm .stable) q.s)]),J:=λq=>q.i<=(aF b).length/\RK b q,μ:=λq=>(aF b).length-q.i})]
theorem FV:CK 77 (aD gl av λ(b,_) _=>{pre:=[b.length<=1000000],rs:=[.agg (cellsOf (.nm .stable) ((hX b).1)),.c (.int ((hX b).2))]}):=ag λ(b,_) _ r=>by
 have v:=bw r;refine al Ci (Js b) func77 (?_:(λg j a=>b.length*1<=140737488355328->b.length<=1000000/\((aF b).length*24<=140737488355328->W (aN b)->∃d,(aF b=aF b/\a=d.u/\a=(d.i:Int)/\a=p0.floor/\a=p0.a8/\a=p0.hQ/\p0.log=[]/\a=d.s.floor/\a=d.s.a8/\a=d.s.hQ/\d.s.log=[])/\(d.i<=g/\RK b d)/\∀(s:J0),(λe o=>s.i<=g/\RK b s->(e<j->a<=e/\e<j/\∀(x:List (l7 Sh.u8)),(λh=>(aF b)[s.i]? =some x->x.length*1<=140737488355328->cD (aL x).1 (W (aL x).2->(¬(aL x).2=a->o)/\((aL x).2=a->s.s.log.length<=1000000/\bz h.1 (W h.2->(¬h.2=a->o)/\(h.2=a->a<=e/\e<j/\∀(x:List (l7 Sh.u8)),(λp=>(aF b)[s.i]? =some x->x.length*1<=140737488355328->W p/\W (p+6)/\W (e+1)/\∃f,(aF b=aF b/\p+6=f.u/\e+1=(f.i:Int)/\ai p0 p0 (dZ h.1 f.s))/\(f.i<=g/\RK b f)/\g-f.i<g-s.i) (s.u+(x.length:Int))))))) (aK s.s (aL x).1))/\(j<=e->o)) (s.i:Int) (ai s.s (hX b).1 (s.u=(hX b).2)))) (aF b).length (↑(aF b).length:Int) (0:Int));repeat' first|(with_reducible first|apply aH|refine aI ?_|intro)|exact aZ|exact rfl|exact art|(rw[aql Y Y Y]<;>rfl)|(rw[aoG Y Y Y Y]<;>rfl)|(rw[anh Y Y]<;>rfl)|exact(ahF Y Y Y).1|exact(ahF Y Y Y).2|exact(aih (RK.rj Y) Y)|(dsimp only;with_reducible exact(o9 (λq:b9×Int=>q.1.floor) (Vk Y)))|(dsimp only;with_reducible exact(o9 (λq:b9×Int=>q.1.a8) (Vk Y)))|(dsimp only;with_reducible exact(o9 (λq:b9×Int=>q.1.hQ) (Vk Y)))|(dsimp only;with_reducible exact(o9 (λq:b9×Int=>q.1.log) (Vk Y)))|(with_reducible exact arG (q:=‹J0›) Y Y Y Y)|exact(o9 (λy:List UInt8=>‹J0›.u+(y.length:Int)+6) (abE Y))|(dsimp only;omega)|refine⟨J0.mk (‹J0›.i+1) (aK ‹J0›.s (aL ((aF b).getD ‹J0›.i [])).1).1 (‹J0›.u+(((aF b).getD ‹J0›.i []).length:Int)+6),?_⟩|refine⟨J0.mk 0 p0 0,?_⟩
def NU:=(ae FV Ci)
abbrev U6(L:List dm):Int:=(eg p0 L).1.a8
abbrev voL(L:List dm):Int:=(eg p0 L).1.hQ
structure C2(s t:b9):Prop where
 a8:s.a8<=t.a8
 floor:s.floor<=t.floor
 hQ:s.a8=t.a8->s.hQ≠0->t.hQ=s.hQ
def C2.refl(s:b9):C2 s s:=⟨x5 _,x5 _,λ_ _=>rfl⟩
variable{t:b9}
def C2.trans{s u:b9}(h:C2 s t)(k:C2 t u):C2 s u:=⟨L1 h.a8 k.a8,L1 h.floor k.floor,λe a=>by
 have d:=h.a8;have f:=k.a8;have c:=h.hQ N a;rw[k.hQ N (by rw[c];exact a),c]⟩
theorem ES{s:b9}{r:dm}(h:dO s r=some t):C2 s t:=by
 unfold dO ey fK ei fW at h;split at h
 .split at h<;>cases h;exact⟨x5 _,by dsimp only;omega,λ_ _=>rfl⟩
 split at h
 .split at h<;>cases h;rename_i a;rw[not_or]at a;exact⟨by dsimp only;omega,x5 _,λe c=>by
   by_cases q:s.hQ=r.b
   .grind
   exact absurd ⟨⟨e.symm,c⟩,q⟩ a.2⟩
 split at h
 .split at h<;>cases h;exact⟨x5 _,x5 _,λ_ _=>rfl⟩
 split at h<;>cases h;exact⟨x5 _,x5 _,λ_ _=>rfl⟩
theorem uv:∀{l:List dm} {s:b9},C2 s (eg s l).1
 |[],s=>.refl s
 |r::l,s=>by
  rw[eg];split
  .rename_i h;exact(ES (kH h).2).trans uv
  exact .refl s
def Ro(h:L<+:L')(a:(eg p0 L).2=0):C2 (eg p0 L).1 (eg p0 L').1:=by
 obtain⟨l,rfl⟩:=h;rw[eJ a];exact uv
def H7(x:ep):Int:=if x.kind=1 then 2 else x.to+1
structure K3(L:List dm)(x:ep):Prop where
 kind:x.kind=1\/(x.kind=2/\x.ok=true)
 to:x.to≠1/\0<=x.to
 at_:x.a8<=U6 L/\(x.a8=U6 L->voL L=H7 x)
theorem K3.hQ(h:x.to≠1/\0<=x.to):H7 x≠0:=by
 unfold H7;split<;>omega
theorem K3.mono(h:K3 L x)(a:L<+:L')(c:(eg p0 L).2=0):K3 L' x:=by
 have m:=Ro a c;refine⟨h.kind,h.to,L1 h.at_.1 m.a8,λe=>?_⟩;have f:=h.at_.1;have g:U6 L<=U6 L':=m.a8;have d:=h.at_.2 N;have i:=m.hQ (show U6 L=U6 L' by omega) (by show voL L≠0;rw[d];exact K3.hQ h.to);grind
section
variable{n m:Nd}{o:A5}{t v f:Int}
def aia{l:List A5}{x:A5}(a:l[k]? =some x):x=l.getD k (c4 (Sh.nm NT.nop)):=by rw[getD_eq_getElem?_getD,a];rfl
end
section
variable{n m:Nd}{o:A5}{i:Nat}{k:Int}{x:ep}{c:b6}
end
structure Inv(n:Nd):Prop where
 p:∃L,rl n L
section
variable{n:Nd}{o:A5}{x:ep}
end
def ya:CK 26 (aD (ak (kC (cL (.nm .l8))) bS) av λ(l,_) _=>⟨[],[.c (.own 0)],some ([.row 72 (.nm .l8) l]),true⟩):=ag λ(l,_) _ _=>by
 refine bU kU [] func26 (?_:(λa=>a->∀(b:Bool),(b=true->l=[])->(b=true->l=[])/\(b=false->a/\l=l)) (l.length*16<=140737488355328));exact λh b d=>⟨d,λ_=>⟨h,rfl⟩⟩
def xP:CK 27 (aD IW av λ(l,_) _=>⟨[],[.c (.own 0)],some ([.row 4 .bool l]),true⟩):=ag λ(l,_) _ _=>by
 refine bU kU [] func27 (?_:(λa=>a->∀(b:Bool),(b=true->l=[])->(b=true->l=[])/\(b=false->a/\l=l)) (l.length*1<=140737488355328));exact λh b d=>⟨d,λ_=>⟨h,rfl⟩⟩
def yb:CK 57 (aD gl av λ(l,_) _=>⟨[],[.c (.own 0)],some ([.row 5 .u8 l]),true⟩):=ag λ(l,_) _ _=>by
 refine bU kU [] func57 (?_:(λa=>a->∀(b:Bool),(b=true->l=[])->(b=true->l=[])/\(b=false->a/\l=l)) (l.length*1<=140737488355328));exact λh b d=>⟨d,λ_=>⟨h,rfl⟩⟩
def CY:=(ae yb (ae xP (ae ya kU)))
theorem yq:CK 23 (aD dA wX λ_ ((_,a,d,e,f,_),g,_)=>⟨[(j9.mk g a d e f).OK],[.c (.ptr 2 0)],some ([.box 115 ([.own 1,.int a,.bool (.atom d),.bool (.atom e),.int f]),.row 5 .u8 g,.box 115 ([.own 3,.int a,.bool (.atom d),.bool (.atom e),.int f]),.row 5 .u8 g]),true⟩):=ag λ_ ((_,a,d,e,f,_),g,_) h=>by
 have i:=bw h;refine bU CY [] func23 (?_:a=a/\d=d/\e=e/\f=f/\g=g/\a=a/\d=d/\e=e/\f=f/\g=g);obtain⟨j,o,p⟩:=i;dsimp only at j o p;(repeat' with_reducible first|apply aH|refine aI ?_|intro)<;>first|(first|with_reducible rfl|with_reducible assumption|omega|(refine aY ?_ ?_<;>omega))|skip
def Up:=(ae yq CY)
def Ti:CK 8 (aD dA tj λ_ n=>⟨[p5 n],[.c (.ptr 8 0)],some (om (n)++(Z4 8 n)),true⟩):=ag λ_ n e=>by
 have a:=bw e;refine bU Up [] func8 (?_:(0<=n.d.b7/\n.d.b7<=(n.d.b.length:Int)/\n.d.b.length<=65536)/\(n.c.st.log.length*32<=140737488355328->W n.c.s.bo->W n.c.s.next->W n.c.s.dc->W n.c.s.eR->wE n n (cT n n)));repeat' first|(with_reducible first|apply aH|refine aI ?_|intro)|exact aZ|exact a.d.1|exact a.d.2.1|exact a.d.2.2
def iz:=(ae Ti (ae yq (ae yb (ae xP (ae ya NU)))))
def ahr:bM l (l.length:Int)=eL l:=by
 unfold bM eL;by_cases h:(l.length:Int)=0
 .rw[O h,A6 (l:=l) N];rfl
 rw[X h,X N,show((l.length:Int)-1).toNat=l.length-1 by omega]
variable{l:List Bool}
def ag3(h:(l.length:Int)<=k):decide ((l.length:Int)<2*((l.take k).countP id:Nat))=gp l:=by
 have e:(l.length:Int).tdiv 2=((l.length/2:Nat):Int):=(Int.ofNat_tdiv _ _).symm;rw[take_of_length_le N,gp,e,decide_eq_decide];omega
def akG(h:l.length*1<=140737488355328):W (2*((l.take k).countP id:Nat)):=by
 have a:(l.take k).countP id<=(l.take k).length:=X6;rw[sh]at a;exact aY N N
def Y_(l:List Bool):List (Nat×LI):=[(3,{σ:=Nat,F:=λk=>([(0,one (.fz .bool l)),(3,one (.int ((l.take k).countP id))),(4,one (.int k))],[]),J:=λk=>k<=l.length,μ:=λk=>l.length-k})]
def O_:CK 135 (aD (ak xc fj) av λ(l,a,_) _=>{rs:=[.c (.int (bM l a))]}):=ag λ(l,a,_) _ _=>by
 refine al iz [] func135 (?_:(λd e=>l.length*32<=140737488355328->W a->(a=d->d=bM l a)/\(¬a=d->(a<d\/(l.length:Int)<a-> -1=bM l a)/\(d<=a/\a<=(l.length:Int)->W e/\d<=e/\e<(l.length:Int)/\∀(x:eA),l[e.toNat]? =some x->W x.a8->x.b.length*1<=140737488355328->x.a8=bM l a))) (0:Int) (a-1));repeat' first|(with_reducible first|apply aH|refine aI ?_|intro)|exact aZ|exact(GK Y Y Y Y)|(rw[bM,O Y])|(rw[bM,X Y,O Y])
def Kb:CK 92 (aD (ak iO fj) av λ(s,t,_) _=>⟨[],[.c (.own 0)],some ([.row 103 (.nm .record) (ao s t)]),true⟩):=ag λ(s,t,_) _ _=>by
 refine bU iz [] func92 (?_:bz s (W t->(t<=s.a8->ao s t=[])/\(s.a8<t->[dm.mk 2 t 0 []]=ao s t)));repeat' first|(with_reducible first|apply aH|refine aI ?_|intro)|exact aZ|(rw[ao,O Y])|(rw[ao,X N])|(simp;done)
theorem KO:CK 84 (aD (ak iO fj) av λ(s,t,_) _=>{pre:=[s.a8<=1048576],rs:=[.c (.fz (.nm .record) ((ax s t).1)),.c (.int ((ax s t).2))]}):=ag λ(s,t,_) _ a=>by
 have d:=bw a;refine al iz [] func84 (?_:bz s (W t->(t<0\/5<=t->(ax s t).1=[]/\1=(ax s t).2)/\(0<=t/\t<5->(1048576<=s.a8->(ax s t).1=[]/\4=(ax s t).2)/\(s.a8<1048576->W (s.a8+1)/\W (t+1)/\[dm.mk 2 (s.a8+1) (t+1) []]=(ax s t).1/\0=(ax s t).2))));repeat' first|(with_reducible first|apply aH|refine aI ?_|intro)|exact aZ|(simp only[ax];grind)|(have q:=(by with_reducible assumption:W s.a8);exact aY (by have:=q.1;omega) (by have:=q.2;omega))|(simp only[x7,B2];omega)
theorem PA:CK 93 (aD IW av λ(l,_) _=>{rs:=[.c (.bool (.atom (gp l)))]}):=ag λ(l,_) _ _=>by
 refine al iz (Y_ l) func93 (?_:(λf h d=>l.length*1<=140737488355328->∃i,(l=l/\0=(↑(countP id (take i l)):Int)/\0=(i:Int))/\i<=d/\∀(s:Nat),(λg e=>s<=d->((s:Int)<f->0<=(s:Int)/\(s:Int)<f/\∀(x:Bool),l[s]? =some x->(x=true->W (e+h)/\W g/\∃a,(l=l/\e+h=(↑(countP id (take a l)):Int)/\g=(a:Int))/\a<=d/\d-a<d-s)/\(x=false->W g/\∃a,(l=l/\e=(↑(countP id (take a l)):Int)/\g=(a:Int))/\a<=d/\d-a<d-s))/\(f<=(s:Int)->W (2*e)/\decide (f<2*e)=gp l)) ((s:Int)+h) (↑(countP id (take s l)):Int)) (l.length:Int) (1:Int) l.length);repeat' first|(with_reducible first|apply aH|refine aI ?_|intro)|exact aZ|exact rfl|exact(ah0 Y Y)|exact(aki Y Y)|exact(aio Y)|(with_reducible exact akG Y)|(with_reducible exact ag3 Y)|refine⟨‹Nat›+1,?_⟩|refine⟨0,?_⟩
theorem acC:CK 189 (aD xj av λ(n,a,b,_) _=>{rs:=[.c (.bool (.atom (aM n a b)))]}):=ag λ(n,a,b,_) _ _=>by
 refine al iz [] func189 (?_:W n->W a->W b->(decide (a<=n)&&decide (n<=b))=aM n a b);grind[aM]
theorem OB:CK 141 (aD (ak dj tn) av λ(n,x,_) _=>{pre:=[0<=x.a/\x.a<=64],rs:=[.c (.int (fM n x))]}):=ag λ(n,x,_) _ f=>by
 have g:=bw f;refine al iz [] func141 (?_:(λd=>(λe=>W n->aP x ((x.ok=true->W e/\e=fM n x)/\(x.ok=false->(n<=d->d=fM n x)/\(d<n->W (n-d)/\W e/\min (n-d) e=fM n x)))) (x.a+d)) (1:Int));repeat' first|(with_reducible first|apply aH|refine aI ?_|intro)|exact aZ|(simp only[fM];grind)|(have q:=(by with_reducible assumption:W n);exact aY (by have:=q.1;omega) (by have:=q.2;omega))
def kR:=(ae OB (ae acC (ae PA (ae KO (ae Kb (ae O_ iz))))))
section
variable{l m:List eA}{n k:Int}{j:Nat}{x:eA}
structure Bj(l:List eA)(n k:Int)(j:Nat):Prop where
 p:n<0/\j=0\/0<=n/\j<=(l.drop n.toNat).length/\(j:Int)<=max k 0
def aqF:Bj l n k 0:=⟨N⟩
def aiR(h:(n<0\/(l.length:Int)<=n+j)\/k<=(((l.drop n.toNat).take j).length:Int))(a:Bj l n k j):(l.drop n.toNat).take j=dx l n k:=by
 have a:=a.p;have c:(l.drop n.toNat).length=l.length-n.toNat:=length_drop;rw[sh]at h;unfold dx;split
 .rw[show j=0 by omega,R1]
 rw[show(min k ((l.drop n.toNat).length:Int)).toNat=j by omega]
def ajd(a:l[(n+(j:Int)).toNat]? =some x)(c:0<=n):(l.drop n.toNat).take j++[x]=(l.drop n.toNat).take (j+1):=by
 rw[ah (l:=l.drop n.toNat) (k:=j) (x:=x)];rw[D1,<-a];congr 1;omega
def ajf(c:(n+(j:Int))<(l.length:Int))(d:0<=n)(h:(((l.drop n.toNat).take j).length:Int)<k)(a:Bj l n k j):Bj l n k (j+1):=by
 have a:=a.p;have e:(l.drop n.toNat).length=l.length-n.toNat:=length_drop;rw[sh]at h;exact⟨N⟩
def agP(h:l.length*32<=140737488355328)(a:(n+(j:Int))<(l.length:Int))(c:0<=n):(((l.drop n.toNat).take j).length+[x].length)*32<=140737488355328:=by
 rw[sh,length_drop,Q5];omega
def aan{d:eA}(a:0<=k):(l.drop k.toNat).getD j d=l.getD (k+1+(j:Int)-1).toNat d:=by
 rw[getD_eq_getElem?_getD,getD_eq_getElem?_getD,D1,show(k+1+(j:Int)-1).toNat=k.toNat+j by omega]
variable(h4:j<=iC (l.drop k.toNat) m)(h1:0<=k)(h2:k<=(l.length:Int))
include h4 h1 h2
def af5(a:(j:Int)<(m.length:Int))(c:(l.length:Int)<k+1+j):aX l k m=(0,m.drop j):=aak h4 h1 h2 N (by rw[length_drop];omega)
def acf(c:(j:Int)<(m.length:Int))(d:k+1+j<=(l.length:Int))(a:¬(l.getD (k+1+(j:Int)-1).toNat (c4 (Sh.nm NT.entry))).a8=(m.getD j (c4 (Sh.nm NT.entry))).a8):aX l k m=(k+1+j,m.drop j):=by
 rw[<-aan h1]at a;rw[aa9 h4 h1 h2 (by rw[length_drop];omega) (by rw[r5 N]) (y:=m[j]) (by rw[getD_eq_getElem?_getD (l:=m),r5 N]at a;exact a)];congr 1;omega
omit h2 in
theorem abj(c:(j:Int)<(m.length:Int))(d:k+1+j<=(l.length:Int))(a:(l.getD (k+1+(j:Int)-1).toNat (c4 (Sh.nm NT.entry))).a8=(m.getD j (c4 (Sh.nm NT.entry))).a8):j+1<=iC (l.drop k.toNat) m:=by
 rw[<-aan h1]at a;exact aaS h4 (by rw[length_drop];omega) (by rw[r5 N]) (y:=m[j]) (by rw[getD_eq_getElem?_getD (l:=m),r5 N]at a;exact a)
end
section
variable{x:ep}{k:Nat}
theorem h16{a b c m:Int}(d:(x.kind=1\/x.kind=3\/x.kind=4)/\a=64\/(¬x.kind=1/\¬x.kind=3/\¬x.kind=4)/\a=0)(e:(x.kind=1\/x.kind=3)/\b=1048576\/(¬x.kind=1/\¬x.kind=3)/\b=0)(f:x.kind=3/\c=64/\m=4\/¬x.kind=3/\c=0/\m=0):(aM x.kind 1 4&&aM x.l5 0 4&&aM x.to 0 4&& !decide (x.l5=x.to)&&aM x.a8 1 1048576&&aM x.bin 1 3&&aM x.a 0 a&&aM x.b 0 b&&aM x.c 0 c&&decide ((x.l.length:Int)<=m)&&(decide (x.kind=2)||decide (x.kind=4)|| !x.ok))=(jj x&&(x.l.take 0).all bF):=by
 rw[E8];simp only[jj,eV,aM,R1,all_nil,O6,r3,H2,S9,u9,J2];have hk:x.kind=1\/x.kind=2\/x.kind=3\/x.kind=4\/(x.kind<1\/4<x.kind):=by omega
 rcases hk with hk|hk|hk|hk|hk
 .have:a=64/\b=1048576/\c=0/\m=0:=by omega
  obtain⟨rfl,rfl,rfl,rfl⟩:=this;simp[hk]<;>grind
 .have:a=0/\b=0/\c=0/\m=0:=by omega
  obtain⟨rfl,rfl,rfl,rfl⟩:=this;simp[hk]<;>grind
 .have:a=64/\b=1048576/\c=64/\m=4:=by omega
  obtain⟨rfl,rfl,rfl,rfl⟩:=this;simp[hk]<;>grind
 .have:a=64/\b=0/\c=0/\m=0:=by omega
  obtain⟨rfl,rfl,rfl,rfl⟩:=this;simp[hk]<;>grind
 constructor
 .intro h;omega
 intro h;omega
def e16{y d:eA}(c:x.l[k]? =some y)(a:(jj x&&(x.l.take k).all bF)=true):(aM y.a8 1 1048576&&decide (((x.l.getD k d).b.length:Int)<=200))=(jj x&&(x.l.take (k+1)).all bF):=by
 have e:x.l.getD k d=y:=by rw[getD_eq_getElem?_getD,c];rfl
 rw[r3]at a;rw[e,ah c,K1,a.1,a.2,Bool.true_and,Bool.true_and,K7,all_nil,O6];rfl
def ahW(h:(jj x&&(x.l.take k).all bF)=false):1=nd x:=by
 rw[nd,X];rintro⟨a,c⟩;rw[a,Bool.true_and]at h;have:(x.l.take k).all bF=true:=Hm.2 λy d=>Hm.1 c y (X8 d);rw[this]at h;cases h
def akN(h:(jj x&&(x.l.take k).all bF)=true)(hl:(x.l.length:Int)<=k\/(jj x&&(x.l.take k).all bF)=false):0=nd x:=by
 rcases hl with hl|hl
 .rw[r3,take_of_length_le N]at h;rw[nd,O h]
 rw[h]at hl;cases hl
end
def Le(l:List eA)(n:Int)(m:Int):List (Nat×LI):=[(3,{σ:=Nat,F:=λk=>([(0,one (.fz (.nm .entry) l)),(1,one (.int n)),(2,one (.int m)),(7,one (.own 0)),(8,one (.int (n+k)))],[.row 113 (.nm .entry) ((l.drop n.toNat).take k)]),J:=λk=>Bj l n m k,μ:=λk=>l.length-k})]
def PZ(l:List eA)(k:Int)(m:List eA):List (Nat×LI):=[(4,{σ:=Nat,F:=λj=>([(0,one (.fz (.nm .entry) l)),(1,one (.int k)),(2,one (.fz (.nm .entry) m)),(8,one (.int j))],[]),J:=λj=>(j:Nat)<=iC (l.drop k.toNat) m/\0<=k/\k<=(l.length:Int),μ:=λj=>m.length-j})]
def ab3(x:ep):List (Nat×LI):=[(15,{σ:=Nat,F:=λk=>([(1,one (.ptr 0 0)),(8,one (.bool (.atom (jj x&&(x.l.take k).all bF)))),(9,one (.int k))],[.box 34 (cellsOf (.nm .letter) x)]),J:=λk=>k<=x.l.length,μ:=λk=>x.l.length-k})]
def M_:CK 86 (aD vd av λ(l,_) _=>{rs:=[.c (.int (l.length:Int)),.c (.int (eL l))]}):=ag λ(l,_) _ _=>by
 refine al kR [] func86 (?_:l.length*32<=140737488355328->W (bM l (l.length:Int))->(l.length:Int)=(l.length:Int)/\bM l (l.length:Int)=eL l);repeat' first|(with_reducible first|apply aH|refine aI ?_|intro)|exact aZ|exact ahr
def Jh:CK 190 (aD xo av λ(l,k,m,_) _=>{rs:=[.c (.bool (.atom (decide (bM l k=m))))]}):=ag λ(l,k,m,_) _ _=>by
 refine al kR [] func190 (?_:l.length*32<=140737488355328->W k->W m->W (bM l k)->decide (bM l k=m)=decide (bM l k=m));intros;rfl
theorem EP:CK 188 (aD xo av λ(l,n,m,_) _=>{rs:=[.c (.fz (.nm .entry) (dx l n m))]}):=ag λ(l,n,m,_) _ _=>by
 refine al kR (Le l n m) func188 (?_:(λ(a:List eA)=>l.length*32<=140737488355328->W n->W m->∃(f:Nat),(l=l/\n=n/\m=m/\n=n+(f:Int)/\take f a=[])/\Bj l n m f/\∀(s:Nat),(λ(d:Int)=>Bj l n m s->((0<=n/\d<(l.length:Int))/\(↑(take s a).length:Int)<m->0<=d/\d<(l.length:Int)/\∀(x:eA),l[d.toNat]? =some x->W x.a8->x.b.length*1<=140737488355328->((take s a).length+[x].length)*32<=140737488355328/\W (d+1)/\∃(e:Nat),(l=l/\n=n/\m=m/\d+1=n+(e:Int)/\take s a++[x]=take e a)/\Bj l n m e/\l.length-e<l.length-s)/\((n<0\/(l.length:Int)<=d)\/m<=(↑(take s a).length:Int)->take s a=dx l n m)) (n+(s:Int))) (drop n.toNat l));repeat' first|(with_reducible first|apply aH|refine aI ?_|intro)|exact aZ|exact rfl|exact aqF|(with_reducible exact aiR Y Y)|(with_reducible exact ajd Y Y)|(with_reducible exact ajf Y Y Y Y)|(with_reducible exact agP Y Y Y)|refine⟨‹Nat›+1,?_⟩|refine⟨0,?_⟩
theorem Lj:CK 191 (aD (ak xc (ak dj vd)) av λ(l,k,m,_) _=>{rs:=[.c (.int ((aX l k m).1)),.c (.fz (.nm .entry) ((aX l k m).2))]}):=ag λ(l,k,m,_) _ _=>by
 refine al kR (PZ l k m) func191 (?_:(λ(p:Prop)(q:Nat)(j:Int)(o:Int)(h:Int)(f:Int×List eA)=>(λ(r:l7 (Sh.nm NT.entry))=>(λ(d:Int)(v:Int)=>l.length*32<=140737488355328->W k->m.length*32<=140737488355328->(k<d\/o<k->d=f.1/\f.2=[])/\(d<=k/\k<=o->∃(w:Nat),(l=l/\k=k/\m=m/\d=(w:Int))/\(w<=q/\d<=k/\p)/\∀(s:Nat),(λ(i:Int)(a:Int)=>(λ(g:Int)=>(λ(e:l7 (Sh.nm NT.entry))=>s<=q/\d<=k/\p->(a<j->W v/\W g/\(o<g->(d<=a/\a<=j)/\d=f.1/\drop s m=f.2)/\(g<=o->W (g-h)/\(d<=g-h/\g-h<o)/\(d<=a/\a<j)/\(W e.a8->e.b.length*1<=140737488355328->W i->(m.getD s r).b.length*1<=140737488355328->(¬e.a8=i->(d<=a/\a<=j)/\g=f.1/\drop s m=f.2)/\(e.a8=i->W (a+h)/\∃(u:Nat),(l=l/\k=k/\m=m/\a+h=(u:Int))/\(u<=q/\d<=k/\p)/\m.length-u<m.length-s))))/\(j<=a->d=f.1/\f.2=[])) (l.getD (g-h).toNat r)) (v+a)) (m.getD s r).a8 (s:Int))) 0 (k+h)) (c4 (Sh.nm NT.entry))) (k<=(l.length:Int)) (iC (drop k.toNat l) m) (m.length:Int) (l.length:Int) 1 (aX l k m));repeat' first|(with_reducible first|apply aH|refine aI ?_|intro)|exact aZ|exact rfl|(rw[ak1 Y]<;>rfl)|(rw[af5 Y Y Y Y Y]<;>rfl)|(rw[acf Y Y Y Y Y Y]<;>rfl)|(rw[alK Y Y Y Y]<;>rfl)|exact(abj Y Y Y Y Y)|refine⟨‹Nat›+1,?_⟩|refine⟨0,?_⟩
theorem XD:CK 137 (aD tn av λ(x,_) _=>{rs:=[.c (.int (nd x))]}):=ag λ(x,_) _ _=>by
 refine al kR (ab3 x) func137 (?_:(λw y k B m j o d p r u=>(λC v f e=>(λZ z l h=>(λD F G H I J A i=>(λK c a=>aP x (((w=e\/C)\/w=B->(w=e\/C->(C->∃q,((a&&J&&G&&I&&c&&l)=(u&&(take q d).all bF)/\h=(q:Int)/\p)/\q<=f/\∀(s:Nat),(λn=>s<=f->((s:Int)<i/\n=true->h<=(s:Int)/\(s:Int)<i/\∀(x:eA),d[s]? =some x->W x.a8->x.b.length*o<=j->(aM x.a8 e r=true->h<=(s:Int)/\(s:Int)<i)/\((aM x.a8 e r=true->W (d.getD s v).a8/\(d.getD s v).b.length*o<=j)->W ((s:Int)+e)/\∃g,((aM x.a8 e r&&decide ((↑(d.getD s v).b.length:Int)<=y))=(u&&(take g d).all bF)/\(s:Int)+e=(g:Int)/\p)/\g<=f/\f-g<f-s))/\(i<=(s:Int)\/n=false->(n=false->z)/\(n=true->A))) (u&&(take s d).all bF))/\(¬C->∃q,((a&&J&&G&&D&&K&&l)=(u&&(take q d).all bF)/\h=(q:Int)/\p)/\q<=f/\∀(s:Nat),(λP=>s<=f->((s:Int)<i/\P=true->h<=(s:Int)/\(s:Int)<i/\∀(x:eA),d[s]? =some x->W x.a8->x.b.length*o<=j->(aM x.a8 e r=true->h<=(s:Int)/\(s:Int)<i)/\((aM x.a8 e r=true->W (d.getD s v).a8/\(d.getD s v).b.length*o<=j)->W ((s:Int)+e)/\∃g,((aM x.a8 e r&&decide ((↑(d.getD s v).b.length:Int)<=y))=(u&&(take g d).all bF)/\(s:Int)+e=(g:Int)/\p)/\g<=f/\f-g<f-s))/\(i<=(s:Int)\/P=false->(P=false->z)/\(P=true->A))) (u&&(take s d).all bF)))/\(Z->(C->∃q,((a&&J&&F&&I&&c&&l)=(u&&(take q d).all bF)/\h=(q:Int)/\p)/\q<=f/\∀(s:Nat),(λQ=>s<=f->((s:Int)<i/\Q=true->h<=(s:Int)/\(s:Int)<i/\∀(x:eA),d[s]? =some x->W x.a8->x.b.length*o<=j->(aM x.a8 e r=true->h<=(s:Int)/\(s:Int)<i)/\((aM x.a8 e r=true->W (d.getD s v).a8/\(d.getD s v).b.length*o<=j)->W ((s:Int)+e)/\∃g,((aM x.a8 e r&&decide ((↑(d.getD s v).b.length:Int)<=y))=(u&&(take g d).all bF)/\(s:Int)+e=(g:Int)/\p)/\g<=f/\f-g<f-s))/\(i<=(s:Int)\/Q=false->(Q=false->z)/\(Q=true->A))) (u&&(take s d).all bF))/\(¬C->∃q,((a&&J&&F&&D&&K&&l)=(u&&(take q d).all bF)/\h=(q:Int)/\p)/\q<=f/\∀(s:Nat),(λS=>s<=f->((s:Int)<i/\S=true->h<=(s:Int)/\(s:Int)<i/\∀(x:eA),d[s]? =some x->W x.a8->x.b.length*o<=j->(aM x.a8 e r=true->h<=(s:Int)/\(s:Int)<i)/\((aM x.a8 e r=true->W (d.getD s v).a8/\(d.getD s v).b.length*o<=j)->W ((s:Int)+e)/\∃g,((aM x.a8 e r&&decide ((↑(d.getD s v).b.length:Int)<=y))=(u&&(take g d).all bF)/\(s:Int)+e=(g:Int)/\p)/\g<=f/\f-g<f-s))/\(i<=(s:Int)\/S=false->(S=false->z)/\(S=true->A))) (u&&(take s d).all bF))))/\(Z/\¬w=B->(w=e\/C->(C->∃q,((a&&H&&G&&I&&c&&l)=(u&&(take q d).all bF)/\h=(q:Int)/\p)/\q<=f/\∀(s:Nat),(λT=>s<=f->((s:Int)<i/\T=true->h<=(s:Int)/\(s:Int)<i/\∀(x:eA),d[s]? =some x->W x.a8->x.b.length*o<=j->(aM x.a8 e r=true->h<=(s:Int)/\(s:Int)<i)/\((aM x.a8 e r=true->W (d.getD s v).a8/\(d.getD s v).b.length*o<=j)->W ((s:Int)+e)/\∃g,((aM x.a8 e r&&decide ((↑(d.getD s v).b.length:Int)<=y))=(u&&(take g d).all bF)/\(s:Int)+e=(g:Int)/\p)/\g<=f/\f-g<f-s))/\(i<=(s:Int)\/T=false->(T=false->z)/\(T=true->A))) (u&&(take s d).all bF))/\(¬C->∃q,((a&&H&&G&&D&&K&&l)=(u&&(take q d).all bF)/\h=(q:Int)/\p)/\q<=f/\∀(s:Nat),(λU=>s<=f->((s:Int)<i/\U=true->h<=(s:Int)/\(s:Int)<i/\∀(x:eA),d[s]? =some x->W x.a8->x.b.length*o<=j->(aM x.a8 e r=true->h<=(s:Int)/\(s:Int)<i)/\((aM x.a8 e r=true->W (d.getD s v).a8/\(d.getD s v).b.length*o<=j)->W ((s:Int)+e)/\∃g,((aM x.a8 e r&&decide ((↑(d.getD s v).b.length:Int)<=y))=(u&&(take g d).all bF)/\(s:Int)+e=(g:Int)/\p)/\g<=f/\f-g<f-s))/\(i<=(s:Int)\/U=false->(U=false->z)/\(U=true->A))) (u&&(take s d).all bF)))/\(Z->(C->∃q,((a&&H&&F&&I&&c&&l)=(u&&(take q d).all bF)/\h=(q:Int)/\p)/\q<=f/\∀(s:Nat),(λV=>s<=f->((s:Int)<i/\V=true->h<=(s:Int)/\(s:Int)<i/\∀(x:eA),d[s]? =some x->W x.a8->x.b.length*o<=j->(aM x.a8 e r=true->h<=(s:Int)/\(s:Int)<i)/\((aM x.a8 e r=true->W (d.getD s v).a8/\(d.getD s v).b.length*o<=j)->W ((s:Int)+e)/\∃g,((aM x.a8 e r&&decide ((↑(d.getD s v).b.length:Int)<=y))=(u&&(take g d).all bF)/\(s:Int)+e=(g:Int)/\p)/\g<=f/\f-g<f-s))/\(i<=(s:Int)\/V=false->(V=false->z)/\(V=true->A))) (u&&(take s d).all bF))/\(¬C->∃q,((a&&H&&F&&D&&K&&l)=(u&&(take q d).all bF)/\h=(q:Int)/\p)/\q<=f/\∀(s:Nat),(λb=>s<=f->((s:Int)<i/\b=true->h<=(s:Int)/\(s:Int)<i/\∀(x:eA),d[s]? =some x->W x.a8->x.b.length*o<=j->(aM x.a8 e r=true->h<=(s:Int)/\(s:Int)<i)/\((aM x.a8 e r=true->W (d.getD s v).a8/\(d.getD s v).b.length*o<=j)->W ((s:Int)+e)/\∃g,((aM x.a8 e r&&decide ((↑(d.getD s v).b.length:Int)<=y))=(u&&(take g d).all bF)/\(s:Int)+e=(g:Int)/\p)/\g<=f/\f-g<f-s))/\(i<=(s:Int)\/b=false->(b=false->z)/\(b=true->A))) (u&&(take s d).all bF)))))) (decide (i<=h)) (decide (i<=B)) (aM w e B&&aM x.l5 h B&&aM x.to h B&& !decide (x.l5=x.to)&&aM x.a8 e r&&aM x.bin e 3)) (aM x.c h h) (aM x.b h h) (aM x.b h r) (aM x.a h h) (aM x.c h k) (aM x.a h k) (h=m) (d.length:Int)) (¬w=e/\¬C) (e=m) (decide (w=2)||decide (w=B)|| !x.ok) (0:Int)) (w=3) (c4 (Sh.nm NT.entry)) d.length (1:Int)) x.kind (200:Int) (64:Int) (4:Int) (nd x) (140737488355328:Nat) (1:Nat) x.l (um x x) (1048576:Int) (jj x))
 repeat' first|(with_reducible first|apply aH|refine aI ?_|intro)|exact aZ|exact rfl|(exact h16 N N N)|exact(e16 Y Y)|exact(ahW Y)|exact(akN Y Y)|refine⟨‹Nat›+1,?_⟩|refine⟨0,?_⟩
def BC:=(ae XD (ae Lj (ae EP (ae Jh (ae M_ kR)))))
def Ld:CK 192 (aD xo av λ(l,k,m,_) _=>{rs:=[.c (.bool (.atom (fD l k m)))]}):=ag λ(l,k,m,_) _ _=>by
 refine al BC [] func192 (?_:l.length*32<=140737488355328->W k->W m->W (l.length:Int)->W (eL l)->(decide (eL l<m)||decide (m=eL l)&&decide ((l.length:Int)<=k))=fD l k m);intros;rfl
def CI:=(ae Ld BC)
variable{l:List Int}
def Ps(w:l≠[])(v:Int):l.length<2*l.countP (λx=>decide (v<=x))↔v<=r4 l:=by
 have q:(l.mergeSort (λa b=>decide (b<=a))).Perm l:=Y1 ..;have y:(l.mergeSort (λa b=>decide (b<=a))).Pairwise (λa b=>decide (b<=a)=true):=List.pairwise_mergeSort (λa b c D F=>by simp at*;omega) (λa b=>by simp;omega) l;have z:=q.length_eq;have A:l.length≠0:=λe=>w (A6 e);have B:r4 l=(l.mergeSort (λa b=>decide (b<=a))).getD (l.length/2) 0:=X A;rw[<-q.countP_eq,B];generalize l.mergeSort (λa b=>decide (b<=a))=s at*;have f:l.length/2<s.length:=by omega
 rw[getD_eq_getElem?_getD,r5 f,O2];have r:∀i j (d:i<s.length) (u:j<s.length),i<=j->s[j]<=s[i]:=λi j d u g=>by
  rcases Nat.eq_or_lt_of_le g with rfl|h
  .exact x5 _
  have:=List.pairwise_iff_getElem.1 y i j d u h;simpa using this
 generalize G:l.length/2=h at*;have H:s.countP (λx=>decide (v<=x))=(s.take (h+1)).countP (λx=>decide (v<=x))+(s.drop (h+1)).countP (λx=>decide (v<=x)):=by rw[<-M0,E7]
 have C:s.countP (λx=>decide (v<=x))=(s.take h).countP (λx=>decide (v<=x))+(s.drop h).countP (λx=>decide (v<=x)):=by rw[<-M0,E7]
 constructor
 .intro I;rcases Int.lt_or_le s[h] v with hv|hv
  .exfalso;have J:(s.drop h).countP (λx=>decide (v<=x))=0:=by
    rw[List.countP_eq_zero];intro x o;obtain⟨i,d,rfl⟩:=List.mem_iff_getElem.1 o;rw[length_drop]at d;rw[List.getElem_drop];have:=r h (h+i) f N N;simp only[u9];omega
   have p:(s.take h).countP (λx=>decide (v<=x))<=(s.take h).length:=X6;rw[sh]at p;omega
  exact hv
 intro hv;have p:(s.take (h+1)).countP (λx=>decide (v<=x))=(s.take (h+1)).length:=by
  rw[List.countP_eq_length];intro x o;obtain⟨i,d,rfl⟩:=List.mem_iff_getElem.1 o;rw[sh]at d;rw[List.getElem_take];have:=r i h N f N;simp only[u9];omega
 rw[sh]at p;omega
def adt(d:l≠[]):r4 l∈l:=by
 have c:(l.mergeSort (λa b=>decide (b<=a))).Perm l:=Y1 ..;have f:l.length≠0:=λe=>d (A6 e);have g:r4 l=(l.mergeSort (λa b=>decide (b<=a))).getD (l.length/2) 0:=X f;have h:=c.length_eq;rw[g,getD_eq_getElem?_getD,r5 N,O2];exact c.mem_iff.1 (I1 _)
structure I8 where
 i:Nat
 b:Int
 f:Bool
structure E2 where
 q:I8
 k:Nat
structure MJ(l:List Int)(q:I8):Prop where
 a:∀v∈l.take q.i,v<=r4 l->q.f=true/\v<=q.b
 c:q.f=true->q.b<=r4 l
 z:q.f=false->q.b=0
 y:q.f=true->l≠[]
abbrev gi(l:List Int)(i:Nat):Int:=l.getD i (c4 .int)
abbrev gc(l:List Int)(i k:Nat):Nat:=(l.take k).countP (λx=>decide (gi l i<=x))
section
variable{l:List Int}{q:I8}{s:E2}{k i v6:Nat}{x:Int}
def mj0:MJ l ⟨0,0,false⟩:=⟨λv h=>(by cases h),λh=>(by cases h),λ_=>rfl,λh=>(by cases h)⟩
def IA(h:(k:Int)<(l.length:Int)):l[k]? =some (gi l k):=by rw[gi,getD_eq_getElem?_getD,r5 N];rfl
def amh(a:l[k]? =some x):x=gi l k:=by rw[gi,getD_eq_getElem?_getD,a];rfl
def aq9(h:gi l i<=gi l k)(a:(k:Int)<(l.length:Int)):((gc l i k:Nat):Int)+1=(gc l i (k+1):Nat):=by
 rw[gc,gc,ah (IA a),M0,List.countP_cons_of_pos (by exact F5 h),List.countP_nil];omega
def anS(h:gi l k<gi l i)(a:(k:Int)<(l.length:Int)):((gc l i k:Nat):Int)=(gc l i (k+1):Nat):=by
 rw[gc,gc,ah (IA a),M0,List.countP_cons_of_neg (by simp only[u9];omega),List.countP_nil];omega
def ajr(h:l.length*8<=140737488355328):W (((gc l i k:Nat):Int)+1)/\W (2*((gc l i k:Nat):Int)):=by
 have a:gc l i k<=(l.take k).length:=X6;rw[sh]at a;exact⟨aY N N,aY N N⟩
def aoM(h:MJ l q)(g:(l.length:Int)<2*((gc l q.i k:Nat):Int))(p:(l.length:Int)<=(k:Int))(j:q.i<l.length)(hb:q.f=false\/q.b<gi l q.i):MJ l ⟨q.i+1,gi l q.i,true⟩:=by
 have c:l≠[]:=by rintro rfl;exact absurd j (Nat.not_lt_zero _)
 rw[gc,take_of_length_le N]at g;refine⟨λv d e=>⟨rfl,?_⟩,λ_=>(Ps c (gi l q.i)).1 N,λh=>(by cases h),λ_=>c⟩;dsimp only at d⊢;rw[ah (IA (l:=l) (k:=q.i) N),A7,D0]at d;rcases d with d|rfl
 .have o:=h.a v d e;rcases hb with hb|hb
  .rw[o.1]at hb;cases hb
  omega
 exact x5 _
def aqR(h:MJ l q)(hb:2*((gc l q.i k:Nat):Int)<=(l.length:Int)\/q.f=true/\gi l q.i<=q.b)(o:(l.length:Int)<=(k:Int))(j:q.i<l.length):MJ l ⟨q.i+1,q.b,q.f⟩:=by
 have g:l≠[]:=by rintro rfl;exact absurd j (Nat.not_lt_zero _)
 refine⟨λv d e=>?_,h.c,h.z,h.y⟩;dsimp only at d⊢;rw[ah (IA (l:=l) (k:=q.i) N),A7,D0]at d;rcases d with d|rfl
 .exact h.a v d e
 rcases hb with hb|hb
 .rw[gc,take_of_length_le N]at hb;have:=(Ps g _).2 e;omega
 exact hb
def anN(h:MJ l q)(o:(l.length:Int)<=(q.i:Int)):q.b=r4 l:=by
 by_cases d:l=[]
 .have g:r4 l=0:=by rw[d];rfl
  rw[g];cases e:q.f
  .exact h.z e
  exact absurd d (h.y e)
 have j:=h.a (r4 l) (by rw[take_of_length_le N];exact adt d) (x5 _);have p:=h.c j.1;omega
def aop(h:s.q=(E2.mk q k).q)(c:q.i<=v6)(a:s.q.i<v6):v6-(s.q.i+1)<v6-q.i:=by rw[h]at a⊢;dsimp only at a⊢;omega
end
def QV(l:List Int):List (Nat×LI):=[(4,{σ:=I8,F:=λq=>([(0,one (.fz .int l)),(3,one (.int q.b)),(4,one (.bool (.atom q.f))),(5,one (.int q.i))],[]),J:=λq=>q.i<=l.length/\MJ l q,μ:=λq=>l.length-q.i}),(8,{σ:=E2,F:=λq=>([(0,one (.fz .int l)),(3,one (.int q.q.b)),(4,one (.bool (.atom q.q.f))),(5,one (.int q.q.i)),(6,one (.int (gc l q.q.i q.k))),(7,one (.int q.k))],[]),J:=λq=>q.q.i<l.length/\MJ l q.q/\q.k<=l.length,μ:=λq=>l.length-q.k,R:=some λa q=>q.q=a.q})]
theorem Ls:CK 194 (aD iS av λ(l,_) _=>{rs:=[.c (.int (r4 l))]}):=ag λ(l,_) _ _=>by
 refine al CI (QV l) func194 (?_:(λ(y:l7 Sh.int)(u:Int)(r:Int)(d:Nat)(j:Int)=>l.length*8<=140737488355328->∃(e:I8),(l=l/\u=e.b/\false=e.f/\u=(e.i:Int))/\(e.i<=d/\MJ l e)/\∀(s:I8),s.i<=d/\MJ l s->((s.i:Int)<j->∃(e:E2),(l=l/\s.b=e.q.b/\s.f=e.q.f/\(s.i:Int)=(e.q.i:Int)/\u=(↑(gc l e.q.i e.k):Int)/\u=(e.k:Int))/\(e.q.i<d/\MJ l e.q/\e.k<=d)/\e.q=e.q/\∀(g:E2),(λ(h:I8)(v:Int)=>(λ(w:l7 Sh.int)(o:Int)(z:Int)=>(λ(p:Int)=>h.i<d/\MJ l h/\g.k<=d->h=e.q->(v<j->(u<=v/\v<j)/\(u<=o/\o<j)/\(W (l.getD g.k y)->W w->(w<=l.getD g.k y->W (z+r)/\W (v+r)/\∃(a:E2),(l=l/\h.b=a.q.b/\h.f=a.q.f/\o=(a.q.i:Int)/\z+r=(↑(gc l a.q.i a.k):Int)/\v+r=(a.k:Int))/\(a.q.i<d/\MJ l a.q/\a.k<=d)/\a.q=e.q/\d-a.k<d-g.k)/\(l.getD g.k y<w->W (v+r)/\∃(a:E2),(l=l/\h.b=a.q.b/\h.f=a.q.f/\o=(a.q.i:Int)/\z=(↑(gc l a.q.i a.k):Int)/\v+r=(a.k:Int))/\(a.q.i<d/\MJ l a.q/\a.k<=d)/\a.q=e.q/\d-a.k<d-g.k)))/\(j<=v->W p/\(j<p->h.f=true->u<=o/\o<j)/\((j<p->h.f=true->W w)->(j<p/\(h.f=false\/h.b<w)->u<=o/\o<j/\∀(x:Int),l[h.i]? =some x->W x->W (o+r)/\∃(a:I8),(l=l/\x=a.b/\true=a.f/\o+r=(a.i:Int))/\(a.i<=d/\MJ l a)/\d-a.i<d-s.i)/\(p<=j\/h.f=true/\w<=h.b->W (o+r)/\∃(a:I8),(l=l/\h.b=a.b/\h.f=a.f/\o+r=(a.i:Int))/\(a.i<=d/\MJ l a)/\d-a.i<d-s.i)))) (2*z)) (l.getD h.i y) (h.i:Int) (↑(gc l h.i g.k):Int)) g.q (g.k:Int))/\(j<=(s.i:Int)->s.b=r4 l)) (c4 Sh.int) 0 1 l.length (l.length:Int));(repeat' with_reducible first|apply aH|refine aI ?_|intro)
 all_goals try(refine⟨I8.mk 0 0 false,?_⟩;(repeat' with_reducible first|apply aH|refine aI ?_|intro))
 all_goals try(refine⟨E2.mk ‹I8› 0,?_⟩;(repeat' with_reducible first|apply aH|refine aI ?_|intro))
 all_goals try(refine⟨E2.mk ‹E2›.q (‹E2›.k+1),?_⟩;(repeat' with_reducible first|apply aH|refine aI ?_|intro))
 all_goals try(have A:(l.length:Int)<2*((gc l ‹E2›.q.i ‹E2›.k:Nat):Int):=Y;clear A;refine⟨I8.mk (‹E2›.q.i+1) (gi l ‹E2›.q.i) true,?_⟩;(repeat' with_reducible first|apply aH|refine aI ?_|intro))
 all_goals try(refine⟨I8.mk (‹E2›.q.i+1) ‹E2›.q.b ‹E2›.q.f,?_⟩;(repeat' with_reducible first|apply aH|refine aI ?_|intro))
 all_goals(first|exact aZ|exact rfl|exact mj0|(dsimp only;omega)|exact(amh Y)|exact(ajr Y).1|exact(ajr Y).2|exact(aq9 Y Y)|exact(anS Y Y)|exact(anN Y Y)|exact(aop Y Y Y)|(with_reducible exact aoM (q:=‹E2›.q) Y Y Y Y Y)|(with_reducible exact aqR (q:=‹E2›.q) Y Y Y Y))
def qu:=(ae Ls CI)
section
variable{s:b9}{x:ep}{r:vo}{k:Nat}
def aew(h:¬nd x=0\/¬x.kind=1):aA s x=([],false,1):=akZ h
def acm(h:fD s.log x.a x.b=false\/x.a8<=s.a8/\(¬x.a8=s.a8\/¬s.hQ=0/\¬s.hQ=x.l5+1))(d:nd x=0)(e:x.kind=1):aA s x=(ao s x.a8,false,0):=by
 rw[aA,X N,O];rcases h with h|h
 .exact .inr h
 left;by_cases c:x.a8<s.a8
 .exact .inl c
 right;simp only[xK,Bool.or_eq_false_iff,J2];omega
def Oq(c:fD s.log x.a x.b=true)(h:s.a8<x.a8\/x.a8=s.a8/\(s.hQ=0\/s.hQ=x.l5+1))(d:nd x=0)(e:x.kind=1):aA s x=if x.a8=s.a8/\s.hQ=x.l5+1 then([],true,0)else([⟨2,x.a8,x.l5+1,[]⟩],true,0):=by
 rw[aA,X N,X];rintro((h5|h5)|h5)
 .omega
 .simp only[xK,Bool.or_eq_false_iff,J2]at h5;omega
 rw[c]at h5;cases h5
def abW(c:x.a8=s.a8)(d:s.hQ=x.l5+1)(e:fD s.log x.a x.b=true)(f:nd x=0)(g:x.kind=1):aA s x=([],true,0):=by
 rw[Oq e N f g,O ⟨c,d⟩]
def abA(f:¬x.a8=s.a8\/¬s.hQ=x.l5+1)(c:fD s.log x.a x.b=true)(h:s.a8<x.a8\/x.a8=s.a8/\(s.hQ=0\/s.hQ=x.l5+1))(d:nd x=0)(e:x.kind=1):aA s x=([⟨2,x.a8,x.l5+1,[]⟩],true,0):=by
 rw[Oq c h d e,X N]
abbrev abz(s:b9)(r:vo):ep:=⟨3,r.l5,r.to,s.a8,r.next-1,bM s.log (r.next-1),r.b8,r.bin,false,dx s.log (r.next-1) 4⟩
def afF(h:¬nd x=0):nd x=1:=by
 unfold nd at h⊢;split at h
 .exact absurd rfl h
 rename_i q;rw[X q]
def arw(h:(k:Int)<((aX s.log x.a x.l).2.length:Int)):dq s x k++[dm.mk 3 (x.a+x.l.length-(aX s.log x.a x.l).2.length+1+k) ((aX s.log x.a x.l).2.getD k (c4 (Sh.nm NT.entry))).a8 ((aX s.log x.a x.l).2.getD k (c4 (Sh.nm NT.entry))).b]=dq s x (k+1):=by
 rw[<-akt (s:=s) (x:=x) (k:=k) (y:=(aX s.log x.a x.l).2.getD k (c4 (Sh.nm NT.entry))) (by rw[getD_eq_getElem?_getD,r5 N];rfl),show x.a+(x.l.length:Int)-((aX s.log x.a x.l).2.length:Int)+1+k=x.a+x.l.length-(aX s.log x.a x.l).2.length+k+1 by omega]
def afH(h:r.next<1\/(s.log.length:Int)+1<r.next):eD s r=(dp,1):=O h
def adT(h:¬nd (abz s r)=0)(a:1<=r.next)(c:r.next<=(s.log.length:Int)+1):eD s r=(dp,1):=by
 rw[eD,X N];exact(O h).trans (by rw[show nd (na s r)=1 from afF h])
def abk(h:nd (abz s r)=0)(a:1<=r.next)(c:r.next<=(s.log.length:Int)+1):eD s r=(abz s r,0):=by
 rw[eD,X N];exact X (A0.2 h)
end
def YN(s:b9)(x:ep):List (Nat×LI):=[(13,{σ:=Nat,F:=λk=>([(3,one (.ptr 1 0)),(8,one (.own 2)),(10,one (.fz (.nm .entry) (aX s.log x.a x.l).2)),(11,one (.int (x.a+x.l.length-(aX s.log x.a x.l).2.length+1))),(12,one (.int k))],[.box 66 (cellsOf (.nm .stable) s),.box 34 (cellsOf (.nm .letter) x),.row 103 (.nm .record) (dq s x k)]),J:=λk=>k<=(aX s.log x.a x.l).2.length,μ:=λk=>(aX s.log x.a x.l).2.length-k})]
def EA:CK 139 (aD (ak iO tn) av λ(s,x,_) _=>{rs:=[.c (.fz (.nm .record) ((aA s x).1)),.c (.bool (.atom ((aA s x).2.1))),.c (.int ((aA s x).2.2))]}):=ag λ(s,x,_) _ _=>by
 refine al qu [] func139 (?_:(λh d e f=>(λj g=>(λi=>bz s (aP x (W (nd x)->(¬nd x=d\/¬x.kind=1->h=[]/\false=f.1/\1=f.2)/\(nd x=d/\x.kind=1->(x.a8<=s.a8->e->¬s.hQ=d->W g)/\(fD s.log x.a x.b=false\/x.a8<=s.a8/\(¬e\/¬s.hQ=d/\¬i)->ao s x.a8=h/\false=f.1/\d=f.2)/\(fD s.log x.a x.b=true/\(s.a8<x.a8\/e/\(s.hQ=d\/i))->(e->W g)/\(e/\i->h=[]/\j)/\(¬e\/¬i->W g/\[dm.mk 2 x.a8 g []]=h/\j)))))) (s.hQ=g)) (true=f.1/\d=f.2) (x.l5+1)) (aA s x).1 (0:Int) (x.a8=s.a8) (aA s x).2);repeat' first|(with_reducible first|apply aH|refine aI ?_|intro)|exact aZ|(rw[aew Y]<;>rfl)|(rw[acm Y Y Y]<;>rfl)|(rw[abW Y Y Y Y Y]<;>rfl)|(rw[abA Y Y Y Y Y]<;>rfl)|(have:=fC Y;exact aY N N)
def Tl:CK 136 (aD (ak iO (ak (kT (.nm .route)) bS)) av λ(s,r,_) _=>{rs:=[.agg (cellsOf (.nm .letter) ((eD s r).1)),.c (.int ((eD s r).2))]}):=ag λ(s,r,_) _ _=>by
 refine al qu [] func136 (?_:(λf=>(λi d g e=>(λj h=>bz s (HP r ((f<=r.next->W i)/\(r.next<f\/i<r.next->j)/\(f<=r.next/\r.next<=i->W g/\(W (bM s.log g)->(dx s.log g 4).length*32<=140737488355328->W (nd h)->(¬nd h=d->j)/\(nd h=d->fk h e (d=(eD s r).2))))))) (d=e.kind/\d=e.l5/\d=e.to/\d=e.a8/\d=e.a/\d=e.b/\d=e.c/\d=e.bin/\false=e.ok/\e.l=[]/\f=(eD s r).2) (ep.mk 3 r.l5 r.to s.a8 g (bM s.log g) r.b8 r.bin false (dx s.log g 4))) ((s.log.length:Int)+f) (0:Int) (r.next-f) (eD s r).1) (1:Int));repeat' first|(with_reducible first|apply aH|refine aI ?_|intro)|exact aZ|(rw[afH Y]<;>rfl)|(rw[adT Y Y Y]<;>rfl)|(rw[abk Y Y Y]<;>rfl)
set_option maxRecDepth 8000 in
theorem SQ:CK 138 (aD (ak iO tn) av λ(s,x,_) _=>{rs:=[.c (.fz (.nm .record) ((aq s x).1)),.c (.bool (.atom ((aq s x).2.1))),.c (.int ((aq s x).2.2.1)),.c (.int ((aq s x).2.2.2))]}):=ag λ(s,x,_) _ _=>by
 refine al qu (YN s x) func138 (?_:(λ(y:List dm)(u:List dm)(v:Int)(P:Nat)(H:Nat)(I:Int)(o:Int)(F:Int)(z:Bool×Int×Int)=>(λ(J:Prop)=>(λ(Q:l7 (Sh.nm NT.entry))=>(λ(S:Int)(w:Int)=>(λ(K:Prop)(r:List eA)=>(λ(e:Nat)(f:Int)=>(λ(A:Int)(g:Int)=>bz s (aP x (W (nd x)->(nd x=o/\x.kind=v->W w)/\((¬nd x=o\/¬x.kind=v)\/64<w->u=[]/\false=z.1/\o=z.2.1/\F=z.2.2)/\((nd x=o/\x.kind=v)/\w<=64->(x.a8<s.a8->u=[]/\J)/\(s.a8<=x.a8->(decide (bM s.log x.a=x.b)=false->y=u/\J)/\(decide (bM s.log x.a=x.b)=true->W I->r.length*32<=H->(¬I=o->(y.length+[dm.mk 4 I o []].length)*48<=H/\W w/\W (w-f)/\W A/\∃(G:Nat),(r=r/\A=g/\o=(G:Int)/\ai s s (fk x x (y++[dm.mk 4 I o []]=dq s x G)))/\G<=e/\∀(d:Nat),(λ(i:Int)=>(λ(p:l7 (Sh.nm NT.entry))=>(λ(a:dm)(B:Prop)=>d<=e->(i<f->W (g+i)/\(o<=i/\i<f)/\(o<=i/\i<f)/\(W p.a8->B->W p.a8->B->((dq s x d).length+[a].length)*48<=H)/\(W p.a8->B->W p.a8->B->W (i+F)/\∃(C:Nat),(r=r/\g=g/\i+F=(C:Int)/\ai s s (fk x x (dq s x d++[a]=dq s x C)))/\C<=e/\e-C<e-d))/\(f<=i->W w/\dq s x d=u/\K)) (dm.mk v (g+i) p.a8 p.b) (p.b.length*P<=H)) (r.getD d Q)) (d:Int))/\(I=o->W w/\W (w-f)/\W A/\∃(G:Nat),(r=r/\A=g/\o=(G:Int)/\ai s s (fk x x (y=dq s x G)))/\G<=e/\∀(d:Nat),(λ(j:Int)=>(λ(q:l7 (Sh.nm NT.entry))=>(λ(b:dm)(D:Prop)=>d<=e->(j<f->W (g+j)/\(o<=j/\j<f)/\(o<=j/\j<f)/\(W q.a8->D->W q.a8->D->((dq s x d).length+[b].length)*48<=H)/\(W q.a8->D->W q.a8->D->W (j+F)/\∃(C:Nat),(r=r/\g=g/\j+F=(C:Int)/\ai s s (fk x x (dq s x d++[b]=dq s x C)))/\C<=e/\e-C<e-d))/\(f<=j->W w/\dq s x d=u/\K)) (dm.mk v (g+j) q.a8 q.b) (q.b.length*P<=H)) (r.getD d Q)) (d:Int)))))))) (w-f+F) (S-(e:Int)+F)) r.length (r.length:Int)) (true=z.1/\w=z.2.1/\o=z.2.2) (aX s.log x.a x.l).2) (x.a+(x.l.length:Int)) (x.a+(x.l.length:Int))) (c4 (Sh.nm NT.entry))) (false=z.1/\o=z.2.1/\o=z.2.2)) (ao s x.a8) (aq s x).1 3 1 140737488355328 (aX s.log x.a x.l).1 0 1 (aq s x).2);repeat' first|(with_reducible first|apply aH|refine aI ?_|intro)|exact aZ|(with_reducible exact alq Y)|(with_reducible exact akh Y)|(with_reducible exact arw Y)|(with_reducible exact aaR Y)|(with_reducible exact aah)|(rw[aj3 Y]<;>rfl)|(rw[ahX Y Y Y Y]<;>rfl)|(rw[ag_ Y Y Y Y Y]<;>rfl)|(rw[alA Y Y Y Y Y Y]<;>rfl)|(have h:=fC Y;have T:=rS (l:=s.log) (m:=x.l) (k:=x.a);first|omega|(exact aY N N))|refine⟨‹Nat›+1,?_⟩|refine⟨0,?_⟩
def gY:=(ae SQ (ae Tl (ae EA qu)))
def ako:=iX 63 (bg (cL .u8) Rh)
def wO:=bl ako av
theorem Ea:CK 99 (aD iR wO λ(_,k,_) ((a,c,d,e,f,_),_)=>{rs:=[],out:=some ([.box 63 ([.fz .u8 ((j9.mk a c d true k).b),.int ((j9.mk a c d true k).b7),.bool (.atom ((j9.mk a c d true k).down)),.bool (.atom ((j9.mk a c d true k).c9)),.int ((j9.mk a c d true k).dc)])])}):=ag λ(_,k,_) ((a,c,d,e,f,_),_) _=>by
 refine bh gY [] func99 (?_:W k->a=a/\c=c/\d=d/\true=true/\k=k);(repeat' with_reducible first|apply aH|refine aI ?_|intro)<;>(first|with_reducible rfl|with_reducible assumption|omega|(refine aY ?_ ?_<;>omega))
theorem Ry:CK 79 (aD dA wO λ_ ((d,e,a,f,g,_),_)=>{rs:=[.c (.int (if a=true then 0 else 31))],out:=some ([.box 63 ([.fz .u8 ((if a=true then(j9.mk d e a f g).up else(j9.mk d e a f g)).b),.int ((if a=true then(j9.mk d e a f g).up else(j9.mk d e a f g)).b7),.bool (.atom ((if a=true then(j9.mk d e a f g).up else(j9.mk d e a f g)).down)),.bool (.atom ((if a=true then(j9.mk d e a f g).up else(j9.mk d e a f g)).c9)),.int ((if a=true then(j9.mk d e a f g).up else(j9.mk d e a f g)).dc)])])}):=ag λ_ ((d,e,a,f,g,_),_) _=>by
 refine bh gY [] func79 (?_:(λi h=>(a=false->31=i/\d=h.b/\e=h.b7/\a=h.down/\f=h.c9/\g=h.dc)/\(a=true->0=i/\d=h.b/\e=h.b7/\false=h.down/\false=h.c9/\0=h.dc)) (if a=true then(0:Int)else(31:Int)) (if a=true then(j9.mk d e a f g).up else j9.mk d e a f g));(repeat' with_reducible first|apply aH|refine aI ?_|intro)<;>grind[j9.up]
theorem Cs:CK 82 (aD iR wO λ(_,k,_) ((a,c,d,e,f,_),_)=>⟨[(j9.mk a c d e f).OK],[],some ([.box 63 ([.fz .u8 (((j9.mk a c d e f).bR k).b),.int (((j9.mk a c d e f).bR k).b7),.bool (.atom (((j9.mk a c d e f).bR k).down)),.bool (.atom (((j9.mk a c d e f).bR k).c9)),.int (((j9.mk a c d e f).bR k).dc)])]),false⟩):=ag λ(_,k,_) ((a,c,d,e,f,_),_) i=>by
 have j:=bw i;refine bh gY [] func82 (?_:(λh g=>W k->W ((a.length:Int)-c)/\W g/\(0<=g/\g<=(a.length:Int))/\(take g.toNat a).length*1<=140737488355328/\take g.toNat a=h.b/\(↑(take g.toNat a).length:Int)=h.b7/\true=h.down/\false=h.c9/\0=h.dc) ((j9.mk a c d e f).bR k) (c+min (max k 0) ((a.length:Int)-c)));obtain⟨o,p,q⟩:=j;dsimp only at o p q;(repeat' with_reducible first|apply aH|refine aI ?_|intro)<;>first|(first|with_reducible rfl|with_reducible assumption|omega|(refine aY ?_ ?_<;>omega))|(simp only[j9.bR,j9.at_];first|done|(first|with_reducible rfl|with_reducible assumption|omega|(refine aY ?_ ?_<;>omega))|(rw[sh];omega))|(rw[sh];omega)
theorem Jg:CK 80 (aD iR wO λ(_,k,_) ((a,e,d,f,g,_),_)=>⟨[(j9.mk a e d f g).OK],[.c (.int ((j9.mk a e d f g).jq k))],some ([.box 63 ([.fz .u8 (((j9.mk a e d f g).cut k).b),.int (((j9.mk a e d f g).cut k).b7),.bool (.atom (((j9.mk a e d f g).cut k).down)),.bool (.atom (((j9.mk a e d f g).cut k).c9)),.int (((j9.mk a e d f g).cut k).dc)])]),false⟩):=ag λ(_,k,_) ((a,e,d,f,g,_),_) p=>by
 have q:=bw p;refine bh gY [] func80 (?_:(λi=>(λh=>(λj=>(λo=>W k->(d=true->30=i.jq k/\o)/\(d=false->(k<0\/(a.length:Int)<k->1=i.jq k/\o)/\(0<=k/\k<=(a.length:Int)->0<=k/\k<=(a.length:Int)/\(take k.toNat a).length*1<=140737488355328/\0=i.jq k/\take k.toNat a=h.b/\k=h.b7/\j))) (a=h.b/\e=h.b7/\j)) (d=h.down/\f=h.c9/\g=h.dc)) (i.cut k)) (j9.mk a e d f g));obtain⟨r,s,u⟩:=q;dsimp only at r s u;(repeat' with_reducible first|apply aH|refine aI ?_|intro)<;>first|(first|with_reducible rfl|with_reducible assumption|omega|(refine aY ?_ ?_<;>omega))|grind[j9.cut,j9.jq]|skip
theorem Eh:CK 133 (aD (ak iD (ak (kC (iY 1)) bS)) (bl ako (bl (jL 5 .u8) av)) λ_ ((a,e,d,f,g,_),x,_)=>⟨[(j9.mk a e d f g).OK,x.length*1<=140737488355328],[.c (.int ((j9.mk a e d f g).fQ x))],some ([.box 63 ([.fz .u8 (((j9.mk a e d f g).qs x).b),.int (((j9.mk a e d f g).qs x).b7),.bool (.atom (((j9.mk a e d f g).qs x).down)),.bool (.atom (((j9.mk a e d f g).qs x).c9)),.int (((j9.mk a e d f g).qs x).dc)]),.row 5 .u8 x]),false⟩):=ag λ_ ((a,e,d,f,g,_),x,_) p=>by
 have q:=bw p;have v:=bw (de p);refine bh gY [] func133 (?_:(λj i=>(λh=>(λo=>(d=true->30=i.fQ x/\a=h.b/\o)/\(d=false->W j/\(65536<j->20=i.fQ x/\a=h.b/\o)/\(j<=65536->a.length*1<=140737488355328/\(a.length+x.length)*1<=140737488355328/\0=i.fQ x/\a++x=h.b/\o))) (e=h.b7/\d=h.down/\f=h.c9/\g=h.dc/\x=x)) (i.qs x)) ((a.length:Int)+(x.length:Int)) (j9.mk a e d f g));obtain⟨r,s,u⟩:=q;dsimp only at r s u;(repeat' with_reducible first|apply aH|refine aI ?_|intro)<;>first|(first|with_reducible rfl|with_reducible assumption|omega|(refine aY ?_ ?_<;>omega))|grind[j9.qs,j9.fQ]|skip
theorem JL:CK 133 (aD (ak iD gl) wO λ(_,x,_) ((a,e,d,f,g,_),_)=>⟨[(j9.mk a e d f g).OK],[.c (.int ((j9.mk a e d f g).fQ x))],some ([.box 63 ([.fz .u8 (((j9.mk a e d f g).qs x).b),.int (((j9.mk a e d f g).qs x).b7),.bool (.atom (((j9.mk a e d f g).qs x).down)),.bool (.atom (((j9.mk a e d f g).qs x).c9)),.int (((j9.mk a e d f g).qs x).dc)])]),false⟩):=ag λ(_,x,_) ((a,e,d,f,g,_),_) p=>by
 have q:=bw p;refine bh gY [] func133 (?_:(λj i=>(λh=>(λo=>x.length*1<=140737488355328->(d=true->30=i.fQ x/\a=h.b/\o)/\(d=false->W j/\(65536<j->20=i.fQ x/\a=h.b/\o)/\(j<=65536->a.length*1<=140737488355328/\(a.length+x.length)*1<=140737488355328/\0=i.fQ x/\a++x=h.b/\o))) (e=h.b7/\d=h.down/\f=h.c9/\g=h.dc)) (i.qs x)) ((a.length:Int)+(x.length:Int)) (j9.mk a e d f g));obtain⟨r,s,u⟩:=q;dsimp only at r s u;(repeat' with_reducible first|apply aH|refine aI ?_|intro)<;>first|(first|with_reducible rfl|with_reducible assumption|omega|(refine aY ?_ ?_<;>omega))|grind[j9.qs,j9.fQ]|skip
def PQ:CK 130 (aD fj av λ(v,_) _=>{rs:=[.c (.bool (.atom (decide (1<=v)&&decide (v<=3))))]}):=ag λ(v,_) _ _=>by
 refine al gY [] func130 (?_:(λa=>W v->a=a) (decide (1<=v)&&decide (v<=3)));repeat' first|(with_reducible first|apply aH|refine aI ?_|intro)|exact aZ|exact rfl
def EI:CK 142 (aD (ak iO (ak pw fj)) av λ(s,l,k,_) _=>{rs:=[.c (.int (iW s l k))]}):=ag λ(s,l,k,_) _ _=>by
 refine al gY [] func142 (?_:(λa=>bz s (l.length*8<=140737488355328->W k->W (r4 l)->(k<a->W (bM s.log a)->(bM s.log a=s.a8->a=iW s l k)/\(¬bM s.log a=s.a8->k=iW s l k))/\(a<=k->k=iW s l k))) (min (r4 l) (s.log.length:Int)));repeat' first|(with_reducible first|apply aH|refine aI ?_|intro)|exact aZ|(rw[iW,O ⟨Y,Y⟩])|(rw[iW,X N])
def qe:=(ae EI (ae PQ (ae JL (ae Eh (ae Jg (ae Cs (ae Ry (ae Ea gY))))))))
structure N0(l:List Int)(k:Nat):Prop where
 p:∀j y,j<k->l[j]? =some y->n8 y=true
section
variable{l:List Int}{k:Nat}{x:Int}
def alU:N0 l 0:=⟨λ_ _ h=>absurd h (Nat.not_lt_zero _)⟩
def amr(a:(decide (1<=x)&&decide (x<=3))=true)(c:l[k]? =some x)(h:N0 l k):N0 l (k+1):=⟨Fb h.p c a⟩
def agI(a:(decide (1<=x)&&decide (x<=3))=false)(c:l[k]? =some x):0=dK l:=(FZ c a).symm
def ajm(h:(l.length:Int)=0):0=dK l:=(Fm h).symm
def ajX(h:N0 l k)(c:(l.length:Int)<=k)(a:¬(l.length:Int)=0):(l.take k).foldl min 3=dK l:=(Ki h.p N a).symm
end
def YL(l:List Int):List (Nat×LI):=[(3,{σ:=Nat,F:=λk=>([(0,one (.fz .int l)),(3,one (.int ((l.take k).foldl min 3))),(4,one (.int k))],[]),J:=λk=>k<=l.length/\N0 l k,μ:=λk=>l.length-k})]
theorem Ex:CK 134 (aD dA wO λ_ ((a,d,e,f,h,_),_)=>⟨[(j9.mk a d e f h).OK],[.c (.int ((j9.mk a d e f h).ek))],some ([.box 63 ([.fz .u8 (((j9.mk a d e f h).sync).b),.int (((j9.mk a d e f h).sync).b7),.bool (.atom (((j9.mk a d e f h).sync).down)),.bool (.atom (((j9.mk a d e f h).sync).c9)),.int (((j9.mk a d e f h).sync).dc)])]),false⟩):=ag λ_ ((a,d,e,f,h,_),_) p=>by
 have q:=bw p;refine bh qe [] func134 (?_:(λi=>(λj g=>(λo=>(e=true->30=i.ek/\a=g.b/\d=g.b7/\o)/\(e=false->(f=true->(0<=d/\d<=(a.length:Int)/\a.length<=65536)/\30=i.ek/\j.b=g.b/\j.b7=g.b7/\j.down=g.down/\j.c9=g.c9/\j.dc=g.dc)/\(f=false->0=i.ek/\a=g.b/\(a.length:Int)=g.b7/\o))) (e=g.down/\f=g.c9/\h=g.dc)) (i.bR h) i.sync) (j9.mk a d e f h));obtain⟨r,s,u⟩:=q;dsimp only at r s u;(repeat' with_reducible first|apply aH|refine aI ?_|intro)<;>first|(first|with_reducible rfl|with_reducible assumption|omega|(refine aY ?_ ?_<;>omega))|grind[j9.sync,j9.ek]|skip
theorem Me:CK 78 (aD ij av λ(a,b,_) _=>{rs:=[.c (.int (bH a b))]}):=ag λ(a,b,_) _ _=>by
 refine al qe [] func78 (?_:(λd e=>W a->W b->(e=false\/d=false->1=bH a b)/\(e=true/\d=true->(a<b->32=bH a b)/\(b<=a->0=bH a b))) (decide (1<=b)&&decide (b<=3)) (decide (1<=a)&&decide (a<=3)));grind[bH]
theorem Oy:CK 147 (aD iS av λ(l,_) _=>{rs:=[.c (.int (dK l))]}):=ag λ(l,_) _ _=>by
 refine al qe (YL l) func147 (?_:(λd a e=>l.length*8<=140737488355328->∃g,(l=l/\d=foldl min d (take g l)/\a=(g:Int))/\(g<=l.length/\N0 l g)/\∀(s:Nat),s<=l.length/\N0 l s->((s:Int)<e->a<=(s:Int)/\(s:Int)<e/\∀(x:Int),(λh=>l[s]? =some x->W x->(h=false->a=dK l)/\(h=true->a<=(s:Int)/\(s:Int)<e/\∀(x:Int),l[s]? =some x->W x->W ((s:Int)+1)/\∃f,(l=l/\min (foldl min d (take s l)) x=foldl min d (take f l)/\(s:Int)+1=(f:Int))/\(f<=l.length/\N0 l f)/\l.length-f<l.length-s)) (decide (1<=x)&&decide (x<=d)))/\(e<=(s:Int)->(e=a->a=dK l)/\(¬e=a->foldl min d (take s l)=dK l))) (3:Int) (0:Int) (l.length:Int));repeat' first|(with_reducible first|apply aH|refine aI ?_|intro)|exact aZ|exact rfl|exact alU|exact(amr Y Y Y)|exact(agI Y Y)|exact(ajm Y)|exact(ajX Y Y Y)|(with_reducible exact ED Y)|refine⟨‹Nat›+1,?_⟩|refine⟨0,?_⟩
def uV:=(ae Oy (ae Me (ae Ex qe)))
section
variable{d:j9}{s:b9}{l:List dm}{k:Nat}{r:dm}
def Po(a:l[k]? =some r)(h:¬(aC r).2=0):ik d s l=(d,s,1):=by
 rw[afV a h,(jN h).1]
abbrev ri(l:List dm)(k:Nat):dm:=l.getD k (c4 (Sh.nm NT.record))
def RA(a:(k:Int)<(l.length:Int)):l[k]? =some (ri l k):=by rw[ri,getD_eq_getElem?_getD,r5 N];rfl
def NB(a:¬(aK (eg s (l.take k)).1 (ri l k)).2=0)(e:l.all k9=true)(h:(eg s (l.take k)).2=0)(f:(k:Int)<(l.length:Int)):ik d s l=(d,s,5):=by
 have c:k9 (ri l k)=true:=Hm.1 e _ (C5 (RA f));rw[acr e h (RA f) a];congr 2;unfold aK at a⊢;rw[X (by rw[c];decide)]at a⊢;cases g:dO (eg s (l.take k)).1 (ri l k)with
 |some t=>rw[g]at a;exact absurd rfl a
 |none=>rfl
def kx(a:(aK (eg s (l.take k)).1 (ri l k)).2=0)(h:(eg s (l.take k)).2=0)(c:(k:Int)<(l.length:Int)):(eg s (l.take (k+1))).2=0/\(eg s (l.take (k+1))).1=(aK (eg s (l.take k)).1 (ri l k)).1:=wD h (RA c) a
def yz(c:l.length<=1000)(a:l.all k9=true):(l1 l).length*1<=140737488355328:=by
 have:=qj a;omega
def NP(a:(l.length:Int)=0):ik d s l=(d,s,0):=by
 rw[aca (k:=0) a,A6 (l:=l) N];simp[eg]
end
def ZT(s:b9)(l:List dm)(a:List UInt8)(c:Int)(d:Bool)(e:Bool)(f:Int):List (Nat×LI):=[(3,{σ:=Nat,F:=λk=>([(0,one (.ptr 0 0)),(2,one (.fz (.nm .record) l)),(4,one (.ptr 1 0)),(6,one (.ptr 2 0)),(8,one (.own 3)),(9,one (.int k))],[.box 63 ([.fz .u8 a,.int c,.bool (.atom d),.bool (.atom e),.int f]),.box 66 (cellsOf (.nm .stable) s),.box 66 (cellsOf (.nm .stable) p0),.row 5 .u8 (l1 (l.take k))]),J:=λk=>k<=l.length/\(l.take k).all k9=true,μ:=λk=>l.length-k}),(12,{σ:=Nat,F:=λk=>([(0,one (.ptr 0 0)),(2,one (.fz (.nm .record) l)),(4,one (.ptr 1 0)),(6,one (.ptr 2 0)),(8,one (.own 3)),(14,one (.ptr 4 0)),(15,one (.int k))],[.box 63 ([.fz .u8 a,.int c,.bool (.atom d),.bool (.atom e),.int f]),.box 66 (cellsOf (.nm .stable) s),.box 66 (cellsOf (.nm .stable) p0),.row 5 .u8 (l1 l),.box 66 (cellsOf (.nm .stable) ((eg s (l.take k)).1))]),J:=λk=>k<=l.length/\l.all k9=true/\(eg s (l.take k)).2=0,μ:=λk=>l.length-k})]
theorem Sd:CK 97 (aD (ak dj iS) av λ(v,l,_) _=>{rs:=[.c (.bool (.atom (eQ v l)))]}):=ag λ(v,l,_) _ _=>by
 refine al uV [] func97 (?_:W v->l.length*8<=140737488355328->(1<=v/\v<3->W (dK l))->(decide (1<=v)&&decide (v<3)&&decide (v<dK l))=eQ v l);repeat' first|(with_reducible first|apply aH|refine aI ?_|intro)|exact aZ|rfl|grind[eQ]
set_option maxRecDepth 8000 in
theorem NQ:CK 81 (aD (ak iD (ak iO (ak vH bS))) wO λ(_,s,l,_) ((a,e,f,g,h,_),_)=>⟨[(j9.mk a e f g h).OK,s.log.length<=10000,l.length<=1000],[.agg (cellsOf (.nm .stable) ((ik (j9.mk a e f g h) s l).2.1)),.c (.int ((ik (j9.mk a e f g h) s l).2.2))],some ([.box 63 ([.fz .u8 ((ik (j9.mk a e f g h) s l).1.b),.int ((ik (j9.mk a e f g h) s l).1.b7),.bool (.atom ((ik (j9.mk a e f g h) s l).1.down)),.bool (.atom ((ik (j9.mk a e f g h) s l).1.c9)),.int ((ik (j9.mk a e f g h) s l).1.dc)])]),false⟩):=ag λ(_,s,l,_) ((a,e,f,g,h,_),_) K=>by
 have P:=bw K;have Q:=bw (de K);have H:=bw (de (de K));refine bh uV (ZT s l a e f g h) func81 (?_:(λ(b:Prop)(z:Nat)=>(λ(c:l7 (Sh.nm NT.record))=>(λ(C:Int)(A:List UInt8)(o:Int)(D:j9)=>(λ(r:b9×Int)(q:j9)=>(λ(u:j9)(p:j9)=>(λ(J:Prop)(F:Prop)=>bz s (l.length*48<=140737488355328->∃(B:Nat),(l=l/\o=(B:Int)/\a=a/\e=e/\f=f/\g=g/\h=h/\ai s s (o=p0.floor/\o=p0.a8/\o=p0.hQ/\p0.log=[]/\l1 (take B l)=[]))/\(B<=z/\(take B l).all k9=true)/\∀(i:Nat),i<=z/\(take i l).all k9=true->((i:Int)<C->o<=(i:Int)/\(i:Int)<C/\∀(x:dm),(λ(v:List UInt8)=>l[i]? =some x->cD x (v.length*1<=140737488355328->W (aC x).2->(¬(aC x).2=o->ai s r.1 (1=r.2/\F))/\((aC x).2=o->(gq v).1.length*1<=140737488355328->W (gq v).2->((l1 (take i l)).length+(gq v).1.length)*1<=140737488355328/\W ((i:Int)+1)/\∃(w:Nat),(l=l/\(i:Int)+1=(w:Int)/\a=a/\e=e/\f=f/\g=g/\h=h/\ai s s (ai p0 p0 (l1 (take i l)++(gq v).1=l1 (take w l))))/\(w<=z/\(take w l).all k9=true)/\z-w<z-i))) (aC x).1)/\(C<=(i:Int)->∃(B:Nat),(l=l/\o=(B:Int)/\a=a/\e=e/\f=f/\g=g/\h=h/\ai s s (ai p0 p0 (l1 (take i l)=A/\dZ s (eg s (take B l)).1)))/\(B<=z/\b/\(eg s (take B l)).2=o)/\∀(j:Nat),(λ(G:b9)=>(λ(y:b9×Int)=>j<=z/\b/\(eg s (take j l)).2=o->((j:Int)<C->(o<=(j:Int)/\(j:Int)<C)/\cD (l.getD j c) (G.log.length<=1000000)/\cD (l.getD j c) (bz y.1 (W y.2->(¬y.2=o->ai s r.1 (5=r.2/\F))/\(y.2=o->W ((j:Int)+1)/\∃(w:Nat),(l=l/\(j:Int)+1=(w:Int)/\a=a/\e=e/\f=f/\g=g/\h=h/\ai s s (ai p0 p0 (A=A/\dZ y.1 (eg s (take w l)).1)))/\(w<=z/\b/\(eg s (take w l)).2=o)/\z-w<z-j))))/\(C<=(j:Int)->(C=o->ai s r.1 (o=r.2/\F))/\(¬C=o->(o<=e/\e<=(a.length:Int)/\a.length<=65536)/\A.length*1<=140737488355328/\(W (D.fQ A)->(¬D.fQ A=o->ai s r.1 (D.fQ A=r.2/\q.b=p.b/\q.b7=p.b7/\q.down=p.down/\q.c9=p.c9/\q.dc=p.dc))/\(D.fQ A=o->(o<=q.b7/\q.b7<=(q.b.length:Int)/\q.b.length<=65536)/\(W q.ek->(¬q.ek=o->ai s r.1 (q.ek=r.2/\J))/\(q.ek=o->ai G r.1 (o=r.2/\J)))))))) (aK G (l.getD j c))) (eg s (take j l)).1))) (u.b=p.b/\u.b7=p.b7/\u.down=p.down/\u.c9=p.c9/\u.dc=p.dc) (a=p.b/\e=p.b7/\f=p.down/\g=p.c9/\h=p.dc)) q.sync (ik D s l).1) (ik D s l).2 (D.qs A)) (l.length:Int) (l1 l) 0 (j9.mk a e f g h)) (c4 (Sh.nm NT.record))) (l.all k9=true) l.length);have I:=P;obtain⟨S,T,U⟩:=P;dsimp only at S T U;(repeat' with_reducible first|apply aH|refine aI ?_|intro)
 all_goals try(refine⟨0,?_⟩;(repeat' with_reducible first|apply aH|refine aI ?_|intro))
 all_goals try(first|(refine⟨‹Nat›+1,?_⟩;(repeat' with_reducible first|apply aH|refine aI ?_|intro)<;>(first|exact aZ|(with_reducible exact yz H Y)|(with_reducible exact Vv Y Y)|(with_reducible exact Aj Y Y Y)|(with_reducible exact Hi H Y Y)|(with_reducible exact Vh Y Y)|(with_reducible exact Wj Y)|(with_reducible exact V_ Q H)|(with_reducible exact(kx Y Y Y).1)|(with_reducible exact I4 I)|(with_reducible exact GG I)|(with_reducible exact Gq I)|(with_reducible exact(o9 b9.floor (kx Y Y Y).2).symm)|(with_reducible exact(o9 b9.a8 (kx Y Y Y).2).symm)|(with_reducible exact(o9 b9.hQ (kx Y Y Y).2).symm)|(with_reducible exact(o9 b9.log (kx Y Y Y).2).symm)|(rw[Po (d:=j9.mk a e f g h) Y Y]<;>rfl)|(rw[NB (d:=j9.mk a e f g h) Y Y Y Y]<;>rfl)|(rw[Zt (d:=j9.mk a e f g h) Y Y Y Y Y]<;>rfl)|(rw[Vf (d:=j9.mk a e f g h) Y Y Y Y Y Y]<;>rfl)|(rw[VC (d:=j9.mk a e f g h) Y Y Y Y Y Y]<;>rfl)|(rw[NP (d:=j9.mk a e f g h) Y]<;>rfl)|exact rfl);done)|(refine⟨0,?_⟩;(repeat' with_reducible first|apply aH|refine aI ?_|intro)))
 all_goals try(refine⟨‹Nat›+1,?_⟩;(repeat' with_reducible first|apply aH|refine aI ?_|intro))
 all_goals(first|exact aZ|(with_reducible exact yz H Y)|(with_reducible exact Vv Y Y)|(with_reducible exact Aj Y Y Y)|(with_reducible exact Hi H Y Y)|(with_reducible exact Vh Y Y)|(with_reducible exact Wj Y)|(with_reducible exact V_ Q H)|(with_reducible exact(kx Y Y Y).1)|(with_reducible exact I4 I)|(with_reducible exact GG I)|(with_reducible exact Gq I)|(with_reducible exact(o9 b9.floor (kx Y Y Y).2).symm)|(with_reducible exact(o9 b9.a8 (kx Y Y Y).2).symm)|(with_reducible exact(o9 b9.hQ (kx Y Y Y).2).symm)|(with_reducible exact(o9 b9.log (kx Y Y Y).2).symm)|(rw[Po (d:=j9.mk a e f g h) Y Y]<;>rfl)|(rw[NB (d:=j9.mk a e f g h) Y Y Y Y]<;>rfl)|(rw[Zt (d:=j9.mk a e f g h) Y Y Y Y Y]<;>rfl)|(rw[Vf (d:=j9.mk a e f g h) Y Y Y Y Y Y]<;>rfl)|(rw[VC (d:=j9.mk a e f g h) Y Y Y Y Y Y]<;>rfl)|(rw[NP (d:=j9.mk a e f g h) Y]<;>rfl)|exact rfl)
def vr:=(ae NQ (ae Sd uV))
def Wa(k:Nat)(n:w8):List AV:=[.int n.me,.int n.ea,.ptr (k+1) 0]++(cellsOf (.nm .stable) n.st++([.int n.bin,.int n.ee,.int n.b8,.int n.b5]++cellsOf (.nm .state) n.s))
def lNg{a:Type}(k:Nat)(R:PL a):PL (w8×a):=PL.UQ (bg cI (bg cI (bg (tk (k+1) 0) (W6 (.nm .stable) (bg cI (bg cI (bg cI (bg cI (W6 (.nm .state) R))))))))) (λq=>(⟨q.1,q.2.1,q.2.2.2.2.1,q.2.2.2.1,q.2.2.2.2.2.1,q.2.2.2.2.2.2.1,q.2.2.2.2.2.2.2.1,q.2.2.2.2.2.2.2.2.1⟩,q.2.2.2.2.2.2.2.2.2)) (λq=>(q.1.me,q.1.ea,(),q.1.st,q.1.bin,q.1.ee,q.1.b8,q.1.b5,q.1.s,q.2))
def Z5(k:Nat)(n:Nd):AH:=[.box 70 (Wa k n.c++[.fz (.nm .l8) n.rp,.own (k+2),.own (k+3),.own (k+4),.own (k+5)]),.box 63 [.fz .u8 n.d.b,.int n.d.b7,.bool (.atom n.d.down),.bool (.atom n.d.c9),.int n.d.dc],.row 4 .bool n.vs,.row 3 .int n.bn,.row 3 .int n.nx,.row 3 .int n.mt]
def aro{a:Type}(k:Nat)(R:PH a):PH (Nd×a):=PH.UQ (bl (iX 70 (lNg k (bg (cL (.nm .l8)) (bg (iY (k+2)) (bg (iY (k+3)) (bg (iY (k+4)) (bg (iY (k+5)) jf))))))) (bl (iX 63 (bg (cL .u8) (bg cI (bg cB (bg cB (bg cI jf)))))) (bl (jL 4 .bool) (bl (jL 3 .int) (bl (jL 3 .int) (bl (jL 3 .int) R))))))
 (λq=>(⟨q.1.1,⟨q.2.1.1,q.2.1.2.1,q.2.1.2.2.1,q.2.1.2.2.2.1,q.2.1.2.2.2.2.1⟩,q.1.2.1,q.2.2.1,q.2.2.2.1,q.2.2.2.2.1,q.2.2.2.2.2.1⟩,q.2.2.2.2.2.2))
 (λq=>((q.1.c,q.1.rp,(),(),(),(),()),(q.1.d.b,q.1.d.b7,q.1.d.down,q.1.d.c9,q.1.d.dc,()),q.1.vs,q.1.bn,q.1.nx,q.1.mt,q.2))
def qX(n:Nd):AH:=Z5 0 n
def wU:PH Nd:=PH.UQ (aro 0 av) (·.1) (λn=>(n,()))
def Nd.eW(m:Nd):Nd:=⟨⟨m.c.me,m.c.ea,0,p0,0,0,0,⟨0,0,0,0,[],[],[]⟩⟩,m.d,[],[],[],[],[]⟩
def Nd.fT(m:Nd):Nd:={m with c:={m.c with ee:=0},vs:=[],bn:=[],nx:=[],mt:=[]}
def Nd.cf(m:Nd)(l:List dm):Nd:=if(ik m.d m.c.st l).2.2=30 then{m with d:=(ik m.d m.c.st l).1}.eW else if(ik m.d m.c.st l).2.2=0 then{m with d:=(ik m.d m.c.st l).1,c:={m.c with st:=(ik m.d m.c.st l).2.1}}else{m with d:=(ik m.d m.c.st l).1}
def qG(n:Nd):Site:=if n.c.bin=0 then⟨false,0,0,0,0,0,0,0,[],⟨0,0,0,0,[],[],[]⟩⟩else⟨true,n.c.ee,n.c.bin,n.c.st.floor,n.c.st.a8,n.c.st.hQ,n.c.b8,n.c.b5,n.c.st.log,n.c.s⟩
def Ii(h:n.c.bin=0):qG n=⟨false,0,0,0,0,0,0,0,[],⟨0,0,0,0,[],[],[]⟩⟩:=O h
def Hg(h:¬n.c.bin=0):qG n=⟨true,n.c.ee,n.c.bin,n.c.st.floor,n.c.st.a8,n.c.st.hQ,n.c.b8,n.c.b5,n.c.st.log,n.c.s⟩:=X h
def Zv:CK 52 (aD iR wU λ(_,k,_) n=>{rs:=[],out:=some (qX ({n with d:=⟨n.d.b,n.d.b7,n.d.down,true,k⟩}))}):=ag λ(_,k,_) n _=>by
 refine bh vr [] func52 (?_:W k->n.c.me=n.c.me/\n.c.ea=n.c.ea/\ai n.c.st n.c.st (n.c.bin=n.c.bin/\n.c.ee=n.c.ee/\n.c.b8=n.c.b8/\n.c.b5=n.c.b5/\aw n.c.s n.c.s (n.rp=n.rp/\n.d.b=n.d.b/\n.d.b7=n.d.b7/\n.d.down=n.d.down/\true=true/\k=k/\n.vs=n.vs/\n.bn=n.bn/\n.nx=n.nx/\n.mt=n.mt)));repeat' first|(with_reducible first|apply aH|refine aI ?_|intro)|exact aZ|rfl
def VL:CK 17 (aD dA wU λ_ n=>{rs:=[.agg (cellsOf (.nm .site) (qG n))]}):=ag λ_ n _=>by
 refine al vr [] func17 (?_:(λd=>(λe a=>(n.c.bin=a->false=d.up/\a=d.ee/\a=d.binary/\a=d.floor/\a=d.a8/\a=d.hQ/\a=d.b8/\a=d.b5/\d.log=[]/\a=e.bo/\a=e.next/\a=e.dc/\a=e.eR/\e.c8=[]/\e.eb=[]/\e.c3=[])/\(¬n.c.bin=a->Oo (Site.mk true n.c.ee n.c.bin n.c.st.floor n.c.st.a8 n.c.st.hQ n.c.b8 n.c.b5 n.c.st.log n.c.s) d)) d.state (0:Int)) (qG n));repeat' first|(with_reducible first|apply aH|refine aI ?_|intro)|exact aZ|(rw[Ii (n:=n) Y]<;>rfl)|(rw[Hg (n:=n) Y]<;>rfl)
def vK:=(ae VL (ae Zv vr))
def gN(n:Nd)(k t:Int):l3×Int:=if n.c.bin=0 then(⟨0,0⟩,30)else if(k<1\/n.c.b5<k)\/¬(n.c.st.log.getD (k-1).toNat ⟨0,[]⟩).a8=t then(⟨0,0⟩,15)else(n.rp.getD (k-1).toNat ⟨0,0⟩,0)
def tI(n:Nd)(k:Int):List ep:=if(iJ n k).2=0 then[(iJ n k).1]else[]
section
variable{n:Nd}{k t:Int}
def alL(h:n.c.bin=0):gN n k t=(⟨0,0⟩,30):=O h
def an4(h:¬n.c.bin=0)(a:(k<1\/n.c.b5<k)\/¬(n.c.st.log.getD (k-1).toNat (c4 (Sh.nm NT.entry))).a8=t):gN n k t=(⟨0,0⟩,15):=by
 rw[gN,X h];exact O a
def aov{x:l3}(h:¬n.c.bin=0)(d:1<=k)(e:k<=n.c.b5)(a:(n.c.st.log.getD (k-1).toNat (c4 (Sh.nm NT.entry))).a8=t)(h4:n.rp[(k-1).toNat]? =some x):gN n k t=(x,0):=by
 rw[gN,X h,getD_eq_getElem?_getD (l:=n.rp),h4];exact X (by rintro((h4|h4)|h4)<;>first|omega|exact h4 a)
def alV(h:(iJ n k).2=0):tI n k=[(iJ n k).1]:=O h
def aii(h:¬(iJ n k).2=0):tI n k=[]:=X h
end
theorem Sq:CK 20 (aD (ak iD ij) wU λ(_,k,t,_) n=>{pre:=[n.c.b5<=n.c.st.log.length,n.c.b5<=n.rp.length],rs:=[.agg (cellsOf (.nm .l8) ((gN n k t).1)),.c (.int ((gN n k t).2))]}):=ag λ(_,k,t,_) n h=>by
 have i:=bw h;have j:=bw (de h);refine al vK [] func20 (?_:(λa g d e=>(λf=>W k->W t->(n.c.bin=a->a=d.1.code/\a=d.1.n/\30=d.2)/\(¬n.c.bin=a->(g->W e/\a<=e/\e<(n.c.st.log.length:Int))/\((g->W f.a8/\f.b.length*1<=140737488355328)->((k<1\/n.c.b5<k)\/¬f.a8=t->a=d.1.code/\a=d.1.n/\15=d.2)/\(g/\f.a8=t->W e/\a<=e/\e<(n.rp.length:Int)/\∀(x:l3),n.rp[e.toNat]? =some x->W x.code->W x.n->x.code=d.1.code/\x.n=d.1.n/\a=d.2)))) (n.c.st.log.getD e.toNat (c4 (Sh.nm NT.entry)))) (0:Int) (1<=k/\k<=n.c.b5) (gN n k t) (k-1));repeat' first|(with_reducible first|apply aH|refine aI ?_|intro)|exact aZ|(exact aY N (by have q:=(by with_reducible assumption:W k).2;omega))|(rw[alL (n:=n) Y]<;>rfl)|(rw[an4 (n:=n) Y Y]<;>rfl)|(rw[aov (n:=n) Y Y Y Y Y]<;>rfl)
def Lq:CK 87 (aD iR wU λ(_,k,_) n=>{pre:=[0<=k/\k<(n.nx.length:Int)],rs:=[.c (.fz (.nm .letter) (tI n k))]}):=ag λ(_,k,_) n d=>by
 have e:=bw d;refine al vK [] func87 (?_:(λa=>W k->(0<=k/\k<(n.nx.length:Int))/\(W (n.nx.getD k.toNat (c4 Sh.int))->aP a.1 (W a.2->(¬a.2=0->tI n k=[])/\(a.2=0->[a.1]=tI n k)))) (eD n.c.st (vo.mk n.c.me k (n.nx.getD k.toNat (c4 Sh.int)) n.c.b8 n.c.bin)));repeat' first|(with_reducible first|apply aH|refine aI ?_|intro)|exact aZ|(rw[alV (n:=n) (k:=k) ap]<;>rfl)|(rw[aii (n:=n) (k:=k) ap]<;>rfl)
def Bc:=(ae Lq (ae Sq vK))
def zH(n:Nd)(k:Nat):List ep:=(ky n.c k).flatMap (tI n)
def j_(n:Nd):List ep×Int:=if n.c.bin=0 then([],30)else if n.c.ee=2 then(zH n n.c.ea.toNat,0)else([],33)
section
variable{n:Nd}{k:Nat}
def aoH(h:¬(k:Int)=n.c.me):zH n k++tI n k=zH n (k+1):=by
 rw[zH,zH,<-Uq h];simp
def am9(h:(k:Int)=n.c.me):zH n k=zH n (k+1):=by rw[zH,zH,Oa h]
def acY:(zH n k).length<=k:=by
 have h:∀l:List Int,(l.flatMap (tI n)).length<=l.length:=λl=>by
  induction l with
  |nil=>simp
  |cons a l c=>
   rw[G9,s8,x7];have:(tI n a).length<=1:=by unfold tI;split<;>simp
   omega
 exact zc (h _) nT
def acX{i:Int}:(tI n i).length<=1:=by unfold tI;split<;>simp
def akd(h:n.c.bin=0):j_ n=([],30):=O h
def alk(h:¬n.c.bin=0)(a:¬n.c.ee=2):j_ n=([],33):=by rw[j_,X h,X a]
def anQ(h:¬n.c.bin=0)(a:n.c.ee=2)(d:k<=n.c.ea.toNat)(e:n.c.ea<=k):j_ n=(zH n k,0):=by
 rw[j_,X h,O a,show n.c.ea.toNat=k by omega]
end
def adz(n:Nd):List (Nat×LI):=[(7,{σ:=Nat,F:=λk=>([(0,one (.ptr 0 0)),(4,one (.own 6)),(5,one (.int k))],(qX (n)++[.row 34 (.nm .letter) (zH n k)])),J:=λk=>k<=n.c.ea.toNat,μ:=λk=>n.c.ea.toNat-k})]
theorem ZW:CK 49 (aD dA wU λ_ n=>{pre:=[n.c.ea<=5,n.c.ee=2->(n.nx.length:Int)=n.c.ea],rs:=[.c (.fz (.nm .letter) ((j_ n).1)),.c (.int ((j_ n).2))]}):=ag λ_ n B=>by
 have D:=bw B;have C:=bw (de B);refine al Bc (adz n) func49 (?_:(λ(g:j9)=>(λ(r:Prop)(u:Prop)(v:Prop)(w:Prop)(a:w8)=>(λ(f:Int)(y:Prop)(h:Int)(z:Prop)=>(λ(p:Nat)=>(a.bin=0->(j_ n).1=[]/\30=(j_ n).2)/\(¬a.bin=0->(¬f=2->(j_ n).1=[]/\33=(j_ n).2)/\(f=2->∃(A:Nat),(0=(A:Int)/\a.me=a.me/\h=h/\ai a.st a.st (a.bin=a.bin/\f=f/\y/\z/\aw a.s a.s (n.rp=n.rp/\g.b=g.b/\v/\u/\w/\r/\n.vs=n.vs/\n.bn=n.bn/\n.nx=n.nx/\n.mt=n.mt/\zH n A=[])))/\A<=p/\∀(s:Nat),(λ(e:Int)=>(λ(j:Int)=>s<=p->(e<h->(¬e=a.me->(0<=e/\e<(n.nx.length:Int))/\((tI n e).length*96<=140737488355328->((zH n s).length+(tI n e).length)*96<=140737488355328/\W j/\∃(o:Nat),(j=(o:Int)/\a.me=a.me/\h=h/\ai a.st a.st (a.bin=a.bin/\f=f/\y/\z/\aw a.s a.s (n.rp=n.rp/\g.b=g.b/\v/\u/\w/\r/\n.vs=n.vs/\n.bn=n.bn/\n.nx=n.nx/\n.mt=n.mt/\zH n s++tI n e=zH n o)))/\o<=p/\p-o<p-s))/\(e=a.me->W j/\∃(o:Nat),(j=(o:Int)/\a.me=a.me/\h=h/\ai a.st a.st (a.bin=a.bin/\f=f/\y/\z/\aw a.s a.s (n.rp=n.rp/\g.b=g.b/\v/\u/\w/\r/\n.vs=n.vs/\n.bn=n.bn/\n.nx=n.nx/\n.mt=n.mt/\zH n s=zH n o)))/\o<=p/\p-o<p-s))/\(h<=e->zH n s=(j_ n).1/\0=(j_ n).2)) (e+1)) (s:Int)))) h.toNat) a.ee (a.b8=a.b8) a.ea (a.b5=a.b5)) (g.dc=g.dc) (g.down=g.down) (g.b7=g.b7) (g.c9=g.c9) n.c) n.d);repeat' first|(with_reducible first|apply aH|refine aI ?_|intro)|exact aZ|exact rfl|exact(aoH Y)|exact(am9 Y)|(have:=acY (n:=n) (k:=‹Nat›);have:=acX (n:=n) (i:=‹Nat›);omega)|(have q:=C Y;omega)|(rw[akd Y]<;>rfl)|(rw[alk Y Y]<;>rfl)|(rw[anQ Y Y Y Y]<;>rfl)|refine⟨‹Nat›+1,?_⟩|refine⟨0,?_⟩
def wF:=(ae ZW Bc)
def Gv:∀o∈(qX n).drop 2,∃t s a,o=AO.row t s a:=by
 intro o h;simp[qX,Z5]at h;rcases h with h|h|h|h<;>exact⟨_,_,_,h⟩
def Te(c e:Cx)(f a:List RE)(d:List Value)(h:hY (eh c f) [] d):hY (eh e a) [] d:=by
 cases h;exact .nil
section
variable{n:Nd}{l:List dm}
def afT(h:(ik n.d n.c.st l).2.2=0):n.cf l={n with d:=(ik n.d n.c.st l).1,c:={n.c with st:=(ik n.d n.c.st l).2.1}}:=by
 rw[Nd.cf,X (by rw[h];decide),O h]
def aj7(h:¬(ik n.d n.c.st l).2.2=30)(a:¬(ik n.d n.c.st l).2.2=0):n.cf l={n with d:=(ik n.d n.c.st l).1}:=by
 rw[Nd.cf,X h,X a]
def al2(h:(ik n.d n.c.st l).2.2=30):n.cf l={n with d:=(ik n.d n.c.st l).1}.eW:=by rw[Nd.cf,O h]
end
def C_:CK 100 (aD dA wU λ_ n=>{rs:=[],out:=some ([.box 70 (Wa 0 ((n.eW).c)++[.fz (.nm .l8) ((n.eW).rp),.em true,.em true,.em true,.em true]),.box 63 ([.fz .u8 ((n.eW).d.b),.int ((n.eW).d.b7),.bool (.atom ((n.eW).d.down)),.bool (.atom ((n.eW).d.c9)),.int ((n.eW).d.dc)]),.row 4 .bool n.vs,.row 3 .int n.bn,.row 3 .int n.nx,.row 3 .int n.mt])}):=ag λ_ n _=>by
 refine bh wF [] func100 (?_:(λe a=>n.c.me=a.me/\n.c.ea=a.ea/\e=a.st.floor/\e=a.st.a8/\e=a.st.hQ/\a.st.log=[]/\e=a.bin/\e=a.ee/\e=a.b8/\e=a.b5/\e=a.s.bo/\e=a.s.next/\e=a.s.dc/\e=a.s.eR/\a.s.c8=[]/\a.s.eb=[]/\a.s.c3=[]/\n.eW.rp=[]/\n.d.b=n.eW.d.b/\n.d.b7=n.eW.d.b7/\n.d.down=n.eW.d.down/\n.d.c9=n.eW.d.c9/\n.d.dc=n.eW.d.dc/\n.vs=n.vs/\n.bn=n.bn/\n.nx=n.nx/\n.mt=n.mt) (0:Int) n.eW.c);repeat' first|(with_reducible first|apply aH|refine aI ?_|intro)|exact aZ|exact rfl
def Px(n:Nd):r8 prog (bj p6) 100 [.c (.ptr 0 0)] (qX n) {rs:=[],out:=some ([.box 70 (Wa 0 ((n.eW).c)++[.fz (.nm .l8) ((n.eW).rp),.em true,.em true,.em true,.em true]),.box 63 ([.fz .u8 ((n.eW).d.b),.int ((n.eW).d.b7),.bool (.atom ((n.eW).d.down)),.bool (.atom ((n.eW).d.c9)),.int ((n.eW).d.dc)]),.row 4 .bool n.vs,.row 3 .int n.bn,.row 3 .int n.nx,.row 3 .int n.mt])}:=C_ _ _ _ rfl aa
def ZG(n:Nd):r8 prog (bj p6) 100 [.c (.ptr 0 0)] (qX n) {rs:=[],out:=some (qX n.eW)}:=r8.vk 0 22 3 .int cj rfl rfl (r8.vk 0 21 3 .int cj rfl rfl (r8.vk 0 20 3 .int cj rfl rfl (r8.vk 0 19 4 .bool cj rfl rfl (r8.cut 2 rfl cj rfl Gv Te (Px n)) rfl) rfl) rfl) rfl
def UY:CK 100 (aD dA wU λ_ n=>{rs:=[],out:=some (qX n.eW)}):=ag λ_ n _=>ZG n
def Ds:CK 89 (aD dA wU λ_ n=>{rs:=[],out:=some ([.box 70 (Wa 0 ((n.fT).c)++[.fz (.nm .l8) ((n.fT).rp),.em true,.em true,.em true,.em true]),.box 63 ([.fz .u8 ((n.fT).d.b),.int ((n.fT).d.b7),.bool (.atom ((n.fT).d.down)),.bool (.atom ((n.fT).d.c9)),.int ((n.fT).d.dc)]),.row 4 .bool n.vs,.row 3 .int n.bn,.row 3 .int n.nx,.row 3 .int n.mt])}):=ag λ_ n _=>by
 refine bh wF [] func89 (?_:(λa=>n.c.me=a.c.me/\n.c.ea=a.c.ea/\ai n.c.st a.c.st (n.c.bin=a.c.bin/\0=a.c.ee/\n.c.b8=a.c.b8/\n.c.b5=a.c.b5/\aw n.c.s a.c.s (n.rp=a.rp/\n.d.b=a.d.b/\n.d.b7=a.d.b7/\n.d.down=a.d.down/\n.d.c9=a.d.c9/\n.d.dc=a.d.dc/\n.vs=n.vs/\n.bn=n.bn/\n.nx=n.nx/\n.mt=n.mt))) n.fT);repeat' first|(with_reducible first|apply aH|refine aI ?_|intro)|exact aZ|exact rfl
def SV(n:Nd):r8 prog (bj p6) 89 [.c (.ptr 0 0)] (qX n) {rs:=[],out:=some ([.box 70 (Wa 0 ((n.fT).c)++[.fz (.nm .l8) ((n.fT).rp),.em true,.em true,.em true,.em true]),.box 63 ([.fz .u8 ((n.fT).d.b),.int ((n.fT).d.b7),.bool (.atom ((n.fT).d.down)),.bool (.atom ((n.fT).d.c9)),.int ((n.fT).d.dc)]),.row 4 .bool n.vs,.row 3 .int n.bn,.row 3 .int n.nx,.row 3 .int n.mt])}:=Ds _ _ _ rfl aa
def ZC(n:Nd):r8 prog (bj p6) 89 [.c (.ptr 0 0)] (qX n) {rs:=[],out:=some (qX n.fT)}:=r8.vk 0 22 3 .int cj rfl rfl (r8.vk 0 21 3 .int cj rfl rfl (r8.vk 0 20 3 .int cj rfl rfl (r8.vk 0 19 4 .bool cj rfl rfl (r8.cut 2 rfl cj rfl Gv Te (SV n)) rfl) rfl) rfl) rfl
def Zs:CK 89 (aD dA wU λ_ n=>{rs:=[],out:=some (qX n.fT)}):=ag λ_ n _=>ZC n
def CL:=(ae Zs (ae Ds (ae UY (ae C_ wF))))
def QK:CK 85 (aD (ak iD (ak vH bS)) wU λ(_,l,_) n=>⟨[n.d.OK,n.c.st.log.length<=10000,l.length<=1000],[.c (.int ((ik n.d n.c.st l).2.2))],some (qX (n.cf l)),false⟩):=ag λ(_,l,_) n i=>by
 have o:=bw i;have p:=bw (de i);have q:=bw (de (de i));refine bh CL [] func85 (?_:(λa=>(λe h=>(λg j f=>l.length*48<=140737488355328->((0<=n.d.b7/\n.d.b7<=(n.d.b.length:Int)/\n.d.b.length<=65536)/\n.c.st.log.length<=10000/\l.length<=1000)/\bz h.2.1 (W g->(g=30->g=g/\f.c.me=e.me/\f.c.ea=e.ea/\ai f.c.st e.st (f.c.bin=e.bin/\f.c.ee=e.ee/\f.c.b8=e.b8/\f.c.b5=e.b5/\aw f.c.s e.s (f.rp=a.rp/\f.d.b=a.d.b/\f.d.b7=a.d.b7/\f.d.down=a.d.down/\f.d.c9=a.d.c9/\f.d.dc=a.d.dc/\f.vs=a.vs/\f.bn=a.bn/\f.nx=a.nx/\f.mt=a.mt)))/\(¬g=30->(g=0->g=g/\n.c.me=e.me/\n.c.ea=e.ea/\ai h.2.1 e.st j)/\(¬g=0->g=g/\n.c.me=e.me/\n.c.ea=e.ea/\ai n.c.st e.st j)))) h.2.2 (n.c.bin=e.bin/\n.c.ee=e.ee/\n.c.b8=e.b8/\n.c.b5=e.b5/\aw n.c.s e.s (n.rp=a.rp/\h.1.b=a.d.b/\h.1.b7=a.d.b7/\h.1.down=a.d.down/\h.1.c9=a.d.c9/\h.1.dc=a.d.dc/\n.vs=a.vs/\n.bn=a.bn/\n.nx=a.nx/\n.mt=a.mt)) (Nd.mk n.c h.1 n.rp n.vs n.bn n.nx n.mt).eW) a.c (ik n.d n.c.st l)) (n.cf l));obtain⟨r,u,v⟩:=id o;repeat' first|(with_reducible first|apply aH|refine aI ?_|intro)|exact aZ|exact rfl|exact(Eq.symm Y)|(rw[afT Y]<;>rfl)|(rw[aj7 Y Y]<;>rfl)|(rw[al2 Y]<;>rfl)
def nA:=(ae QK CL)
