/- The law: for every input it returns true, and each argument reads behind the call as it read before; and what leads there. Conditions: each lemma's own. -/
import Derived.ProofKit
import Derived.SizedLaws
import Derived.Test.YtoecbhljidgajaaGreatChecked
import Derived.Test.YtoecbhljidgajaaGreatRows
import Derived.Test.YtoecbhljidgajaaGreatNPM9
set_option linter.unusedVariables false
set_option linter.unusedSimpArgs false
set_option maxHeartbeats 2000000
set_option linter.defProp false
noncomputable section
open List (length_drop replicate take)
open UInt8 (ofNat)
open Go.DataW (TrodAll trod trod_int weights weightsAll weightsEach)
namespace Go.Proofs.YtoecbhljidgajaaGreat
open Go.Proofs.Tryz
open Go.RowKit
abbrev Nd.low(m:Nd):Nd:={m with c:={m.c with ee:=0}}
structure y2(m:Nd):Prop where
 ok:p5 m.low
 ln:m.c.ee=0\/(m.vs.length:Int)=m.c.ea/\(m.bn.length:Int)=m.c.ea
 l2:m.c.ee=2->(m.nx.length:Int)=m.c.ea/\(m.mt.length:Int)=m.c.ea
def Nd.hQ(m:Nd):Nd:={m with c:={m.c with ee:=1},vs:=(replicate m.c.ea.toNat false).set m.c.me.toNat true,bn:=(replicate m.c.ea.toNat (0:Int)).set m.c.me.toNat m.c.bin}
def qn(n:w8)(k:Nat):List ep:=(ky n k).map λc=>{lU n 1 c with a:=n.st.log.length,b:=eL n.st.log}
def dE(n:Nd):B7:=if n.c.bin=0 then⟨n,[],30⟩else if n.c.ee=2 then⟨n,[],0⟩else if¬(ax n.c.st n.c.me).2=0 then⟨n,[],(ax n.c.st n.c.me).2⟩
 else if¬n.aB (ax n.c.st n.c.me).1=0 then⟨n.cf (ax n.c.st n.c.me).1,[],n.aB (ax n.c.st n.c.me).1⟩else⟨(n.cf (ax n.c.st n.c.me).1).hQ,qn (n.cf (ax n.c.st n.c.me).1).hQ.c (n.cf (ax n.c.st n.c.me).1).c.ea.toNat,0⟩
def mi(n:Nd)(x:ep):B7:=if¬n.aB (aA n.c.st x).1=0 then⟨n.cf (aA n.c.st x).1,[],n.aB (aA n.c.st x).1⟩
 else⟨n.cf (aA n.c.st x).1,[{lU (n.cf (aA n.c.st x).1).c 2 x.l5 with ok:=(aA n.c.st x).2.1}],0⟩
section
variable{n:Nd}{k:Nat}{l:List dm}{x:ep}
def xa(h:y2 n):n.d.OK/\n.c.st.log.length<=64/\(3<=n.c.ea/\n.c.ea<=5)/\(0<=n.c.me/\n.c.me<n.c.ea)/\(0<=n.c.b5/\n.c.b5<=n.c.b8/\n.c.b8<=n.c.st.log.length)/\(n.rp.length:Int)=n.c.b5:=⟨h.ok.d,h.ok.log,h.ok.ea,h.ok.me,h.ok.y1,h.ok.rp⟩
def acE(h:n.aB l=0):n.cf l=n.fl l:=afT h
theorem aju{v:Int}{s:c5}{l:List eA}{d:l3}(a:l.length=1)(h:pE v l=0):[(B3 v s l).getD 0 d]=B3 v s l/\(0:Int)<(B3 v s l).length:=by
 obtain⟨y,rfl⟩:=List.length_eq_one_iff.1 a;have b:(bd y v).e=0:=by
  unfold pE at h;split at h<;>assumption
 simp[B3,pN,b,pR]
def aiJ{q:Nd}(h:AJ n q)(b:q.c.b5<q.c.b8)(a:pE q.c.bin ((q.c.st.log.drop q.c.b5.toNat).take ((q.c.b5+1).toNat-q.c.b5.toNat))=0):q.rp++[(B3 q.c.bin q.c.s ((q.c.st.log.drop q.c.b5.toNat).take ((q.c.b5+1).toNat-q.c.b5.toNat))).getD 0 (c4 (Sh.nm NT.l8))]=q.V4.rp/\(0:Int)<(B3 q.c.bin q.c.s ((q.c.st.log.drop q.c.b5.toNat).take ((q.c.b5+1).toNat-q.c.b5.toNat))).length:=by
 have k:=aju (s:=q.c.s) (d:=c4 (Sh.nm NT.l8)) (by rw[Mz h,sh,length_drop];have:=h.le;omega) a;exact⟨by rw[k.1];rfl,k.2⟩
def aos{q:Nd}{x:l3}(h:AJ n q)(a:q.c.b5<q.c.b8):(q.rp.length+[x].length)*16<=140737488355328:=by
 have:=h.le;simp only[x7,B2];omega
def anb{q:Nd}(h:AJ n q)(a:q.c.b5<q.c.b8):q.rp.length*16<=140737488355328:=by
 have:=h.le;omega
def aau:(n.cf l).c.me=n.c.me/\(n.cf l).c.ea=n.c.ea:=by
 unfold Nd.cf;repeat' split
 all_goals exact⟨rfl,rfl⟩
def ajJ(h:(k:Int)<n.hQ.c.ea):k+1<=n.c.ea.toNat/\n.c.ea.toNat-(k+1)<n.c.ea.toNat-k:=by
 have:(k:Int)<n.c.ea:=h;omega
def aho(h:n.c.bin=0):dE n=⟨n,[],30⟩:=O h
def agQ(h:¬n.c.bin=0)(a:n.c.ee=2):dE n=⟨n,[],0⟩:=by rw[dE,X h,O a]
def ai7(h:¬n.c.bin=0)(a:¬n.c.ee=2)(b:¬(ax n.c.st n.c.me).2=0):dE n=⟨n,[],(ax n.c.st n.c.me).2⟩:=by simp[dE, *]
def akI(h:¬n.c.bin=0)(a:¬n.c.ee=2)(b:(ax n.c.st n.c.me).2=0)(d:¬n.aB (ax n.c.st n.c.me).1=0):dE n=⟨n.cf (ax n.c.st n.c.me).1,[],n.aB (ax n.c.st n.c.me).1⟩:=by simp[dE, *]
def adU(h:¬n.c.bin=0)(a:¬n.c.ee=2)(b:(ax n.c.st n.c.me).2=0)(d:n.aB (ax n.c.st n.c.me).1=0):dE n=⟨(n.cf (ax n.c.st n.c.me).1).hQ,qn (n.cf (ax n.c.st n.c.me).1).hQ.c (n.cf (ax n.c.st n.c.me).1).c.ea.toNat,0⟩:=by simp[dE, *]
def apW(h:¬n.c.bin=0)(a:¬n.c.ee=2)(b:(ax n.c.st n.c.me).2=0)(d:n.aB (ax n.c.st n.c.me).1=0)(f:k<=(n.cf (ax n.c.st n.c.me).1).c.ea.toNat)(e:(n.cf (ax n.c.st n.c.me).1).hQ.c.ea<=k):qn (n.cf (ax n.c.st n.c.me).1).hQ.c k=(dE n).l:=by
 rw[adU h a b d];congr 1;have:(n.cf (ax n.c.st n.c.me).1).c.ea<=k:=e;omega
def akJ(h:¬n.aB (aA n.c.st x).1=0):mi n x=⟨n.cf (aA n.c.st x).1,[],n.aB (aA n.c.st x).1⟩:=O h
def ahk(h:n.aB (aA n.c.st x).1=0):mi n x=⟨n.cf (aA n.c.st x).1,[{lU (n.cf (aA n.c.st x).1).c 2 x.l5 with ok:=(aA n.c.st x).2.1}],0⟩:=X (A0.2 h)
def aoo(h:¬(k:Int)=n.c.me):qn n.c k++[ep.mk (1) n.c.me k n.c.st.a8 n.c.st.log.length (eL n.c.st.log) 0 n.c.bin false []]=qn n.c (k+1):=by
 rw[qn,qn,<-Uq h];simp[lU]
def apQ(h:(k:Int)=n.c.me):qn n.c k=qn n.c (k+1):=by rw[qn,qn,Oa h]
def aen:(qn n.c k).length<=k:=by rw[qn,K9];exact nT
def aic(h:(l.take k).any (fL n)=false)(d:(k:Int)<l.length)(b:¬(l.getD k (c4 (Sh.nm NT.record))).kind=4\/n.c.b8<(l.getD k (c4 (Sh.nm NT.record))).a):(l.take (k+1)).any (fL n)=false:=by
 refine akF h (r5 N) ?_;rw[List.getD_eq_getElem?_getD,r5 N]at b;simp only[O2]at b;simp only[fL,S7,J2];omega
def aq7(h:nd x=0)(b:x.to=n.c.me)(d:x.l5<n.c.ea)(e:x.kind=3)(j:(k:Int)<(aq n.c.st x).1.length)(f:((aq n.c.st x).1.getD k (c4 (Sh.nm NT.record))).kind=4)(g:((aq n.c.st x).1.getD k (c4 (Sh.nm NT.record))).a<=n.c.b8):true= !cm n.c x:=by
 by_cases i:(aq n.c.st x).2.2.2=0
 .rw[List.getD_eq_getElem?_getD,r5 N]at f g;rw[<-Sg h b d e i,List.any_eq_true.2 ⟨_,I1 (show k<(aq n.c.st x).1.length by omega),by simpa[fL] using⟨f,g⟩⟩];rfl
 rw[Sm h b d e i];rfl
def arc(h:nd x=0)(b:x.to=n.c.me)(d:x.l5<n.c.ea)(e:x.kind=3)(f:((aq n.c.st x).1.take k).any (fL n)=false)(g:((aq n.c.st x).1.length:Int)<=k):(!decide ((aq n.c.st x).2.2.2=0))= !cm n.c x:=by
 rw[List.take_of_length_le N]at f;by_cases a:(aq n.c.st x).2.2.2=0
 .rw[<-Sg h b d e a,f];simp[a]
 rw[Sm h b d e a];simp[a]
end
def JM(n:Nd):List (Nat×LI):=[(0,{σ:=Nd,F:=λq=>([(0,one (.ptr 0 0))],(qX q)),J:=λq=>AJ n q,μ:=λq=>(q.c.b8-q.c.b5).toNat})]
def Jp(n:Nd):List (Nat×LI):=[(18,{σ:=Nat,F:=λk=>([(0,one (.ptr 0 0)),(6,one (.int (n.cf (ax n.c.st n.c.me).1).c.st.log.length)),(7,one (.int (eL (n.cf (ax n.c.st n.c.me).1).c.st.log))),(8,one (.own 8)),(9,one (.int k))],[.box 70 (Wa 0 ((n.cf (ax n.c.st n.c.me).1).hQ.c)++[.fz (.nm .l8) ((n.cf (ax n.c.st n.c.me).1).hQ.rp),.own 6,.own 7,.own 4,.own 5]),.box 63 ([.fz .u8 ((n.cf (ax n.c.st n.c.me).1).hQ.d.b),.int ((n.cf (ax n.c.st n.c.me).1).hQ.d.b7),.bool (.atom ((n.cf (ax n.c.st n.c.me).1).hQ.d.down)),.bool (.atom ((n.cf (ax n.c.st n.c.me).1).hQ.d.c9)),.int ((n.cf (ax n.c.st n.c.me).1).hQ.d.dc)]),.row 4 .bool ((n.cf (ax n.c.st n.c.me).1).vs),.row 3 .int ((n.cf (ax n.c.st n.c.me).1).bn),.row 3 .int ((n.cf (ax n.c.st n.c.me).1).nx),.row 3 .int ((n.cf (ax n.c.st n.c.me).1).mt),.row 4 .bool ((n.cf (ax n.c.st n.c.me).1).hQ.vs),.row 3 .int ((n.cf (ax n.c.st n.c.me).1).hQ.bn),.row 34 (.nm .letter) (qn (n.cf (ax n.c.st n.c.me).1).hQ.c k)]),J:=λk=>k<=(n.cf (ax n.c.st n.c.me).1).c.ea.toNat,μ:=λk=>(n.cf (ax n.c.st n.c.me).1).c.ea.toNat-k})]
def Wu(x:ep)(n:Nd):List (Nat×LI):=[(7,{σ:=Nat,F:=λk=>([(0,one (.ptr 0 0)),(5,one (.fz (.nm .record) (aq n.c.st x).1)),(8,one (.int (aq n.c.st x).2.2.2)),(9,one (.int k))],(qX n)),J:=λk=>k<=(aq n.c.st x).1.length/\((aq n.c.st x).1.take k).any (fL n)=false,μ:=λk=>(aq n.c.st x).1.length-k})]
set_option maxRecDepth 8000 in
theorem FQ:CK 140 (aD dA wU λ_ n=>⟨[(0<=n.c.b5/\n.c.b8<=(n.c.st.log.length:Int))/\(n.rp.length:Int)<=n.c.b5/\n.c.st.log.length<=10000],[],some (qX n.apply),false⟩):=ag λ_ n v=>by
 have t:=bw v;refine bh nA (JM n) func140 (?_:(λw q x y i=>(λo=>∃f,(n.c.me=f.c.me/\n.c.ea=f.c.ea/\ai n.c.st f.c.st (n.c.bin=f.c.bin/\n.c.ee=f.c.ee/\n.c.b8=f.c.b8/\n.c.b5=f.c.b5/\aw n.c.s f.c.s (n.rp=f.rp/\n.d.b=f.d.b/\n.d.b7=f.d.b7/\n.d.down=f.d.down/\n.d.c9=f.d.c9/\n.d.dc=f.d.dc/\n.vs=f.vs/\n.bn=f.bn/\n.nx=f.nx/\n.mt=f.mt)))/\AJ n f/\∀(s:Nd),(λa=>(λj l p m=>(λg u=>(λr=>(λk h=>AJ n s->(m<j->W g/\(q<=m/\m<=g/\g<=(a.st.log.length:Int))/\(W k.bo->W k.next->W k.dc->W k.eR->W (pE p r)->(¬pE p r=q->u)/\(pE p r=q->s.rp.length*16<=140737488355328/\(q<=q/\q<(↑(B3 p l r).length:Int))/\(W h.code->W h.n->(s.rp.length+[h].length)*16<=140737488355328)/\(W h.code->W h.n->W g/\∃e,(a.me=e.c.me/\a.ea=e.c.ea/\ai a.st e.c.st (p=e.c.bin/\a.ee=e.c.ee/\j=e.c.b8/\g=e.c.b5/\aw k e.c.s (s.rp++[h]=e.rp/\s.d.b=e.d.b/\s.d.b7=e.d.b7/\s.d.down=e.d.down/\s.d.c9=e.d.c9/\s.d.dc=e.d.dc/\s.vs=e.vs/\s.bn=e.bn/\s.nx=e.nx/\s.mt=e.mt)))/\AJ n e/\(e.c.b8-e.c.b5).toNat<(j-m).toNat))))/\(j<=m->u)) (x8 p l r) ((B3 p l r).getD w x)) (take (g.toNat-m.toNat) (List.drop m.toNat a.st.log))) (m+y) (a.me=o.me/\a.ea=o.ea/\ai a.st o.st (p=o.bin/\a.ee=o.ee/\j=o.b8/\m=o.b5/\aw l o.s (s.rp=i.rp/\s.d.b=i.d.b/\s.d.b7=i.d.b7/\s.d.down=i.d.down/\s.d.c9=i.d.c9/\s.d.dc=i.d.dc/\s.vs=i.vs/\s.bn=i.bn/\s.nx=i.nx/\s.mt=i.mt)))) a.b8 a.s a.bin a.b5) s.c) i.c) (0:Nat) (0:Int) (c4 (Sh.nm NT.l8)) (1:Int) n.apply);obtain⟨z,A⟩:=id t;(repeat' with_reducible first|apply aH|refine aI ?_|intro)
 all_goals try(refine⟨n,?_⟩;(repeat' with_reducible first|apply aH|refine aI ?_|intro))
 all_goals try(refine⟨(‹Nd›).V4,?_⟩;(repeat' with_reducible first|apply aH|refine aI ?_|intro))
 all_goals(first|exact aZ|(with_reducible exact(aiJ Y Y Y).1)|(with_reducible exact(aiJ Y Y Y).2)|(with_reducible exact aos Y Y)|(with_reducible exact anb Y Y)|exact rfl|exact(ahG (n:=n) t)|exact aiI Y|exact(akm Y Y)|exact(agJ Y Y)|exact(ajW Y)|exact(aiY Y Y Y)|(rw[agC Y Y Y]<;>rfl)|(rw[als Y Y]<;>rfl))
theorem Ec:CK 48 (aD dA wU λ_ n=>⟨[y2 n],[.c (.fz (.nm .letter) ((dE n).l)),.c (.int ((dE n).e))],some (qX ((dE n).n)),false⟩):=ag λ_ n hp=>by
 have h0:=bw hp;refine bh nA (Jp n) func48 (?_:(λ(q9:l7 Sh.int)(K:w8)=>(λ(D:Int)(F:b9)(P:B7)(q6:Int)(L:Int)(G:Int)=>(λ(q3:List dm×Int)=>(λ(c:Prop)(e:Int)(d:Nd)=>(λ(j:j9)(a:w8)=>(λ(q1:Prop)(p:Nd)=>(λ(Q:Prop)(S:Prop)(T:Prop)(U:Prop)(q20:Prop)(m:w8)=>(λ(H:Int)(u:Int)=>(λ(g:Nat)(b:List eA)=>(λ(R:Int)=>(λ(V:Prop)(t:Int)(h:Nd)=>(λ(Z:Prop)(q34:Prop)(q33:Prop)(I:j9)=>(λ(q40:Prop)(v:Bool)(w:Int)(x:Bool)(y:Int)(f:w8)=>(λ(z:c5)(q:b9)(A:Int)(r:Int)(i:Int)(B:Int)(o:Int)(C:Int)=>(λ(q30:Prop)=>(K.bin=G->P.l=[]/\(30:Int)=P.e/\q1)/\(¬K.bin=G->(K.ee=(2:Int)->P.l=[]/\G=P.e/\q1)/\(¬K.ee=(2:Int)->F.a8<=(1048576:Int)/\(q3.1.length*(48:Nat)<=(140737488355328:Nat)->W q3.2->(c->(G<=n.d.b7/\n.d.b7<=(n.d.b.length:Int)/\n.d.b.length<=(65536:Nat))/\F.log.length<=(10000:Nat)/\q3.1.length<=(1000:Nat)/\(W e->(¬e=G->P.l=[]/\e=P.e/\H=a.me/\u=a.ea/\ai m.st a.st (m.bin=a.bin/\m.ee=a.ee/\m.b8=a.b8/\m.b5=a.b5/\aw m.s a.s (p.rp=d.rp/\p.d.b=j.b/\p.d.b7=j.b7/\p.d.down=j.down/\p.d.c9=j.c9/\p.d.dc=j.dc/\p.vs=d.vs/\p.bn=d.bn/\q20)))/\(e=G->G<=u/\u*(↑(1:Nat):Int)<=(140737488355328:Int)/\u=u/\(G<=H/\H<(↑(replicate g (c4 Sh.bool)).length:Int))/\G<=u/\u*(↑(8:Nat):Int)<=(140737488355328:Int)/\u=u/\(G<=H/\H<(↑(replicate g q9).length:Int))/\(W ((replicate g q9).getD H.toNat q9)->W (b.length:Int)->W R->∃(s0:Nat),((b.length:Int)=t/\V/\G=(s0:Int)/\H=i/\u=o/\ai m.st q (m.bin=r/\q6=A/\m.b8=B/\m.b5=C/\aw m.s z (p.rp=h.rp/\p.d.b=I.b/\p.d.b7=y/\p.d.down=v/\p.d.c9=x/\p.d.dc=w/\U/\T/\Q/\S/\(replicate g (c4 Sh.bool)).set H.toNat true=h.vs/\(replicate g q9).set H.toNat m.bin=h.bn/\qn f s0=[])))/\s0<=g/\∀(s:Nat),(λ(q50:Int)(q49:ep)=>s<=g->((s:Int)<o->(¬(s:Int)=i->((qn f s).length+[q49].length)*(96:Nat)<=(140737488355328:Nat)/\W q50/\∃(J:Nat),(t=t/\V/\q50=(J:Int)/\i=i/\o=o/\ai q q (r=r/\A=A/\B=B/\C=C/\aw z z (Z/\q40/\y=y/\v=v/\x=x/\w=w/\U/\T/\Q/\S/\q33/\q34/\qn f s++[q49]=qn f J)))/\J<=g/\g-J<g-s)/\((s:Int)=i->W q50/\∃(J:Nat),(t=t/\V/\q50=(J:Int)/\i=i/\o=o/\ai q q (r=r/\A=A/\B=B/\C=C/\aw z z (Z/\q40/\y=y/\v=v/\x=x/\w=w/\U/\T/\Q/\S/\q33/\q34/\qn f s=qn f J)))/\J<=g/\g-J<g-s))/\(o<=(s:Int)->qn f s=P.l/\q30)) ((s:Int)+q6) (ep.mk q6 i (s:Int) q.a8 t R G r false [])))))/\(¬c->(¬c->P.l=[]/\q3.2=P.e/\q1)/\(c->G<=L/\L*(↑(1:Nat):Int)<=(140737488355328:Int)/\L=L/\(G<=D/\D<(↑(replicate L.toNat (c4 Sh.bool)).length:Int))/\G<=L/\L*(↑(8:Nat):Int)<=(140737488355328:Int)/\L=L/\(G<=D/\D<(↑(replicate L.toNat q9).length:Int))/\(W ((replicate L.toNat q9).getD D.toNat q9)->W (F.log.length:Int)->W (eL F.log)->∃(s0:Nat),((F.log.length:Int)=t/\eL F.log=R/\G=(s0:Int)/\D=i/\L=o/\ai F q (K.bin=r/\q6=A/\K.b8=B/\K.b5=C/\aw K.s z (n.rp=h.rp/\n.d.b=I.b/\n.d.b7=y/\n.d.down=v/\n.d.c9=x/\n.d.dc=w/\n.vs=p.vs/\n.bn=p.bn/\n.nx=p.nx/\n.mt=p.mt/\(replicate L.toNat (c4 Sh.bool)).set D.toNat true=h.vs/\(replicate L.toNat q9).set D.toNat K.bin=h.bn/\qn f s0=[])))/\s0<=g/\∀(s:Nat),(λ(q52:Int)(q51:ep)=>s<=g->((s:Int)<o->(¬(s:Int)=i->((qn f s).length+[q51].length)*(96:Nat)<=(140737488355328:Nat)/\W q52/\∃(J:Nat),(t=t/\V/\q52=(J:Int)/\i=i/\o=o/\ai q q (r=r/\A=A/\B=B/\C=C/\aw z z (Z/\q40/\y=y/\v=v/\x=x/\w=w/\U/\T/\Q/\S/\q33/\q34/\qn f s++[q51]=qn f J)))/\J<=g/\g-J<g-s)/\((s:Int)=i->W q52/\∃(J:Nat),(t=t/\V/\q52=(J:Int)/\i=i/\o=o/\ai q q (r=r/\A=A/\B=B/\C=C/\aw z z (Z/\q40/\y=y/\v=v/\x=x/\w=w/\U/\T/\Q/\S/\q33/\q34/\qn f s=qn f J)))/\J<=g/\g-J<g-s))/\(o<=(s:Int)->qn f s=P.l/\q30)) ((s:Int)+q6) (ep.mk q6 i (s:Int) q.a8 t R G r false [])))))))) (G=P.e/\i=a.me/\o=a.ea/\ai q a.st (r=a.bin/\A=a.ee/\B=a.b8/\C=a.b5/\aw z a.s (h.rp=d.rp/\I.b=j.b/\y=j.b7/\v=j.down/\x=j.c9/\w=j.dc/\h.vs=d.vs/\h.bn=d.bn/\q20)))) f.s f.st f.ee f.bin f.me f.b8 f.ea f.b5) (I.b=I.b) I.down I.dc I.c9 I.b7 h.c) (h.rp=h.rp) (h.bn=h.bn) (h.vs=h.vs) h.d) (R=R) (b.length:Int) p.hQ) (eL b)) u.toNat m.st.log) m.me m.ea) (p.nx=p.nx) (p.mt=p.mt) (p.bn=p.bn) (p.vs=p.vs) (p.nx=d.nx/\p.mt=d.mt) p.c) (D=a.me/\L=a.ea/\ai F a.st (K.bin=a.bin/\K.ee=a.ee/\K.b8=a.b8/\K.b5=a.b5/\aw K.s a.s (n.rp=d.rp/\n.d.b=j.b/\n.d.b7=j.b7/\n.d.down=j.down/\n.d.c9=j.c9/\n.d.dc=j.dc/\n.vs=d.vs/\n.bn=d.bn/\n.nx=d.nx/\n.mt=d.mt))) (n.cf q3.1)) d.d d.c) (q3.2=G) (ik n.d F q3.1).2.2 P.n) (ax F D)) K.me K.st (dE n) (1:Int) K.ea (0:Int)) (c4 Sh.int) n.c)
 obtain⟨⟨o1,o2,o3⟩,o4,o5,o6,o7,o8⟩:=xa h0;have oA:=h0.ok.a8;dsimp only at oA;obtain⟨oB,oC⟩:=aau (n:=n) (l:=(ax n.c.st n.c.me).1);repeat' first|(with_reducible first|apply aH|refine aI ?_|intro)|exact aZ|exact rfl|exact xI|exact(ajJ Y).1|exact(ajJ Y).2|exact(aoo Y)|exact(apQ Y)|(have:=aen (n:=(n.cf (ax n.c.st n.c.me).1).hQ) (k:=‹Nat›);simp only[x7,B2];omega)|(rw[J6];omega)|exact(apW Y Y Y Y Y Y)|(rw[aho Y]<;>rfl)|(rw[agQ Y Y]<;>rfl)|(rw[ai7 Y Y Y]<;>rfl)|(rw[akI Y Y Y Y]<;>rfl)|(rw[adU Y Y Y Y]<;>rfl)|refine⟨‹Nat›+1,?_⟩|refine⟨0,?_⟩
theorem Qc:CK 88 (aD nr wU λ(_,x,_) n=>{rs:=[.c (.bool (.atom (!cm n.c x)))]}):=ag λ(_,x,_) n _=>by
 refine al nA (Wu x n) func88 (?_:(λ(k:Int)(e:w8)=>(λ(i:Bool)=>(λ(t:l7 (Sh.nm NT.record))=>(λ(j:Int)(g:List dm)=>(λ(o:Int)(l:Nat)(q:Prop)=>aP x ((¬nd x=k->W (nd x)->true=i)/\(nd x=k->(¬x.to=e.me->W (nd x)->true=i)/\(x.to=e.me->W (nd x)->(e.ea<=x.l5->true=i)/\(x.l5<e.ea->(¬x.kind=3->false=i)/\(x.kind=3->g.length*48<=140737488355328->W (aq e.st x).2.2.1->W j->∃(p:Nat),(g=g/\j=j/\k=(p:Int)/\q)/\(p<=l/\(take p g).any (fL n)=false)/\∀(s:Nat),(λ(h:Prop)=>(λ(f:l7 (Sh.nm NT.record))=>(λ(r:Prop)=>s<=l/\(take s g).any (fL n)=false->((s:Int)<o->(f.kind=4->h/\cD f h/\cD f (cD f ((f.a<=e.b8->true=i)/\(e.b8<f.a->r))))/\(¬f.kind=4->h/\cD f r))/\(o<=(s:Int)->(!decide (j=k))=i)) (W ((s:Int)+1)/\∃(m:Nat),(g=g/\j=j/\(s:Int)+1=(m:Int)/\q)/\(m<=l/\(take m g).any (fL n)=false)/\l-m<l-s)) (g.getD s t)) (k<=(s:Int)/\(s:Int)<o))))))) (g.length:Int) g.length (e.me=e.me/\e.ea=e.ea/\ai e.st e.st (e.bin=e.bin/\e.ee=e.ee/\e.b8=e.b8/\e.b5=e.b5/\aw e.s e.s (n.rp=n.rp/\n.d.b=n.d.b/\n.d.b7=n.d.b7/\n.d.down=n.d.down/\n.d.c9=n.d.c9/\n.d.dc=n.d.dc/\n.vs=n.vs/\n.bn=n.bn/\n.nx=n.nx/\n.mt=n.mt)))) (aq e.st x).2.2.2 (aq e.st x).1) (c4 (Sh.nm NT.record))) !cm e x) 0 n.c);repeat' first|(with_reducible first|apply aH|refine aI ?_|intro)|exact aZ|exact rfl|exact(arc Y Y Y Y Y Y)|exact(aq7 Y Y Y Y Y Y Y)|exact(aic Y Y (.inl Y))|exact(aic Y Y (.inr Y))|(rw[aaz N]<;>rfl)|(rw[aaZ Y Y Y Y]<;>rfl)|refine⟨‹Nat›+1,?_⟩|refine⟨0,?_⟩
def aeJ:CK 90 (aD nr wU λ(_,x,_) n=>⟨[y2 n],[.c (.fz (.nm .letter) ((mi n x).l)),.c (.int ((mi n x).e))],some (qX ((mi n x).n)),false⟩):=ag λ(_,x,_) n m=>by
 have o:=bw m;refine bh nA [] func90 (?_:(λh g i=>(λj f a=>(λk=>aP x (i.length*48<=140737488355328->W (aA n.c.st x).2.2->(g<=n.d.b7/\n.d.b7<=(n.d.b.length:Int)/\n.d.b.length<=65536)/\n.c.st.log.length<=10000/\i.length<=1000/\(W j->(¬j=g->h.l=[]/\j=h.e/\k)/\(j=g->[ep.mk 2 a.c.me x.l5 a.c.st.a8 g g g a.c.bin (aA n.c.st x).2.1 []]=h.l/\g=h.e/\k)))) (a.c.me=f.c.me/\a.c.ea=f.c.ea/\ai a.c.st f.c.st (a.c.bin=f.c.bin/\a.c.ee=f.c.ee/\a.c.b8=f.c.b8/\a.c.b5=f.c.b5/\aw a.c.s f.c.s (a.rp=f.rp/\a.d.b=f.d.b/\a.d.b7=f.d.b7/\a.d.down=f.d.down/\a.d.c9=f.d.c9/\a.d.dc=f.d.dc/\a.vs=f.vs/\a.bn=f.bn/\a.nx=f.nx/\a.mt=f.mt)))) (ik n.d n.c.st i).2.2 h.n (n.cf i)) (mi n x) (0:Int) (aA n.c.st x).1);obtain⟨⟨p,q,r⟩,t,u,v,o7,w⟩:=xa o;repeat' first|(with_reducible first|apply aH|refine aI ?_|intro)|exact aZ|exact IL|(rw[akJ Y]<;>rfl)|(rw[ahk Y]<;>rfl)
def qN:=(ae aeJ (ae Qc (ae Ec (ae FQ nA))))
def dQ(n:Nd)(x:ep):B7:=if¬n.aB (aq n.c.st x).1=0 then⟨n.cf (aq n.c.st x).1,[],n.aB (aq n.c.st x).1⟩else
 let m:=n.cf (aq n.c.st x).1
 let f:=if x.a8=m.c.st.a8 then m.fT else m
 if(aq n.c.st x).2.1=true then⟨({f with c:={f.c with b8:=max f.c.b8 (min x.c (aq n.c.st x).2.2.1)}}:Nd).apply,[{lU f.c 4 x.l5 with ok:=(aq n.c.st x).2.1,a:=(aq n.c.st x).2.2.1}],0⟩
 else⟨f,[{lU f.c 4 x.l5 with ok:=(aq n.c.st x).2.1,a:=if x.a8=f.c.st.a8 then min 64 (f.c.st.log.length:Int)else 0}],0⟩
def gZ(n:Nd)(k:Nat):Nd:={n with c:={n.c with ee:=2},nx:=replicate k ((n.c.st.log.length:Int)+1)++(replicate n.c.ea.toNat (0:Int)).drop k,mt:=replicate n.c.ea.toNat 0}
def fZ(n:Nd):B7:=let m:=gZ n n.c.ea.toNat
 if(n.c.st.log.length:Int)<64 then(let l:=[⟨3,(n.c.st.log.length:Int)+1,n.c.st.a8,[]⟩];if m.aB l=0 then⟨m.cf l,(j_ (m.cf l)).1,(j_ (m.cf l)).2⟩else⟨m.cf l,[],m.aB l⟩)else⟨m,(j_ m).1,(j_ m).2⟩
def dS(n:Nd)(x:ep):B7:=let m:=(n.sG x).apply
 ⟨m,if(m.c.st.log.length:Int)<m.nx.getD x.l5.toNat 0 then[]else tI m x.l5,0⟩
section
variable{n:Nd}{k:Nat}{x:ep}
def Ha(b:y2 n)(d:cm n.c x=true)(e:x.kind=3)(a:n.aB (aq n.c.st x).1=0)(f:(aq n.c.st x).2.1=true):(0<=(n.cf (aq n.c.st x).1).c.b5/\max (n.cf (aq n.c.st x).1).c.b8 (min x.c (aq n.c.st x).2.2.1)<=((n.cf (aq n.c.st x).1).c.st.log.length:Int))/\((n.cf (aq n.c.st x).1).rp.length:Int)<=(n.cf (aq n.c.st x).1).c.b5/\(n.cf (aq n.c.st x).1).c.st.log.length<=10000:=by
 rw[acE a];exact CT (n:=n.low) b.ok d e a f
def ah3{p:Prop}{m:Nd}{t:Int}(a:¬t=m.fT.c.st.a8)(h:t=m.c.st.a8):p:=absurd h a
def ahY(h:¬n.aB (aq n.c.st x).1=0):dQ n x=⟨n.cf (aq n.c.st x).1,[],n.aB (aq n.c.st x).1⟩:=O h
section
variable(h:n.aB (aq n.c.st x).1=0)
include h
def Xi:dQ n x=(let m:=n.cf (aq n.c.st x).1
 let f:=if x.a8=m.c.st.a8 then m.fT else m
 if(aq n.c.st x).2.1=true then⟨({f with c:={f.c with b8:=max f.c.b8 (min x.c (aq n.c.st x).2.2.1)}}:Nd).apply,[{lU f.c 4 x.l5 with ok:=(aq n.c.st x).2.1,a:=(aq n.c.st x).2.2.1}],0⟩
 else⟨f,[{lU f.c 4 x.l5 with ok:=(aq n.c.st x).2.1,a:=if x.a8=f.c.st.a8 then min 64 (f.c.st.log.length:Int)else 0}],0⟩):=X (A0.2 h)
def amo(b:x.a8=(n.cf (aq n.c.st x).1).c.st.a8)(d:(aq n.c.st x).2.1=true):dQ n x=⟨({(n.cf (aq n.c.st x).1).fT with c:={(n.cf (aq n.c.st x).1).fT.c with b8:=max (n.cf (aq n.c.st x).1).fT.c.b8 (min x.c (aq n.c.st x).2.2.1)}}:Nd).apply,[{lU (n.cf (aq n.c.st x).1).fT.c 4 x.l5 with ok:=(aq n.c.st x).2.1,a:=(aq n.c.st x).2.2.1}],0⟩:=by
 rw[Xi h];dsimp only;rw[O b,O d]
def ais(b:¬x.a8=(n.cf (aq n.c.st x).1).c.st.a8)(d:(aq n.c.st x).2.1=true):dQ n x=⟨({(n.cf (aq n.c.st x).1)with c:={(n.cf (aq n.c.st x).1).c with b8:=max (n.cf (aq n.c.st x).1).c.b8 (min x.c (aq n.c.st x).2.2.1)}}:Nd).apply,[{lU (n.cf (aq n.c.st x).1).c 4 x.l5 with ok:=(aq n.c.st x).2.1,a:=(aq n.c.st x).2.2.1}],0⟩:=by
 rw[Xi h];dsimp only;rw[X b,O d]
def ajA(b:x.a8=(n.cf (aq n.c.st x).1).c.st.a8)(d:(aq n.c.st x).2.1=false):dQ n x=⟨(n.cf (aq n.c.st x).1).fT,[{lU (n.cf (aq n.c.st x).1).fT.c 4 x.l5 with ok:=(aq n.c.st x).2.1,a:=min 64 ((n.cf (aq n.c.st x).1).fT.c.st.log.length:Int)}],0⟩:=by
 rw[Xi h];dsimp only;rw[O b,X (jP d)];exact o9 (λa=>B7.mk _ [{lU (n.cf (aq n.c.st x).1).fT.c 4 x.l5 with ok:=(aq n.c.st x).2.1,a:=a}] 0) (O b)
def akp(a:¬x.a8=(n.cf (aq n.c.st x).1).c.st.a8)(b:(aq n.c.st x).2.1=false):dQ n x=⟨n.cf (aq n.c.st x).1,[{lU (n.cf (aq n.c.st x).1).c 4 x.l5 with ok:=(aq n.c.st x).2.1}],0⟩:=by
 rw[Xi h];dsimp only;rw[X a,X (jP b),X a];rfl
end
section
variable{G:Nd}
def aj0(a:n.sG x=G)(h:(G.apply.c.st.log.length:Int)<G.apply.nx.getD x.l5.toNat (c4 Sh.int)):dS n x=⟨G.apply,[],0⟩:=by
 rw[dS,a];exact o9 (λl=>B7.mk _ l 0) (O h)
def ahS(a:n.sG x=G)(h:G.apply.nx.getD x.l5.toNat (c4 Sh.int)<=(G.apply.c.st.log.length:Int)):dS n x=⟨G.apply,tI G.apply x.l5,0⟩:=by
 rw[dS,a];exact o9 (λl=>B7.mk _ l 0) (X (G6.2 h))
end
def arW(h:(k:Int)<(gZ n k).c.ea):(gZ n k).nx.set k (((gZ n k).c.st.log.length:Int)+1)=(gZ n (k+1)).nx:=tu (by rw[J6];have:(k:Int)<n.c.ea:=h;omega)
def anL(h:k<=n.c.ea.toNat)(a:(k:Int)<(gZ n k).c.ea):(k:Int)<((gZ n k).nx.length:Int):=by
 have:(k:Int)<n.c.ea:=a;simp only[gZ,s8,J6,length_drop];omega
def am3(h:n.c.st.log.length<=64):W (((gZ n k).c.st.log.length:Int)+1):=aY (by dsimp only[gZ];omega) (by dsimp only[gZ];omega)
abbrev AI(n:Nd)(k:Nat):List dm:=[⟨3,((gZ n k).c.st.log.length:Int)+1,(gZ n k).c.st.a8,[]⟩]
section
variable(h:k<=n.c.ea.toNat)(h2:(gZ n k).c.ea<=k)
include h h2
def aeU:fZ n=if((gZ n k).c.st.log.length:Int)<64 then(if(gZ n k).aB (AI n k)=0 then⟨(gZ n k).cf (AI n k),(j_ ((gZ n k).cf (AI n k))).1,(j_ ((gZ n k).cf (AI n k))).2⟩else⟨(gZ n k).cf (AI n k),[],(gZ n k).aB (AI n k)⟩)else⟨gZ n k,(j_ (gZ n k)).1,(j_ (gZ n k)).2⟩:=by
 have a:n.c.ea<=k:=h2;rw[fZ,show n.c.ea.toNat=k by omega];rfl
def aqa(a:((gZ n k).c.st.log.length:Int)<64)(b:(gZ n k).aB (AI n k)=0):fZ n=⟨(gZ n k).cf (AI n k),(j_ ((gZ n k).cf (AI n k))).1,(j_ ((gZ n k).cf (AI n k))).2⟩:=by rw[aeU h h2,O a,O b]
def apw(a:((gZ n k).c.st.log.length:Int)<64)(b:¬(gZ n k).aB (AI n k)=0):fZ n=⟨(gZ n k).cf (AI n k),[],(gZ n k).aB (AI n k)⟩:=by rw[aeU h h2,O a,X b]
def ank(a:64<=((gZ n k).c.st.log.length:Int)):fZ n=⟨gZ n k,(j_ (gZ n k)).1,(j_ (gZ n k)).2⟩:=by rw[aeU h h2,X (G6.2 a)]
def aeP(a:3<=n.c.ea):((gZ n k).nx.length:Int)=n.c.ea:=by
 have b:n.c.ea<=k:=h2;simp only[gZ,s8,J6,length_drop];omega
def agB(a:3<=n.c.ea/\n.c.ea<=5)(b:(gZ n k).aB (AI n k)=0):((gZ n k).cf (AI n k)).c.ea<=5/\(((gZ n k).cf (AI n k)).nx.length:Int)=((gZ n k).cf (AI n k)).c.ea:=by
 rw[acE b];exact⟨a.2,aeP h h2 a.1⟩
end
def ahe(h:(k:Int)<(gZ n k).c.ea):k+1<=n.c.ea.toNat/\n.c.ea.toNat-(k+1)<n.c.ea.toNat-k:=by
 have:(k:Int)<n.c.ea:=h;omega
end
def WQ(n:Nd):List (Nat×LI):=[(5,{σ:=Nat,F:=λk=>([(0,one (.ptr 0 0)),(4,one (.int k))],[.box 70 (Wa 0 ((gZ n k).c)++[.fz (.nm .l8) ((gZ n k).rp),.own 2,.own 3,.own 6,.own 7]),.box 63 ([.fz .u8 ((gZ n k).d.b),.int ((gZ n k).d.b7),.bool (.atom ((gZ n k).d.down)),.bool (.atom ((gZ n k).d.c9)),.int ((gZ n k).d.dc)]),.row 4 .bool n.vs,.row 3 .int n.bn,.row 3 .int n.nx,.row 3 .int n.mt,.row 3 .int ((gZ n k).nx),.row 3 .int ((gZ n k).mt)]),J:=λk=>k<=n.c.ea.toNat,μ:=λk=>n.c.ea.toNat-k})]
def KV:CK 91 (aD nr wU λ(_,x,_) n=>⟨[y2 n,cm n.c x=true,x.kind=3],[.c (.fz (.nm .letter) ((dQ n x).l)),.c (.int ((dQ n x).e))],some (qX ((dQ n x).n)),false⟩):=ag λ(_,x,_) n U=>by
 have L:=bw U;have P:=bw (de U);have Q:=bw (de (de U));refine bh qN [] func91 (?_:(λK t m=>(λd I=>(λv u S=>(λT k=>(λq=>(λw y z A j=>(λB C D F G o=>(λf=>(λp=>(λH g=>(λa=>(λr l J h i=>aP x (I.1.length*48<=140737488355328->W v->W I.2.2.2->(m<=n.d.b7/\n.d.b7<=(n.d.b.length:Int)/\n.d.b.length<=65536)/\n.c.st.log.length<=10000/\I.1.length<=1000/\(W S->(¬S=m->t.l=[]/\S=t.e/\J)/\(S=m->(H->(u=true->((m<=a.b5/\max a.b8 T<=(a.st.log.length:Int))/\(g.rp.length:Int)<=a.b5/\a.st.log.length<=10000)/\[ep.mk K a.me x.l5 r v m m a.bin u []]=t.l/\d/\i.c.me=j.me/\i.c.ea=D/\ai i.c.st j.st (i.c.bin=B/\i.c.ee=C/\i.c.b8=F/\i.c.b5=G/\aw i.c.s j.s (i.rp=k.rp/\i.d.b=q.b/\i.d.b7=A/\i.d.down=w/\i.d.c9=z/\i.d.dc=y/\i.vs=k.vs/\i.bn=k.bn/\i.nx=k.nx/\i.mt=k.mt)))/\(u=false->(x.a8=r->[ep.mk K a.me x.l5 r (min 64 (a.st.log.length:Int)) m m a.bin u []]=t.l/\l)/\(¬x.a8=r->[ep.mk K a.me x.l5 r m m m a.bin u []]=t.l/\l)))/\(¬H->(u=true->((m<=f.b5/\max f.b8 T<=(p.log.length:Int))/\(o.rp.length:Int)<=f.b5/\p.log.length<=10000)/\[ep.mk K f.me x.l5 p.a8 v m m f.bin u []]=t.l/\d/\h.c.me=j.me/\h.c.ea=D/\ai h.c.st j.st (h.c.bin=B/\h.c.ee=C/\h.c.b8=F/\h.c.b5=G/\aw h.c.s j.s (h.rp=k.rp/\h.d.b=q.b/\h.d.b7=A/\h.d.down=w/\h.d.c9=z/\h.d.dc=y/\h.vs=k.vs/\h.bn=k.bn/\h.nx=k.nx/\h.mt=k.mt)))/\(u=false->(H->[ep.mk K f.me x.l5 p.a8 (min 64 (p.log.length:Int)) m m f.bin u []]=t.l/\d/\J)/\(¬H->[ep.mk K f.me x.l5 p.a8 m m m f.bin u []]=t.l/\d/\J))))))) a.st.a8 (d/\a.me=j.me/\a.ea=D/\ai a.st j.st (a.bin=B/\a.ee=C/\a.b8=F/\a.b5=G/\aw a.s j.s (g.rp=k.rp/\g.d.b=q.b/\g.d.b7=A/\g.d.down=w/\g.d.c9=z/\g.d.dc=y/\g.vs=k.vs/\g.bn=k.bn/\g.nx=k.nx/\g.mt=k.mt))) (f.me=j.me/\f.ea=D/\ai p j.st (f.bin=B/\f.ee=C/\f.b8=F/\f.b5=G/\aw f.s j.s (o.rp=k.rp/\o.d.b=q.b/\o.d.b7=A/\o.d.down=w/\o.d.c9=z/\o.d.dc=y/\o.vs=k.vs/\o.bn=k.bn/\o.nx=k.nx/\o.mt=k.mt))) (Nd.mk (w8.mk f.me f.ea f.bin p f.ee (max f.b8 T) f.b5 f.s) o.d o.rp o.vs o.bn o.nx o.mt).apply (Nd.mk (w8.mk a.me a.ea a.bin a.st a.ee (max a.b8 T) a.b5 a.s) g.d g.rp g.vs g.bn g.nx g.mt).apply) g.c) (x.a8=p.a8) o.fT) f.st) o.c) j.bin j.ee j.ea j.b8 j.b5 (n.cf I.1)) q.down q.dc q.c9 q.b7 k.c) k.d) (min x.c v) t.n) I.2.2.1 I.2.1 (ik n.d n.c.st I.1).2.2) (m=t.e) (aq n.c.st x)) (4:Int) (dQ n x) (0:Int))
 obtain⟨⟨V,c,e⟩,b,Z,o6,o7,o8⟩:=xa L;repeat' first|(with_reducible first|apply aH|refine aI ?_|intro)|exact aZ|exact xZ|(with_reducible exact ah3 Y Y)|exact(Ha L P Q Y Y).1.1|exact(Ha L P Q Y Y).1.2|exact(Ha L P Q Y Y).2.1|exact(Ha L P Q Y Y).2.2|(rw[ahY Y]<;>rfl)|(rw[amo Y Y Y]<;>rfl)|(rw[ais Y Y Y]<;>rfl)|(rw[ajA Y Y Y]<;>rfl)|(rw[akp Y Y Y]<;>rfl)
set_option maxRecDepth 8000 in
theorem Qf:CK 94 (aD dA wU λ_ n=>⟨[y2 n],[.c (.fz (.nm .letter) ((fZ n).l)),.c (.int ((fZ n).e))],some (qX ((fZ n).n)),false⟩):=ag λ_ n K=>by
 have L:=bw K;refine bh qN (WQ n) func94 (?_:(λ(b:List (l7 Sh.u8))=>(λ(w:B7)(x:Int)(u:Int)=>(λ(D:Prop)(y:Nat)(A:List Bool)(B:List Int)(c:Int)(C:Int)(r:Nd)=>(λ(o:j9)(f:w8)=>x<=u/\D/\u=u/\x<=u/\D/\u=u/\∃(I:Nat),(λ(g:Nd)=>(x=(I:Int)/\n.c.me=g.c.me/\u=g.c.ea/\ai n.c.st g.c.st (n.c.bin=g.c.bin/\(2:Int)=g.c.ee/\n.c.b8=g.c.b8/\n.c.b5=g.c.b5/\aw n.c.s g.c.s (n.rp=g.rp/\n.d.b=g.d.b/\n.d.b7=g.d.b7/\n.d.down=g.d.down/\n.d.c9=g.d.c9/\n.d.dc=g.d.dc/\A=A/\B=B/\n.nx=n.nx/\n.mt=n.mt/\replicate y (c4 Sh.int)=g.nx/\replicate y (c4 Sh.int)=g.mt)))/\I<=y/\∀(s:Nat),(λ(k:Nd)=>(λ(h:j9)(a:w8)=>(λ(p:b9)=>(λ(q:Int)(t:Nd)=>(λ(z:List (l7 (Sh.nm NT.record)))=>(λ(v:Int)(i:Nd)=>(λ(m:w8)=>(λ(F:Prop)=>s<=y->((s:Int)<a.ea->W (q+C)/\(x<=(s:Int)/\(s:Int)<(k.nx.length:Int))/\(W (k.nx.getD s (c4 Sh.int))->W ((s:Int)+C)/\∃(H:Nat),(λ(j:Nd)=>((s:Int)+C=(H:Int)/\a.me=j.c.me/\a.ea=j.c.ea/\ai p j.c.st (a.bin=j.c.bin/\a.ee=j.c.ee/\a.b8=j.c.b8/\a.b5=j.c.b5/\aw a.s j.c.s (k.rp=j.rp/\h.b=j.d.b/\h.b7=j.d.b7/\h.down=j.d.down/\h.c9=j.d.c9/\h.dc=j.d.dc/\A=A/\B=B/\n.nx=n.nx/\n.mt=n.mt/\k.nx.set s (q+C)=j.nx/\k.mt=j.mt)))/\H<=y/\y-H<y-s) (gZ n H)))/\(a.ea<=(s:Int)->(q<(64:Int)->W (q+C)/\((x<=h.b7/\h.b7<=(h.b.length:Int)/\h.b.length<=(65536:Nat))/\p.log.length<=(10000:Nat)/\z.length<=(1000:Nat))/\(W v->(¬v=x->w.l=[]/\v=w.e/\F)/\(v=x->m.ea<=(5:Int)/\(m.ee=(2:Int)->(i.nx.length:Int)=m.ea)/\((j_ i).1.length*(96:Nat)<=(140737488355328:Nat)->W (j_ i).2->(j_ i).1=w.l/\(j_ i).2=w.e/\F))))/\((64:Int)<=q->a.ea<=(5:Int)/\(a.ee=(2:Int)->(k.nx.length:Int)=a.ea)/\((j_ t).1.length*(96:Nat)<=(140737488355328:Nat)->W (j_ t).2->(j_ t).1=w.l/\(j_ t).2=w.e/\a.me=f.me/\a.ea=f.ea/\ai p f.st (a.bin=f.bin/\a.ee=f.ee/\a.b8=f.b8/\a.b5=f.b5/\aw a.s f.s (k.rp=r.rp/\h.b=o.b/\h.b7=o.b7/\h.down=o.down/\h.c9=o.c9/\h.dc=o.dc/\A=r.vs/\B=r.bn/\k.nx=r.nx/\k.mt=r.mt)))))) (m.me=f.me/\m.ea=f.ea/\ai m.st f.st (m.bin=f.bin/\m.ee=f.ee/\m.b8=f.b8/\m.b5=f.b5/\aw m.s f.s (i.rp=r.rp/\i.d.b=o.b/\i.d.b7=o.b7/\i.d.down=o.down/\i.d.c9=o.c9/\i.d.dc=o.dc/\i.vs=r.vs/\i.bn=r.bn/\i.nx=r.nx/\i.mt=r.mt)))) i.c) (ik h p z).2.2 (t.cf z)) [dm.mk c (q+C) p.a8 b]) (p.log.length:Int) (Nd.mk a h k.rp A B k.nx k.mt)) a.st) k.d k.c) (gZ n s)) (gZ n I)) r.d r.c) (u*(↑(8:Nat):Int)<=(140737488355328:Int)) u.toNat n.vs n.bn (3:Int) (1:Int) w.n) (fZ n) (0:Int) n.c.ea) [])
 obtain⟨⟨P,Q,S⟩,J,G,T,o7,U⟩:=xa L;repeat' first|(with_reducible first|apply aH|refine aI ?_|intro)|exact aZ|exact rfl|(with_reducible exact arW Y)|(with_reducible exact anL Y Y)|(with_reducible exact am3 J)|(with_reducible exact(ahe Y).1)|(with_reducible exact(ahe Y).2)|exact P|exact Q|exact S|exact G.2|exact(λ_=>aeP Y Y G.1)|exact(aeP Y Y G.1)|exact(agB Y Y G Y).1|exact(agB Y Y G Y).2|exact RN|exact(zc J am)|(rw[aqa Y Y Y Y]<;>rfl)|(rw[apw Y Y Y Y]<;>rfl)|(rw[ank Y Y Y]<;>rfl)|refine⟨‹Nat›+1,?_⟩|refine⟨0,?_⟩
def Ve:CK 95 (aD nr wU λ(_,x,_) n=>⟨[y2 n,0<=x.l5/\x.l5<n.c.ea,n.c.ee=2,0<=x.a/\x.a<=64],[.c (.fz (.nm .letter) ((dS n x).l))],some (qX ((dS n x).n)),false⟩):=ag λ(_,x,_) n J=>by
 have L:=bw J;have l:=bw (de J);have c:=bw (de (de J));have P:=bw (de (de (de J)));refine bh qN [] func95 (?_:(λm p f t j=>(λq C k=>(λD u w r=>(λv K=>(λz A y F=>(λB o=>(λi e g=>(λH h=>(λI=>aP x ((w/\f<(n.nx.length:Int))/\(W y->m<=x.a/\x.a<=64)/\W z/\(W y->W (fM y x)->w/\f<(n.nx.length:Int))/\(W y->W (fM y x)->W y->(x.ok=true->(w/\f<(n.mt.length:Int))/\(W v->w/\f<(n.mt.length:Int))/\(W v->W v->F.length*8<=140737488355328/\(m<=j.me/\j.me<(F.length:Int))/\(W (F.getD u t)->W B->((m<=q/\B<=(k.log.length:Int))/\D)/\(w/\f<(h.nx.length:Int))/\(W (h.nx.getD r t)->((h.c.st.log.length:Int)<h.nx.getD r t->p.l=[]/\I)/\(h.nx.getD r t<=(h.c.st.log.length:Int)->(w/\f<(h.nx.length:Int))/\((tI h f).length*96<=140737488355328->tI h f=p.l/\I))))))/\(x.ok=false->n.mt.length*8<=140737488355328/\(m<=j.me/\j.me<(n.mt.length:Int))/\(W (n.mt.getD u t)->W A->((m<=q/\A<=(k.log.length:Int))/\D)/\(w/\f<(g.nx.length:Int))/\(W (g.nx.getD r t)->((g.c.st.log.length:Int)<g.nx.getD r t->p.l=[]/\H)/\(g.nx.getD r t<=(g.c.st.log.length:Int)->(w/\f<(g.nx.length:Int))/\((tI g f).length*96<=140737488355328->tI g f=p.l/\H)))))))) (h.c.me=e.me/\h.c.ea=e.ea/\ai h.c.st e.st (h.c.bin=e.bin/\h.c.ee=e.ee/\h.c.b8=e.b8/\h.c.b5=e.b5/\aw h.c.s e.s (h.rp=o.rp/\h.d.b=i.b/\h.d.b7=i.b7/\h.d.down=i.down/\h.d.c9=i.c9/\h.d.dc=i.dc/\h.vs=o.vs/\h.bn=o.bn/\h.nx=o.nx/\h.mt=o.mt)))) (g.c.me=e.me/\g.c.ea=e.ea/\ai g.c.st e.st (g.c.bin=e.bin/\g.c.ee=e.ee/\g.c.b8=e.b8/\g.c.b5=e.b5/\aw g.c.s e.s (g.rp=o.rp/\g.d.b=i.b/\g.d.b7=i.b7/\g.d.down=i.down/\g.d.c9=i.c9/\g.d.dc=i.dc/\g.vs=o.vs/\g.bn=o.bn/\g.nx=o.nx/\g.mt=o.mt))) (Nd.mk (w8.mk j.me j.ea j.bin k j.ee B q j.s) n.d n.rp n.vs n.bn (n.nx.set r (min (fM y x) z)) F).apply) o.d o.c (Nd.mk (w8.mk j.me j.ea j.bin k j.ee A q j.s) n.d n.rp n.vs n.bn (n.nx.set r (min (fM y x) z)) n.mt).apply) (iW k (F.set u K) C) p.n) (K+1) (iW k (n.mt.set u K) C) (n.nx.getD r t) (n.mt.set r (max v (min x.a K)))) (n.mt.getD r t) (k.log.length:Int)) ((n.rp.length:Int)<=q/\k.log.length<=10000) j.me.toNat (m<=f) f.toNat) j.b5 j.b8 j.st) (0:Int) (dS n x) x.l5 (c4 Sh.int) n.c);obtain⟨⟨Q,S,T⟩,U,V,b,o7,d⟩:=xa L;obtain⟨a,Z⟩:=L.l2 c;repeat' first|(with_reducible first|apply aH|refine aI ?_|intro)|exact aZ|exact(DZ o7.2.2)|(rw[Ta];omega)|(rw[OS];omega)|(rw[B1];omega)|(rw[B1,B1];omega)|(rw[aj0 (n:=n) (x:=x) (G:=EU n x) (BU Y) Y]<;>rfl)|(rw[ahS (n:=n) (x:=x) (G:=EU n x) (BU Y) Y]<;>rfl)|(rw[aj0 (n:=n) (x:=x) (G:=EG n x) (BB Y) Y]<;>rfl)|(rw[ahS (n:=n) (x:=x) (G:=EG n x) (BB Y) Y]<;>rfl)
def Dg:=(ae Ve (ae Qf (ae KV qN)))
abbrev Mm(m:Nd)(x:ep):Nd:=⟨(m.cf (ao m.c.st x.a8)).c,(m.cf (ao m.c.st x.a8)).d,(m.cf (ao m.c.st x.a8)).rp,(m.cf (ao m.c.st x.a8)).vs,(m.cf (ao m.c.st x.a8)).bn.set x.l5.toNat x.bin,(m.cf (ao m.c.st x.a8)).nx,(m.cf (ao m.c.st x.a8)).mt⟩
abbrev JU(m:Nd)(x:ep):Nd:=⟨(m.cf (ao m.c.st x.a8)).c,(m.cf (ao m.c.st x.a8)).d,(m.cf (ao m.c.st x.a8)).rp,(m.cf (ao m.c.st x.a8)).vs.set x.l5.toNat true,(m.cf (ao m.c.st x.a8)).bn.set x.l5.toNat x.bin,(m.cf (ao m.c.st x.a8)).nx,(m.cf (ao m.c.st x.a8)).mt⟩
def vL(m:Nd)(x:ep):B7:=if(¬m.aB (ao m.c.st x.a8)=0\/¬x.a8=(m.cf (ao m.c.st x.a8)).c.st.a8)\/(m.cf (ao m.c.st x.a8)).c.ee=0 then⟨m.cf (ao m.c.st x.a8),[],m.aB (ao m.c.st x.a8)⟩
 else if(x.kind=2/\x.ok=true)/\(m.cf (ao m.c.st x.a8)).c.ee=1 then(if gp (JU m x).vs=true then fZ (JU m x)else⟨JU m x,[],0⟩)
 else if x.kind=4/\(m.cf (ao m.c.st x.a8)).c.ee=2 then⟨(dS (Mm m x) x).n,(dS (Mm m x) x).l,0⟩else⟨Mm m x,[],0⟩
def Y9(n:Nd)(x:ep):Nd:=if n.c.st.a8<x.a8 then n.fT else n
def dD(n:Nd)(x:ep):B7:=if n.c.bin=0 then⟨n,[],30⟩else if cm n.c x=false then⟨n,[],1⟩else if x.kind=1 then mi (Y9 n x) x else if x.kind=3 then dQ (Y9 n x) x else vL (Y9 n x) x
section
variable{n m:Nd}{x:ep}
def xi(h:(!cm n.c x)=false):cm n.c x=true:=by simpa using h
def Ji(h:y2 n):y2 n.fT:=⟨⟨h.ok.d,h.ok.ea,h.ok.me,h.ok.log,h.ok.a8,h.ok.y1,.inl rfl,h.ok.rp⟩,.inl rfl,λq=>(by cases q)⟩
def afj(a:y2 m)(h:m.aB (ao m.c.st x.a8)=0):y2 (m.cf (ao m.c.st x.a8)):=by
 rw[acE h];exact⟨UH (n:=m.low) h a.ok,a.ln,a.l2⟩
def ame(a:y2 m)(h:m.aB (ao m.c.st x.a8)=0):y2 (Mm m x):=
 have k:=afj a h
 ⟨⟨k.ok.d,k.ok.ea,k.ok.me,k.ok.log,k.ok.a8,k.ok.y1,.inl rfl,k.ok.rp⟩,k.ln.imp id λq=>⟨q.1,by rw[B1];exact q.2⟩,k.l2⟩
def ake(a:y2 m)(h:m.aB (ao m.c.st x.a8)=0):y2 (JU m x):=
 have k:=afj a h
 ⟨⟨k.ok.d,k.ok.ea,k.ok.me,k.ok.log,k.ok.a8,k.ok.y1,.inl rfl,k.ok.rp⟩,k.ln.imp id λq=>⟨by rw[B1];exact q.1,by rw[B1];exact q.2⟩,k.l2⟩
def Lw(a:y2 m)(d:x.l5<m.c.ea)(h:m.aB (ao m.c.st x.a8)=0)(b:¬(m.cf (ao m.c.st x.a8)).c.ee=0):x.l5<((m.cf (ao m.c.st x.a8)).bn.length:Int)/\x.l5<((m.cf (ao m.c.st x.a8)).vs.length:Int)/\x.l5<(m.cf (ao m.c.st x.a8)).c.ea:=by
 have k:=(afj a h).ln.resolve_left b;have e:=(aau (n:=m) (l:=ao m.c.st x.a8)).2;omega
def ahL(h:n.c.bin=0):dD n x=⟨n,[],30⟩:=O h
variable(h:¬n.c.bin=0)
include h
def ajc(a:(!cm n.c x)=true):dD n x=⟨n,[],1⟩:=by rw[dD,X h,O (by simpa using a)]
variable(h1:(!cm n.c x)=false)(hm:Y9 n x=m)
include h1 hm
def RY:dD n x=if x.kind=1 then mi m x else if x.kind=3 then dQ m x else vL m x:=by
 rw[dD,X h,X (by rw[Bool.not_eq_false']at h1;rw[h1];decide),hm]
def agT(a:x.kind=1):dD n x=mi m x:=(RY h h1 hm).trans (O a)
def alX(a:x.kind=3):dD n x=dQ m x:=(RY h h1 hm).trans ((X N).trans (O a))
variable(hk:¬x.kind=1)(hj:¬x.kind=3)
include hk hj
def alz:dD n x=vL m x:=(RY h h1 hm).trans ((X hk).trans (X hj))
def KD(a:(¬m.aB (ao m.c.st x.a8)=0\/¬x.a8=(m.cf (ao m.c.st x.a8)).c.st.a8)\/(m.cf (ao m.c.st x.a8)).c.ee=0):dD n x=⟨m.cf (ao m.c.st x.a8),[],m.aB (ao m.c.st x.a8)⟩:=(alz h h1 hm hk hj).trans (O a)
variable(h2:m.aB (ao m.c.st x.a8)=0)(h3:x.a8=(m.cf (ao m.c.st x.a8)).c.st.a8)(h4:¬(m.cf (ao m.c.st x.a8)).c.ee=0)
include h2 h3 h4
def WJ:dD n x=if(x.kind=2/\x.ok=true)/\(m.cf (ao m.c.st x.a8)).c.ee=1 then(if gp (JU m x).vs=true then fZ (JU m x)else⟨JU m x,[],0⟩)
 else if x.kind=4/\(m.cf (ao m.c.st x.a8)).c.ee=2 then⟨(dS (Mm m x) x).n,(dS (Mm m x) x).l,0⟩else⟨Mm m x,[],0⟩:=(alz h h1 hm hk hj).trans (X (by rintro((q|q)|q);exact q h2;exact q h3;exact h4 q))
def ah9(a:x.kind=2)(b:x.ok=true)(d:(m.cf (ao m.c.st x.a8)).c.ee=1)(e:gp (JU m x).vs=true):dD n x=fZ (JU m x):=by rw[WJ h h1 hm hk hj h2 h3 h4,O ⟨⟨a,b⟩,d⟩,O e]
def ah4(a:x.kind=2)(b:x.ok=true)(d:(m.cf (ao m.c.st x.a8)).c.ee=1)(e:gp (JU m x).vs=false):dD n x=⟨JU m x,[],0⟩:=by rw[WJ h h1 hm hk hj h2 h3 h4,O ⟨⟨a,b⟩,d⟩,X (jP e)]
def alc(d:(¬x.kind=2\/x.ok=false)\/¬(m.cf (ao m.c.st x.a8)).c.ee=1)(a:x.kind=4)(b:(m.cf (ao m.c.st x.a8)).c.ee=2):dD n x=⟨(dS (Mm m x) x).n,(dS (Mm m x) x).l,0⟩:=by rw[WJ h h1 hm hk hj h2 h3 h4,X N,O ⟨a,b⟩]
def Mf(d:(¬x.kind=2\/x.ok=false)\/¬(m.cf (ao m.c.st x.a8)).c.ee=1)(e:¬x.kind=4\/¬(m.cf (ao m.c.st x.a8)).c.ee=2):dD n x=⟨Mm m x,[],0⟩:=by
 rw[WJ h h1 hm hk hj h2 h3 h4,X (by rintro⟨⟨a,b⟩,c⟩;rcases d with(q|q)|q;exact q a;exact jP q b;exact q c),X N]
end
set_option maxRecDepth 8000 in
def FX:CK 50 (aD nr wU λ(_,x,_) n=>⟨[y2 n],[.c (.fz (.nm .letter) ((dD n x).l)),.c (.int ((dD n x).e))],some (qX ((dD n x).n)),false⟩):=ag λ(_,x,_) n hp=>by
 have h0:=bw hp;refine bh Dg [] func50 (?_:(λq26 q25 q24 q23 Q=>(λq27 V q20 Z q18 q17 e q15 q14=>(λq28 q13 h P=>(λq30 q29 i q9 q8=>(λj q7 q6=>(λk q5=>(λb=>(λq34 q33 q4 q3 q2=>(λu v S T w q38=>(λy z A B C q37=>(λD F G H I J K U=>(λq36 d=>(λq64 L q62 q61 f=>(λq67 q66 q65=>(λq68 q59 q58=>(λm q57=>(λq72=>(λo p a=>(λq80 c q78 q77 g=>(λq83 q82 q81=>(λq84 q75 q74=>(λq q73=>(λq88=>(λr t=>aP x ((Q.bin=P->q33/\30=b/\q36)/\(¬Q.bin=P->((!cm Q x)=true->q33/\q20=b/\q36)/\((!cm Q x)=false->(q27.a8<V->(q25=q20->y2 e/\(q8.l.length*q17<=q18->W q8.e->q8.l=q5.l/\q8.e=b/\j.c.me=G/\j.c.ea=J/\ai j.c.st F (j.c.bin=H/\j.c.ee=I/\j.c.b8=K/\j.c.b5=U/\aw j.c.s D (j.rp=u/\j.d.b=y/\j.d.b7=C/\j.d.down=z/\j.d.c9=B/\j.d.dc=A/\j.vs=v/\j.bn=w/\j.nx=S/\j.mt=T))))/\(¬q25=q20->(q15->y2 e/\cm e.c x=true/\q15/\(q6.l.length*q17<=q18->W q6.e->q6.l=q5.l/\q6.e=b/\k.c.me=G/\k.c.ea=J/\ai k.c.st F (k.c.bin=H/\k.c.ee=I/\k.c.b8=K/\k.c.b5=U/\aw k.c.s D (k.rp=u/\k.d.b=y/\k.d.b7=C/\k.d.down=z/\k.d.c9=B/\k.d.dc=A/\k.vs=v/\k.bn=w/\k.nx=S/\k.mt=T))))/\(¬q15->((P<=e.d.b7/\e.d.b7<=(e.d.b.length:Int)/\e.d.b.length<=65536)/\e.c.st.log.length<=10000/\(ao e.c.st V).length<=1000)/\(W q7->(¬q7=P->q75)/\(q7=P->(¬V=g.st.a8->q75)/\(V=g.st.a8->(q81=P->q75)/\(¬q81=P->(q29/\Z<(a.bn.length:Int))/\(W (a.bn.getD q3 (c4 Sh.int))->((q25=q14/\x.ok=true)/\q81=q20->(q29/\Z<(a.vs.length:Int))/\(gp q80=true->y2 q73/\(q88.l.length*q17<=q18->W q88.e->q88.l=q5.l/\q88.e=b/\r.c.me=G/\r.c.ea=J/\ai r.c.st F (r.c.bin=H/\r.c.ee=I/\r.c.b8=K/\r.c.b5=U/\aw r.c.s D (r.rp=u/\r.d.b=y/\r.d.b7=C/\r.d.down=z/\r.d.c9=B/\r.d.dc=A/\r.vs=v/\r.bn=w/\r.nx=S/\r.mt=T))))/\(gp q80=false->(q13/\q84->y2 q73/\(q29/\Z<g.ea)/\q84/\q30/\((dS q73 x).l.length*q17<=q18->(dS q73 x).l=q5.l/\q34/\t.c.me=G/\t.c.ea=J/\ai t.c.st F (t.c.bin=H/\t.c.ee=I/\t.c.b8=K/\t.c.b5=U/\aw t.c.s D (t.rp=u/\t.d.b=y/\t.d.b7=C/\t.d.down=z/\t.d.c9=B/\t.d.dc=A/\t.vs=v/\t.bn=w/\t.nx=S/\t.mt=T))))/\(¬q13\/¬q84->q33/\q34/\g.me=G/\g.ea=J/\ai g.st F (g.bin=H/\q81=I/\g.b8=K/\q83/\aw g.s D (a.rp=u/\c.b=y/\c.b7=C/\c.down=z/\c.c9=B/\c.dc=A/\q80=v/\q78=w/\q77)))))/\(q28\/¬q81=q20->(q13/\q84->y2 q82/\(q29/\Z<g.ea)/\q84/\q30/\(q74.l.length*q17<=q18->q74.l=q5.l/\q34/\q.c.me=G/\q.c.ea=J/\ai q.c.st F (q.c.bin=H/\q.c.ee=I/\q.c.b8=K/\q.c.b5=U/\aw q.c.s D (q.rp=u/\q.d.b=y/\q.d.b7=C/\q.d.down=z/\q.d.c9=B/\q.d.dc=A/\q.vs=v/\q.bn=w/\q.nx=S/\q.mt=T))))/\(¬q13\/¬q84->q33/\q34/\g.me=G/\g.ea=J/\ai g.st F (g.bin=H/\q81=I/\g.b8=K/\q83/\aw g.s D (a.rp=u/\c.b=y/\c.b7=C/\c.down=z/\c.c9=B/\c.dc=A/\a.vs=v/\q78=w/\q77))))))))))))/\(V<=q27.a8->(q25=q20->y2 n/\(q26.l.length*q17<=q18->W q26.e->q26.l=q5.l/\q26.e=b/\h.c.me=G/\h.c.ea=J/\ai h.c.st F (h.c.bin=H/\h.c.ee=I/\h.c.b8=K/\h.c.b5=U/\aw h.c.s D (h.rp=u/\h.d.b=y/\h.d.b7=C/\h.d.down=z/\h.d.c9=B/\h.d.dc=A/\h.vs=v/\h.bn=w/\h.nx=S/\h.mt=T))))/\(¬q25=q20->(q15->y2 n/\cm Q x=true/\q15/\(q24.l.length*q17<=q18->W q24.e->q24.l=q5.l/\q24.e=b/\i.c.me=G/\i.c.ea=J/\ai i.c.st F (i.c.bin=H/\i.c.ee=I/\i.c.b8=K/\i.c.b5=U/\aw i.c.s D (i.rp=u/\i.d.b=y/\i.d.b7=C/\i.d.down=z/\i.d.c9=B/\i.d.dc=A/\i.vs=v/\i.bn=w/\i.nx=S/\i.mt=T))))/\(¬q15->((P<=n.d.b7/\n.d.b7<=(n.d.b.length:Int)/\n.d.b.length<=65536)/\q27.log.length<=10000/\(ao q27 V).length<=1000)/\(W q9->(¬q9=P->q59)/\(q9=P->(¬V=f.st.a8->q59)/\(V=f.st.a8->(q65=P->q59)/\(¬q65=P->(q29/\Z<(d.bn.length:Int))/\(W (d.bn.getD q3 (c4 Sh.int))->((q25=q14/\x.ok=true)/\q65=q20->(q29/\Z<(d.vs.length:Int))/\(gp q64=true->y2 q57/\(q72.l.length*q17<=q18->W q72.e->q72.l=q5.l/\q72.e=b/\o.c.me=G/\o.c.ea=J/\ai o.c.st F (o.c.bin=H/\o.c.ee=I/\o.c.b8=K/\o.c.b5=U/\aw o.c.s D (o.rp=u/\o.d.b=y/\o.d.b7=C/\o.d.down=z/\o.d.c9=B/\o.d.dc=A/\o.vs=v/\o.bn=w/\o.nx=S/\o.mt=T))))/\(gp q64=false->(q13/\q68->y2 q57/\(q29/\Z<f.ea)/\q68/\q30/\((dS q57 x).l.length*q17<=q18->(dS q57 x).l=q5.l/\q34/\p.c.me=G/\p.c.ea=J/\ai p.c.st F (p.c.bin=H/\p.c.ee=I/\p.c.b8=K/\p.c.b5=U/\aw p.c.s D (p.rp=u/\p.d.b=y/\p.d.b7=C/\p.d.down=z/\p.d.c9=B/\p.d.dc=A/\p.vs=v/\p.bn=w/\p.nx=S/\p.mt=T))))/\(¬q13\/¬q68->q33/\q34/\f.me=G/\f.ea=J/\ai f.st F (f.bin=H/\q65=I/\f.b8=K/\q67/\aw f.s D (d.rp=u/\L.b=y/\L.b7=C/\L.down=z/\L.c9=B/\L.dc=A/\q64=v/\q62=w/\q61)))))/\(q28\/¬q65=q20->(q13/\q68->y2 q66/\(q29/\Z<f.ea)/\q68/\q30/\(q58.l.length*q17<=q18->q58.l=q5.l/\q34/\m.c.me=G/\m.c.ea=J/\ai m.c.st F (m.c.bin=H/\m.c.ee=I/\m.c.b8=K/\m.c.b5=U/\aw m.c.s D (m.rp=u/\m.d.b=y/\m.d.b7=C/\m.d.down=z/\m.d.c9=B/\m.d.dc=A/\m.vs=v/\m.bn=w/\m.nx=S/\m.mt=T))))/\(¬q13\/¬q68->q33/\q34/\f.me=G/\f.ea=J/\ai f.st F (f.bin=H/\q65=I/\f.b8=K/\q67/\aw f.s D (d.rp=u/\L.b=y/\L.b7=C/\L.down=z/\L.c9=B/\L.dc=A/\d.vs=v/\q62=w/\q61)))))))))))))))) q88.n (dS q73 x).n) (fZ q73)) q74.n (Nd.mk g c a.rp q80 q78 a.nx a.mt)) (q81=q14) (q33/\q7=b/\g.me=G/\g.ea=J/\ai g.st F (g.bin=H/\q81=I/\g.b8=K/\q83/\aw g.s D (a.rp=u/\c.b=y/\c.b7=C/\c.down=z/\c.c9=B/\c.dc=A/\a.vs=v/\a.bn=w/\q77))) (dS q82 x)) (g.b5=U) (Nd.mk g c a.rp a.vs q78 a.nx a.mt) g.ee) (a.vs.set q3 true) a.d (a.bn.set q3 q4) (a.nx=S/\a.mt=T) a.c) q72.n (dS q57 x).n (e.cf (ao e.c.st V))) (fZ q57)) q58.n (Nd.mk f L d.rp q64 q62 d.nx d.mt)) (q65=q14) (q33/\q9=b/\f.me=G/\f.ea=J/\ai f.st F (f.bin=H/\q65=I/\f.b8=K/\q67/\aw f.s D (d.rp=u/\L.b=y/\L.b7=C/\L.down=z/\L.c9=B/\L.dc=A/\d.vs=v/\d.bn=w/\q61))) (dS q66 x)) (f.b5=U) (Nd.mk f L d.rp d.vs q62 d.nx d.mt) f.ee) (d.vs.set q3 true) d.d (d.bn.set q3 q4) (d.nx=S/\d.mt=T) d.c) (Q.me=G/\Q.ea=J/\ai q27 F (Q.bin=H/\Q.ee=I/\Q.b8=K/\Q.b5=U/\aw Q.s D (n.rp=u/\n.d.b=y/\n.d.b7=C/\n.d.down=z/\n.d.c9=B/\n.d.dc=A/\n.vs=v/\n.bn=w/\n.nx=S/\n.mt=T))) (n.cf (ao q27 V))) q37.s q37.st q37.me q37.bin q37.ee q37.ea q37.b8 q37.b5) q38.b q38.down q38.dc q38.c9 q38.b7 q2.c) q2.rp q2.vs q2.nx q2.mt q2.bn q2.d) (P=b) (q5.l=[]) x.bin Z.toNat q5.n) q5.e) q6.n (dD n x)) q8.n (ik e.d e.c.st (ao e.c.st V)).2.2 (dQ e x)) (P<=x.a/\q23) (P<=Z) q24.n (ik n.d q27 (ao q27 V)).2.2 (mi e x)) (¬q25=q14\/x.ok=false) (q25=4) q26.n (0:Int)) Q.st x.a8 (1:Int) x.l5 (140737488355328:Nat) (96:Nat) n.fT (q25=3) (2:Int)) (mi n x) x.kind (dQ n x) (x.a<=64) n.c)
 obtain⟨⟨o1,o2,o3⟩,o4,o5,o6,o7,o8⟩:=xa h0;(repeat' with_reducible first|apply aH|refine aI ?_|intro)
 all_goals(first|exact aZ|exact h0|exact(Ji h0)|exact BL|exact o1|exact o2|exact o3|exact(zc o4 am)|exact(xi (n:=n) Y)|exact(ame h0 Y)|exact(ame (Ji h0) Y)|exact(ake h0 Y)|exact(ake (Ji h0) Y)|exact(qq (n:=n) (xi (n:=n) Y)).1|exact(qq (n:=n) (xi (n:=n) Y)).2.2.1|exact(qq (n:=n) (xi (n:=n) Y)).2.2.2.1|exact(Lw h0 (qq (n:=n) (xi (n:=n) Y)).2.1 Y Y).1|exact(Lw h0 (qq (n:=n) (xi (n:=n) Y)).2.1 Y Y).2.1|exact(Lw h0 (qq (n:=n) (xi (n:=n) Y)).2.1 Y Y).2.2|exact(Lw (Ji h0) (qq (n:=n) (xi (n:=n) Y)).2.1 Y Y).1|exact(Lw (Ji h0) (qq (n:=n) (xi (n:=n) Y)).2.1 Y Y).2.1|exact(Lw (Ji h0) (qq (n:=n) (xi (n:=n) Y)).2.1 Y Y).2.2|(rw[ahL Y]<;>rfl)|(rw[ajc Y Y]<;>rfl)|(rw[agT (n:=n) (x:=x) Y Y (O Y) Y]<;>rfl)|(rw[alX (n:=n) (x:=x) Y Y (O Y) Y]<;>rfl)|(rw[KD (n:=n) (x:=x) Y Y (O Y) Y Y (.inl (.inl Y))]<;>rfl)|(rw[KD (n:=n) (x:=x) Y Y (O Y) Y Y (.inl (.inr Y))]<;>rfl)|(rw[KD (n:=n) (x:=x) Y Y (O Y) Y Y (.inr Y)]<;>rfl)|(rw[ah9 (n:=n) (x:=x) Y Y (O Y) Y Y Y Y Y Y Y Y Y]<;>rfl)|(rw[ah4 (n:=n) (x:=x) Y Y (O Y) Y Y Y Y Y Y Y Y Y]<;>rfl)|(rw[alc (n:=n) (x:=x) Y Y (O Y) Y Y Y Y Y Y Y Y]<;>rfl)|(rw[Mf (n:=n) (x:=x) Y Y (O Y) Y Y Y Y Y Y Y]<;>rfl)|(rw[Mf (n:=n) (x:=x) Y Y (O Y) Y Y Y Y Y Y (.inl Y)]<;>rfl)|(rw[Mf (n:=n) (x:=x) Y Y (O Y) Y Y Y Y Y Y (.inr Y)]<;>rfl)|(rw[agT (n:=n) (x:=x) Y Y (X (G6.2 Y)) Y]<;>rfl)|(rw[alX (n:=n) (x:=x) Y Y (X (G6.2 Y)) Y]<;>rfl)|(rw[KD (n:=n) (x:=x) Y Y (X (G6.2 Y)) Y Y (.inl (.inl Y))]<;>rfl)|(rw[KD (n:=n) (x:=x) Y Y (X (G6.2 Y)) Y Y (.inl (.inr Y))]<;>rfl)|(rw[KD (n:=n) (x:=x) Y Y (X (G6.2 Y)) Y Y (.inr Y)]<;>rfl)|(rw[ah9 (n:=n) (x:=x) Y Y (X (G6.2 Y)) Y Y Y Y Y Y Y Y Y]<;>rfl)|(rw[ah4 (n:=n) (x:=x) Y Y (X (G6.2 Y)) Y Y Y Y Y Y Y Y Y]<;>rfl)|(rw[alc (n:=n) (x:=x) Y Y (X (G6.2 Y)) Y Y Y Y Y Y Y Y]<;>rfl)|(rw[Mf (n:=n) (x:=x) Y Y (X (G6.2 Y)) Y Y Y Y Y Y Y]<;>rfl)|(rw[Mf (n:=n) (x:=x) Y Y (X (G6.2 Y)) Y Y Y Y Y Y (.inl Y)]<;>rfl)|(rw[Mf (n:=n) (x:=x) Y Y (X (G6.2 Y)) Y Y Y Y Y Y (.inr Y)]<;>rfl))
def pj:=(ae FX Dg)
abbrev Er(n:Nd)(c:b6):List dm:=[⟨3,(n.c.st.log.length:Int)+1,n.c.st.a8,(ew c n.c.st.a8 n.c.s.bo).1.b⟩]
def dh(n:Nd)(c:b6):U9:=if n.c.bin=0 then⟨n,0,0,30⟩else if¬n.c.ee=2 then⟨n,0,0,33⟩else if¬aO c n.c.s.bo=0 then⟨n,0,0,aO c n.c.s.bo⟩
 else if c.kind=8/\¬c.n=n.c.s.bo+1 then⟨n,0,0,1⟩else if c.kind=8/\eQ n.c.s.bo n.bn=false then⟨n,0,0,34⟩
 else if 64<=(n.c.st.log.length:Int)then⟨n,0,0,20⟩else if¬n.aB (Er n c)=0 then⟨n.cf (Er n c),0,0,n.aB (Er n c)⟩else⟨n.cf (Er n c),(n.c.st.log.length:Int)+1,n.c.st.a8,0⟩
section
variable{n:Nd}{c:b6}
def agt(h:n.c.bin=0):dh n c=⟨n,0,0,30⟩:=O h
def ak2(h:¬n.c.bin=0)(a:¬n.c.ee=2):dh n c=⟨n,0,0,33⟩:=by rw[dh,X h,O a]
def amp(h:¬n.c.bin=0)(a:n.c.ee=2)(b:¬aO c n.c.s.bo=0):dh n c=⟨n,0,0,aO c n.c.s.bo⟩:=by simp[dh, *]
variable(h:¬n.c.bin=0)(h1:n.c.ee=2)(h2:aO c n.c.s.bo=0)
include h h1 h2
def alE(a:c.kind=8)(b:¬c.n=n.c.s.bo+1):dh n c=⟨n,0,0,1⟩:=by simp[dh, *]
def agx(a:c.kind=8)(b:c.n=n.c.s.bo+1)(d:eQ n.c.s.bo n.bn=false):dh n c=⟨n,0,0,34⟩:=by simp[dh, *]
variable(h3:¬c.kind=8\/c.n=n.c.s.bo+1/\eQ n.c.s.bo n.bn=true)
include h3
def abP:dh n c=if 64<=(n.c.st.log.length:Int)then⟨n,0,0,20⟩else if¬n.aB (Er n c)=0 then⟨n.cf (Er n c),0,0,n.aB (Er n c)⟩else⟨n.cf (Er n c),(n.c.st.log.length:Int)+1,n.c.st.a8,0⟩:=by
 rcases h3 with q|⟨q,a⟩<;>simp[dh, *]
def afL(a:64<=(n.c.st.log.length:Int)):dh n c=⟨n,0,0,20⟩:=(abP h h1 h2 h3).trans (O a)
def afw(a:(n.c.st.log.length:Int)<64)(b:¬n.aB (Er n c)=0):dh n c=⟨n.cf (Er n c),0,0,n.aB (Er n c)⟩:=(abP h h1 h2 h3).trans ((X (Int.not_le.2 a)).trans (O b))
def abU(a:(n.c.st.log.length:Int)<64)(b:n.aB (Er n c)=0):dh n c=⟨n.cf (Er n c),(n.c.st.log.length:Int)+1,n.c.st.a8,0⟩:=(abP h h1 h2 h3).trans ((X (Int.not_le.2 a)).trans (X (A0.2 b)))
end
abbrev Nd.wS(n:Nd)(b:Int):Nd:={n with c:={n.c with st:=(hX n.d.b).1},d:=(if n.d.down=true then n.d.up else n.d).cut (hX n.d.b).2}
def dR(n:Nd)(b:Int):B7:=if¬n.c.bin=0 then⟨n,[],31⟩else if¬bH b (max (hX n.d.b).1.floor 1)=0 then⟨n,[],bH b (max (hX n.d.b).1.floor 1)⟩
 else let m:=n.wS b
  if m.c.st.floor<b then(if m.aB [⟨1,b,0,[]⟩]=0 then⟨{m.fl [⟨1,b,0,[]⟩]with c:={(m.fl [⟨1,b,0,[]⟩]).c with bin:=b,s:=z6}},[],0⟩else⟨{n with d:=(m.fl [⟨1,b,0,[]⟩]).d.bR 0},[],m.aB [⟨1,b,0,[]⟩]⟩)else⟨{m with c:={m.c with bin:=b,s:=z6}},[],0⟩
section
variable{n:Nd}{b:Int}
def aaa(h:¬n.c.bin=0):dR n b=⟨n,[],31⟩:=O h
variable(h:n.c.bin=0)
include h
def aai(a:¬bH b (max (hX n.d.b).1.floor 1)=0):dR n b=⟨n,[],bH b (max (hX n.d.b).1.floor 1)⟩:=by simp[dR, *]
variable(h1:bH b (max (hX n.d.b).1.floor 1)=0)
include h1
def MO:dR n b=if(n.wS b).c.st.floor<b then(if(n.wS b).aB [⟨1,b,0,[]⟩]=0 then⟨{(n.wS b).fl [⟨1,b,0,[]⟩]with c:={((n.wS b).fl [⟨1,b,0,[]⟩]).c with bin:=b,s:=z6}},[],0⟩else⟨{n with d:=((n.wS b).fl [⟨1,b,0,[]⟩]).d.bR 0},[],(n.wS b).aB [⟨1,b,0,[]⟩]⟩)else⟨{(n.wS b)with c:={(n.wS b).c with bin:=b,s:=z6}},[],0⟩:=
 (X (A0.2 h)).trans (X (A0.2 h1))
def aav(a:(n.wS b).c.st.floor<b)(d:(n.wS b).aB [⟨1,b,0,[]⟩]=0):dR n b=⟨{(n.wS b).fl [⟨1,b,0,[]⟩]with c:={((n.wS b).fl [⟨1,b,0,[]⟩]).c with bin:=b,s:=z6}},[],0⟩:=by rw[MO h h1,O a,O d]
def aal(a:(n.wS b).c.st.floor<b)(e:¬(n.wS b).aB [⟨1,b,0,[]⟩]=0):dR n b=⟨{n with d:=((n.wS b).fl [⟨1,b,0,[]⟩]).d.bR 0},[],(n.wS b).aB [⟨1,b,0,[]⟩]⟩:=by rw[MO h h1,O a,X e]
def aat(a:b<=(n.wS b).c.st.floor):dR n b=⟨{(n.wS b)with c:={(n.wS b).c with bin:=b,s:=z6}},[],0⟩:=by rw[MO h h1,X (G6.2 a)]
omit h1 in
theorem yh(a:y2 n)(e:n.c.bin=0->n.d.down=true):(n.wS b).d.OK/\((n.wS b).fl [⟨1,b,0,[]⟩]).d.OK:=
 have k:=(rK (n:=n.low) (e h) a.ok.d).1
 ⟨k,qU k⟩
end
set_option maxRecDepth 8000 in
theorem VY:CK 51 (aD xF wU λ(_,c,_) n=>⟨[y2 n],[.c (.int ((dh n c).a)),.c (.int ((dh n c).b)),.c (.int ((dh n c).e))],some (qX ((dh n c).n)),false⟩):=ag λ(_,c,_) n H=>by
 have G:=bw H;refine bh pj [] func51 (?_:(λu I q m=>(λB=>(λr A=>(λC o l=>(λj k h=>(λi=>(λv g=>(λw x=>(λt=>(λD F=>(λp f=>(λy=>(λz=>bf c ((n.c.bin=o->k/\j/\30=l.e/\t)/\(¬n.c.bin=o->(¬n.c.ee=2->k/\j/\33=l.e/\t)/\(n.c.ee=2->W (aO c m)->(¬aO c m=o->k/\j/\aO c m=l.e/\t)/\(aO c m=o->(c.kind=8->W (m+u)/\(¬c.n=m+u->k/\j/\u=l.e/\t)/\(c.n=m+u->(eQ m n.bn=false->k/\j/\34=l.e/\t)/\(eQ m n.bn=true->z)))/\(¬c.kind=8->z)))))) ((64<=B->D)/\(B<64->W A.1.a8->C->W A.2->W r/\(o<=n.d.b7/\I)/\q.log.length<=10000/\F.length<=1000/\(W p->(¬p=o->k/\j/\p=l.e/\y)/\(p=o->r=l.a/\q.a8=l.b/\o=l.e/\y))))) (f.c.me=g.me/\f.c.ea=g.ea/\ai f.c.st g.st (f.c.bin=g.bin/\f.c.ee=g.ee/\f.c.b8=w/\f.c.b5=x/\aw f.c.s g.s (f.rp=h.rp/\f.d.b=i.b/\f.d.b7=v/\f.d.down=i.down/\f.d.c9=i.c9/\f.d.dc=i.dc/\f.vs=h.vs/\f.bn=h.bn/\f.nx=h.nx/\f.mt=h.mt)))) (ik n.d q F).2.2 (n.cf F)) (k/\j/\20=l.e/\t) [dm.mk 3 r q.a8 A.1.b]) (n.c.me=g.me/\n.c.ea=g.ea/\ai q g.st (n.c.bin=g.bin/\n.c.ee=g.ee/\n.c.b8=w/\n.c.b5=x/\aw n.c.s g.s (n.rp=h.rp/\n.d.b=i.b/\n.d.b7=v/\n.d.down=i.down/\n.d.c9=i.c9/\n.d.dc=i.dc/\n.vs=h.vs/\n.bn=h.bn/\n.nx=h.nx/\n.mt=h.mt)))) g.b8 g.b5) i.b7 h.c) h.d) (o=l.b) (o=l.a) l.n) (A.1.b.length*1<=140737488355328) (0:Int) (dh n c)) (B+u) (ew c q.a8 m)) (q.log.length:Int)) (1:Int) (n.d.b7<=(n.d.b.length:Int)/\n.d.b.length<=65536) n.c.st n.c.s.bo);obtain⟨⟨J,K,L⟩,a,b,P,o7,Q⟩:=xa G;repeat' first|(with_reducible first|apply aH|refine aI ?_|intro)|exact aZ|exact G|exact RN|(have l:=(tV (by with_reducible assumption:aO c n.c.s.bo=0)).1;exact aY N N)|(rw[agt Y]<;>rfl)|(rw[ak2 Y Y]<;>rfl)|(rw[amp (c:=c) Y Y Y]<;>rfl)|(rw[alE (c:=c) Y Y Y Y Y]<;>rfl)|(rw[agx (c:=c) Y Y Y Y Y Y]<;>rfl)|(rw[afL (c:=c) Y Y Y (.inl Y) Y]<;>rfl)|(rw[afw (c:=c) Y Y Y (.inl Y) Y Y]<;>rfl)|(rw[abU (c:=c) Y Y Y (.inl Y) Y Y]<;>rfl)|(rw[afL (c:=c) Y Y Y (.inr ⟨Y,Y⟩) Y]<;>rfl)|(rw[afw (c:=c) Y Y Y (.inr ⟨Y,Y⟩) Y Y]<;>rfl)|(rw[abU (c:=c) Y Y Y (.inr ⟨Y,Y⟩) Y Y]<;>rfl)
set_option maxRecDepth 8000 in
def TM:CK 47 (aD iR wU λ(_,b,_) n=>⟨[y2 n,n.c.bin=0->n.d.down=true],[.c (.int ((dR n b).e))],some (qX ((dR n b).n)),false⟩):=ag λ(_,b,_) n J=>by
 have l:=bw J;have B:=bw (de J);refine bh pj [] func47 (?_:(λ(x:Int)(D:Prop)(F:Prop)(K:Prop)(G:Int)(i:w8)=>(λ(I:Int)(j:Int)(y:b9)=>(λ(o:Int)(C:j9)(g:Int)=>(λ(m:j9)(z:Nd)=>(λ(p:Prop)(a:j9)(f:w8)=>(λ(q:Prop)(r:Prop)(t:Prop)(u:Prop)(v:Prop)(w:Prop)=>(λ(H:Prop)(A:j9×b9×Int)=>(λ(h:j9)=>(λ(k:j9)=>W b->(¬i.bin=g->(31:Int)=G/\H)/\(i.bin=g->n.d.b.length<=(1000000:Nat)/\bz y (W x->W o->(¬o=g->o=G/\H)/\(o=g->W (if n.d.down=true then g else(31:Int))->(g<=C.b7/\C.b7<=(C.b.length:Int)/\C.b.length<=(65536:Nat))/\(W (C.jq x)->(y.floor<b->((g<=m.b7/\m.b7<=(m.b.length:Int)/\m.b.length<=(65536:Nat))/\y.log.length<=(10000:Nat)/\[dm.mk j b g []].length<=(1000:Nat))/\bz A.2.1 (W A.2.2->(¬A.2.2=g->(g<=h.b7/\h.b7<=(h.b.length:Int)/\h.b.length<=(65536:Nat))/\A.2.2=G/\q/\u/\ai i.st f.st (i.bin=f.bin/\t/\v/\r/\aw i.s f.s (p/\k.b=a.b/\k.b7=a.b7/\k.down=a.down/\k.c9=a.c9/\k.dc=a.dc/\w)))/\(A.2.2=g->W j->W j->W g->W g->F->K->D->g=G/\q/\u/\ai A.2.1 f.st (b=f.bin/\t/\v/\r/\aw (c5.mk j j g g [] [] []) f.s (p/\h.b=a.b/\h.b7=a.b7/\h.down=a.down/\h.c9=a.c9/\h.dc=a.dc/\w)))))/\(b<=y.floor->W j->W j->W g->W g->F->K->D->g=G/\q/\u/\ai y f.st (b=f.bin/\t/\v/\r/\aw (c5.mk j j g g [] [] []) f.s (p/\m.b=a.b/\m.b7=a.b7/\m.down=a.down/\m.c9=a.c9/\m.dc=a.dc/\w)))))))) (h.bR g)) A.1) (q/\u/\ai i.st f.st (i.bin=f.bin/\t/\v/\r/\aw i.s f.s (p/\n.d.b=a.b/\n.d.b7=a.b7/\n.d.down=a.down/\n.d.c9=a.c9/\n.d.dc=a.dc/\w))) (ik m y [dm.mk j b g []])) (i.me=f.me) (I=f.b5) (i.ee=f.ee) (i.ea=f.ea) (i.b8=f.b8) (n.vs=z.vs/\n.bn=z.bn/\n.nx=z.nx/\n.mt=z.mt)) (n.rp=z.rp) z.d z.c) (C.cut x) (dR n b).n) (bH b (max y.floor j)) (if n.d.down=true then n.d.up else n.d) (0:Int)) i.b5 (1:Int) (hX n.d.b).1) (hX n.d.b).2 ((0:Nat)*(64:Nat)<=(140737488355328:Nat)) ((0:Nat)*(32:Nat)<=(140737488355328:Nat)) ((0:Nat)*(16:Nat)<=(140737488355328:Nat)) (dR n b).e n.c);obtain⟨⟨L,c,d⟩,P,Q,S,o7,T⟩:=xa l;repeat' first|(with_reducible first|apply aH|refine aI ?_|intro)|exact aZ|exact aaj|exact RN|exact(Jm (n:=n.low) l.ok).1|exact(Jm (n:=n.low) l.ok).2.1|exact(Jm (n:=n.low) l.ok).2.2|exact(yh (n:=n) (b:=b) Y l B).1.1|exact(yh (n:=n) (b:=b) Y l B).1.2.1|exact(yh (n:=n) (b:=b) Y l B).1.2.2|exact(yh (n:=n) (b:=b) Y l B).2.1|exact(yh (n:=n) (b:=b) Y l B).2.2.1|exact(yh (n:=n) (b:=b) Y l B).2.2.2|(rw[aaa Y]<;>rfl)|(rw[aai Y Y]<;>rfl)|(rw[aav Y Y Y Y]<;>rfl)|(rw[aal Y Y Y Y]<;>rfl)|(rw[aat Y Y Y]<;>rfl)
def QC:CK 53 (aD iR wU λ(_,k,_) n=>⟨[y2 n],[],some (qX (({n with d:=n.d.bR k}:Nd).eW)),false⟩):=ag λ(_,k,_) n f=>by
 have g:=bw f;refine bh pj [] func53 (?_:(λa=>(λe=>W k->(0<=n.d.b7/\n.d.b7<=(n.d.b.length:Int)/\n.d.b.length<=65536)/\e.me=e.me/\e.ea=e.ea/\ai e.st e.st (e.bin=e.bin/\e.ee=e.ee/\e.b8=e.b8/\e.b5=e.b5/\aw e.s e.s (a.rp=a.rp/\a.d.b=a.d.b/\a.d.b7=a.d.b7/\a.d.down=a.d.down/\a.d.c9=a.d.c9/\a.d.dc=a.d.dc/\a.vs=a.vs/\a.bn=a.bn/\a.nx=a.nx/\a.mt=a.mt))) a.c) (Nd.mk n.c (n.d.bR k) n.rp n.vs n.bn n.nx n.mt).eW);obtain⟨⟨h,i,j⟩,l,m,o,o7,p⟩:=xa g;repeat' first|(with_reducible first|apply aH|refine aI ?_|intro)|exact aZ|exact rfl
def uZ:=(ae QC (ae TM (ae VY pj)))
def cG(n:Nd)(o:A5):Nd×E1:=
 if o.kind.toNat%8=0 then((dR n o.n).n,⟨[],0,0,(dR n o.n).e⟩)else if o.kind.toNat%8=1 then((dE n).n,⟨(dE n).l,0,0,(dE n).e⟩)
 else if o.kind.toNat%8=2 then(n,⟨(j_ n).1,0,0,(j_ n).2⟩)else if o.kind.toNat%8=3 then((dD n (mw o.x)).n,⟨(dD n (mw o.x)).l,0,0,(dD n (mw o.x)).e⟩)
 else if o.kind.toNat%8=4 then((dh n (iU o.c)).n,⟨[],(dh n (iU o.c)).a,(dh n (iU o.c)).b,(dh n (iU o.c)).e⟩)else if o.kind.toNat%8=5 then({n with d:=⟨n.d.b,n.d.b7,n.d.down,true,o.n⟩},⟨[],0,0,0⟩)
 else if o.kind.toNat%8=6 then(({n with d:=n.d.bR o.n}:Nd).eW,⟨[],0,0,0⟩)else(n,⟨[],0,0,0⟩)
section
variable{n:Nd}{o:A5}
def aqp(h:((o.kind&&&ofNat 7).toNat:Int)=((ofNat 0).toNat:Int)):cG n o=((dR n o.n).n,⟨[],0,0,(dR n o.n).e⟩):=by
 have e:=pK h am;simp[cG,e]
def aoR(h:((o.kind&&&ofNat 7).toNat:Int)=((ofNat 1).toNat:Int)):cG n o=((dE n).n,⟨(dE n).l,0,0,(dE n).e⟩):=by
 have e:=pK h am;simp[cG,e]
def an5(h:((o.kind&&&ofNat 7).toNat:Int)=((ofNat 2).toNat:Int)):cG n o=(n,⟨(j_ n).1,0,0,(j_ n).2⟩):=by
 have e:=pK h am;simp[cG,e]
def aoK(h:((o.kind&&&ofNat 7).toNat:Int)=((ofNat 3).toNat:Int)):cG n o=((dD n (mw o.x)).n,⟨(dD n (mw o.x)).l,0,0,(dD n (mw o.x)).e⟩):=by
 have e:=pK h am;simp[cG,e]
def aoV(h:((o.kind&&&ofNat 7).toNat:Int)=((ofNat 4).toNat:Int)):cG n o=((dh n (iU o.c)).n,⟨[],(dh n (iU o.c)).a,(dh n (iU o.c)).b,(dh n (iU o.c)).e⟩):=by
 have e:=pK h am;simp[cG,e]
def an3(h:((o.kind&&&ofNat 7).toNat:Int)=((ofNat 5).toNat:Int)):cG n o=({n with d:=⟨n.d.b,n.d.b7,n.d.down,true,o.n⟩},⟨[],0,0,0⟩):=by
 have e:=pK h am;simp[cG,e]
def aoC(h:((o.kind&&&ofNat 7).toNat:Int)=((ofNat 6).toNat:Int)):cG n o=(({n with d:=n.d.bR o.n}:Nd).eW,⟨[],0,0,0⟩):=by
 have e:=pK h am;simp[cG,e]
def arQ(a:¬((o.kind&&&ofNat 7).toNat:Int)=((ofNat 0).toNat:Int))(b:¬((o.kind&&&ofNat 7).toNat:Int)=((ofNat 1).toNat:Int))(c:¬((o.kind&&&ofNat 7).toNat:Int)=((ofNat 2).toNat:Int))(d:¬((o.kind&&&ofNat 7).toNat:Int)=((ofNat 3).toNat:Int))(e:¬((o.kind&&&ofNat 7).toNat:Int)=((ofNat 4).toNat:Int))(f:¬((o.kind&&&ofNat 7).toNat:Int)=((ofNat 5).toNat:Int))(g:¬((o.kind&&&ofNat 7).toNat:Int)=((ofNat 6).toNat:Int)):cG n o=(n,⟨[],0,0,0⟩):=by
 simp[cG,ql a am,ql b am,ql c am,ql d am,ql e am,ql f am,ql g am]
end
def Hu:CK 6 (aD ij av λ(me,a,_) _=>⟨[3<=a/\a<=5/\0<=me/\me<a],[.c (.ptr 0 0),.c (.int (0))],some ([.box 70 (Wa 0 ((eM me a).c)++[.fz (.nm .l8) ((eM me a).rp),.em true,.em true,.em true,.em true]),.box 63 ([.fz .u8 ((eM me a).d.b),.int ((eM me a).d.b7),.bool (.atom ((eM me a).d.down)),.bool (.atom ((eM me a).d.c9)),.int ((eM me a).d.dc)])]),true⟩):=ag λ(me,a,_) _ i=>by
 have j:=bw i;refine bU uZ [] func6 (?_:(λh e=>(λf=>(λg=>W me->W a->(((a<3\/5<a)\/me<e)\/a<=me->1=e/\e=f.me/\e=f.ea/\False/\e=f.st.floor/\e=f.st.a8/\e=f.st.hQ/\f.st.log=[]/\e=f.bin/\e=f.ee/\e=f.b8/\e=f.b5/\e=g.bo/\e=g.next/\e=g.dc/\e=g.eR/\g.c8=[]/\g.eb=[]/\g.c3=[]/\h.rp=[]/\False)/\(((3<=a/\a<=5)/\e<=me)/\me<a->e=e/\me=f.me/\a=f.ea/\e=f.st.floor/\e=f.st.a8/\e=f.st.hQ/\f.st.log=[]/\e=f.bin/\e=f.ee/\e=f.b8/\e=f.b5/\e=g.bo/\e=g.next/\e=g.dc/\e=g.eR/\g.c8=[]/\g.eb=[]/\g.c3=[]/\h.rp=[]/\h.d.b=[]/\e=h.d.b7/\true=h.d.down/\false=h.d.c9/\e=h.d.dc)) f.s) h.c) (eM me a) (0:Int));repeat' first|(with_reducible first|apply aH|refine aI ?_|intro)|exact aZ|exact rfl|(exfalso;omega)
def Zq(me:Int)(a:Int)(f:3<=a/\a<=5/\0<=me/\me<a):r8 prog (bj p6) 6 [.c (.int me),.c (.int a)] [] ⟨[3<=a/\a<=5/\0<=me/\me<a],[.c (.ptr 0 0),.c (.int (0))],some ([.box 70 (Wa 0 ((eM me a).c)++[.fz (.nm .l8) ((eM me a).rp),.em true,.em true,.em true,.em true]),.box 63 ([.fz .u8 ((eM me a).d.b),.int ((eM me a).d.b7),.bool (.atom ((eM me a).d.down)),.bool (.atom ((eM me a).d.c9)),.int ((eM me a).d.dc)])]),true⟩:=Hu _ _ _ rfl (by intro p e;simp only[v7,T1,or_false]at e;subst e;exact f)
def aez(me:Int)(a:Int)(b:3<=a/\a<=5/\0<=me/\me<a):r8 prog (bj p6) 6 [.c (.int me),.c (.int a)] [] ⟨[3<=a/\a<=5/\0<=me/\me<a],[.c (.ptr 0 0),.c (.int (0))],some (qX (eM me a)),true⟩:=r8.vk 0 22 3 .int cj rfl rfl (r8.vk 0 21 3 .int cj rfl rfl (r8.vk 0 20 3 .int cj rfl rfl (r8.vk 0 19 4 .bool cj rfl rfl (Zq me a b) rfl) rfl) rfl) rfl
def af7:CK 6 (aD ij av λ(me,a,_) _=>⟨[3<=a/\a<=5/\0<=me/\me<a],[.c (.ptr 0 0),.c (.int (0))],some (qX (eM me a)),true⟩):=ag λ(me,a,_) _ b=>aez me a (bw b)
def Ko:CK 13 (aD (ak iD (ak (kT (.nm .nop)) bS)) wU λ(_,o,_) n=>⟨[y2 n,n.c.bin=0->n.d.down=true],[.agg ([.fz (.nm .letter) ((cG n o).2.l),.int ((cG n o).2.a),.int ((cG n o).2.b),.int ((cG n o).2.e)])],some (qX ((cG n o).1)),false⟩):=ag λ(_,o,_) n P=>by
 have e:=bw P;have Q:=bw (de P);refine bh uZ [] func13 (?_:(λk J m p K=>(λg I=>(λh r=>(λH t u G q i=>(λL j=>(λv w y z f=>(λA B C D F=>(λc=>vE o ((G=(↑(ofNat 0).toNat:Int)->y2 n/\(k.bin=J->n.d.down=true)/\(W (dR n o.n).e->H/\u/\t/\(dR n o.n).e=r.e/\p.c.me=f.me/\p.c.ea=C/\ai p.c.st f.st (p.c.bin=A/\p.c.ee=B/\p.c.b8=D/\p.c.b5=F/\aw p.c.s f.s (p.rp=i.rp/\p.d.b=j.b/\p.d.b7=z/\p.d.down=v/\p.d.c9=y/\p.d.dc=w/\p.vs=i.vs/\p.bn=i.bn/\p.nx=i.nx/\p.mt=i.mt))))/\(¬G=(↑(ofNat 0).toNat:Int)->(G=(↑(ofNat 1).toNat:Int)->y2 n/\((dE n).l.length*96<=140737488355328->W (dE n).e->(dE n).l=r.l/\u/\t/\(dE n).e=r.e/\m.c.me=f.me/\m.c.ea=C/\ai m.c.st f.st (m.c.bin=A/\m.c.ee=B/\m.c.b8=D/\m.c.b5=F/\aw m.c.s f.s (m.rp=i.rp/\m.d.b=j.b/\m.d.b7=z/\m.d.down=v/\m.d.c9=y/\m.d.dc=w/\m.vs=i.vs/\m.bn=i.bn/\m.nx=i.nx/\m.mt=i.mt))))/\(¬G=(↑(ofNat 1).toNat:Int)->(G=(↑(ofNat 2).toNat:Int)->k.ea<=5/\(k.ee=2->(n.nx.length:Int)=k.ea)/\((j_ n).1.length*96<=140737488355328->W (j_ n).2->(j_ n).1=r.l/\u/\t/\(j_ n).2=r.e/\c))/\(¬G=(↑(ofNat 2).toNat:Int)->(G=(↑(ofNat 3).toNat:Int)->aP (mw o.x) (y2 n/\(K.l.length*96<=140737488355328->W K.e->K.l=r.l/\u/\t/\K.e=r.e/\g.c.me=f.me/\g.c.ea=C/\ai g.c.st f.st (g.c.bin=A/\g.c.ee=B/\g.c.b8=D/\g.c.b5=F/\aw g.c.s f.s (g.rp=i.rp/\g.d.b=j.b/\g.d.b7=z/\g.d.down=v/\g.d.c9=y/\g.d.dc=w/\g.vs=i.vs/\g.bn=i.bn/\g.nx=i.nx/\g.mt=i.mt)))))/\(¬G=(↑(ofNat 3).toNat:Int)->(G=(↑(ofNat 4).toNat:Int)->bf (iU o.c) (y2 n/\(W I.a->W I.b->W I.e->H/\I.a=r.a/\I.b=r.b/\I.e=r.e/\h.c.me=f.me/\h.c.ea=C/\ai h.c.st f.st (h.c.bin=A/\h.c.ee=B/\h.c.b8=D/\h.c.b5=F/\aw h.c.s f.s (h.rp=i.rp/\h.d.b=j.b/\h.d.b7=z/\h.d.down=v/\h.d.c9=y/\h.d.dc=w/\h.vs=i.vs/\h.bn=i.bn/\h.nx=i.nx/\h.mt=i.mt)))))/\(¬G=(↑(ofNat 4).toNat:Int)->(G=(↑(ofNat 5).toNat:Int)->H/\u/\t/\J=r.e/\k.me=f.me/\k.ea=C/\ai k.st f.st (k.bin=A/\k.ee=B/\k.b8=D/\k.b5=F/\aw k.s f.s (n.rp=i.rp/\n.d.b=j.b/\n.d.b7=z/\n.d.down=v/\true=y/\o.n=w/\L)))/\(¬G=(↑(ofNat 5).toNat:Int)->(G=(↑(ofNat 6).toNat:Int)->y2 n/\H/\u/\t/\J=r.e/\q.c.me=f.me/\q.c.ea=C/\ai q.c.st f.st (q.c.bin=A/\q.c.ee=B/\q.c.b8=D/\q.c.b5=F/\aw q.c.s f.s (q.rp=i.rp/\q.d.b=j.b/\q.d.b7=z/\q.d.down=v/\q.d.c9=y/\q.d.dc=w/\q.vs=i.vs/\q.bn=i.bn/\q.nx=i.nx/\q.mt=i.mt)))/\(¬G=(↑(ofNat 6).toNat:Int)->H/\u/\t/\J=r.e/\c))))))))) (k.me=f.me/\k.ea=C/\ai k.st f.st (k.bin=A/\k.ee=B/\k.b8=D/\k.b5=F/\aw k.s f.s (n.rp=i.rp/\n.d.b=j.b/\n.d.b7=z/\n.d.down=v/\n.d.c9=y/\n.d.dc=w/\L)))) f.bin f.ee f.ea f.b8 f.b5) j.down j.dc j.c9 j.b7 i.c) (n.vs=i.vs/\n.bn=i.bn/\n.nx=i.nx/\n.mt=i.mt) i.d) (r.l=[]) (J=r.b) (J=r.a) (↑(o.kind&&&ofNat 7).toNat:Int) (Nd.mk k (n.d.bR o.n) n.rp n.vs n.bn n.nx n.mt).eW (cG n o).1) I.n (cG n o).2) K.n (dh n (iU o.c))) n.c (0:Int) (dE n).n (dR n o.n).n (dD n (mw o.x)))
 obtain⟨⟨T,U,V⟩,b,S,d,o7,a⟩:=xa e;repeat' first|(with_reducible first|apply aH|refine aI ?_|intro)|exact aZ|exact e|exact(Q Y)|exact(e.l2 Y).1|exact S.2|(rw[aqp (n:=n) (o:=o) Y]<;>rfl)|(rw[aoR (n:=n) (o:=o) Y]<;>rfl)|(rw[an5 (n:=n) (o:=o) Y]<;>rfl)|(rw[aoK (n:=n) (o:=o) Y]<;>rfl)|(rw[aoV (n:=n) (o:=o) Y]<;>rfl)|(rw[an3 (n:=n) (o:=o) Y]<;>rfl)|(rw[aoC (n:=n) (o:=o) Y]<;>rfl)|(rw[arQ (n:=n) (o:=o) Y Y Y Y Y Y Y]<;>rfl)
def pZ:=(ae Ko (ae af7 (ae Hu uZ)))
def Lo(k:Int)(p:Option Field):Prop:=∀q,p=some q->q.num<k
def Fs(k:Int)(m:Nat)(l:List Field):Prop:=(∀p,Lo k p->dT p l=0)/\fO l<=m
variable{k:Int}
def Se:Fs k 0 []:=⟨λ_ _=>rfl,tw _⟩
variable{m:Nat}{l:List Field}
def HJ{f:Field}(h:Fs (f.num+1) m l)(t:k<=f.num)(u:1<=f.num/\f.num<=1000)(d:f.hC=0/\f.b=[]\/f.hC=2/\f.n.n=0)(v:f.b.length<=100)(g:f.n.n<18446744073709551616):Fs k (m+120) (f::l):=by
 refine⟨λp i=>?_,?_⟩
 .have j:du f=true:=by
   unfold du;rcases d with⟨a,c⟩|⟨a,c⟩<;>simp[a,c]<;>omega
  have o:Z9 p f=true:=by
   cases p with
   |none=>rfl
   |some q=>
    have:=i q rfl;simp only[Z9,dM];rw[X N];simp;omega
  have r:stepT p f=0:=by
   rw[stepT,X (by rw[j];decide),X (by rw[o];decide),X N]
  rw[dT,O r];exact h.1 _ λq e=>by cases e;omega
 have s:=h.2;have w:=kV f.num f.hC;have x:=cH g;have y:=cH (n:=f.b.length) N;have:(bW f).length<=120:=by
  unfold bW;split<;>simp only[s8]<;>omega
 simp only[fO,O5,List.sum_cons]at s⊢;omega
def Ge{a:Int}{b:Nat}(h:Fs k m l)(d:a<=k)(f:m<=b):Fs a b l:=⟨λp c=>h.1 p λq e=>by have:=c q e;omega,by have:=h.2;omega⟩
def ma{n:Int}(h:Fs (k+1) m l)(a:1<=k/\k<=1000)(b:n<=1048576):Fs k (m+120) (ou k n++l):=by
 unfold ou;split
 .exact Ge h N N
 exact HJ h (x5 _) a (.inl ⟨rfl,rfl⟩) aa (by dsimp only;omega)
def My{b:List UInt8}(h:Fs (k+1) m l)(a:1<=k/\k<=1000)(c:b.length<=100):Fs k (m+120) (sF k b++l):=by
 unfold sF;split
 .exact HJ h (x5 _) a (.inr ⟨rfl,rfl⟩) c (by dsimp only;omega)
 exact Ge h N N
def adg{c:b6}{v:Int}(h:aO c v=0):T7 c/\(bK c.c6).length<=100/\c.text.b.length<=100:=by
 obtain⟨_,g,_,d⟩:=nz h;have e:=pb g;unfold fX at d;simp only[r3,u9]at d;obtain⟨⟨⟨⟨⟨⟨⟨q,r⟩,s⟩,a⟩,i⟩,j⟩,n⟩,o⟩:=d;have t:=sP i am;have u:=sP j am;have w:=sP n am;have y:=sP o am;have z:=OV e;have A:=yF e;refine⟨⟨N,N,N,N,N,N⟩,?_,?_⟩
 .unfold bK;split
  .rename_i f;have:=tz f;have:=Dx λx p=>(nF f x p).2;omega
  simp
 unfold U7 at a;split at a
 .simp at a;omega
 simp at a;simp[a]
def alh{c:b6}{v:Int}(h:aO c v=0):dG c [] v=0:=by
 obtain⟨⟨⟨_,a⟩,⟨_,b⟩,⟨_,d⟩,⟨_,f⟩,⟨_,g⟩,⟨_,i⟩⟩,j,o⟩:=adg h;have r:=(nz h).1;have p:dy c [] v=0:=by
  have:aM v 1 3=true:=by unfold aM;simp;omega
  simp[dy,this,h]
 have n:Fs 1 1200 (bI c v):=by
  unfold bI px;simp only[J9,Q9];split
  .have k:=My (k:=8) (l:=[]) Se am o;rw[A1]at k;exact Ge (ma (ma (ma (ma (ma (ma (My k am j) am i) am g) am f) am d) am b) am a) (x5 _) am
  have k:=My (k:=7) (l:=[]) Se am j;rw[A1]at k;exact Ge (ma (ma (ma (ma (ma (ma k am i) am g) am f) am d) am b) am a) (x5 _) am
 rw[dG,O p,A1,ck,n.1 none (λq e=>by cases e),O rfl,X (by have:=n.2;omega)]
def akE{c:b6}{t v:Int}(h:aO c v=0):(ew c t v).2=0/\(ew c t v).1.a8=t:=by
 rw[en3 h (alh h)];exact⟨rfl,rfl⟩
def Nd.rf(n:Nd):Nd:={n with vs:=if n.c.ee=0 then[]else n.vs,bn:=if n.c.ee=0 then[]else n.bn,nx:=if n.c.ee=2 then n.nx else[],mt:=if n.c.ee=2 then n.mt else[]}
def bX(n:Nd):Nd:=if n.d.down=true then n.eW else n.rf
theorem Hk:∀{l:List dm} {s:b9},¬(eg s l).2=30
 |[],_=>by simp[eg]
 |r::l,s=>by
  rw[eg];split
  .exact Hk
  unfold aK;split
  .simp
  split<;>simp
section
variable{n:Nd}{l:List dm}{L:List dm}
def HW{d:j9}{s:b9}(h:d.down=false):(ik d s l).1.down=decide ((ik d s l).2.2=30):=by
 have a:=Hk (l:=l) (s:=s);unfold ik;split
 .simp[h]
 split
 .simp[h,a]
 split
 .simp[h]
 split
 .simp[h,j9.fQ];split<;>simp
 have b:(d.qs (l1 l)).down=false:=by unfold j9.qs;split<;>exact h
 generalize d.qs (l1 l)=q at*;cases c:q.c9<;>simp[j9.ek,j9.sync,b,c,j9.bR]
theorem tf(h:n.d.down=true):bX n=n.eW:=O h
theorem fE(h:n.d.down=false):bX n=n.rf:=X (jP h)
theorem r_d:(bX n).d=n.d:=by unfold bX;split<;>rfl
def ahi(h:p5 n):y2 (bX n):=by
 unfold bX;split
 .exact⟨⟨h.d,h.ea,h.me,by simp[Nd.eW,p0],by simp[Nd.eW,p0],by simp[Nd.eW,p0],.inl rfl,rfl⟩,.inl rfl,λq=>by cases q⟩
 refine⟨⟨h.d,h.ea,h.me,h.log,h.a8,h.y1,.inl rfl,h.rp⟩,?_,λq=>?_⟩
 .by_cases a:n.c.ee=0
  .exact .inl a
  have:=h.len.resolve_left a;simp only[Nd.rf,X a];exact .inr ⟨this.1,this.2.1⟩
 have q:n.c.ee=2:=q;have:=h.len.resolve_left N;simp only[Nd.rf,O q];exact this.2.2
def iV(h:n.d.down=false):n.rf.cf l=bX (n.fl l):=by
 have f:=HW (l:=l) (s:=n.c.st) h;by_cases a:(ik n.d n.c.st l).2.2=30
 .rw[al2 (n:=n.rf) a,tf (by show(ik n.d n.c.st l).1.down=true;rw[f,a];rfl)];rfl
 rw[fE (by show(ik n.d n.c.st l).1.down=false;rw[f];simp[a])];by_cases b:(ik n.d n.c.st l).2.2=0
 .rw[afT (n:=n.rf) b];rfl
 rw[aj7 (n:=n.rf) a b];have e:=gX b;simp only[Nd.rf,e]
def ph(h:rl n L)(a:n.d.down=false):¬n.rf.c.bin=0:=by
 have:=(h.up a).bin;show¬n.c.bin=0;omega
def Kq(a:n.d.down=false)(h:n.aB l=0):(n.fl l).d.down=false:=by
 have:=HW (l:=l) (s:=n.c.st) a;show(ik n.d n.c.st l).1.down=false;rw[this,show(ik n.d n.c.st l).2.2=0 from h];rfl
def afU(h:rl n L):dE (bX n)=⟨bX (bq n).n,(bq n).l,(bq n).e⟩:=by
 cases a:n.d.down;case true=>rw[ajj a,tf a,aho rfl]
 rw[fE a];have i:=ph h a;by_cases b:n.c.ee=2
 .rw[agl a b,agQ i b];simp[fE a]
 by_cases f:(ax n.c.st n.c.me).2=0;case neg=>rw[agN a b f,ai7 i b f];simp[fE a];rfl
 by_cases g:n.aB (ax n.c.st n.c.me).1=0;case neg=>rw[aja a b f g,akI (n:=n.rf) i b f g];exact o9 (λq=>B7.mk q _ _) (iV a)
 rw[abF a b f g,adU (n:=n.rf) i b f g];have e:n.rf.cf (ax n.rf.c.st n.rf.c.me).1=bX (n.fl (ax n.c.st n.c.me).1):=iV a;have j:=Kq a g;rw[e,fE j,fE (n:=(n.fl (ax n.c.st n.c.me).1).fi) j];simp[Nd.rf,Nd.hQ,Nd.fi,b,qn,hP,dI,lU]
theorem acL(h:rl n L):qG (bX n)=mY n:=by
 cases a:n.d.down
 .rw[fE a,Hg (ph h a),NH a];rfl
 rw[tf a,Ii rfl,Rw a]
def VG(h:rl n L){t:Int}:gN (bX n) k t=gS n k t:=by
 cases a:n.d.down
 .rw[fE a,gN,X (ph h a),gS,X (jP a)];rfl
 rw[tf a,alL rfl,alS a]
def aa1(h:rl n L)(f:n.d.down=false)(b:n.c.ee=2){a:Int}(g:a≠n.c.me/\0<=a/\a<n.c.ea):tI n.rf a=[(iJ n a).1]:=by
 have e:iJ n.rf a=iJ n a:=by
  have:n.rf.nx=n.nx:=O b;unfold iJ;rw[this];rfl
 rw[tI,e,O (aet h f b g)]
theorem Uf(h:rl n L)(a:n.d.down=false)(b:n.c.ee=2):∀{l:List Int},(∀to∈l,to≠n.c.me/\0<=to/\to<n.c.ea)->(l.flatMap (tI n.rf),(0:Int))=db n l
 |[],_=>rfl
 |to::l,e=>by
  have k:=Uf h a b (l:=l) λt f=>e t (by simp[f]);have g:=aet h a b (e to aa);rw[db,O g,<-k,G9,aa1 h a b (e to aa)];rfl
def En(h:rl n L):j_ (bX n)=cM n:=by
 cases a:n.d.down;case true=>rw[tf a,akd rfl,alB a]
 rw[fE a];by_cases b:n.c.ee=2
 .rw[j_,X (ph h a),O (show n.rf.c.ee=2 from b),afS a b,<-Uf h a b λf e=>t_ e];rfl
 rw[alk (ph h a) b,alx a b]
def Yw(h:rl n L){b:Int}:dR (bX n) b=⟨bX (bk n b).n,[],(bk n b).e⟩:=by
 cases a:n.d.down;case false=>rw[abw a,fE a,aaa (ph h a)]
 rw[tf a];by_cases c:bH b (max (hX n.d.b).1.floor 1)=0;case neg=>rw[afZ a c,aai (n:=n.eW) rfl c];simp[tf a];rfl
 have i:(n.fr b).d.down=false:=by
  show(j9.cut _ _).down=false;rw[(rK a h.ok.d).2.2]
 by_cases g:(hX n.d.b).1.floor<b
 .by_cases f:(n.fr b).aB [⟨1,b,0,[]⟩]=0
  .rw[Yz a c g f,aav (n:=n.eW) rfl c g f,fE (n:=(n.fr b).fl _) (Kq i f)];rfl
  rw[ZJ a c g f,aal (n:=n.eW) rfl c g f];dsimp only;rw[tf rfl];rfl
 rw[YU a c N,aat (n:=n.eW) rfl c (show b<=(hX n.d.b).1.floor by omega),fE i];rfl
theorem ady(h:rl n L){c:b6}:dh (bX n) c=⟨bX (dB n c).n,(dB n c).a,(dB n c).b,(dB n c).e⟩:=by
 cases g:n.d.down;case true=>rw[agy g,tf g,agt rfl]
 rw[fE g];have r:=ph h g;by_cases i:n.c.ee=2;case neg=>rw[aiV g i,ak2 (n:=n.rf) r i];simp[fE g]
 have z:n.rf.bn=n.bn:=X N;by_cases j:aO c n.c.s.bo=0;case neg=>rw[ahI g i j,amp (n:=n.rf) r i j];simp[fE g];rfl
 by_cases v:c.kind=8/\¬c.n=n.c.s.bo+1
 .rw[akD g i j v.1 v.2,alE (n:=n.rf) r i j v.1 v.2];simp[fE g]
 have o:¬c.kind=8\/c.n=n.c.s.bo+1:=by omega
 by_cases u:c.kind=8/\eQ n.c.s.bo n.bn=false
 .rw[ahv g i j o u.1 u.2,agx (n:=n.rf) r i j u.1 (o.resolve_left λq=>q u.1) (by rw[z];exact u.2)];simp[fE g]
 have p:¬c.kind=8\/eQ n.c.s.bo n.bn=true:=by
  by_cases q:c.kind=8
  .exact .inr (by cases e:eQ n.c.s.bo n.bn<;>simp_all)
  exact .inl q
 have y:¬c.kind=8\/c.n=n.rf.c.s.bo+1/\eQ n.rf.c.s.bo n.rf.bn=true:=by
  rw[z];by_cases q:c.kind=8
  .exact .inr ⟨o.resolve_left λf=>f q,p.resolve_left λf=>f q⟩
  exact .inl q
 by_cases B:64<=(n.c.st.log.length:Int)
 .rw[al5 g i j o p N,afL (n:=n.rf) r i j y B];simp[fE g]
 obtain⟨A,C⟩:=akE (t:=n.c.st.a8) j;have w:[⟨3,(n.c.st.log.length:Int)+1,(ew c n.c.st.a8 n.c.s.bo).1.a8,(ew c n.c.st.a8 n.c.s.bo).1.b⟩]=Er n.rf c:=by rw[C];rfl
 by_cases x:n.aB (Er n.rf c)=0
 .rw[ahx g i j o p N A (by rw[w];exact x),abU (n:=n.rf) r i j y (by show(n.c.st.log.length:Int)<64;omega) x,iV g,w];rfl
 rw[akS g i j o p N A (by rw[w];exact x),afw (n:=n.rf) r i j y (by show(n.c.st.log.length:Int)<64;omega) x,iV g,w];rfl
end
theorem aaW:∀{k:Nat} {n:Nd},n.rf.dk k=(n.dk k).rf
 |0,_=>rfl
 |k+1,n=>by
  unfold Nd.dk;by_cases h:n.c.b5<n.c.b8
  .rw[O h,O (show n.rf.c.b5<n.rf.c.b8 from h)];by_cases a:pE n.c.bin ((n.c.st.log.drop n.c.b5.toNat).take 1)=0
   .rw[O a,O (show pE n.rf.c.bin ((n.rf.c.st.log.drop n.rf.c.b5.toNat).take 1)=0 from a)];exact aaW (n:={n with c:={n.c with s:=x8 n.c.bin n.c.s ((n.c.st.log.drop n.c.b5.toNat).take 1),b5:=n.c.b5+1},rp:=n.rp++B3 n.c.bin n.c.s ((n.c.st.log.drop n.c.b5.toNat).take 1)})
   rw[X a,X (show¬pE n.rf.c.bin ((n.rf.c.st.log.drop n.rf.c.b5.toNat).take 1)=0 from a)]
  rw[X h,X (show¬n.rf.c.b5<n.rf.c.b8 from h)]
variable{n:Nd}
def FD:n.rf.apply=n.apply.rf:=aaW
theorem Tc:∀{k:Nat} {n:Nd},(n.dk k).c.ee=n.c.ee/\(n.dk k).c.ea=n.c.ea
 |0,_=>⟨rfl,rfl⟩
 |k+1,n=>by
  unfold Nd.dk;split
  .split
   .exact Tc
   exact⟨rfl,rfl⟩
  exact⟨rfl,rfl⟩
def Qq:n.apply.d=n.d:=Qj.2.1
section
variable{n:Nd}{x:ep}{L:List dm}
def yr(a b:B7):Prop:=a=⟨bX b.n,b.l,b.e⟩
def OZ:n.rf.fT=n.follow.rf:=by simp[Nd.rf,Nd.fT,Nd.follow]
def aaX(a:n.d.down=false)(f:nd x=0)(g:x.kind=1):yr (mi n.rf x) (dF n x):=by
 have b:(aA n.c.st x).2.2=0:=by
  unfold aA;rw[X N];repeat' split
  all_goals rfl
 by_cases h:n.aB (aA n.c.st x).1=0
 .rw[yr,ak6 b h,ahk (n:=n.rf) h];have e:n.rf.cf (aA n.rf.c.st x).1=bX (n.fl (aA n.c.st x).1):=iV a;rw[e,fE (Kq a h)];rfl
 rw[yr,agz b h,akJ (n:=n.rf) h];exact o9 (λq=>B7.mk q _ _) (iV a)
def DR(j:n.d.down=false)(o:cm n.c x=true)(p:x.kind=3):yr (dQ n.rf x) (cN n x):=by
 have f:=((ry o).2 p).1;by_cases h:n.aB (aq n.c.st x).1=0;case neg=>
  rw[yr,ai2 f h,ahY (n:=n.rf) h];exact o9 (λq=>B7.mk q _ _) (iV j)
 have g:=Kq j h;have e:n.rf.cf (aq n.rf.c.st x).1=(n.fl (aq n.c.st x).1).rf:=(iV j).trans (fE g);have i:(n.rf.cf (aq n.rf.c.st x).1).c.st.a8=(n.fl (aq n.c.st x).1).c.st.a8:=by rw[e];rfl
 by_cases a:x.a8=(n.fl (aq n.c.st x).1).c.st.a8<;>cases b:(aq n.c.st x).2.1
 .rw[yr,ahM f h a b,ajA (n:=n.rf) h (a.trans i.symm) b,e,OZ];dsimp only;rw[fE (n:=(n.fl (aq n.c.st x).1).follow) g];rfl
 .rw[yr,alo f h a b,amo (n:=n.rf) h (a.trans i.symm) b,e,OZ];dsimp only;rw[fE (by rw[Qq];exact g),<-FD];simp[Nd.rf,Nd.follow,lU]
 .rw[yr,agG f h a b,akp (n:=n.rf) h (λq=>a (q.trans i)) b,e,fE g];rfl
 rw[yr,ahl f h a b,ais (n:=n.rf) h (λq=>a (q.trans i)) b,e];dsimp only;rw[fE (by rw[Qq];exact g),<-FD];rfl
def aeD(h:rl n L)(f:n.d.down=false)(i:n.c.ee=1):yr (fZ n.rf) (gC n):=by
 obtain⟨s,k⟩:=OJ h f i;have t:=h.ok.len.resolve_left N;have u:=h.ok.ea;have v:=Kq (n:={n with c:={n.c with ee:=2},nx:=replicate n.nx.length ((n.c.st.log.length:Int)+1),mt:=replicate n.mt.length 0}) (l:=[⟨3,(n.c.st.log.length:Int)+1,n.c.st.a8,[]⟩]) f;have e:gZ n.rf n.rf.c.ea.toNat=({n with c:={n.c with ee:=2},nx:=replicate n.nx.length ((n.c.st.log.length:Int)+1),mt:=replicate n.mt.length 0}:Nd).rf:=by
  have o:n.nx.length=n.c.ea.toNat:=by omega
  have p:n.mt.length=n.c.ea.toNat:=by omega
  simp[gZ,Nd.rf,i,o,p]
 unfold gC at k⊢;rw[yr,fZ,e];dsimp only at k⊢;generalize r:({n with c:={n.c with ee:=2},nx:=replicate n.nx.length ((n.c.st.log.length:Int)+1),mt:=replicate n.mt.length 0}:Nd)=m at*;have a:m.d.down=false:=by rw[<-r];exact f
 by_cases j:(n.c.st.log.length:Int)+1<=64
 .rw[O j]at k⊢;rw[O (show(n.rf.c.st.log.length:Int)<64 by show(n.c.st.log.length:Int)<64;omega)];by_cases b:m.aB [⟨3,(n.c.st.log.length:Int)+1,n.c.st.a8,[]⟩]=0
  .rw[O b]at k⊢;rw[O (show m.rf.aB [⟨3,(n.rf.c.st.log.length:Int)+1,n.rf.c.st.a8,[]⟩]=0 from b)];have g:m.rf.cf [⟨3,(n.rf.c.st.log.length:Int)+1,n.rf.c.st.a8,[]⟩]=bX (m.fl [⟨3,(n.c.st.log.length:Int)+1,n.c.st.a8,[]⟩]):=iV a;rw[g,En k.inv]
  rw[X b,X (show¬m.rf.aB [⟨3,(n.rf.c.st.log.length:Int)+1,n.rf.c.st.a8,[]⟩]=0 from b)];exact o9 (λq=>B7.mk q _ _) (iV a)
 rw[X j]at k⊢;rw[X (show¬(n.rf.c.st.log.length:Int)<64 by show¬(n.c.st.log.length:Int)<64;omega)];have g:j_ m.rf=cM m:=by rw[<-fE a];exact En k.inv
 rw[g,fE a]
def afc(h:rl n L)(p:n.d.down=false)(j:n.c.ee=2)(t:0<=x.a)(r:x.l5≠n.c.me/\0<=x.l5/\x.l5<n.c.ea):yr ⟨(dS n.rf x).n,(dS n.rf x).l,0⟩ (gP n x):=by
 obtain⟨u,k⟩:=Qv h p j t r;have e:n.rf.sG x=(n.sG x).rf:=by simp[Nd.rf,Nd.sG,j]
 have g:(n.sG x).apply.d.down=false:=by rw[Qq];exact p
 have v:(n.sG x).apply.c.st=n.c.st:=Qj.2.2.2;have b:(n.sG x).apply.c.ee=2:=Tc.1.trans j;have f:x.l5≠(n.sG x).apply.c.me/\0<=x.l5/\x.l5<(n.sG x).apply.c.ea:=by
  rw[show(n.sG x).apply.c.me=n.c.me from Qj.2.2.1,show(n.sG x).apply.c.ea=n.c.ea from Tc.2];exact r
 have w:(n.sG x).apply.rf.nx=(n.sG x).apply.nx:=O b;unfold gP at k⊢;rw[yr,dS,e,FD];dsimp only at k⊢;generalize(n.sG x).apply=m at*;have o:m.rf.c.st.log.length=n.c.st.log.length:=by show m.c.st.log.length=_;rw[v]
 rw[o,w];by_cases i:(n.c.st.log.length:Int)<m.nx.getD x.l5.toNat 0
 .rw[O i,O i,fE g]
 rw[X i]at k⊢;have s:rl m u:=by
  by_cases q:(iJ m x.l5).2=0
  .rw[O q]at k;exact k.inv
  rw[X q]at k;exact k.inv
 rw[X i,aa1 s g b f,O (aet s g b f),fE g]
def aaP(h:rl n L)(b:n.d.down=false)(r:G0 n x)(y:n.c.ee≠0->x.a8<=n.c.st.a8):yr (vL n.rf x) (bQ n x):=by
 have D:=fC r.may;have z:=nR r.may;have t:x.l5≠n.c.me/\0<=x.l5/\x.l5<n.c.ea:=⟨by have:=r.to;omega,N,r.l5⟩;have i:=h.up b;have o:(ao n.c.st x.a8).length<=6:=zc gA am;by_cases f:n.aB (ao n.c.st x.a8)=0;case neg=>
  rw[yr,aby f,vL,O (.inl (.inl f))];exact o9 (λq=>B7.mk q _ _) (iV b)
 have v:=Kq b f;have e:n.rf.cf (ao n.rf.c.st x.a8)=(n.fl (ao n.c.st x.a8)).rf:=(iV b).trans (fE v);by_cases g:¬x.a8=(n.fl (ao n.c.st x.a8)).c.st.a8\/(n.fl (ao n.c.st x.a8)).c.ee=0
 .rw[yr,XU f g,vL,e,O (g.elim (λq=>.inl (.inr q)) .inr),fE v];exact o9 (λq=>B7.mk _ _ q) f
 rw[not_or]at g;have j:n.c.ee≠0:=g.2;have s:n.fl (ao n.c.st x.a8)=n:=(nO h b o kF f).no (by unfold ao;rw[O (y j)]);rw[yr,KZ f (A0.1 g.1) g.2];unfold R3 UM vL;rw[s]at g;rw[e,s];have u:=h.ok.len.resolve_left j;have w:∀{vs:List Bool},vs.length=n.vs.length->rl ⟨n.c,n.d,n.rp,vs,n.bn.set x.l5.toNat x.bin,n.nx,n.mt⟩ L:=λ{vs} A=>
  ⟨⟨h.ok.d,h.ok.ea,h.ok.me,h.ok.log,h.ok.a8,h.ok.y1,.inr ⟨by dsimp only;rw[A];exact u.1,by dsimp only;rw[B1];exact u.2.1,u.2.2⟩,h.ok.rp⟩,h.d,h.le,λ_=>⟨i.st,i.bin,i.ee,i.hQ,i.nx,i.pl⟩⟩
 have B:Mm n.rf x=(⟨n.c,n.d,n.rp,n.vs,n.bn.set x.l5.toNat x.bin,n.nx,n.mt⟩:Nd).rf:=by
  unfold Mm;rw[e,s];simp[Nd.rf,j]
 have C:JU n.rf x=(⟨n.c,n.d,n.rp,n.vs.set x.l5.toNat true,n.bn.set x.l5.toNat x.bin,n.nx,n.mt⟩:Nd).rf:=by
  unfold JU;rw[e,s];simp[Nd.rf,j]
 rw[X (show¬((¬n.rf.aB (ao n.rf.c.st x.a8)=0\/¬x.a8=n.rf.c.st.a8)\/n.rf.c.ee=0) by rintro((q|q)|q);exact q f;exact g.1 q;exact j q),B,C];by_cases p:(x.kind=2/\x.ok=true)/\n.c.ee=1
 .rw[O p,O (show(x.kind=2/\x.ok=true)/\n.rf.c.ee=1 from p)];have ev:(⟨n.c,n.d,n.rp,n.vs.set x.l5.toNat true,n.bn.set x.l5.toNat x.bin,n.nx,n.mt⟩:Nd).rf.vs=n.vs.set x.l5.toNat true:=X j;rw[ev];by_cases a:gp (n.vs.set x.l5.toNat true)=true
  .rw[O a,O a];exact aeD (w (vs:=n.vs.set x.l5.toNat true) B1) b p.2
  rw[X a,X a,fE (by exact b)]
 rw[X p,X (show¬((x.kind=2/\x.ok=true)/\n.rf.c.ee=1)from p)];by_cases a:x.kind=4/\n.c.ee=2
 .rw[O a,O (show x.kind=4/\n.rf.c.ee=2 from a)];exact afc (w (vs:=n.vs) rfl) b a.2 N t
 rw[X a,X (show¬(x.kind=4/\n.rf.c.ee=2)from a),fE (by exact b)]
def ac2(h:rl n L):yr (dD (bX n) x) (bL n x):=by
 cases a:n.d.down;case true=>rw[yr,acH a,tf a,ahL rfl]
 rw[fE a];have j:=ph h a;cases b:cm n.c x
 .rw[yr,ab_ a b,ajc (n:=n.rf) j (by show(!cm n.c x)=true;rw[b];rfl),fE a]
 have f:=(ry b).1;have g:(!cm n.rf.c x)=false:=by show(!cm n.c x)=false;rw[b];rfl
 by_cases o:n.c.st.a8<x.a8
 .rw[KX a b o,RY (n:=n.rf) (m:=n.follow.rf) j g (by rw[<-OZ];exact O o)];have i:n.follow.c.ee≠0->x.a8<=n.follow.c.st.a8:=λi=>absurd rfl i;split
  .rename_i e;exact aaX a f.may e
  split
  .rename_i e;exact DR a (aeW b) e
  exact aaP h.follow a ⟨f.may,f.to,f.l5⟩ i
 rw[KL a b N,RY (n:=n.rf) (m:=n.rf) j g (X o)];have i:n.c.ee≠0->x.a8<=n.c.st.a8:=λ_=>by omega
 split
 .rename_i e;exact aaX a f.may e
 split
 .rename_i e;exact DR a b e
 exact aaP h a f i
def afM{o:A5}(h:rl n L):cG (bX n) o=(bX (cY n o).1,(cY n o).2):=by
 unfold cG cY;split
 .rw[Yw h]
 split
 .rw[afU h]
 split
 .rw[En h]
 split
 .rw[ac2 h]
 split
 .rw[ady h]
 split
 .congr 1;unfold bX;split<;>rfl
 split
 .congr 1;rw[tf (n:={n with d:=n.d.bR o.n}) rfl];unfold bX;split<;>rfl
 rfl
end
structure H9 where
 i:Nat
 n:Nd
structure I9 where
 i:Nat
 n:Nd
 k:Nat
structure NI(n:Nd):Prop where
 ex:∃L,rl n L
section
variable{n:Nd}{o x y:A5}{l:List A5}{i k:Nat}
theorem NI.ok(h:NI n):p5 n:=by obtain⟨L,h⟩:=h.ex;exact h.ok
variable{ea me:Int}
def aqb(h:3<=ea/\ea<=5/\0<=me/\me<ea):NI (eM me ea):=⟨[],Hw N⟩
def adm:bX (eM me ea)=eM me ea:=rfl
def JX(h:NI n):NI (cY n o).1:=by
 obtain⟨L,h⟩:=h.ex;obtain⟨a,k⟩:=adv (o:=o) h;exact⟨a,k.inv⟩
def YC(h:NI n):NI (bq n).n:=by
 obtain⟨L,h⟩:=h.ex;obtain⟨a,k⟩:=yf h;exact⟨a,k.inv⟩
def anz(h:NI n):p5 {n with d:=n.d.bR 0}:=by
 obtain⟨L,h⟩:=h.ex;exact(HE h).inv.ok
def anm(h:NI n)(b:(bX n).c.bin=0):(bX n).d.down=true:=by
 obtain⟨L,h⟩:=h.ex;cases a:n.d.down
 .rw[fE a]at b;exact absurd b (ph h a)
 rw[tf a];exact a
def ai0(h:NI n):n.c.b5<=(n.c.st.log.length:Int)/\n.c.b5<=(n.rp.length:Int):=by
 have:=h.ok.y1;have:=h.ok.rp;omega
def ajI(h:NI n):(bX n).c.b5<=((bX n).c.st.log.length:Int)/\(bX n).c.b5<=((bX n).rp.length:Int):=by
 have k:=(ahi h.ok).ok;have a:=k.y1;have b:=k.rp;dsimp only at a b;omega
def agM(h:NI n):cG (bX n) o=(bX (cY n o).1,(cY n o).2):=by
 obtain⟨L,h⟩:=h.ex;exact afM h
def aaM(b:l[i]? =some x)(a:l[i]? =some y):y=x:=by rw[b]at a;cases a;rfl
def KF(h:((((decide ((cY n x).2.l=(cG (bX n) y).2.l)=false\/¬(cY n x).2.a=(cG (bX n) y).2.a)\/¬(cY n x).2.b=(cG (bX n) y).2.b)\/¬(cY n x).2.e=(cG (bX n) y).2.e)\/decide (mY (cY n x).1=qG (cG (bX n) y).1)=false)\/¬n9.mk (cY n x).1.d.b=n9.mk (cG (bX n) y).1.d.b)(f:l[i]? =some x)(g:l[i]? =some y)(c:NI n):false=true:=by
 rw[aaM f g,agM c]at h;obtain⟨L,j⟩:=(JX (o:=x) c).ex;simp[acL j,r_d]at h
def ZV{k:Int}(h:(¬(gS n (k+lZ x.n 3) k).1.code=(gN (bX n) (k+lZ y.n 3) k).1.code\/¬(gS n (k+lZ x.n 3) k).1.n=(gN (bX n) (k+lZ y.n 3) k).1.n)\/¬(gS n (k+lZ x.n 3) k).2=(gN (bX n) (k+lZ y.n 3) k).2)(a:l[i]? =some x)(b:l[i]? =some y)(c:NI n):false=true:=by
 obtain⟨L,d⟩:=c.ex;rw[aaM a b,VG d]at h;simp at h
def aqU(h:(k:Int)<4):W ((k:Int)+lZ x.n 3):=by
 have:=QU (z:=x.n) (m:=3) am am;exact aY N N
def ap0(h:(true=false\/¬(0:Int)=0)\/(decide ((0:Int)=0)==true)=false):false=true:=by simp at h
def arB{m:I9}{q:H9}{d:Nd}{b:Nat}(h:m.i=(I9.mk q.i d 0).i)(a:m.i<b):b-(m.i+1)<b-q.i:=by dsimp only at h;omega
end
def ZB(me:Int)(a:Int)(l:List A5):List (Nat×LI):=[(10,{σ:=H9,F:=λq=>([(2,one (.fz (.nm .nop) (l.take 40))),(8,one (.ptr 0 0)),(10,one (.ptr 8 0)),(12,one (.int q.i))],(om (q.n)++(Z5 8 (bX q.n)))),J:=λq=>q.i<=(l.take 40).length/\NI q.n,μ:=λq=>(l.take 40).length-q.i}),(27,{σ:=I9,F:=λq=>([(2,one (.fz (.nm .nop) (l.take 40))),(8,one (.ptr 0 0)),(10,one (.ptr 8 0)),(12,one (.int q.i)),(18,one (.int q.k))],(om (q.n)++(Z5 8 (bX q.n)))),J:=λq=>q.i<(l.take 40).length/\NI q.n/\q.k<=4,μ:=λq=>4-q.k,R:=some λb q=>q.i=b.i/\q.n=b.n})]
set_option maxHeartbeats 4000000 in
set_option maxRecDepth 8000 in
theorem Rn(me:Int)(h:Int)(l:List A5)(h0:3<=h/\h<=5/\0<=me/\me<h):r8 prog (bj p6) 3 [.c (.int me),.c (.int h),.c (.fz (.nm .nop) l)] [] {pre:=[3<=h/\h<=5/\0<=me/\me<h],rs:=[.c (.bool (.atom true))]}:=by
 refine al pZ (ZB me h l) func3 (?_:(λ(U:Nat)(V:Int)(m:UInt8)(S:Prop)(T:Int)(J:Nd)(w:Int)=>(λ(q9:Prop)(Q:Nat)=>(λ(c:List (l7 (Sh.nm NT.nop)))=>(λ(i:Int)=>W me->W h->l.length*200<=U->q9/\(W w->q9/\(W w->((true=false\/¬w=w)\/(decide (w=w)==true)=false->S)/\((true=true/\w=w)/\(decide (w=w)==true)=true->(¬w=w->true=true)/\(w=w->c.length*200<=U->∃(F:H9),(λ(o:Nd)=>(c=c/\w=(F.i:Int)/\wE J F.n (J.c.me=o.c.me/\J.c.ea=o.c.ea/\ai J.c.st o.c.st (J.c.bin=o.c.bin/\J.c.ee=o.c.ee/\J.c.b8=o.c.b8/\J.c.b5=o.c.b5/\aw J.c.s o.c.s (J.rp=o.rp/\J.d.b=o.d.b/\J.d.b7=o.d.b7/\J.d.down=o.d.down/\J.d.c9=o.d.c9/\J.d.dc=o.d.dc/\J.vs=o.vs/\J.bn=o.bn/\J.nx=o.nx/\J.mt=o.mt))))/\(F.i<=Q/\NI F.n)/\∀(s:H9),(λ(G:Nd)(B:Int)=>(λ(C:Nd)=>(λ(b:Nd)(g:Nd)=>s.i<=Q/\NI G->(B<i->w<=B/\B<i/\∀(x:A5),(λ(d:Prop)=>c[s.i]? =some x->vE x ((d->p5 G/\p5 G/\((bq G).l.length*96<=U->W (bq G).e->(w<=C.d.b7/\C.d.b7<=(C.d.b.length:Int)/\C.d.b.length<=65536)/\p5 b/\(W (bk b T).e->W (B+V)/\∃(A:H9),(λ(p:Nd)=>(c=c/\B+V=(A.i:Int)/\wE G A.n (g.c.me=p.c.me/\g.c.ea=p.c.ea/\ai g.c.st p.c.st (g.c.bin=p.c.bin/\g.c.ee=p.c.ee/\g.c.b8=p.c.b8/\g.c.b5=p.c.b5/\aw g.c.s p.c.s (g.rp=p.rp/\g.d.b=p.d.b/\g.d.b7=p.d.b7/\g.d.down=p.d.down/\g.d.c9=p.d.c9/\g.d.dc=p.d.dc/\g.vs=p.vs/\g.bn=p.bn/\g.nx=p.nx/\g.mt=p.mt))))/\(A.i<=Q/\NI A.n)/\Q-A.i<Q-s.i) (bX A.n))))/\(¬d->w<=B/\B<i/\∀(x:A5),(λ(a:Nd×E1)=>(λ(D:Nd)(y:E1)=>c[s.i]? =some x->vE x (p5 G/\(y.l.length*96<=U->W y.a->W y.b->W y.e->w<=B/\B<i/\∀(x:A5),(λ(Z:Nd×E1)=>(λ(z:E1)(f:Nd)=>c[s.i]? =some x->vE x (y2 g/\(g.c.bin=w->g.d.down=true)/\(z.l.length*96<=U->W z.a->W z.b->W z.e->zu (mY D) (zu (qG f) ((decide (y.l=z.l)=false->S)/\(decide (y.l=z.l)=true->(¬y.a=z.a->S)/\(y.a=z.a->(¬y.b=z.b->S)/\(y.b=z.b->(¬y.e=z.e->S)/\(y.e=z.e->(decide (mY D=qG f)=false->S)/\(decide (mY D=qG f)=true->(w<=D.d.b7/\D.d.b7<=(D.d.b.length:Int)/\D.d.b.length<=65536)/\(D.d.b.length*1<=U->(¬n9.mk D.d.b=n9.mk f.d.b->S)/\(n9.mk D.d.b=n9.mk f.d.b->∃(F:I9),(λ(q:Nd)=>(c=c/\B=(F.i:Int)/\w=(F.k:Int)/\wE D F.n (f.c.me=q.c.me/\f.c.ea=q.c.ea/\ai f.c.st q.c.st (f.c.bin=q.c.bin/\f.c.ee=q.c.ee/\f.c.b8=q.c.b8/\f.c.b5=q.c.b5/\aw f.c.s q.c.s (f.rp=q.rp/\f.d.b=q.d.b/\f.d.b7=q.d.b7/\f.d.down=q.d.down/\f.d.c9=q.d.c9/\f.d.dc=q.d.dc/\f.vs=q.vs/\f.bn=q.bn/\f.nx=q.nx/\f.mt=q.mt))))/\(F.i<Q/\NI F.n/\F.k<=4)/\(F.i=F.i/\F.n=F.n)/\∀(r:I9),(λ(P:Int)(H:Int)(v:Nd)=>(λ(I:j9)(j:w8)=>r.i<Q/\NI r.n/\r.k<=4->r.i=F.i/\r.n=F.n->(H<4->w<=P/\P<i/\∀(x:A5),(λ(K:l3×Int)=>c[r.i]? =some x->vE x (w<=T/\W (H+lZ x.n T)/\r.n.c.b5<=(r.n.c.st.log.length:Int)/\r.n.c.b5<=(r.n.rp.length:Int)/\(W K.1.code->W K.1.n->W K.2->w<=P/\P<i/\∀(x:A5),(λ(L:l3×Int)=>c[r.i]? =some x->vE x (w<=T/\W (H+lZ x.n T)/\j.b5<=(j.st.log.length:Int)/\j.b5<=(v.rp.length:Int)/\(W L.1.code->W L.1.n->W L.2->((¬K.1.code=L.1.code\/¬K.1.n=L.1.n)\/¬K.2=L.2->S)/\((K.1.code=L.1.code/\K.1.n=L.1.n)/\K.2=L.2->W (H+V)/\∃(A:I9),(λ(t:Nd)=>(c=c/\P=(A.i:Int)/\H+V=(A.k:Int)/\wE r.n A.n (j.me=t.c.me/\j.ea=t.c.ea/\ai j.st t.c.st (j.bin=t.c.bin/\j.ee=t.c.ee/\j.b8=t.c.b8/\j.b5=t.c.b5/\aw j.s t.c.s (v.rp=t.rp/\I.b=t.d.b/\I.b7=t.d.b7/\I.down=t.d.down/\I.c9=t.d.c9/\I.dc=t.d.dc/\v.vs=t.vs/\v.bn=t.bn/\v.nx=t.nx/\v.mt=t.mt))))/\(A.i<Q/\NI A.n/\A.k<=4)/\(A.i=F.i/\A.n=F.n)/\4-A.k<4-r.k) (bX A.n))))) (gN v (H+lZ x.n T) H)))) (gS r.n (H+lZ x.n T) H))/\(4<=H->W (P+V)/\∃(A:H9),(λ(u:Nd)=>(c=c/\P+V=(A.i:Int)/\wE r.n A.n (j.me=u.c.me/\j.ea=u.c.ea/\ai j.st u.c.st (j.bin=u.c.bin/\j.ee=u.c.ee/\j.b8=u.c.b8/\j.b5=u.c.b5/\aw j.s u.c.s (v.rp=u.rp/\I.b=u.d.b/\I.b7=u.d.b7/\I.down=u.d.down/\I.c9=u.d.c9/\I.dc=u.d.dc/\v.vs=u.vs/\v.bn=u.bn/\v.nx=u.nx/\v.mt=u.mt))))/\(A.i<=Q/\NI A.n)/\Q-A.i<Q-s.i) (bX A.n))) v.d v.c) (r.i:Int) (r.k:Int) (bX r.n)) (bX F.n))))))))))))) Z.2 Z.1) (cG g x)))) a.1 a.2) (cY G x)))) ((↑(x.kind&&&m).toNat:Int)=(m.toNat:Int)))/\(i<=B->true=true)) (Nd.mk C.c (C.d.bR w) C.rp C.vs C.bn C.nx C.mt) (bX G)) (bq G).n) s.n (s.i:Int)) (bX F.n)))))) (c.length:Int)) (take 40 l)) (T<=h/\h<=5/\w<=me/\me<h) (take 40 l).length) 140737488355328 1 (ofNat 7) (false=true) 3 (eM me h) 0)
 (repeat' with_reducible first|apply aH|refine aI ?_|intro)
 all_goals try(refine⟨H9.mk 0 (eM me h),?_⟩;(repeat' with_reducible first|apply aH|refine aI ?_|intro))
 all_goals try(repeat (have e:=aia (x:=‹A5›) Y;subst e))
 all_goals try(refine⟨I9.mk ‹H9›.i (cY ‹H9›.n ((take 40 l).getD ‹H9›.i (c4 (Sh.nm NT.nop)))).1 0,?_⟩;(repeat' with_reducible first|apply aH|refine aI ?_|intro))
 all_goals try(refine⟨I9.mk ‹I9›.i ‹I9›.n (‹I9›.k+1),?_⟩;(repeat' with_reducible first|apply aH|refine aI ?_|intro))
 all_goals try(refine⟨H9.mk (‹I9›.i+1) ‹I9›.n,?_⟩;(repeat' with_reducible first|apply aH|refine aI ?_|intro))
 all_goals try(refine⟨H9.mk (‹H9›.i+1) ‹H9›.n,?_⟩;(repeat' with_reducible first|apply aH|refine aI ?_|intro))
 all_goals(first|exact aZ|exact rfl|exact(aqb h0)|exact(ap0 Y)|(dsimp only;omega)|exact(NI.ok Y)|exact(JX Y)|exact(NI.ok (JX Y))|exact(NI.ok (JX Y)).d.1|exact(NI.ok (JX Y)).d.2.1|exact(NI.ok (JX Y)).d.2.2|exact(NI.ok (YC Y)).d.1|exact(NI.ok (YC Y)).d.2.1|exact(NI.ok (YC Y)).d.2.2|exact(anz (YC Y))|exact(ahi (NI.ok Y))|exact(anm Y Y)|exact(ai0 Y).1|exact(ai0 Y).2|exact(ajI Y).1|exact(ajI Y).2|(exact KF (.inl (.inl (.inl (.inl (.inl Y))))) Y Y Y)|(exact KF (.inl (.inl (.inl (.inl (.inr Y))))) Y Y Y)|(exact KF (.inl (.inl (.inl (.inr Y)))) Y Y Y)|(exact KF (.inl (.inl (.inr Y))) Y Y Y)|(exact KF (.inl (.inr Y)) Y Y Y)|(exact KF (.inr Y) Y Y Y)|(exact ZV Y Y Y Y)|(exact ZV (.inl (.inl Y)) Y Y Y)|(exact ZV (.inl (.inr Y)) Y Y Y)|(exact ZV (.inr Y) Y Y Y)|exact(aqU Y)|exact(arB Y Y)|(rw[adm]<;>rfl)|(rw[agM Y]<;>rfl))
def VT:CK 5 (aD ij av λ(me,a,_) _=>{pre:=[¬(3<=a/\a<=5/\0<=me/\me<a)],rs:=[.c (.np),.c (.int (1))]}):=ag λ(me,a,_) _ d=>by
 have e:=bw d;refine al pZ [] func5 (?_:(λ(b:Int)=>W me->W a->(((a<(3:Int)\/(5:Int)<a)\/me<b)\/a<=me->(1:Int)=(1:Int))/\((((3:Int)<=a/\a<=(5:Int))/\b<=me)/\me<a->(b<=b/\b<=(↑(0:Nat):Int)/\(0:Nat)<=(65536:Nat))/\False/\b=(1:Int))) (0:Int));repeat' first|(with_reducible first|apply aH|refine aI ?_|intro)|exact aZ|exact rfl|(exfalso;omega)
def XA:CK 6 (aD ij av λ(me,a,_) _=>⟨[¬(3<=a/\a<=5/\0<=me/\me<a)],[.c (.ptr 0 0),.c (.int (1))],some ([.box 70 ([.dead,.dead,.dead,.dead,.dead,.dead,.dead,.dead,.dead,.dead,.dead,.dead,.dead,.dead,.dead,.dead,.dead,.dead,.dead,.dead,.dead,.dead,.dead])]),true⟩):=ag λ(me,a,_) _ b=>by
 have d:=bw b;refine bU pZ [] func6 (?_:W me->W a->(((a<3\/5<a)\/me<0)\/a<=me->(1:Int)=1)/\(((3<=a/\a<=5)/\0<=me)/\me<a->(0:Int)=1));repeat' first|(with_reducible first|apply aH|refine aI ?_|intro)|exact aZ|exact rfl|(exfalso;omega)
def Mo:=(ae XA (ae VT pZ))
theorem RO(me:Int)(a:Int)(l:List A5)(e:¬(3<=a/\a<=5/\0<=me/\me<a)):r8 prog (bj p6) 3 [.c (.int me),.c (.int a),.c (.fz (.nm .nop) l)] [] {pre:=[¬(3<=a/\a<=5/\0<=me/\me<a)],rs:=[.c (.bool (.atom true))]}:=by
 refine al Mo [] func3 (?_:(λb=>(λd=>W me->W a->l.length*200<=140737488355328->d/\(W b->d/\(W b->((true=false\/¬b=b)\/(decide (b=0)==false)=false->false=true)/\((true=true/\b=b)/\(decide (b=0)==false)=true->(¬b=0->true=true)/\(b=0->(take 40 l).length*200<=140737488355328->False))))) ¬(3<=a/\a<=5/\0<=me/\me<a)) (1:Int));repeat' first|(with_reducible first|apply aH|refine aI ?_|intro)|exact aZ|exact rfl|(simp_all;done)
def YM(me a:Int)(l:List A5):r8 prog (bj p6) 3 [.c (.int me),.c (.int a),.c (.fz (.nm .nop) l)] [] {rs:=[.c (.bool (.atom true))]}:=by
 by_cases h:3<=a/\a<=5/\0<=me/\me<a
 .have k:=Rn me a l h;exact⟨k.1,k.2⟩
 have k:=RO me a l h;exact⟨k.1,k.2⟩
end Go.Proofs.YtoecbhljidgajaaGreat
namespace Go.Proofs.YtoecbhljidgajaaGreat
open Go.Proofs.Tryz
open Go.RowKit Go.ChangeShapes Go.WideShapes
def HB(shp:TypeId->Option Sh)(w:World):Cx:=cx ⟨shp,w.heap.size,λ_=>False⟩ [] w
def abV{shp:TypeId->Option Sh}{w:World}{s:Sh}{b:Nat}(h:b<w.heap.size):(HB shp w).at s b:=⟨⟨h,λ⟨_,_,h,_⟩=>by simp at h,λh=>h⟩,.inl h⟩
def Tr(P:Program)(shp:TypeId->Option Sh)(t:TypeId)(s:Sh):Prop:=
 ∀(H:Type) (b:TypeId×Value->H) (w:World) (a:Nat) (c:List Value) (x:DataW H×List MemPlace),
  trod b P w 0 (λ_=>true) true a t c=some x->(∀n∈x.1.weights P t,n<=140737488351232)->(∀q∈x.2,q.block<w.heap.size)->∃y:l7 s,r6 (HB shp w) (cellsOf s y) c
def adF:List Sh->List AV->Prop
 |[],a=>a=[]
 |s::r,a=>∃(y:l7 s) (l:List AV),a=cellsOf s y++l/\adF r l
def X1:List Sh->Nat
 |[]=>0
 |s::r=>s.size+X1 r
def n_(P:Program)(shp:TypeId->Option Sh)(d:List Go.Field)(o:Nat)(h:List Sh):Prop:=
 ∀(H:Type) (e:TypeId×Value->H) (w:World) (a:Nat) (g:List Value) (c:List (DataW H×List MemPlace)),
  g.length=o+X1 h->c.length=d.length->(∀(i:Nat) (f:Go.Field),d[i]? =some f->trod e P w 0 (λ_=>true) true a f.type ((g.drop f.offset).take (P.cellsOf f.type))=c[i]?)->
  (∀n∈weightsEach P (d.map (·.type)) (c.map (·.1)),n<=140737488351232)->(∀q∈c.flatMap (·.2),q.block<w.heap.size)->∃b,adF h b/\r6 (HB shp w) b (g.drop o)
section
variable{P:Program}{shp:TypeId->Option Sh}{t:TypeId}
theorem Tr.int(h:P.underlying t=some (.int .i64)):Tr P shp t .int:=λ_ b w a e x c _ _=>by
 obtain⟨n,rfl,_,d⟩:=trod_int h c;have f:IntKind.i64.min= -9223372036854775808:=rfl;have g:IntKind.i64.max=9223372036854775807:=rfl;simp only[Lit.wf,r3,u9]at d;exact⟨n,.cons (.int ⟨N,N⟩) .nil⟩
def Tr.bool(h:P.underlying t=some .bool):Tr P shp t .bool:=λ_ b w a d x c _ _=>by
 obtain⟨n,rfl,_⟩:=DataW.trod_bool h c;exact⟨n,.cons (Pd.bool (e:=.atom n)) .nil⟩
def Tr.u8(h:P.underlying t=some (.int .u8)):Tr P shp t .u8:=λ_ c w a f x d _ _=>by
 obtain⟨n,rfl,_,e⟩:=trod_int h d;have g:IntKind.u8.min=0:=rfl;have i:IntKind.u8.max=255:=rfl;simp only[Lit.wf,r3,u9]at e;refine⟨ofNat n.toNat,?_⟩;have:n=((ofNat n.toNat).toNat:Int):=by
  rw[J7];omega
 generalize j:ofNat n.toNat=b at this;subst this;exact .cons .u8 .nil
def Tr.u64(h:P.underlying t=some (.int .u64)):Tr P shp t .u64:=λ_ c w a f x d _ _=>by
 obtain⟨n,rfl,_,e⟩:=trod_int h d;have g:IntKind.u64.min=0:=rfl;have i:IntKind.u64.max=18446744073709551615:=rfl;simp only[Lit.wf,r3,u9]at e;refine⟨⟨n.toNat⟩,?_⟩;have:n=(n.toNat:Int):=by omega
 generalize j:n.toNat=b at this;subst this;exact .cons (.u64 (by show b<_;omega)) .nil
def Tr.str(h:P.underlying t=some .string):Tr P shp t .str:=λ_ d w b g x a f _=>by
 obtain⟨s,rfl,a,_⟩:=DataW.trod_string h a;refine⟨⟨s.data.toList⟩,?_⟩;have:=f s.data.toList.length (by rw[a];simp[weights]);have e:=Pd.str (c:=HB shp w) (s:=⟨s.data.toList⟩) (by show s.data.toList.length<=_;omega);have i:(⟨s.data.toList⟩:n9).val=.string s:=by simp[n9.val]
 exact .cons e .nil
theorem mG{H:Type}{e:TypeId}:∀{a:List (DataW H)} {d:DataW H},d∈a->∀n∈d.weights P e,n∈weightsAll P e a
 |d0::a,d,h,n,b=>by
  rw[weightsAll,A7];rcases v7.1 h with rfl|h
  .grind
  exact .inr (mG h n b)
def JH{s:Sh}{a:List (l7 s)}{y:l7 s}:(a++[y]).flatMap (cellsOf s)=a.flatMap (cellsOf s)++cellsOf s y:=by simp
theorem Tr.list{e:TypeId}{s:Sh}(u:P.underlying t=some (.slice e))(m3:P.cellsOf e=s.size)(hB:P.bytesOf e=s.bytes)(Q:Tr P shp e s):Tr P shp t (.F9 s):=λH z w K A x S L i=>by
 have T:=size_pos s;rcases DataW.trod_slice u S with⟨rfl,_⟩|⟨a,len,U,c,f,n,rfl,rfl,rfl,_,hl,V,E,l,B,_⟩
 .exact⟨([]:List (l7 s)),.cons (Pd.za (.em (a:=none) (b:=true) rfl)) .nil⟩
 rw[m3]at*;have step:∀m,m<=len->∃(d:List Value) (h:List (l7 s)),r6 (HB shp w) (h.flatMap (cellsOf s)) d/\h.length=m/\j0 w a d:=by
  intro m;induction m with
  |zero=>intro _;exact⟨[],[],.nil,rfl,j0.nil⟩
  |succ m m1=>
   intro hm;obtain⟨d,h,p,r,C⟩:=m1 N;have v6:=l m N;have D:c[m]? =some (c[m]' N):=r5 N;rw[D,Option.bind_eq_some_iff]at v6;obtain⟨A,F,G⟩:=v6;have g:c[m]' N∈c:=I1 _;obtain⟨y,R⟩:=Q H z w n A _ G
    (λk Z=>L k (by
     simp only[weights,u,v7,A7];exact .inr (.inl (mG (V5 g) k Z))))
    (λq hq=>i q (by
     simp only[A7,List.mem_flatMap];exact .inr ⟨_,.inl g,hq⟩))
   obtain⟨_,hcl,I⟩:=World.cells?_some F;refine⟨d++A,h++[y],by rw[JH];exact p.append R,by simp[r],λj v o=>?_⟩;have J:d.length=m*s.size:=by rw[<-p.length,cX,r]
   by_cases hj:j<m*s.size
   .rw[E0 N]at o;exact C j v o
   rw[Q4 N,J]at o;have hj2:=oK o;have:=I (j-m*s.size) N;rw[o,add_add,show m*s.size+(j-m*s.size)=j by omega]at this;exact this
 obtain⟨d,h,p,r,C⟩:=step len (tw _);have hwt:(c.length+f.length)*P.bytesOf e<=140737488351232:=L _ (by simp[weights,u]);refine⟨h,.cons ?_ .nil⟩;subst r;refine .fz N V ?_ p ?_
 .grind
 by_cases h0:h.length=0
 .grind
 right;refine⟨a,rfl,abV ?_,C⟩;have:MemPlace.cell a.block (a.off+0)∈MemPlace.row a ((c.length+f.length)*s.size):=MemPlace.mem_row.2 ⟨0,Nat.mul_pos N T,rfl⟩;exact i _ (D3 _ this)
def n_.nil{o:Nat}:n_ P shp [] o []:=λH b w a d e c _ _ _ _=>⟨[],rfl,by rw[List.drop_eq_nil_of_le (by simp only[X1]at c;omega)];exact .nil⟩
def n_.cons{f:Go.Field}{p:List Go.Field}{o:Nat}{s:Sh}{d:List Sh}(h:Tr P shp f.type s)(B:f.offset=o)(C:P.cellsOf f.type=s.size)(D:n_ P shp p (o+s.size) d):n_ P shp (f::p) o (s::d):=λH b w a r e F g u v c=>by
 match e,g with
 |x::e,g=>
  have G:r.length=o+(s.size+X1 d):=F;have A:=u 0 f rfl;rw[B,C]at A;obtain⟨y,I⟩:=h H b w a _ x A (λn j=>v n (by simp[weightsEach,j])) (λq k=>c q (by simp[k]));obtain⟨z,l,m⟩:=D H b w a r e N (by simpa using g) (λi J K=>by simpa using u (i+1) J (by simpa using K)) (λn j=>v n (by simp only[O5,weightsEach,A7];exact .inr j)) (λq k=>c q (by simp only[G9,A7];exact .inr k));refine⟨cellsOf s y++z,⟨y,z,rfl,l⟩,?_⟩;have:=I.append m;rwa[<-J1,E7]at this
theorem Tr.struct{s:Sh}{ss:List Sh}{e:Array Go.Field}(g:P.underlying t=some (.struct e))(v:P.cellsOf t=X1 ss)(z:∀a,adF ss a->∃y:l7 s,a=cellsOf s y)(h:n_ P shp e.toList 0 ss):Tr P shp t s:=λH b w j l x m o c=>by
 obtain⟨p,n,_,rfl,A,d,q⟩:=DataW.trod_struct g m;obtain⟨a,B,C⟩:=h H b w n l p N (by simpa using d) (λi f r=>q i f (by simpa using r)) (λk u=>o k (by simpa[weights,g] using u)) c;grind
end
section
variable{H:Type}{enc:TypeId×Value->H}{P:Program}{shp:TypeId->Option Sh}
structure Ar(enc:TypeId×Value->H)(P:Program)(a:World)(t:TypeId)(v:Value):Prop where
 form:∃base,Value.okWide P a .any base t v
 read:∃d p fuel,trod enc P a 0 (λ_=>true) true fuel t v.cells.toList=some (d,p)/\(∀n∈d.weights P t,n<=140737488351232)/\(∀q∈p,q.block<a.heap.size)
variable{v2:World}{t:TypeId}{v:Value}
def Ar.rp{s:Sh}(h:Ar enc P v2 t v)(b:Tr P shp t s):∃y:l7 s,r6 (HB shp v2) (cellsOf s y) v.cells.toList:=by
 obtain⟨d,p,a,c,e,f⟩:=h.read;exact b H enc v2 a _ _ c e f
def Eo{a:AV}{u:Value}(h:r6 (HB shp v2) [a] [u]):eh (HB shp v2) [] (.c a) u:=by cases h with|cons b _=>exact mF b
theorem Ar.int(h:Ar enc P v2 t v)(a:P.underlying t=some (.int .i64)):∃y:Int,eh (HB shp v2) [] (.c (.int y)) v:=by
 obtain⟨base,b⟩:=h.form;obtain⟨n,rfl⟩:=okWide_int a b;obtain⟨y,d⟩:=h.rp (shp:=shp) (Tr.int a);exact⟨y,Eo (by simpa[Value.cells,cellsOf] using d)⟩
def Ar.u8(h:Ar enc P v2 t v)(a:P.underlying t=some (.int .u8)):∃y:UInt8,eh (HB shp v2) [] (.c (.u8 y)) v:=by
 obtain⟨base,b⟩:=h.form;obtain⟨n,rfl⟩:=okWide_int a b;obtain⟨y,d⟩:=h.rp (shp:=shp) (Tr.u8 a);exact⟨y,Eo (by simpa[Value.cells,cellsOf] using d)⟩
def Ar.bool(h:Ar enc P v2 t v)(a:P.underlying t=some .bool):∃y:Bool,eh (HB shp v2) [] (.c (.bool (.atom y))) v:=by
 obtain⟨base,d⟩:=h.form;obtain⟨b,rfl⟩:=okWide_bool a d;exact⟨b,Pd.bool (e:=.atom b)⟩
def Ar.list{e:TypeId}{s:Sh}(h:Ar enc P v2 t v)(b:P.underlying t=some (.slice e))(d:Tr P shp t (.F9 s)):∃f:List (l7 s),eh (HB shp v2) [] (.c (.fz s f)) v:=by
 obtain⟨base,g⟩:=h.form;obtain⟨a,len,i,rfl⟩:=okWide_slice b g;obtain⟨y,j⟩:=h.rp d;exact⟨y,Eo (by simpa[Value.cells,cellsOf] using j)⟩
def ZL{f:Nat}{args:List oh}{pre:List Prop}{e:BE}{b:List Value}(h:r8 P shp f args [] ⟨pre,[.c (.bool e)],none,false⟩)(a:e.val=true)(g:hY (eh (HB shp v2) []) args b)(d:C8 (HB shp v2):=by refine⟨?_,?_⟩<;>intro e a<;>first|simp[XN] at a|simp[aiZ] at a):mT P f b.toArray v2 λr i=>r=.bool true/\Kp [] v2 i:=by
 refine(h.2 ⟨shp,v2.heap.size,λ_=>False⟩ [] v2 b rfl ⟨.nil,λ_ _ _ _ _ h=>by simp at h,λ_ _ _ h=>by simp at h,λ_ h=>h.elim,tw _,d⟩ g).mono λv o ⟨p,j,k,l⟩=>⟨?_,k⟩;cases l with|cons m n=>
 cases n;cases m;rw[j,a];rfl
variable{ds:List (DataW H)}{args:Array Value}
def Xf{base:Nat}{a:List TypeId}{p:List MemPlace}(k:∀(j:Nat) t v,a[j]? =some t->args[j]? =some v->Value.okWide P v2 .any base t v)
  (h:TrodAll enc P v2 0 (λ_=>true) true a args.toList ds p)(i:∀n∈weightsEach P a ds,n<=140737488351232)(c:∀q∈p,q.block<v2.heap.size):
  args.size=a.length/\∀(j:Nat) t v,a[j]? =some t->args[j]? =some v->Ar enc P v2 t v:=by
 have l:∀(a:List TypeId) (e:List Value) (ds:List (DataW H)) (p:List MemPlace),TrodAll enc P v2 0 (λ_=>true) true a e ds p->(∀n∈weightsEach P a ds,n<=140737488351232)->(∀q∈p,q.block<v2.heap.size)->
   e.length=a.length/\∀(j:Nat) t v,a[j]? =some t->e[j]? =some v->∃d p b,trod enc P v2 0 (λ_=>true) true b t v.cells.toList=some (d,p)/\(∀n∈d.weights P t,n<=140737488351232)/\(∀q∈p,q.block<v2.heap.size):=by
  intro a;induction a with
  |nil=>intro e ds p h _ _;obtain⟨rfl,_,_⟩:=trodAll_nil h;exact⟨rfl,λj t v h=>by simp at h⟩
  |cons t a u=>
   intro e ds p h i c;obtain⟨v,e,d,ds,w,x,rfl,rfl,rfl,y,z⟩:=trodAll_cons h;obtain⟨m,o⟩:=u e ds x z (λn r=>i n (by rw[weightsEach,A7];exact .inr r)) (λq s=>c q (E3 _ s));refine⟨by simp[m],λj A B f g=>?_⟩;cases j with
   |zero=>
    simp at f g;subst f;subst g;obtain⟨b,k⟩:=y;exact⟨d,w,b,k,λn r=>i n (by rw[weightsEach,A7];exact .inl r),λq s=>c q (D3 _ s)⟩
   |succ j=>exact o j A B (by simpa using f) (by simpa using g)
 obtain⟨m,o⟩:=l a args.toList ds p h i c;exact⟨by simpa using m,λj t v f g=>⟨⟨base,k j t v f g⟩,o j t v f (by simpa using g)⟩⟩
variable{W':World}
def LC(j:laidOutB P=true)(k:Below v2.heap.size v2 W'):∀(a:List TypeId) (c:List Value) (ds:List (DataW H)) (p:List MemPlace),a.all (λt=>P.readableRec t&&decide (t<P.types.size))=true->TrodAll enc P v2 0 (λ_=>true) true a c ds p->(∀q∈p,q.block<v2.heap.size)->
  TrodAll enc P W' 0 (λb=>decide (b<v2.heap.size)) true a c ds p:=by
 intro a;induction a with
 |nil=>intro c ds p _ h _;obtain⟨rfl,rfl,rfl⟩:=trodAll_nil h;rfl
 |cons t a l=>
  intro c ds p f h e;obtain⟨v,c,d,ds,m,i,rfl,rfl,rfl,n,o⟩:=trodAll_cons h;rw[K7,r3,r3,u9]at f;exact⟨m,i,Below.trod j f.1.1 f.1.2 n k λq g=>e q (D3 _ g),l c ds i f.2 o λq g=>e q (E3 _ g),rfl⟩
variable{tb:TypeId}{fn:Func}
def UJ{s:ChangeSpec}{p:List MemPlace}(e:laidOutB P=true)
  (a:fn.params.toList.all (λt=>P.readableRec t&&decide (t<P.types.size))=true)(f:fn.resultTypes= #[tb])(g:P.underlying tb=some .bool)(i:s.vars=[])
  (b:s.fn H (ds++[])={results:=[.lit (.bool true)],args:=ds})(j:DataW.Whole enc P fn.params.toList s.vars false v2 args.toList ds [] p)(k:TrodAll enc P v2 0 (λ_=>true) true fn.params.toList args.toList ds p)(c:∀q∈p,q.block<v2.heap.size)(d:Kp [] v2 W'):
  s.post enc P fn false true false false v2 args (.bool true) W':=by
 refine⟨ds,[],p,[],p,[],j,?_,?_,?_,d.below.frame _,λh=>by cases h⟩
 .rw[b,f];exact trodAll_mk1 ⟨1,by simp[trod,Value.cells,g]⟩
 .rw[b];exact LC e d.below _ _ _ _ a k c
 rw[b,i];rfl
theorem MZ{C:Checked}{os:Os}{f:FuncId}{s:ChangeSpec}{b:List PathCond}(I:ownKnob C.prog.godebug=none)(c:os.Started)(l:C.prog.inits.idxOf? f=none)(J:C.prog.funcs[f]? =some fn)
  (g:∃(w:World) (a:Tape) (i:Input),w.os=os/\(w.forCall a i).Shaped C.prog/\i.vars=[]/\Input.okWide C.prog (w.forCall a i) .any w.heap.size f i/\
   s.pre6 enc C.prog fn b false (w.forCall a i).memory i.args/\({}:Assume).holds C.prog (lone (Frame.enter C.prog f i.args .normal) [] (w.forCall a i)))
  (R:laidOutB C.prog=true)(u:fn.params.toList.all (λt=>C.prog.readableRec t&&decide (t<C.prog.types.size))=true)(Z:fn.resultTypes= #[tb])(P:C.prog.underlying tb=some .bool)(F:s.vars=[])
  (hs:∀ds:List (DataW H),ds.length=fn.params.size->s.fn H ds={results:=[.lit (.bool true)],args:=ds})
  (K:∀(v2:World) (args:Array Value),args.size=fn.params.toList.length->(∀(j:Nat) t v,fn.params.toList[j]? =some t->args[j]? =some v->Ar enc C.prog v2 t v)->mT C.prog f args v2 λr W'=>r=.bool true/\Kp [] v2 W'):
  ReturnsInHanded {} C os f .any (s.pre6 enc C.prog fn b false) (s.post enc C.prog fn false true false false):=by
 refine returnsInHanded_of_change_sized I c l J g ?_;intro v2 base args ds gs G y U _ z _;have m:=U;obtain⟨p,q,L,V,rfl,_,_⟩:=U;rw[F]at V;obtain⟨rfl,rfl⟩:=trodVars_none V;simp only[A1]at m z;have A:∀x∈p,x.block<v2.heap.size:=λx hx=>by simpa using m.lt x hx
 have E:∀n∈weightsEach C.prog fn.params.toList ds,n<=140737488351232:=λn hn=>by
  have B:n∈weightsEach C.prog (fn.params.toList++s.plain.varTypes C.prog) ds:=by
   have:∀(k m3:List TypeId) (ds:List (DataW H)),n∈weightsEach C.prog k ds->n∈weightsEach C.prog (k++m3) ds:=by
    intro k;induction k with
    |nil=>intro m3 ds h;simp[weightsEach]at h
    |cons t k m1=>
     intro m3 ds h;cases ds with
     |nil=>simp[weightsEach]at h
     |cons d ds=>
      rw[weightsEach,A7]at h;rw[E4,weightsEach,A7];grind
   grind
  exact C6 (Hm.1 z n B)
 obtain⟨o,Q⟩:=Xf (λj t v ht F=>y j t v (by simpa using ht) F) L E A;have S:ds.length=fn.params.size:=by
  have:∀(k:List TypeId) (D:List Value) (ds:List (DataW H)) (p:List MemPlace),TrodAll enc C.prog v2 0 (λ_=>true) true k D ds p->ds.length=k.length:=by
   intro k;induction k with
   |nil=>intro D ds p h;obtain⟨_,rfl,_⟩:=trodAll_nil h;rfl
   |cons t k m1=>intro D ds p h;obtain⟨v,D,d,ds,p1,p2,rfl,rfl,rfl,_,h2⟩:=trodAll_cons h;simp[m1 D ds p2 h2]
  simpa using this _ _ _ _ L
 refine O9 (K v2 args o Q) λe W' ⟨v,he,T,hk⟩=>⟨v,he,?_⟩;subst T;exact UJ R u Z P F (by rw[A1];exact hs ds S) m L A hk
end
end Go.Proofs.YtoecbhljidgajaaGreat
namespace Go.Proofs.YtoecbhljidgajaaGreat
open Go.Proofs.Tryz
open Go.RowKit Go.ChangeShapes Go.WideShapes
def Qa:ownKnob prog.godebug=none:=cj
def Uu:laidOutB prog=true:=cj
def aqv:Tr prog (bj p6) 37 (.nm .command):=Tr.struct (ss:=[.int,.int,.int,.int,.int,.int,(.F9 .int),.str]) underlying37 cj (λa h=>by
 obtain⟨y0,j,rfl,b,k,rfl,c,l,rfl,d,m,rfl,e,n,rfl,f,o,rfl,g,p,rfl,i,q,rfl,rfl⟩:=h;exact⟨⟨y0,b,c,d,e,f,g,i⟩,rfl⟩) (n_.cons (Tr.int underlying3) rfl cj (n_.cons (Tr.int underlying3) rfl cj (n_.cons (Tr.int underlying3) rfl cj (n_.cons (Tr.int underlying3) rfl cj (n_.cons (Tr.int underlying3) rfl cj (n_.cons (Tr.int underlying3) rfl cj (n_.cons (Tr.list underlying35 cj cj (Tr.int underlying3)) rfl cj (n_.cons (Tr.str underlying9) rfl cj n_.nil))))))))
def akg:Tr prog (bj p6) 113 (.nm .entry):=Tr.struct (ss:=[.int,(.F9 .u8)]) underlying113 cj (λa h=>by
 obtain⟨y0,c,rfl,b,d,rfl,rfl⟩:=h;exact⟨⟨y0,b⟩,rfl⟩) (n_.cons (Tr.int underlying3) rfl cj (n_.cons (Tr.list underlying60 cj cj (Tr.u8 underlying5)) rfl cj n_.nil))
def arT:Tr prog (bj p6) 34 (.nm .letter):=Tr.struct (ss:=[.int,.int,.int,.int,.int,.int,.int,.int,.bool,(.F9 (.nm .entry))]) underlying34 cj (λa h=>by
 obtain⟨y0,l,rfl,b,m,rfl,c,n,rfl,d,o,rfl,e,p,rfl,f,q,rfl,g,r,rfl,i,s,rfl,j,t,rfl,k,u,rfl,rfl⟩:=h;exact⟨⟨y0,b,c,d,e,f,g,i,j,k⟩,rfl⟩) (n_.cons (Tr.int underlying3) rfl cj (n_.cons (Tr.int underlying3) rfl cj (n_.cons (Tr.int underlying3) rfl cj (n_.cons (Tr.int underlying3) rfl cj (n_.cons (Tr.int underlying3) rfl cj (n_.cons (Tr.int underlying3) rfl cj (n_.cons (Tr.int underlying3) rfl cj (n_.cons (Tr.int underlying3) rfl cj (n_.cons (Tr.bool underlying4) rfl cj (n_.cons (Tr.list underlying32 cj cj akg) rfl cj n_.nil))))))))))
def aqO:Tr prog (bj p6) 39 (.nm .nop):=Tr.struct (ss:=[.u8,.int,(.nm .letter),(.nm .command)]) underlying39 cj (λa h=>by
 obtain⟨y0,e,rfl,b,f,rfl,c,g,rfl,d,i,rfl,rfl⟩:=h;exact⟨⟨y0,b,c,d⟩,rfl⟩) (n_.cons (Tr.u8 underlying5) rfl cj (n_.cons (Tr.int underlying3) rfl cj (n_.cons (arT) rfl cj (n_.cons (aqv) rfl cj n_.nil))))
set_option maxRecDepth 100000 in
def uK(os:Os)(a:os.Started)(H:Type)(enc:TypeId×Value->H):
  ReturnsInHanded {} checked os 3 .any (Rows.nodePlaysSpec.pre6 enc prog Tryz.f3 Rows.nodePlaysRow.domain false) (Rows.nodePlaysSpec.post enc prog Tryz.f3 false true false false):=by
 refine MZ (C:=checked) Qa a cj func3 (ChangeSpec.witness6 (enc:=enc) (C:=checked) false ⟨#[],#[.int .i64 0,.int .i64 0,.slice none 0 0],[]⟩ 8 cj cj cj cj) Uu cj cj underlying4 rfl (λc h=>?_) ?_
 .match c,h with
  |[m,n,o],_=>rfl
 intro s args d b;obtain⟨l⟩:=args;match l,d with
 |[p,q,r],_=>
  obtain⟨e,f⟩:=Ar.int (shp:=bj p6) (b 0 3 _ rfl rfl) underlying3;obtain⟨g,i⟩:=Ar.int (shp:=bj p6) (b 1 3 _ rfl rfl) underlying3;obtain⟨j,k⟩:=Ar.list (shp:=bj p6) (b 2 22 _ rfl rfl) underlying22 (Tr.list underlying22 cj cj aqO);exact ZL (YM e g j) rfl (.cons f (.cons i (.cons k .nil)))
set_option maxHeartbeats 40000000 in
def tq:joinedFacts checked.prog 3 Tryz.f3 Rows.nodePlaysSpec Rows.nodePlaysRow=true:=by
 unfold joinedFacts;repeat' with_reducible refine Bool.and_eq_true_iff.2 ⟨?_,?_⟩
 all_goals as_aux_lemma=>kernel_rfl
theorem nodePlays_holds:Rows.NodePlaysSaid:=
 OpenClaim.holds_of_wide 3 Tryz.f3 rfl rfl rfl rfl rfl rfl rfl ⟨rfl,rfl,rfl,rfl,rfl⟩ rfl rfl rfl rfl rfl cj func3 tq
  (C6 cj) (by unfold Func.isWrapper;first|(rw[O (by decide+kernel)];kernel_rfl)|(rw[X (by decide+kernel)];exact⟨rfl,rfl⟩))
  (λos a H b _=>uK os a H b)
