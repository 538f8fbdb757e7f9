/- The law: for every input it returns true, and each argument reads behind the call as it read before; and what leads there. Conditions: each lemma's own. -/
import Derived.ProofKit
import Derived.SizedLaws
import Derived.Test.YticbaadnibdbkaaGreatChecked
import Derived.Test.YticbaadnibdbkaaGreatRows
import Derived.Test.YticbaadnibdbkaaGreatNDM7
set_option linter.unusedVariables false
set_option linter.unusedSimpArgs false
set_option maxHeartbeats 2000000
set_option linter.defProp false
noncomputable section
namespace Go.Proofs.YticbaadnibdbkaaGreat
open Go.RowKit
def ah2:=@List.exists_cons_of_length_eq_add_one
def akh:=@Nat.succ.inj
section
variable {n:Nd} {k:Nat} {y:Int}
theorem JD {s:Stable} {m:Int}:(aX s m).1.length<=1000:=by
 unfold aX;grind
def ahQ (h:n.d.down=true):bj n=⟨n,[],30⟩:=if_pos h
variable (h:n.d.down=false)
include h
def alc (a:n.c.role=2):bj n=⟨n,[],0⟩:=by rw [bj,if_neg (mj h),if_pos a]
variable (h1:¬ n.c.role=2)
include h1
def aiO (a:¬ (aX n.c.st n.c.me).2=0):bj n=⟨n,[],(aX n.c.st n.c.me).2⟩:=by rw [bj,if_neg (mj h),if_neg h1,if_pos a]
variable (h2:(aX n.c.st n.c.me).2=0)
include h2
def akL (a:¬ n.aR (aX n.c.st n.c.me).1=0):bj n=⟨n.save (aX n.c.st n.c.me).1,[],n.aR (aX n.c.st n.c.me).1⟩:=by rw [bj,if_neg (mj h),if_neg h1,if_neg aI,if_pos a]
variable (h3:n.aR (aX n.c.st n.c.me).1=0)
include h3
def agE:bj n=⟨(n.save (aX n.c.st n.c.me).1).eF,gA (n.save (aX n.c.st n.c.me).1).eF.c,0⟩:=by rw [bj,if_neg (mj h),if_neg h1,if_neg aI,if_neg aI]
def ajJ (a:((cP (n.save (aX n.c.st n.c.me).1).eF.c).length:Int)<=k):(gA (n.save (aX n.c.st n.c.me).1).eF.c).take k=(bj n).l:=by
 rw [agE h h1 h2 h3];exact List.take_of_length_le (by unfold gA; rw [List.length_map]; omega)
end
section
variable {c:NdC} {k:Nat} {y:Int} {z:Letter}
theorem aho (a:c.many<=5):(((gA c).take k).length+[z].length)*96<=140737488355328:=by
 have b:(cP c).length<=c.many.toNat:=rB;rw [List.length_take,gA,List.length_map];grind
def akQ (a:(k:Int)<((cP c).length:Nat)) (b:c.many<=5):I64 ((k:Int)+1):=by
 have d:(cP c).length<=c.many.toNat:=rB;exact bw aI aI
def ajq (d:(cP c)[k]? = some y):(gA c).take k++[Letter.mk (rA c 1 y).kind (rA c 1 y).frm (rA c 1 y).to (rA c 1 y).term c.st.log.length (iw c.st.log) (rA c 1 y).c (rA c 1 y).bin (rA c 1 y).ok (rA c 1 y).l]=(gA c).take (k+1):=by
 have:(gA c)[k]? = some { rA c 1 y with a:=c.st.log.length,b:=iw c.st.log }:=by
  unfold gA; rw [List.getElem?_map,d]; rfl
 rw [ai this]
end
section
variable {n:Nd} {x:Letter}
def ah9 (h:¬ (aE n.c.st x).2.2.2=0):cc n x=⟨n,[],(aE n.c.st x).2.2.2⟩:=if_pos h
variable (h:(aE n.c.st x).2.2.2=0)
include h
def ak9 (a:¬ n.aR (aE n.c.st x).1=0):cc n x=⟨n.save (aE n.c.st x).1,[],n.aR (aE n.c.st x).1⟩:=by rw [cc,if_neg aI,if_pos a]
variable (h1:n.aR (aE n.c.st x).1=0)
include h1
def aiF (b:x.term=(n.save (aE n.c.st x).1).c.st.term) (d:(aE n.c.st x).2.1=true):cc n x=⟨({ (n.save (aE n.c.st x).1) with c:={ (n.save (aE n.c.st x).1).c with role:=0,commit:=max (n.save (aE n.c.st x).1).c.commit (min x.c (aE n.c.st x).2.2.1) } }:Nd).apply,[{ rA { (n.save (aE n.c.st x).1).c with role:=0 } 4 x.frm with ok:=(aE n.c.st x).2.1,a:=(aE n.c.st x).2.2.1 }],0⟩:=by
 rw [cc,if_neg aI,if_neg aI,d];dsimp only;rw [if_pos b]; rfl
theorem ahs (d:¬ x.term=(n.save (aE n.c.st x).1).c.st.term) (b:(aE n.c.st x).2.1=true):cc n x=⟨({ (n.save (aE n.c.st x).1) with c:={ (n.save (aE n.c.st x).1).c with commit:=max (n.save (aE n.c.st x).1).c.commit (min x.c (aE n.c.st x).2.2.1) } }:Nd).apply,[{ rA (n.save (aE n.c.st x).1).c 4 x.frm with ok:=(aE n.c.st x).2.1,a:=(aE n.c.st x).2.2.1 }],0⟩:=by
 rw [cc,if_neg aI,if_neg aI,b];grind
def aj7 (b:x.term=(n.save (aE n.c.st x).1).c.st.term) (d:(aE n.c.st x).2.1=false):cc n x=⟨(n.save (aE n.c.st x).1).follow,[{ rA { (n.save (aE n.c.st x).1).c with role:=0 } 4 x.frm with ok:=(aE n.c.st x).2.1,a:=min 64 ((n.save (aE n.c.st x).1).c.st.log.length:Int) }],0⟩:=by
 rw [cc,if_neg aI,if_neg aI,d];dsimp only;rw [if_pos b,if_neg am];split
 ·rfl
 rename_i q; exact absurd b q
theorem alf (b:¬ x.term=(n.save (aE n.c.st x).1).c.st.term) (a:(aE n.c.st x).2.1=false):cc n x=⟨n.save (aE n.c.st x).1,[{ rA (n.save (aE n.c.st x).1).c 4 x.frm with ok:=(aE n.c.st x).2.1 }],0⟩:=by
 rw [cc,if_neg aI,if_neg aI,a];dsimp only;split
 ·grind
 rfl
end
variable {x:Letter}
theorem Ji {s:Stable}:(aE s x).1.length<=1000:=by
 by_cases h:(aE s x).2.2.2=0
 ·obtain ⟨⟨a,_⟩,b⟩:=gk h;rcases b with ⟨_,e⟩ | ⟨_,_,e⟩ | ⟨_,_,e⟩ <;> rw [e]
  ·simp
  ·have:=wW (s:=s) a; dsimp only; omega
  have:=fY (s:=s) (t:=x.term); dsimp only; omega
 have e:aE s x=([],false,0,1):=by
  unfold aE at h ⊢;grind
 rw [e]; simp
def Km (n:Nd):List (Nat × LI):=[(17,{ σ:=Nat,F:=fun k=>([(0,one (.ptr 0 0)),(7,one (.int (n.save (aX n.c.st n.c.me).1).c.st.log.length)),(8,one (.int (iw (n.save (aX n.c.st n.c.me).1).c.st.log))),(9,one (.own 12)),(113,one (.fz .int (cP (n.save (aX n.c.st n.c.me).1).eF.c))),(114,one (.int (cP (n.save (aX n.c.st n.c.me).1).eF.c).length)),(115,one (.int k))],[.box 103 (noF 0 (((n.save (aX n.c.st n.c.me).1).eF.c))++[.own 3,.own 8,.own 9,.own 10,.own 11]),.box 147 ([.own 2,.int (((n.save (aX n.c.st n.c.me).1).eF.d.synced)),.bool (.atom (((n.save (aX n.c.st n.c.me).1).eF.d.down))),.bool (.atom (((n.save (aX n.c.st n.c.me).1).eF.d.doomed))),.int (((n.save (aX n.c.st n.c.me).1).eF.d.keep))]),.row 5 .u8 (((n.save (aX n.c.st n.c.me).1).eF.d.b)),.row 78 (.nm .reply) ((n.rp)),.row 4 .bool ((n.vs)),.row 3 .int ((n.bn)),.row 3 .int ((n.nx)),.row 3 .int ((n.mt)),.row 4 .bool (((n.save (aX n.c.st n.c.me).1).eF.vs)),.row 3 .int (((n.save (aX n.c.st n.c.me).1).eF.bn)),.row 3 .int (((n.save (aX n.c.st n.c.me).1).eF.nx)),.row 3 .int (((n.save (aX n.c.st n.c.me).1).eF.mt)),.row 40 (.nm .letter) (((gA (n.save (aX n.c.st n.c.me).1).eF.c).take k))]),J:=fun k=>k<=(cP (n.save (aX n.c.st n.c.me).1).eF.c).length,μ:=fun k=>(cP (n.save (aX n.c.st n.c.me).1).eF.c).length - k })]
def sj:Kn:=aO (ae (kC (ba 0 0)) al) rk fun _ n=>⟨[NdOK n],[.c (.fz (.nm .letter) (((bj n).l))),.c (.int (((bj n).e)))],some ((mW ((bj n).n))),false⟩
theorem EA:CK 14 sj:=ah fun _ n I=>by
 have w:=cg I;refine bA tI (Km n) Tryz.func14 (?_:(fun (p:Int)=>(fun (k:NdR)=>(fun (A:Int)=>(fun (v:List Record × Int)=>(fun (C:Int)=>(fun (q:Nd)=>(fun (m:NdC)=>(fun (h:Int)=>(fun (D:List Entry)=>(fun (r:Int)=>(fun (u:Int)=>(fun (o:Int)=>(fun (t:List (den Sh.int))=>(fun (y:List Int)=>(fun (z:Prop)=>(fun (j:Nd)=>(fun (f:Dsk)=>(fun (a:NdC)=>(fun (g:Nat)=>(n.d.down=true->k.l=[]/\(30:Int)=k.e/\bZ n k.n)/\(n.d.down=false->(n.c.role=(2:Int)->k.l=[]/\p=k.e/\bZ n k.n)/\(¬n.c.role=(2:Int)->n.c.st.term<=(1048576:Int)/\(v.fst.length*(48:Nat)<=(140737488355328:Nat)->I64 v.snd->(¬v.snd=p->k.l=[]/\v.snd=k.e/\bZ n k.n)/\(v.snd=p->(p<=n.d.synced/\n.d.synced<=(↑n.d.b.length:Int)/\n.d.b.length<=(65536:Nat))/\n.c.st.log.length<=(10000:Nat)/\v.fst.length<=(1000:Nat)/\(I64 C->(¬C=p->k.l=[]/\C=k.e/\bZ q k.n)/\(C=p->(p<=o/\o*(↑(1:Nat):Int)<=(140737488355328:Int)/\o=o)/\z/\z/\z/\p<=h/\h<(↑(List.replicate o.toNat (aj Sh.bool)).length:Int)/\p<=h/\h<(↑t.length:Int)/\(I64 (t.getD h.toNat (aj Sh.int))->I64 (↑D.length:Int)->I64 r->o<=(5:Int)/\(y.length*(8:Nat)<=(140737488355328:Nat)->∃ (G:Nat),((↑D.length:Int)=u/\r=r/\y=cP a/\(↑y.length:Int)=(↑g:Int)/\p=(↑G:Int)/\h=a.me/\o=a.many/\m.bin=a.bin/\aD m.st a.st (A=a.role/\m.commit=a.commit/\m.applied=a.applied/\bJ m.s a.s (q.d.synced=f.synced/\q.d.down=f.down/\q.d.doomed=f.doomed/\q.d.keep=f.keep/\q.d.b=f.b/\q.rp=n.rp/\q.vs=n.vs/\q.bn=n.bn/\q.nx=n.nx/\q.mt=n.mt/\(List.replicate o.toNat (aj Sh.bool)).set h.toNat true=j.vs/\t.set h.toNat m.bin=j.bn/\t=j.nx/\t=j.mt/\List.take G (gA a)=[])))/\G<=g/\∀ (s:Nat),s<=g->((↑s:Int)<(↑g:Int)->p<=(↑s:Int)/\(↑s:Int)<(↑(cP a).length:Int)/\∀ (x:Int),(fun (i:Letter)=>(fun (B:Letter)=>(cP a)[s]? = some x->I64 x->aT i (((List.take s (gA a)).length+[B].length)*(96:Nat)<=(140737488355328:Nat)/\I64 ((↑s:Int)+A)/\∃ (F:Nat),(u=u/\r=r/\cP a=cP a/\(↑g:Int)=(↑g:Int)/\(↑s:Int)+A=(↑F:Int)/\a.me=a.me/\a.many=a.many/\a.bin=a.bin/\aD a.st a.st (a.role=a.role/\a.commit=a.commit/\a.applied=a.applied/\bJ a.s a.s (f.synced=f.synced/\f.down=f.down/\f.doomed=f.doomed/\f.keep=f.keep/\f.b=f.b/\n.rp=n.rp/\n.vs=n.vs/\n.bn=n.bn/\n.nx=n.nx/\n.mt=n.mt/\j.vs=j.vs/\j.bn=j.bn/\j.nx=j.nx/\j.mt=j.mt/\List.take s (gA a)++[B]=List.take F (gA a))))/\F <= g/\g - F < g - s)) (Letter.mk i.kind i.frm i.to i.term u r i.c i.bin i.ok i.l)) (rA a A x))/\((↑g:Int)<=(↑s:Int)->List.take s (gA a)=k.l/\p=k.e/\bZ (Nd.mk a f n.rp j.vs j.bn j.nx j.mt) k.n)))))))))) (cP a).length) j.c) j.d) q.eF) (p<=o/\o*(↑(8:Nat):Int)<=(140737488355328:Int)/\o=o)) (cP (NdC.mk h o m.bin m.st A m.commit m.applied m.s))) (List.replicate o.toNat (aj Sh.int))) m.many) (↑D.length:Int)) (iw D)) m.st.log) m.me) q.c) (n.save v.fst)) (n.aR v.fst)) (aX n.c.st n.c.me)) (1:Int)) (bj n)) (0:Int))
 obtain ⟨J,K,L⟩:=id w.d;have N:=w.log;have H:=w.many;have O:=w.me;have o7:=w.com;have P:=w.term;have Q:=w.rp;iterate 3 ((all_goals (repeat' with_reducible first|apply a_|refine aY ?_|intro)); (all_goals try (first | exact bq | exact rfl | exact JD | exact (ajJ ab ab ab ab ab) | exact (ajq ab) | exact (aho H.2) | exact (akQ (c:=(n.save (aX n.c.st n.c.me).1).eF.c) ab H.2) | (dsimp only [Nd.save]; omega) | (rw [ag6]; dsimp only [Nd.save]; omega) | (rw [ahQ (n:=n) ab] <;> rfl) | (rw [alc (n:=n) ab ab] <;> rfl) | (rw [aiO (n:=n) ab ab ab] <;> rfl) | (rw [akL (n:=n) ab ab ab ab] <;> rfl) | (rw [agE (n:=n) ab ab ab ab] <;> rfl))); all_goals try first | refine ⟨‹Nat› + 1,?_⟩ | refine ⟨0,?_⟩)
def xa:Kn:=aO (ae (kC (ba 0 0)) (ae (kT (.nm .letter)) al)) rk fun (_,x,_) n=>⟨[NdOK n,dr n.c x=true,x.kind=3],[.c (.fz (.nm .letter) (((cc n x).l))),.c (.int (((cc n x).e)))],some ((mW ((cc n x).n))),false⟩
def KG:CK 57 xa:=ah fun (_,x,_) n D=>by
 have u:=cg D;have B:=cg (eW D);have C:=cg (eW (eW D));refine bA tI [] Tryz.func57 (?_:(fun r=>(fun F=>(fun j=>(fun p=>(fun v=>(fun q=>(fun o=>(fun H=>(fun G=>(fun i=>(fun h=>(fun t=>(fun m=>(fun w=>(fun k=>(fun y=>(fun z=>(fun A=>(fun f=>(fun g=>aT x (r.length*48<=140737488355328->I64 q.snd.fst->I64 q.snd.snd->(¬q.snd.snd=p->j.l=[]/\q.snd.snd=j.e/\bZ n j.n)/\(q.snd.snd=p->(p<=n.d.synced/\n.d.synced<=(↑n.d.b.length:Int)/\n.d.b.length<=65536)/\n.c.st.log.length<=10000/\r.length<=1000/\(I64 (n.aR r)->(¬n.aR r=p->j.l=[]/\n.aR r=j.e/\bZ i j.n)/\(n.aR r=p->(k->aT g ((o=true->y/\[Letter.mk g.kind g.frm g.to g.term q.snd.fst g.b g.c g.bin o g.l]=j.l/\v/\bZ (Nd.mk (NdC.mk h.me h.many h.bin h.st p t m h.s) i.d i.rp i.vs i.bn i.nx i.mt).apply j.n)/\(o=false->(k->[Letter.mk g.kind g.frm g.to g.term w g.b g.c g.bin o g.l]=j.l/\A)/\(¬k->[Letter.mk g.kind g.frm g.to g.term g.a g.b g.c g.bin o g.l]=j.l/\A))))/\(¬k->aT f ((o=true->y/\[Letter.mk f.kind f.frm f.to f.term q.snd.fst f.b f.c f.bin o f.l]=j.l/\v/\bZ (Nd.mk (NdC.mk h.me h.many h.bin h.st h.role t m h.s) i.d i.rp i.vs i.bn i.nx i.mt).apply j.n)/\(o=false->(k->[Letter.mk f.kind f.frm f.to f.term w f.b f.c f.bin o f.l]=j.l/\v/\bZ i j.n)/\(¬k->[Letter.mk f.kind f.frm f.to f.term f.a f.b f.c f.bin o f.l]=j.l/\v/\bZ i j.n))))))))) (rA z G F)) (rA h G F)) (v/\bZ (Nd.mk z i.d i.rp i.vs i.bn i.nx i.mt) j.n)) (NdC.mk h.me h.many h.bin h.st p h.commit m h.s)) ((p<=m/\t<=(↑h.st.log.length:Int))/\(↑i.rp.length:Int)<=m/\h.st.log.length<=10000)) (x.term=h.st.term)) (min 64 (↑h.st.log.length:Int))) h.applied) (max h.commit H)) i.c) (n.save r)) (4:Int)) (min x.c q.snd.fst)) q.fst) (aE n.c.st x).snd) (p=j.e)) (0:Int)) (cc n x)) x.frm) (aE n.c.st x).fst);obtain ⟨I,J,K⟩:=id u.d;have L:=u.log;(repeat' with_reducible first|apply a_|refine aY ?_|intro)
 all_goals (first | exact bq | exact Ji | exact (Ff u B C ab ab).1.1 | exact (Ff u B C ab ab).1.2 | exact (Ff u B C ab ab).2.1 | exact (Ff u B C ab ab).2.2 | (rw [ah9 (n:=n) ab] <;> rfl) | (rw [ak9 (n:=n) ab ab] <;> rfl) | (rw [aiF (n:=n) ab ab ab ab] <;> rfl) | (rw [ahs (n:=n) ab ab ab ab] <;> rfl) | (rw [aj7 (n:=n) ab ab ab ab] <;> rfl) | (rw [alf (n:=n) ab ab ab ab] <;> rfl))
def XJ:bH:=(aP 57 xa (aP 14 sj Zi))
def r_:aw Tryz.prog (ak tyT) XJ:=(ag KG (ag EA tI))
theorem Sat.ahz {P:Program} {shp:TypeId->Option Sh} {f:Nat} {args m:List TV1} {n:Nd} {q D:AH} {pre:List Prop} (L:gT q [0,1,2] [0,1,2]=true) (N:po (posOf · [0,1,2]) (lE q [0,1,2])=D) (u:∀ (c O:Cx) (y a:List RE) o,All2 (dk c y) m o->All2 (dk O a) m o) (h:Sat P shp f args (mW n) ⟨pre,m,some q,false⟩):Sat P shp f args (mW n) ⟨pre,m,some D,false⟩:=by
 refine ⟨h.1,fun G y w Q S A T=>(h.2 G y w Q S A T).mono ?_⟩;rintro v w' ⟨o,U,a,B,k,V,W,k5⟩;obtain ⟨F,m2⟩:=B.sub (σ:=[0,1,2]) (Z':=G.Z) rfl L B.z (fun _ h _=>h) (fun b p=>by
  obtain ⟨i,r,d,H⟩:=gy p;exact (B.bnd i r b d H).2.2)
 rw [N] at F;refine ⟨o,U,dw a [0,1,2],F,⟨k.os,k.tape,k.output,k.size,fun b I p=>⟨fun h=>(k.old b I p).1 (gy h),(k.old b I p).2⟩⟩,fun i g h=>?_,u _ _ _ _ _ W,fun h=>by cases h⟩;have l:∀ (j:Nat) (t:TypeId) (s:Sh) (J:List (den s)),(mW n)[j]? = some (.row t s J)->i≠j:=fun j t s J X e=>by
  subst e;obtain ⟨r,K,d⟩:=A.at_ X;rw [h] at K; cases K;obtain ⟨_,_,d | ⟨_,_,_,_,d,_⟩⟩:=d
  ·grind
  cases d
 have Y:i<8:=by
  have d:=(aad.1 h).1;have H:(mW n).length=8:=rfl;have x:=A.obj.length;omega
 have x:=l 3 _ _ _ rfl;have h4:=l 4 _ _ _ rfl;have h5:=l 5 _ _ _ rfl;have h6:=l 6 _ _ _ rfl;have h7:=l 7 _ _ _ rfl;have C:=V i g h;have:i=0\/i=1\/i=2:=by omega
 rcases this with rfl | rfl | rfl
 ·exact (nZ (j:=0) (i:=0) rfl).trans (congrArg some (getD_some C))
 ·exact (nZ (j:=1) (i:=1) rfl).trans (congrArg some (getD_some C))
 exact (nZ (j:=2) (i:=2) rfl).trans (congrArg some (getD_some C))
def ZU {e:Int} (c b:Cx) (f a:List RE) (d:List Value) (h:All2 (dk c f) [.c (.int e)] d):All2 (dk b a) [.c (.int e)] d:=by
 cases h with | cons g i=>?_
 cases i;cases g with | int j=>exact .cons (show Pd b (.int e) _ from .int j) .nil
def hP (me a:Int):Nd:=⟨⟨me,a,0,sta0,0,0,0,⟨0,0,0,0,[],[],[]⟩⟩,⟨[],0,true,false,0⟩,[],[],[],[],[]⟩
def UN:(Dsk.mk [] 0 false false 0).ck 0=⟨[],0,true,false,0⟩:=by decide
def Ho:Kn:=aO (ae (kC cI) (ae (kC cI) al)) av fun (me,a,_) _=>⟨[3<=a/\a<=5/\0<=me/\me<a],[.c (.ptr 0 0),.c (.int ((0)))],some ([.box 103 (noF 0 (((hP me a).c))++[.em true,.em true,.em true,.em true,.em true]),.box 147 ([.own 2,.int (((hP me a).d.synced)),.bool (.atom (((hP me a).d.down))),.bool (.atom (((hP me a).d.doomed))),.int (((hP me a).d.keep))]),.row 5 .u8 (((hP me a).d.b))]),true⟩
def Gu:CK 12 Ho:=ah fun (me,a,_) _ i=>by
 have j:=cg i;refine dF r_ [] Tryz.func12 (?_:(fun (e:Int)=>(fun (h:Dsk)=>(fun (g:Nd)=>(fun (f:NdC)=>I64 me->I64 a->(((a<(3:Int)\/(5:Int)<a)\/me<e)\/a<=me->False/\(1:Int)=e/\False/\False/\g.d.b=[])/\((((3:Int)<=a/\a<=(5:Int))/\e<=me)/\me<a->(e<=e/\e<=(↑(0:Nat):Int)/\(0:Nat)<=(65536:Nat))/\e=e/\me=f.me/\a=f.many/\e=f.bin/\e=f.st.floor/\e=f.st.term/\e=f.st.vote/\f.st.log=[]/\e=f.role/\e=f.commit/\e=f.applied/\e=f.s.version/\e=f.s.next/\e=f.s.keep/\e=f.s.quota/\f.s.sess=[]/\f.s.opens=[]/\f.s.snaps=[]/\h.synced=g.d.synced/\h.down=g.d.down/\h.doomed=g.d.doomed/\h.keep=g.d.keep/\h.b=g.d.b)) g.c) (hP me a)) ((Dsk.mk [] e false false e).ck e)) (0:Int));(repeat' with_reducible first|apply a_|refine aY ?_|intro)
 all_goals (first | exact bq | exact rfl | (rw [UN] <;> rfl) | (exfalso; omega))
def Ww (me:Int) (a:Int) (f:3<=a/\a<=5/\0<=me/\me<a):Sat Tryz.prog (ak tyT) 12 [.c (.int (me)),.c (.int (a))] [] ⟨[3<=a/\a<=5/\0<=me/\me<a],[.c (.ptr 0 0),.c (.int ((0)))],some ([.box 103 (noF 0 (((hP me a).c))++[.em true,.em true,.em true,.em true,.em true]),.box 147 ([.own 2,.int (((hP me a).d.synced)),.bool (.atom (((hP me a).d.down))),.bool (.atom (((hP me a).d.doomed))),.int (((hP me a).d.keep))]),.row 5 .u8 (((hP me a).d.b))]),true⟩:=Gu _ _ _ rfl (by intro p e; simp only [ado,akB,or_false] at e; subst e; exact f)
def adi (me:Int) (a:Int) (b:3<=a/\a<=5/\0<=me/\me<a):Sat Tryz.prog (ak tyT) 12 [.c (.int (me)),.c (.int (a))] [] ⟨[3<=a/\a<=5/\0<=me/\me<a],[.c (.ptr 0 0),.c (.int ((0)))],some ((mW ((hP me a)))),true⟩:=Sat.Lm 0 22 3 .int bP rfl rfl (Sat.Lm 0 21 3 .int bP rfl rfl (Sat.Lm 0 20 3 .int bP rfl rfl (Sat.Lm 0 19 4 .bool bP rfl rfl (Sat.Lm 0 18 78 (.nm .reply) bP rfl rfl (Ww me a b) rfl) rfl) rfl) rfl) rfl
def PK:Kn:=aO (ae (kC cI) (ae (kC cI) al)) av fun (me,a,_) _=>⟨[3<=a/\a<=5/\0<=me/\me<a],[.c (.ptr 0 0),.c (.int ((0)))],some ((mW ((hP me a)))),true⟩
def adl:CK 12 PK:=ah fun (me,a,_) _ b=>adi me a (cg b)
def zY:Kn:=aO (ae (kC (ba 0 0)) (ae (kC (cL (.nm .record))) al)) (aH (dN 103 (lNd 0 (ax (cEm true) (ax (cEm true) (ax (cEm true) (ax (cEm true) (ax (cEm true) dK))))))) (aH (dN 147 (ax (fg 2) (ax cI (ax cB (ax cB (ax cI dK)))))) (aH (e_ 5 .u8) av))) fun (_,l,_) ((a,_,_,_,_,_,_),(_,e,f,g,h,_),i,_)=>⟨[(Dsk.mk i e f g h).OK,a.st.log.length<=10000,l.length<=1000],[.c (.int (((Nd.mk a ⟨i,e,f,g,h⟩ [] [] [] [] []).aR l)))],some ([.box 103 (noF 0 ((((Nd.mk a ⟨i,e,f,g,h⟩ [] [] [] [] []).save l).c))++[.em true,.em true,.em true,.em true,.em true]),.box 147 ([.own 2,.int ((((Nd.mk a ⟨i,e,f,g,h⟩ [] [] [] [] []).save l).d.synced)),.bool (.atom ((((Nd.mk a ⟨i,e,f,g,h⟩ [] [] [] [] []).save l).d.down))),.bool (.atom ((((Nd.mk a ⟨i,e,f,g,h⟩ [] [] [] [] []).save l).d.doomed))),.int ((((Nd.mk a ⟨i,e,f,g,h⟩ [] [] [] [] []).save l).d.keep))]),.row 5 .u8 ((((Nd.mk a ⟨i,e,f,g,h⟩ [] [] [] [] []).save l).d.b))]),false⟩
def Lj:CK 47 zY:=ah fun (_,l,_) ((e,_,_,_,_,_,_),(_,h,m,n,o,_),i,_) j=>by
 have q:=cg j;have r:=cg (eW j);have t:=cg (eW (eW j));refine bA r_ [] Tryz.func47 (?_:(fun k=>(fun f=>(fun g=>(fun a=>(fun p=>l.length*48<=140737488355328->((0<=h/\h<=(↑i.length:Int)/\i.length<=65536)/\e.st.log.length<=10000/\l.length<=1000)/\bS f.snd.fst (I64 f.snd.snd->(¬f.snd.snd=0->f.snd.snd=k.aR l/\e.me=a.c.me/\e.many=a.c.many/\e.bin=a.c.bin/\aD e.st a.c.st p)/\(f.snd.snd=0->0=k.aR l/\e.me=a.c.me/\e.many=a.c.many/\e.bin=a.c.bin/\aD f.snd.fst a.c.st p))) (e.role=a.c.role/\e.commit=a.c.commit/\e.applied=a.c.applied/\bJ e.s a.c.s (g.synced=a.d.synced/\g.down=a.d.down/\g.doomed=a.d.doomed/\g.keep=a.d.keep/\g.b=a.d.b))) (k.save l)) f.fst) (saveF (Dsk.mk i h m n o) e.st l)) (Nd.mk e (Dsk.mk i h m n o) [] [] [] [] []));obtain ⟨u,v,w⟩:=id q;(repeat' with_reducible first|apply a_|refine aY ?_|intro)
 all_goals (first | exact bq | exact rfl | exact (Eq.symm ab) | exact (congrArg Stable.floor (gH ab)).symm | exact (congrArg Stable.term (gH ab)).symm | exact (congrArg Stable.vote (gH ab)).symm | exact (congrArg Stable.log (gH ab)).symm)
def XP:bH:=(aP 47 zY (aP 12 PK (aP 12 Ho XJ)))
def uD:aw Tryz.prog (ak tyT) XP:=(ag Lj (ag adl (ag Gu r_)))
variable {m:Nd}
theorem ahw (a:m.rp=[]) (b:m.vs=[]) (e:m.bn=[]) (f:m.nx=[]) (g:m.mt=[]):mW m=mW ⟨m.c,m.d,[],[],[],[],[]⟩:=by
 cases m;grind
def ahN {p:Prop} {x:Bool} (h:x=true) (a:x=false):p:=by rw [h] at a; cases a
variable {b:List UInt8}
def afE:(replayF b).1.log.length<=10000:=by have:=nh b; omega
variable {r:Record}
def aez:[r].length<=1000:=by simp
section
variable {n:Nd} {b:Int}
def aaP (a:NdOK n) (h:n.d.down=true):((if n.d.down=true then n.d.up else n.d).cut (replayF n.d.b).2).OK:=(rV h a.d).1
def adk (a:NdOK n):(if n.d.down=true then n.d.up else n.d).OK:=by
 split
 ·exact Zw a.d
 exact a.d
def aeo {p:Prop} (a:NdOK n) (h:n.d.down=true) (c:¬ (if n.d.down=true then n.d.up else n.d).lh (replayF n.d.b).2=0):p:=absurd (rV h a.d).2.1 c
def af0 {p:Prop} (h:n.d.down=true) (a:¬ (if n.d.down=true then (0:Int) else 31)=0):p:=absurd (if_pos h) a
def aah (a:NdOK n) (h:n.d.down=true):((n.fr b).save [⟨1,b,0,[]⟩]).d.OK:=re (rV h a.d).1
theorem aer {p:Prop} (h:n.d.down=false\/¬ bW b (max (replayF n.d.b).1.floor 1)=0) (a:n.d.down=true) (c:bW b (max (replayF n.d.b).1.floor 1)=0):p:=by grind
end
def wH:Kn:=aO (ae (kC (ba 0 0)) (ae (kC cI) al)) rk fun (_,b,_) n=>⟨[NdOK n,n.d.down=true,bW b (max (replayF n.d.b).1.floor 1)=0],[.c (.int (((aL n b).e)))],some ([.box 103 (noF 0 (((aL n b).n.c))++[.em true,.em true,.em true,.em true,.em true]),.box 147 ([.own 2,.int (((aL n b).n.d.synced)),.bool (.atom (((aL n b).n.d.down))),.bool (.atom (((aL n b).n.d.doomed))),.int (((aL n b).n.d.keep))]),.row 5 .u8 (((aL n b).n.d.b)),.row 78 (.nm .reply) ((n.rp)),.row 4 .bool ((n.vs)),.row 3 .int ((n.bn)),.row 3 .int ((n.nx)),.row 3 .int ((n.mt))]),false⟩
def vI:CK 13 wH:=ah fun (_,b,_) n T=>by
 have o:=cg T;have p:=cg (eW T);have S:=cg (eW (eW T));refine bA uD [] Tryz.func13 (?_:(fun (q:Bool)=>(fun (j:NdC)=>(fun (G:Int)=>(fun (D:Int)=>(fun (h:Int)=>(fun (y:Int)=>(fun (H:List (den (Sh.nm NT.record)))=>(fun (F:Stable × Int)=>(fun (z:Int)=>(fun (l:Int)=>(fun (V:NdC)=>(fun (N:Prop)=>(fun (U:Nd)=>(fun (f:Dsk)=>(fun (t:Bool)=>(fun (u:Int)=>(fun (a:NdC)=>(fun (I:Prop)=>(fun (J:Prop)=>(fun (K:Prop)=>(fun (A:Prop)=>(fun (L:Prop)=>(fun (B:Prop)=>(fun (O:Prop)=>(fun (k:Dsk)=>(fun (i:Dsk)=>(fun (P:Nd)=>(fun (C:Int)=>(fun (Q:Prop)=>(fun (v:Nd)=>(fun (g:NdC)=>(fun (w:Dsk)=>I64 b->(q=false->(31:Int)=G/\O)/\(q=true->(h<=n.d.synced/\n.d.synced<=(↑n.d.b.length:Int)/\n.d.b.length<=(65536:Nat))/\n.d.b.length<=(1000000:Nat)/\bS F.fst (I64 l->I64 z->(¬z=h->z=G/\O)/\(z=h->I64 y->(¬y=h->y=G/\A/\B/\I/\aD j.st a.st (J/\K/\L/\bJ j.s a.s (False/\False/\False/\False/\False/\k.synced=u/\k.down=f.down/\k.doomed=t/\k.keep=f.keep/\k.b=f.b/\N)))/\(y=h->(h<=k.synced/\k.synced<=(↑k.b.length:Int)/\k.b.length<=(65536:Nat))/\(I64 (k.lh l)->(¬k.lh l=h->k.lh l=G/\A/\B/\I/\aD j.st a.st (J/\K/\L/\bJ j.s a.s (False/\False/\False/\False/\False/\Q)))/\(k.lh l=h->I64 D->I64 D->I64 h->I64 h->(0:Nat)*(32:Nat)<=(140737488355328:Nat)->(0:Nat)*(16:Nat)<=(140737488355328:Nat)->(0:Nat)*(64:Nat)<=(140737488355328:Nat)->(F.fst.floor<b->(h<=i.synced/\i.synced<=(↑i.b.length:Int)/\i.b.length<=(65536:Nat))/\F.fst.log.length<=(10000:Nat)/\H.length<=(1000:Nat)/\(I64 C->(¬C=h->(h<=v.d.synced/\v.d.synced<=(↑v.d.b.length:Int)/\v.d.b.length<=(65536:Nat))/\C=G/\g.me=a.me/\g.many=a.many/\g.bin=a.bin/\aD g.st a.st (g.role=a.role/\g.commit=a.commit/\g.applied=a.applied/\bJ g.s a.s (w.synced=u/\w.down=f.down/\w.doomed=t/\w.keep=f.keep/\w.b=f.b/\N)))/\(C=h->h=G/\g.me=a.me/\g.many=a.many/\g.bin=a.bin/\aD g.st a.st (g.role=a.role/\g.commit=a.commit/\g.applied=a.applied/\bJ g.s a.s (v.d.synced=u/\v.d.down=f.down/\v.d.doomed=t/\v.d.keep=f.keep/\v.d.b=f.b/\N)))))/\(b<=F.fst.floor->h=G/\A/\B/\b=a.bin/\aD F.fst a.st (h=a.role/\h=a.commit/\h=a.applied/\bJ (State.mk D D h h [] [] []) a.s Q))))))))) (v.d.ck h)) v.c) (P.save H)) (i.synced=u/\i.down=f.down/\i.doomed=t/\i.keep=f.keep/\i.b=f.b/\N)) (P.aR H)) (Nd.mk V i [] [] [] [] [])) (k.cut l)) (if q=true then n.d.up else n.d)) (A/\B/\I/\aD j.st a.st (J/\K/\L/\bJ j.s a.s (False/\False/\False/\False/\False/\n.d.synced=u/\q=f.down/\n.d.doomed=t/\n.d.keep=f.keep/\n.d.b=f.b/\N)))) (j.many=a.many)) (j.applied=a.applied)) (j.me=a.me)) (j.commit=a.commit)) (j.role=a.role)) (j.bin=a.bin)) U.c) f.synced) f.doomed) U.d) (aL n b).n) (n.rp=n.rp/\n.vs=n.vs/\n.bn=n.bn/\n.nx=n.nx/\n.mt=n.mt)) (NdC.mk j.me j.many b F.fst h h h (State.mk D D h h [] [] []))) F.snd) (bW b (max F.fst.floor D))) (replayF n.d.b)) [Record.mk D b h []]) (if q=true then h else (31:Int))) (0:Int)) (1:Int)) (aL n b).e) n.c) n.d.down)
 obtain ⟨W,X,Y⟩:=id o.d;have Z:=o.log;(repeat' with_reducible first|apply a_|refine aY ?_|intro)
 all_goals (first | exact bq | exact (ahN p ab) | exact (absurd S ab) | exact (aeo o p ab) | exact (af0 p ab) | exact afE | exact aez | exact (aaP o p).1 | exact (aaP o p).2.1 | exact (aaP o p).2.2 | exact (adk o).1 | exact (adk o).2.1 | exact (adk o).2.2 | exact (aah o p).1 | exact (aah o p).2.1 | exact (aah o p).2.2 | (rw [Xk (n:=n) (b:=b) p S ab ab] <;> rfl) | (rw [aav (n:=n) (b:=b) p S ab ab] <;> rfl) | (rw [Vy (n:=n) (b:=b) p S ab] <;> rfl))
theorem JL (b:Int) (n:Nd) (f:NdOK n) (g:n.d.down=true) (h:bW b (max (replayF n.d.b).1.floor 1)=0):Sat Tryz.prog (ak tyT) 13 [.c (.ptr 0 0),.c (.int (b))] (mW n) ⟨[NdOK n,n.d.down=true,bW b (max (replayF n.d.b).1.floor 1)=0],[.c (.int (((aL n b).e)))],some ([.box 103 (noF 0 (((aL n b).n.c))++[.em true,.em true,.em true,.em true,.em true]),.box 147 ([.own 2,.int (((aL n b).n.d.synced)),.bool (.atom (((aL n b).n.d.down))),.bool (.atom (((aL n b).n.d.doomed))),.int (((aL n b).n.d.keep))]),.row 5 .u8 (((aL n b).n.d.b)),.row 78 (.nm .reply) ((n.rp)),.row 4 .bool ((n.vs)),.row 3 .int ((n.bn)),.row 3 .int ((n.nx)),.row 3 .int ((n.mt))]),false⟩:=vI _ _ _ rfl (by intro p a; simp only [ado,akB,or_false] at a; rcases a with rfl | rfl | rfl <;> assumption)
def vB:Kn:=aO (ae (kC (ba 0 0)) (ae (kC cI) al)) rk fun (_,b,_) n=>⟨[NdOK n,n.d.down=false\/¬ bW b (max (replayF n.d.b).1.floor 1)=0],[.c (.int (((aL n b).e)))],some ((mW ((aL n b).n))),false⟩
def we:CK 13 vB:=ah fun (_,b,_) n C=>by
 have D:=cg C;have F:=cg (eW C);refine bA uD [] Tryz.func13 (?_:(fun (B:Bool)=>(fun (w:Int)=>(fun (u:Int)=>(fun (h:Int)=>(fun (q:Int)=>(fun (z:List (den (Sh.nm NT.record)))=>(fun (v:Stable × Int)=>(fun (j:Int)=>(fun (t:Int)=>(fun (p:Dsk)=>(fun (i:Dsk)=>(fun (k:Nd)=>(fun (g:Dsk)=>(fun (a:NdC)=>(fun (y:Prop)=>(fun (A:Nd)=>(fun (l:Nd)=>(fun (f:NdC)=>(fun (o:Dsk)=>I64 b->(B=false->(31:Int)=w/\bZ n k)/\(B=true->(h<=n.d.synced/\n.d.synced<=(↑n.d.b.length:Int)/\n.d.b.length<=(65536:Nat))/\n.d.b.length<=(1000000:Nat)/\bS v.fst (I64 j->I64 t->(¬t=h->t=w/\bZ n k)/\(t=h->I64 q->(¬q=h->q=w/\bZ (Nd.mk n.c p n.rp n.vs n.bn n.nx n.mt) k)/\(q=h->(h<=p.synced/\p.synced<=(↑p.b.length:Int)/\p.b.length<=(65536:Nat))/\(I64 (p.lh j)->(¬p.lh j=h->p.lh j=w/\bZ (Nd.mk n.c i n.rp n.vs n.bn n.nx n.mt) k)/\(p.lh j=h->I64 u->I64 u->I64 h->I64 h->(0:Nat)*(32:Nat)<=(140737488355328:Nat)->(0:Nat)*(16:Nat)<=(140737488355328:Nat)->(0:Nat)*(64:Nat)<=(140737488355328:Nat)->(v.fst.floor<b->(h<=i.synced/\i.synced<=(↑i.b.length:Int)/\i.b.length<=(65536:Nat))/\v.fst.log.length<=(10000:Nat)/\z.length<=(1000:Nat)/\(I64 (A.aR z)->(¬A.aR z=h->(h<=l.d.synced/\l.d.synced<=(↑l.d.b.length:Int)/\l.d.b.length<=(65536:Nat))/\A.aR z=w/\f.me=a.me/\f.many=a.many/\f.bin=a.bin/\aD f.st a.st (f.role=a.role/\f.commit=a.commit/\f.applied=a.applied/\bJ f.s a.s (False/\False/\False/\False/\False/\o.synced=g.synced/\o.down=g.down/\o.doomed=g.doomed/\o.keep=g.keep/\o.b=g.b/\y)))/\(A.aR z=h->h=w/\f.me=a.me/\f.many=a.many/\f.bin=a.bin/\aD f.st a.st (f.role=a.role/\f.commit=a.commit/\f.applied=a.applied/\bJ f.s a.s (False/\False/\False/\False/\False/\l.d.synced=g.synced/\l.d.down=g.down/\l.d.doomed=g.doomed/\l.d.keep=g.keep/\l.d.b=g.b/\y)))))/\(b<=v.fst.floor->h=w/\n.c.me=a.me/\n.c.many=a.many/\b=a.bin/\aD v.fst a.st (h=a.role/\h=a.commit/\h=a.applied/\bJ (State.mk u u h h [] [] []) a.s (False/\False/\False/\False/\False/\i.synced=g.synced/\i.down=g.down/\i.doomed=g.doomed/\i.keep=g.keep/\i.b=g.b/\y)))))))))) (l.d.ck h)) l.c) (A.save z)) (Nd.mk (NdC.mk n.c.me n.c.many b v.fst h h h (State.mk u u h h [] [] [])) i [] [] [] [] [])) (n.rp=k.rp/\n.vs=k.vs/\n.bn=k.bn/\n.nx=k.nx/\n.mt=k.mt)) k.c) k.d) (aL n b).n) (p.cut j)) (if B=true then n.d.up else n.d)) (bW b (max v.fst.floor u))) v.snd) (replayF n.d.b)) [Record.mk u b h []]) (if B=true then h else (31:Int))) (0:Int)) (1:Int)) (aL n b).e) n.d.down);obtain ⟨G,H,I⟩:=id D.d;have J:=D.log;(repeat' with_reducible first|apply a_|refine aY ?_|intro)
 all_goals (first | exact bq | exact (aer F ab ab) | (rw [agk (n:=n) (b:=b) ab] <;> rfl) | (rw [af2 (n:=n) (b:=b) ab ab] <;> rfl))
theorem wS (b:Int) (n:Nd) (f:NdOK n) (g:n.d.down=false\/¬ bW b (max (replayF n.d.b).1.floor 1)=0):Sat Tryz.prog (ak tyT) 13 [.c (.ptr 0 0),.c (.int (b))] (mW n) ⟨[NdOK n,n.d.down=false\/¬ bW b (max (replayF n.d.b).1.floor 1)=0],[.c (.int (((aL n b).e)))],some ((mW ((aL n b).n))),false⟩:=we _ _ _ rfl (by intro p a; simp only [ado,akB,or_false] at a; rcases a with rfl | rfl <;> assumption)
def Lg (b:Int) (n:Nd) (a:NdOK n):Sat Tryz.prog (ak tyT) 13 [.c (.ptr 0 0),.c (.int (b))] (mW n) ⟨[NdOK n],[.c (.int (((aL n b).e)))],some ((mW ((aL n b).n))),false⟩:=by
 by_cases f:n.d.down=true
 ·by_cases g:bW b (max (replayF n.d.b).1.floor 1)=0
  ·have h:=Sat.Lm 0 22 3 .int bP rfl rfl (Sat.Lm 0 21 3 .int bP rfl rfl (Sat.Lm 0 20 3 .int bP rfl rfl (Sat.Lm 0 19 4 .bool bP rfl rfl (Sat.Lm 0 18 78 (.nm .reply) bP rfl rfl (Sat.ahz bP rfl ZU (JL b n a f g)) rfl) rfl) rfl) rfl) rfl;obtain ⟨i,j,k,l,o⟩:=aiZ f g;rw [ahw i j k l o];exact ⟨h.1,h.2⟩
  have h:=wS b n a (.inr g);exact ⟨h.1,h.2⟩
 have h:=wS b n a (.inl (by simpa using f));exact ⟨h.1,h.2⟩
def BR:Kn:=aO (ae (kC (ba 0 0)) (ae (kC cI) al)) rk fun (_,b,_) n=>⟨[NdOK n],[.c (.int (((aL n b).e)))],some ((mW ((aL n b).n))),false⟩
def PA:CK 13 BR:=ah fun (_,b,_) n a=>Lg b n (cg a)
def Zo:bH:=(aP 13 BR (aP 13 vB (aP 13 wH XP)))
def CJ:aw Tryz.prog (ak tyT) Zo:=(ag PA (ag we (ag vI uD)))
def ajH (n:Nd):AH:=.box 25 [.ptr 1 0] :: ndO 1 n
def aam:PH Nd:=PH.iso (aH (dN 25 (ax (ba 1 0) dK)) (aeA 1 av)) (·.2.1) (fun n=>(((),()),n,()))
def gF (n:Nd) (r:Record):Bool:=decide (r.kind=4) && decide (r.a<=n.c.commit)
def Ob (n:Nd) (l:List Record):Int:=if l.any (gF n)=true then (l.findIdx (gF n):Int) else -1
section
variable {n:Nd} {l:List Record} {k:Nat} {r:Record}
def aiB (h:(l.take k).any (gF n)=false) (a:l[k]? = some r) (c:gF n r=false):(l.take (k+1)).any (gF n)=false:=by
 rw [ai a,List.any_append,h]; simp [c]
def ahu (h:(l.take k).any (gF n)=false) (c:l[k]? = some r) (d:gF n r=true):(k:Int)=Ob n l:=by
 have a:=aad.1 c;have f:l.any (gF n)=true:=List.any_eq_true.2 ⟨r,adB c,d⟩;rw [Ob,if_pos f];have e:l.findIdx (gF n)=k:=by
  rw [List.findIdx_eq a.1];refine ⟨by rw [a.2]; exact d,fun j g=>?_⟩;have:=List.any_eq_false.1 h (l[j]'(by have:=a.1; omega)) (List.mem_iff_getElem?.2 ⟨j,by rw [List.getElem?_take_of_lt g,List.getElem?_eq_getElem]⟩);simpa using this
 rw [e]
def alr (h:(l.take k).any (gF n)=false) (a:(l.length:Int)<=k):-1=Ob n l:=by
 rw [List.take_of_length_le aI] at h;rw [Ob,if_neg (by rw [h]; decide)]
def ajD:decide (0<=Ob n l)=l.any (gF n):=by
 unfold Ob;cases h:l.any (gF n) <;> simp
end
def Ic:Kn:=aO (ae (kT (.nm .record)) (ae (kC (ba 0 0)) al)) aam fun (r,_,_) n=>⟨[],[.c (.bool (.atom ((gF n r))))],none,false⟩
theorem SQ:CK 97 Ic:=ah fun (r,_,_) n _=>by
 refine ao CJ [] Tryz.func97 (?_:de r ((r.kind=4->decide (r.a<=n.c.commit)=gF n r)/\(¬r.kind=4->false=gF n r)));(repeat' with_reducible first|apply a_|refine aY ?_|intro)
 all_goals (first | exact bq | (simp only [gF]; simp_all; done) | exact rfl)
def Yt:bH:=(aP 97 Ic Zo)
def As:aw Tryz.prog (ak tyT) Yt:=(ag SQ CJ)
def ald (l:List Record) (n:Nd):List (Nat × LI):=[(2,{ σ:=Nat,F:=fun k=>([(0,one (.fz (.nm .record) (l))),(1,one (.fn 97 [] [(0,0)])),(7,one (.int (l).length)),(8,one (.int k))],(ajH (n))),J:=fun k=>k<=l.length/\(l.take k).any (gF n)=false,μ:=fun k=>(l).length - k })]
def Yy:Kn:=aO (ae (kC (cL (.nm .record))) (ae (kC (rL 97 [] [(0,0)])) al)) aam fun (l,_,_) n=>⟨[],[.c (.int ((Ob n l)))],none,false⟩
theorem adX:CK 168 Yy:=ah fun (l,_,_) n _=>by
 refine ao As (ald l n) Tryz.func168 (?_:(fun (a:Nat)=>l.length*48<=140737488355328->∃ (d:Nat),(l=l/\(↑l.length:Int)=(↑a:Int)/\0=(↑d:Int)/\bZ n n)/\(d<=a/\(List.take d l).any (gF n)=false)/\∀ (s:Nat),s<=a/\(List.take s l).any (gF n)=false->((↑s:Int)<(↑a:Int)->0<=(↑s:Int)/\(↑s:Int)<(↑l.length:Int)/\∀ (x:Record),l[s]? = some x->de x ((gF n x=true->(↑s:Int)=Ob n l)/\(gF n x=false->I64 ((↑s:Int)+1)/\∃ (c:Nat),(l=l/\(↑a:Int)=(↑a:Int)/\(↑s:Int)+1=(↑c:Int)/\bZ n n)/\(c <= a/\(List.take c l).any (gF n)=false)/\a - c < a - s)))/\((↑a:Int)<=(↑s:Int) -> -1=Ob n l)) l.length);iterate 3 ((all_goals (repeat' with_reducible first|apply a_|refine aY ?_|intro)); (all_goals try (first | exact bq | exact rfl | exact (aiB ab ab ab) | exact (ahu ab ab ab) | exact (alr ab ab))); all_goals try first | refine ⟨‹Nat› + 1,?_⟩ | refine ⟨0,?_⟩)
def XG:bH:=(aP 168 Yy Yt)
def CQ:aw Tryz.prog (ak tyT) XG:=(ag adX As)
def YN:Kn:=aO (ae (kC (cL (.nm .record))) (ae (kC (rL 97 [] [(0,0)])) al)) aam fun (l,_,_) n=>⟨[],[.c (.bool (.atom ((l.any (gF n)))))],none,false⟩
def aes:CK 96 YN:=ah fun (l,_,_) n _=>by
 refine ao CQ [] Tryz.func96 (?_:l.length*48<=140737488355328->I64 (Ob n l)->decide (0<=Ob n l)=l.any (gF n));(repeat' with_reducible first|apply a_|refine aY ?_|intro)
 all_goals (first | exact bq | exact ajD)
def Yd:bH:=(aP 96 YN XG)
def Aj:aw Tryz.prog (ak tyT) Yd:=(ag aes CQ)
variable {n:NdC}
def aev (h:(¬ mayL x=0\/¬ x.to=n.me)\/n.many<=x.frm):dr n x=false:=if_pos h
def adP (h:mayL x=0) (c:x.to=n.me) (d:x.frm<n.many) (a:¬ x.kind=3):dr n x=true:=by rw [dr,if_neg aI,if_pos a]
def aeB (h:mayL x=0) (c:x.to=n.me) (d:x.frm<n.many) (e:x.kind=3) (a:¬ (aE n.st x).2.2.2=0):dr n x=false:=by rw [dr,if_neg aI,if_neg aI,if_pos a]
variable {n:Nd}
def adS (h:mayL x=0) (a:x.to=n.c.me) (d:x.frm<n.c.many) (e:x.kind=3) (f:(aE n.c.st x).2.2.2=0):(!(aE n.c.st x).1.any (gF n))=dr n.c x:=by rw [dr,if_neg aI,if_neg aI,if_neg aI]; rfl
def Qe:Kn:=aO (ae (kC (ba 0 0)) (ae (kT (.nm .letter)) al)) rk fun (_,x,_) n=>⟨[],[.c (.bool (.atom ((dr n.c x))))],none,false⟩
def acZ:CK 55 Qe:=ah fun (_,x,_) n _=>by
 refine ao Aj [] Tryz.func55 (?_:(fun a=>aT x (I64 (mayL x)->((¬mayL x=0\/¬x.to=n.c.me)\/n.c.many<=x.frm->false=dr n.c x)/\((mayL x=0/\x.to=n.c.me)/\x.frm<n.c.many->(¬x.kind=3->true=dr n.c x)/\(x.kind=3->(aE n.c.st x).fst.length*48<=140737488355328->I64 a.fst->I64 a.snd->(¬a.snd=0->false=dr n.c x)/\(a.snd=0->(!(aE n.c.st x).fst.any (gF n))=dr n.c x))))) (aE n.c.st x).snd.snd);(repeat' with_reducible first|apply a_|refine aY ?_|intro)
 all_goals (first | exact bq | exact (adS ab ab ab ab ab) | exact (aev ab).symm | exact (adP ab ab ab ab).symm | exact (aeB ab ab ab ab ab).symm)
def Xs:bH:=(aP 55 Qe Yd)
def rZ:aw Tryz.prog (ak tyT) Xs:=(ag acZ Aj)
theorem aeO:∀ {k:Nat} {n:Nd},(n.dx k).nx=n.nx/\(n.dx k).d=n.d/\(n.dx k).c.me=n.c.me/\(n.dx k).c.st=n.c.st
 | 0,_=>⟨rfl,rfl,rfl,rfl⟩
 | k+1,n=>by
  unfold Nd.dx;split
  ·split
   ·exact aeO
   grind
  grind
def YX:n.apply.nx=n.nx:=aeO.1
variable {k:Int} {l:List Int}
theorem My {s:Stable} (h:k<=(s.log.length:Int)):mh s l k<=(s.log.length:Int):=by
 unfold mh;grind
abbrev PV (n:Nd) (x:Letter):Nd:=⟨⟨n.c.me,n.c.many,n.c.bin,n.c.st,n.c.role,mh n.c.st ((n.mt.set x.frm.toNat (max (n.mt.getD x.frm.toNat (aj Sh.int)) (min x.a (n.c.st.log.length:Int)))).set n.c.me.toNat (n.c.st.log.length:Int)) n.c.commit,n.c.applied,n.c.s⟩,n.d,n.rp,n.vs,n.bn,n.nx.set x.frm.toNat (min (jC (n.nx.getD x.frm.toNat (aj Sh.int)) x) ((n.c.st.log.length:Int)+1)),n.mt.set x.frm.toNat (max (n.mt.getD x.frm.toNat (aj Sh.int)) (min x.a (n.c.st.log.length:Int)))⟩
abbrev SA (n:Nd) (x:Letter):Nd:=⟨⟨n.c.me,n.c.many,n.c.bin,n.c.st,n.c.role,mh n.c.st (n.mt.set n.c.me.toNat (n.c.st.log.length:Int)) n.c.commit,n.c.applied,n.c.s⟩,n.d,n.rp,n.vs,n.bn,n.nx.set x.frm.toNat (min (jC (n.nx.getD x.frm.toNat (aj Sh.int)) x) ((n.c.st.log.length:Int)+1)),n.mt⟩
section
variable {n:Nd} {x:Letter}
def RA (h:x.ok=true):n.SH x=PV n x:=by
 unfold Nd.SH; dsimp only; rw [if_pos h]; rfl
def Nf (h:x.ok=false):n.SH x=SA n x:=by
 unfold Nd.SH; dsimp only; rw [if_neg (mj h)]; rfl
def acz:(PV n x).apply.nx.length=n.nx.length:=by rw [YX]; exact aeD
def abo:(SA n x).apply.nx.length=n.nx.length:=by rw [YX]; exact aeD
variable {G:Nd}
def aeN (a:n.SH x=G) (h:(n.c.st.log.length:Int)<G.apply.nx.getD x.frm.toNat (aj Sh.int)):gw n x=⟨G.apply,[],0⟩:=by
 rw [gw,a]; exact if_pos h
def aen (a:n.SH x=G) (h:G.apply.nx.getD x.frm.toNat (aj Sh.int)<=(n.c.st.log.length:Int)) (d:¬ (jt G.apply x.frm).2=0):gw n x=⟨G.apply,[],(jt G.apply x.frm).2⟩:=by
 rw [gw,a]; exact (if_neg (Int.not_lt.2 h)).trans (if_neg d)
def afo (a:n.SH x=G) (h:G.apply.nx.getD x.frm.toNat (aj Sh.int)<=(n.c.st.log.length:Int)) (d:(jt G.apply x.frm).2=0):gw n x=⟨G.apply,[(jt G.apply x.frm).1],0⟩:=by
 rw [gw,a]; exact (if_neg (Int.not_lt.2 h)).trans (if_pos d)
end
def dh (n:Nd) (k:Nat):Nd:={ n with c:={ n.c with role:=2 },nx:=List.replicate k ((n.c.st.log.length:Int)+1)++n.nx.drop k,mt:=List.replicate k (0:Int)++n.mt.drop k }
theorem yJ {c:Type} {a:c}:∀ {l:List c} {k:Nat},k<l.length->(List.replicate k a++l.drop k).set k a=List.replicate (k+1) a++l.drop (k+1)
 | x :: l,0,_=>by simp
 | x :: l,k+1,h=>by
  rw [List.replicate_succ,List.drop_succ_cons,List.cons_append,List.set_cons_succ,yJ (by simpa using h),List.replicate_succ (n:=k+1),List.cons_append,List.drop_succ_cons]
section
variable {n:Nd} {k:Nat}
def agd (h:(k:Int)<(n.nx.length:Int)):(dh n k).nx.set k ((n.c.st.log.length:Int)+1)=(dh n (k+1)).nx:=yJ aI
def afM (h:(k:Int)<(n.mt.length:Int)):(dh n k).mt.set k 0=(dh n (k+1)).mt:=yJ aI
def Ye (h:k<=n.nx.length):(dh n k).nx.length=n.nx.length:=by
 simp only [dh,List.length_append,ag6,List.length_drop]; omega
def ae2 (h:k<=n.mt.length):(dh n k).mt.length=n.mt.length:=by
 simp only [dh,List.length_append,ag6,List.length_drop]; omega
variable (h1:(n.nx.length:Int)=n.c.many) (h2:(n.mt.length:Int)=n.c.many) (hk:k<=n.c.many.toNat) (hm:n.c.many<=k)
include h1 h2 hk hm
theorem ab8:dh n k={ n with c:={ n.c with role:=2 },nx:=List.replicate n.nx.length ((n.c.st.log.length:Int)+1),mt:=List.replicate n.mt.length 0 }:=by
 unfold dh;grind
def akD (h:(n.c.st.log.length:Int)+1<=64) (a:(dh n k).aR [⟨3,(n.c.st.log.length:Int)+1,(dh n k).c.st.term,[]⟩]=0):fV n=⟨(dh n k).save [⟨3,(n.c.st.log.length:Int)+1,(dh n k).c.st.term,[]⟩],(bD ((dh n k).save [⟨3,(n.c.st.log.length:Int)+1,(dh n k).c.st.term,[]⟩])).1,(bD ((dh n k).save [⟨3,(n.c.st.log.length:Int)+1,(dh n k).c.st.term,[]⟩])).2⟩:=by
 rw [ab8 h1 h2 hk hm] at a ⊢;exact (if_pos h).trans (if_pos a)
def alm (h:(n.c.st.log.length:Int)+1<=64) (a:¬ (dh n k).aR [⟨3,(n.c.st.log.length:Int)+1,(dh n k).c.st.term,[]⟩]=0):fV n=⟨(dh n k).save [⟨3,(n.c.st.log.length:Int)+1,(dh n k).c.st.term,[]⟩],[],(dh n k).aR [⟨3,(n.c.st.log.length:Int)+1,(dh n k).c.st.term,[]⟩]⟩:=by
 rw [ab8 h1 h2 hk hm] at a ⊢;exact (if_pos h).trans (if_neg a)
def akP (h:64<(n.c.st.log.length:Int)+1):fV n=⟨dh n k,(bD (dh n k)).1,(bD (dh n k)).2⟩:=by
 rw [ab8 h1 h2 hk hm];exact if_neg aI
end
def abC (n:Nd):List (Nat × LI):=[(4,{ σ:=Nat,F:=fun k=>([(0,one (.ptr 0 0)),(4,one (.int (n.c.st.log.length+1))),(22,one (.int n.c.many)),(23,one (.int k))],(mW ((dh n k)))),J:=fun k=>k<=n.c.many.toNat,μ:=fun k=>n.c.many.toNat - k })]
def Gx:Kn:=aO (ae (kC (ba 0 0)) (ae (kT (.nm .letter)) al)) rk fun (_,x,_) n=>⟨[NdOK n,0<=x.frm/\x.frm<n.c.many,n.c.role=2,0<=x.a/\x.a<=64],[.c (.fz (.nm .letter) (((gw n x).l))),.c (.int (((gw n x).e)))],some ((mW ((gw n x).n))),false⟩
def Uj:CK 103 Gx:=ah fun (_,x,_) n K=>by
 have B:=cg K;have N:=cg (eW K);have O:=cg (eW (eW K));have P:=cg (eW (eW (eW K)));refine bA rZ [] Tryz.func103 (?_:(fun f=>(fun t=>(fun H=>(fun i=>(fun L=>(fun q=>(fun F=>(fun h=>(fun p=>(fun o=>(fun j=>(fun g=>(fun y=>(fun u=>(fun I=>(fun C=>(fun J=>(fun D=>(fun v=>(fun z=>(fun w=>(fun A=>aT x (j/\o<(↑n.nx.length:Int)/\(p<=x.a/\x.a<=64)/\I64 (u+1)/\j/\o<(↑n.nx.length:Int)/\(I64 y->I64 (jC y x)->I64 y->(x.ok=true->j/\o<(↑n.mt.length:Int)/\j/\o<(↑n.mt.length:Int)/\(I64 (n.mt.getD g q)->I64 (n.mt.getD g q)->p<=f.me/\f.me<(↑J.length:Int)/\(I64 (J.getD F q)->(J.set F u).length<=12/\(I64 D->((p<=t/\D<=(↑i.log.length:Int))/\L)/\j/\o<(↑w.nx.length:Int)/\(I64 (w.nx.getD g q)->(u<w.nx.getD g q->h.l=[]/\p=h.e/\bZ w h.n)/\(w.nx.getD g q<=u->(j/\o<(↑w.nx.length:Int))/\aT (jt w o).fst (I64 A->(¬A=p->h.l=[]/\A=h.e/\bZ w h.n)/\(A=p->[(jt w o).fst]=h.l/\p=h.e/\bZ w h.n))))))))/\(x.ok=false->p<=f.me/\f.me<(↑n.mt.length:Int)/\(I64 (n.mt.getD F q)->(n.mt.set F u).length<=12/\(I64 C->((p<=t/\C<=(↑i.log.length:Int))/\L)/\j/\o<(↑v.nx.length:Int)/\(I64 (v.nx.getD g q)->(u<v.nx.getD g q->h.l=[]/\p=h.e/\bZ v h.n)/\(v.nx.getD g q<=u->(j/\o<(↑v.nx.length:Int))/\aT (jt v o).fst (I64 z->(¬z=p->h.l=[]/\z=h.e/\bZ v h.n)/\(z=p->[(jt v o).fst]=h.l/\p=h.e/\bZ v h.n)))))))))) (jt w o).snd) (Nd.mk (NdC.mk f.me f.many f.bin i f.role D t f.s) n.d n.rp n.vs n.bn I J).apply) (jt v o).snd) (Nd.mk (NdC.mk f.me f.many f.bin i f.role C t f.s) n.d n.rp n.vs n.bn I n.mt).apply) (mh i (J.set F u) H)) (n.mt.set g (max (n.mt.getD g q) (min x.a u)))) (mh i (n.mt.set F u) H)) (n.nx.set g (min (jC y x) (u+1)))) (↑i.log.length:Int)) (n.nx.getD g q)) o.toNat) (p<=o)) x.frm) (0:Int)) (gw n x)) f.me.toNat) (aj Sh.int)) ((↑n.rp.length:Int)<=t/\i.log.length<=10000)) f.st) f.commit) f.applied) n.c);obtain ⟨Q,S,T⟩:=id B.d;have U:=B.log;have V:=B.many;have W:=B.me;have o7:=B.com;have X:=B.term;have Y:=B.rp;obtain ⟨Z,b,k,m⟩:=B.len.resolve_left aI;(repeat' with_reducible first|apply a_|refine aY ?_|intro)
 all_goals (first | exact bq | exact (My o7.2.2) | (rw [acz]; omega) | (rw [abo]; omega) | (rw [aeD]; omega) | (rw [aeD,aeD]; omega) | (rw [aeN (n:=n) (x:=x) (G:=PV n x) (RA ab) ab] <;> rfl) | (rw [aen (n:=n) (x:=x) (G:=PV n x) (RA ab) ab ab] <;> rfl) | (rw [afo (n:=n) (x:=x) (G:=PV n x) (RA ab) ab ab] <;> rfl) | (rw [aeN (n:=n) (x:=x) (G:=SA n x) (Nf ab) ab] <;> rfl) | (rw [aen (n:=n) (x:=x) (G:=SA n x) (Nf ab) ab ab] <;> rfl) | (rw [afo (n:=n) (x:=x) (G:=SA n x) (Nf ab) ab ab] <;> rfl))
def GL:Kn:=aO (ae (kC (ba 0 0)) al) rk fun _ n=>⟨[NdOK n,n.c.role=1],[.c (.fz (.nm .letter) (((fV n).l))),.c (.int (((fV n).e)))],some ((mW ((fV n).n))),false⟩
theorem TB:CK 102 GL:=ah fun _ n w=>by
 have j:=cg w;have G:=cg (eW w);refine bA rZ (abC n) Tryz.func102 (?_:(fun (y:Int)=>(fun (h:NdR)=>(fun (i:Int)=>(fun (f:Int)=>(fun (z:Int)=>(fun (o:Int)=>I64 y/\∃ (u:Nat),(y=o/\f=f/\i=(↑u:Int)/\bZ (Nd.mk (NdC.mk n.c.me f n.c.bin n.c.st 2 n.c.commit n.c.applied n.c.s) n.d n.rp n.vs n.bn n.nx n.mt) (dh n u))/\u<=f.toNat/\∀ (s:Nat),(fun (a:Nd)=>(fun (p:List (den (Sh.nm NT.record)))=>(fun (g:Nd)=>s<=f.toNat->((↑s:Int)<f->(i<=(↑s:Int)/\(↑s:Int)<(↑a.nx.length:Int))/\(I64 (a.nx.getD s (aj Sh.int))->i<=(↑s:Int)/\(↑s:Int)<(↑a.mt.length:Int))/\(I64 (a.nx.getD s (aj Sh.int))->I64 (a.mt.getD s (aj Sh.int))->I64 ((↑s:Int)+1)/\∃ (q:Nat),(o=o/\f=f/\(↑s:Int)+1=(↑q:Int)/\bZ (Nd.mk a.c a.d a.rp a.vs a.bn (a.nx.set s o) (a.mt.set s i)) (dh n q))/\q <= f.toNat/\f.toNat - q < f.toNat - s))/\(f<=(↑s:Int)->(o<=64->(i<=a.d.synced/\a.d.synced<=(↑a.d.b.length:Int)/\a.d.b.length<=65536)/\a.c.st.log.length<=10000/\p.length<=1000/\(I64 (a.aR p)->(¬a.aR p=i->h.l=[]/\a.aR p=h.e/\bZ g h.n)/\(a.aR p=i->g.c.many<=5/\(g.c.role=i\/(↑g.nx.length:Int)=g.c.many)/\((bD g).fst.length*96<=140737488355328->I64 (bD g).snd->(bD g).fst=h.l/\(bD g).snd=h.e/\bZ g h.n))))/\(64<o->a.c.many<=5/\(a.c.role=i\/(↑a.nx.length:Int)=a.c.many)/\((bD a).fst.length*96<=140737488355328->I64 (bD a).snd->(bD a).fst=h.l/\(bD a).snd=h.e/\bZ a h.n)))) (a.save p)) [Record.mk z o a.c.st.term []]) (dh n s)) ((↑n.c.st.log.length:Int)+1)) 3) n.c.many) 0) (fV n)) ((↑n.c.st.log.length:Int)+1));obtain ⟨A,B,C⟩:=id j.d;have D:=j.log;have F:=j.many;have H:=j.me;have o7:=j.com;have I:=j.term;have J:=j.rp;obtain ⟨K,L,t,v⟩:=j.len.resolve_left aI;iterate 3 ((all_goals (repeat' with_reducible first|apply a_|refine aY ?_|intro)); (all_goals try (first | exact bq | exact rfl | exact (agd aI) | exact (afM aI) | (rw [Ye aI]; omega) | (rw [ae2 aI]; omega) | exact (.inr ((congrArg Int.ofNat (Ye aI)).trans t)) | exact aez | exact F.2 | exact A | exact B | exact C | exact (Nat.le_trans D am) | (rw [akD (n:=n) (k:=‹Nat›) t v ab ab ab ab] <;> rfl) | (rw [alm (n:=n) (k:=‹Nat›) t v ab ab ab ab] <;> rfl) | (rw [akP (n:=n) (k:=‹Nat›) t v ab ab ab] <;> rfl))); all_goals try first | refine ⟨‹Nat› + 1,?_⟩ | refine ⟨0,?_⟩)
def Yb:bH:=(aP 102 GL (aP 103 Gx Xs))
def zS:aw Tryz.prog (ak tyT) Yb:=(ag TB (ag Uj rZ))
variable {t:Int}
theorem KE {s:Stable}:(stepsF s (aB s t)).1.log=s.log:=by
 unfold aB;split
 ·rfl
 rw [stepsF];split
 ·rw [stepsF];unfold aG;split
  ·rfl
  split
  ·rename_i u h;rw [cV,if_neg (show ¬ (2:Int)=1 by decide),if_pos rfl,eB] at h;grind
  rfl
 rfl
abbrev awA (n:Nd) (x:Letter):Nd:=⟨(n.save (aB n.c.st x.term)).c,(n.save (aB n.c.st x.term)).d,(n.save (aB n.c.st x.term)).rp,(n.save (aB n.c.st x.term)).vs,(n.save (aB n.c.st x.term)).bn.set x.frm.toNat x.bin,(n.save (aB n.c.st x.term)).nx,(n.save (aB n.c.st x.term)).mt⟩
abbrev VE (n:Nd) (x:Letter):Nd:=⟨(n.save (aB n.c.st x.term)).c,(n.save (aB n.c.st x.term)).d,(n.save (aB n.c.st x.term)).rp,(n.save (aB n.c.st x.term)).vs.set x.frm.toNat true,(n.save (aB n.c.st x.term)).bn.set x.frm.toNat x.bin,(n.save (aB n.c.st x.term)).nx,(n.save (aB n.c.st x.term)).mt⟩
def Rx {s:Stable}:(aB s t).length<=1000:=Nat.le_trans fY am
section
variable {n:Nd} {x:Letter}
def afm (h:¬ n.aR (aB n.c.st x.term)=0):bu n x=⟨n.save (aB n.c.st x.term),[],n.aR (aB n.c.st x.term)⟩:=if_pos h
variable (h:n.aR (aB n.c.st x.term)=0)
include h
def age (a:¬ x.term=(n.save (aB n.c.st x.term)).c.st.term\/(n.save (aB n.c.st x.term)).c.role=0):bu n x=⟨n.save (aB n.c.st x.term),[],0⟩:=(if_neg (adv.2 h)).trans (if_pos a)
def Ym (a:NdOK n):NdOK (n.save (aB n.c.st x.term)):=by
 have f:(n.save (aB n.c.st x.term)).c.st=(stepsF n.c.st (aB n.c.st x.term)).1:=(yr h).1;have e:=oZ (l:=aB n.c.st x.term) a.log a.term;rw [<- f] at e;refine ⟨re a.d,a.many,a.me,e.1,e.2,⟨a.com.1,a.com.2.1,?_⟩,a.len,a.rp⟩;rw [f,KE]; exact a.com.2.2
def abz (a:NdOK n):NdOK (awA n x):=by
 have k:=Ym h a;exact ⟨k.d,k.many,k.me,k.log,k.term,k.com,k.len.imp id fun q=>⟨q.1,by rw [aeD]; exact q.2.1,q.2.2⟩,k.rp⟩
def acp (a:NdOK n):NdOK (VE n x):=by
 have k:=Ym h a;exact ⟨k.d,k.many,k.me,k.log,k.term,k.com,k.len.imp id fun q=>⟨by rw [aeD]; exact q.1,by rw [aeD]; exact q.2.1,q.2.2⟩,k.rp⟩
omit h in
def agm (a:NdOK n) (e:x.frm<n.c.many) (d:¬ (n.save (aB n.c.st x.term)).c.role=0):x.frm<((n.save (aB n.c.st x.term)).bn.length:Int)/\x.frm<((n.save (aB n.c.st x.term)).vs.length:Int):=by
 have q:=a.len.resolve_left d;exact ⟨by show x.frm<(n.bn.length:Int); omega,by show x.frm<(n.vs.length:Int); omega⟩
variable (h1:x.term=(n.save (aB n.c.st x.term)).c.st.term) (h2:¬ (n.save (aB n.c.st x.term)).c.role=0)
include h1 h2
def QH:bu n x=if (x.kind=2/\x.ok=true)/\(n.save (aB n.c.st x.term)).c.role=1 then (if qy (VE n x).vs=true then fV (VE n x) else ⟨VE n x,[],0⟩) else if x.kind=4/\(n.save (aB n.c.st x.term)).c.role=2 then gw (awA n x) x else ⟨awA n x,[],0⟩:=
 (if_neg (adv.2 h)).trans (if_neg (by rintro (q | q); exact q h1; exact h2 q))
def aip (a:x.kind=2) (d:x.ok=true) (e:(n.save (aB n.c.st x.term)).c.role=1) (f:qy (VE n x).vs=true):bu n x=fV (VE n x):=(QH h h1 h2).trans ((if_pos ⟨⟨a,d⟩,e⟩).trans (if_pos f))
def akN (a:x.kind=2) (d:x.ok=true) (e:(n.save (aB n.c.st x.term)).c.role=1) (f:qy (VE n x).vs=false):bu n x=⟨VE n x,[],0⟩:=(QH h h1 h2).trans ((if_pos ⟨⟨a,d⟩,e⟩).trans (if_neg (mj f)))
def ahD (d:(¬ x.kind=2\/x.ok=false)\/¬ (n.save (aB n.c.st x.term)).c.role=1) (e:x.kind=4) (f:(n.save (aB n.c.st x.term)).c.role=2):bu n x=gw (awA n x) x:=
 (QH h h1 h2).trans ((if_neg (by rintro ⟨⟨a,b⟩,c⟩; rcases d with (q | q) | q; exact q a; exact mj q b; exact q c)).trans (if_pos ⟨e,f⟩))
def ahO (d:(¬ x.kind=2\/x.ok=false)\/¬ (n.save (aB n.c.st x.term)).c.role=1) (e:¬ x.kind=4\/¬ (n.save (aB n.c.st x.term)).c.role=2):bu n x=⟨awA n x,[],0⟩:=
 (QH h h1 h2).trans ((if_neg (by rintro ⟨⟨a,b⟩,c⟩; rcases d with (q | q) | q; exact q a; exact mj q b; exact q c)).trans (if_neg (by rintro ⟨a,b⟩; rcases e with q | q; exact q a; exact q b)))
end
def qD:Kn:=aO (ae (kC (ba 0 0)) (ae (kT (.nm .letter)) al)) rk fun (_,x,_) n=>⟨[NdOK n,0<=x.frm/\x.frm<n.c.many,0<=x.a/\x.a<=64],[.c (.fz (.nm .letter) (((bu n x).l))),.c (.int (((bu n x).e)))],some ((mW ((bu n x).n))),false⟩
def Cf:CK 58 qD:=ah fun (_,x,_) n u=>by
 have o:=cg u;have v:=cg (eW u);have z:=cg (eW (eW u));refine bA zS [] Tryz.func58 (?_:(fun y=>(fun h=>(fun p=>(fun g=>(fun q=>(fun f=>(fun i=>(fun w=>(fun s=>(fun j=>aT x (((h<=n.d.synced/\n.d.synced<=(↑n.d.b.length:Int)/\n.d.b.length<=65536)/\n.c.st.log.length<=10000/\p.length<=1000)/\(I64 (n.aR p)->(¬n.aR p=h->g.l=[]/\n.aR p=g.e/\bZ f g.n)/\(n.aR p=h->(¬x.term=f.c.st.term\/i=h->g.l=[]/\h=g.e/\bZ f g.n)/\(x.term=f.c.st.term/\¬i=h->h<=x.frm/\x.frm<(↑f.bn.length:Int)/\(I64 (f.bn.getD q (aj Sh.int))->((x.kind=2/\x.ok=true)/\i=1->h<=x.frm/\x.frm<(↑f.vs.length:Int)/\(qy (f.vs.set q true)=true->NdOK j/\i=1/\((fV j).l.length*96<=140737488355328->I64 (fV j).e->(fV j).l=g.l/\(fV j).e=g.e/\bZ (fV j).n g.n))/\(qy (f.vs.set q true)=false->g.l=[]/\h=g.e/\bZ j g.n))/\((¬x.kind=2\/x.ok=false)\/¬i=1->(x.kind=4/\i=2->NdOK w/\(h<=x.frm/\x.frm<f.c.many)/\i=2/\(h<=x.a/\x.a<=64)/\(s.l.length*96<=140737488355328->I64 s.e->s.l=g.l/\s.e=g.e/\bZ s.n g.n))/\(¬x.kind=4\/¬i=2->g.l=[]/\h=g.e/\bZ w g.n)))))))) (Nd.mk f.c f.d f.rp (f.vs.set q true) (f.bn.set q y) f.nx f.mt)) (gw w x)) (Nd.mk f.c f.d f.rp f.vs (f.bn.set q y) f.nx f.mt)) f.c.role) (n.save p)) x.frm.toNat) (bu n x)) (aB n.c.st x.term)) (0:Int)) x.bin);obtain ⟨A,B,C⟩:=id o.d;have D:=o.log;(repeat' with_reducible first|apply a_|refine aY ?_|intro)
 all_goals (first | exact bq | exact Rx | exact (acp ab o) | exact (abz ab o) | exact (agm o v.2 ab).1 | exact (agm o v.2 ab).2 | exact v.2 | (rw [afm (n:=n) (x:=x) ab] <;> rfl) | (rw [age (n:=n) (x:=x) ab ab] <;> rfl) | (rw [aip (n:=n) (x:=x) ab ab ab ab ab ab ab] <;> rfl) | (rw [akN (n:=n) (x:=x) ab ab ab ab ab ab ab] <;> rfl) | (rw [ahD (n:=n) (x:=x) ab ab ab ab ab ab] <;> rfl) | (rw [ahO (n:=n) (x:=x) ab ab ab ab ab] <;> rfl))
def YK:bH:=(aP 58 qD Yb)
def Ai:aw Tryz.prog (ak tyT) YK:=(ag Cf zS)
section
variable {n:Nd} {x:Letter}
def LC (d:dr n.c x=true):0<=x.frm/\x.frm<n.c.many/\0<=x.a/\x.a<=64/\1<=x.kind/\x.kind<=4:=by
 have h:=(xJ d).1;have:=fK h.may;have:=h.frm;omega
def ajk {p:Prop} (a:dr n.c x=true) (d:¬ x.kind=1) (e:¬ x.kind=2) (f:¬ x.kind=3) (g:¬ x.kind=4):p:=by
 have:=LC a; omega
def IV (h:NdOK n):NdOK n.follow:=⟨h.d,h.many,h.me,h.log,h.term,h.com,.inl rfl,h.rp⟩
def afA (a:dr n.c x=true):dr n.follow.c x=true:=a
def afJ (h:n.d.down=true):bd n x=⟨n,[],30⟩:=if_pos h
variable (h:n.d.down=false)
include h
def agw (a:dr n.c x=false):bd n x=⟨n,[],1⟩:=(if_neg (mj h)).trans (if_pos a)
variable (hm:dr n.c x=true)
include hm
def MO (a:n.c.st.term<x.term):bd n x=if x.kind=1 then cS n.follow x else if x.kind=3 then cc n.follow x else bu n.follow x:=by
 rw [bd,if_neg (mj h),if_neg (by rw [hm]; decide),if_pos a]
def MA (a:x.term<=n.c.st.term):bd n x=if x.kind=1 then cS n x else if x.kind=3 then cc n x else bu n x:=by
 rw [bd,if_neg (mj h),if_neg (by rw [hm]; decide),if_neg (show ¬ n.c.st.term<x.term by omega)]
section
variable (ht:n.c.st.term<x.term)
include ht
def ahm (a:x.kind=1):bd n x=cS n.follow x:=(MO h hm ht).trans (if_pos a)
def ajB (a:x.kind=3):bd n x=cc n.follow x:=(MO h hm ht).trans ((if_neg aI).trans (if_pos a))
def ajN (a:x.kind=2):bd n x=bu n.follow x:=(MO h hm ht).trans ((if_neg aI).trans (if_neg aI))
def akA (a:x.kind=4):bd n x=bu n.follow x:=(MO h hm ht).trans ((if_neg aI).trans (if_neg aI))
end
section
variable (ht:x.term<=n.c.st.term)
include ht
def ahJ (a:x.kind=1):bd n x=cS n x:=(MA h hm ht).trans (if_pos a)
def ak6 (a:x.kind=3):bd n x=cc n x:=(MA h hm ht).trans ((if_neg aI).trans (if_pos a))
def ajP (a:x.kind=2):bd n x=bu n x:=(MA h hm ht).trans ((if_neg aI).trans (if_neg aI))
def aiN (a:x.kind=4):bd n x=bu n x:=(MA h hm ht).trans ((if_neg aI).trans (if_neg aI))
end
end
def rR:Kn:=aO (ae (kC (ba 0 0)) (ae (kT (.nm .letter)) al)) rk fun (_,x,_) n=>⟨[NdOK n],[.c (.fz (.nm .letter) (((bd n x).l))),.c (.int (((bd n x).e)))],some ((mW ((bd n x).n))),false⟩
def DJ:CK 16 rR:=ah fun (_,x,_) n H=>by
 have C:=cg H;refine bA Ai [] Tryz.func16 (?_:(fun i=>(fun j=>(fun g=>(fun h=>(fun w=>(fun z=>(fun A=>(fun B=>(fun D=>(fun u=>(fun F=>(fun f=>(fun G=>(fun v=>(fun o=>(fun p=>(fun q=>(fun y=>aT x ((n.d.down=true->f.l=[]/\30=f.e/\bZ n f.n)/\(n.d.down=false->(dr n.c x=false->f.l=[]/\1=f.e/\bZ n f.n)/\(dr n.c x=true->(n.c.st.term<x.term->(z->y)/\(¬z->(A->y)/\(¬A->(u->aT x (NdOK v/\dr D x=true/\u)/\aT x (p.l.length*h<=g->I64 p.e->p.l=f.l/\p.e=f.e/\bZ p.n f.n))/\(¬u->(B->aT x (NdOK v)/\aT x (o.l.length*h<=g->I64 o.e->o.l=f.l/\o.e=f.e/\bZ o.n f.n))/\(¬B->False)))))/\(x.term<=n.c.st.term->(z->G)/\(¬z->(A->G)/\(¬A->(u->aT x (NdOK n/\dr n.c x=true/\u)/\aT x (j.l.length*h<=g->I64 j.e->j.l=f.l/\j.e=f.e/\bZ j.n f.n))/\(¬u->(B->aT x (NdOK n)/\aT x (i.l.length*h<=g->I64 i.e->i.l=f.l/\i.e=f.e/\bZ i.n f.n))/\(¬B->False))))))))) (aT x (NdOK v/\F)/\aT x (q.l.length*h<=g->I64 q.e->q.l=f.l/\q.e=f.e/\bZ q.n f.n))) (bu v x)) (cc v x)) (cS v x)) (Nd.mk D n.d n.rp n.vs n.bn n.nx n.mt)) (aT x (NdOK n/\F)/\aT x (w.l.length*h<=g->I64 w.e->w.l=f.l/\w.e=f.e/\bZ w.n f.n))) (bd n x)) ((0<=x.frm/\x.frm<n.c.many)/\0<=x.a/\x.a<=64)) (x.kind=3)) (NdC.mk n.c.me n.c.many n.c.bin n.c.st 0 n.c.commit n.c.applied n.c.s)) (x.kind=1)) (x.kind=2)) (x.kind=4)) (bu n x)) (96:Nat)) (140737488355328:Nat)) (cc n x)) (cS n x));(repeat' with_reducible first|apply a_|refine aY ?_|intro)
 all_goals (first | exact bq | exact C | exact (IV C) | exact (afA (n:=n) ab) | exact (ajk (n:=n) ab ab ab ab ab) | exact (LC (n:=n) ab).1 | exact (LC (n:=n) ab).2.1 | exact (LC (n:=n) ab).2.2.1 | exact (LC (n:=n) ab).2.2.2.1 | (rw [afJ (n:=n) (x:=x) ab] <;> rfl) | (rw [agw (n:=n) (x:=x) ab ab] <;> rfl) | (rw [ahm (n:=n) (x:=x) ab ab ab ab] <;> rfl) | (rw [ajB (n:=n) (x:=x) ab ab ab ab] <;> rfl) | (rw [ajN (n:=n) (x:=x) ab ab ab ab] <;> rfl) | (rw [akA (n:=n) (x:=x) ab ab ab ab] <;> rfl) | (rw [ahJ (n:=n) (x:=x) ab ab ab ab] <;> rfl) | (rw [ak6 (n:=n) (x:=x) ab ab ab ab] <;> rfl) | (rw [ajP (n:=n) (x:=x) ab ab ab ab] <;> rfl) | (rw [aiN (n:=n) (x:=x) ab ab ab ab] <;> rfl))
def YI:bH:=(aP 16 rR YK)
def kH:aw Tryz.prog (ak tyT) YI:=(ag DJ Ai)
theorem QW {s:Stable} (h:(stepsF s [⟨3,(s.log.length:Int)+1,t,b⟩]).2=0):(stepsF s [⟨3,(s.log.length:Int)+1,t,b⟩]).1={ s with log:=s.log++[⟨t,b⟩] }:=by
 have a:(aG s ⟨3,(s.log.length:Int)+1,t,b⟩).2=0:=by
  rw [stepsF] at h;grind
 obtain ⟨_,c⟩:=jj a;rw [cV,if_neg (show ¬ (3:Int)=1 by decide),if_neg (show ¬ (3:Int)=2 by decide),if_pos rfl,df,if_neg (by dsimp only; omega)] at c;rw [jM a];grind
def KH {d:Dsk} {s:Stable} {l:List Record} (h:(saveF d s l).2.2=0):(stepsF s l).2=0:=(yr h).2
variable {L' L:List Record}
def StepR.of_eq {a:Nd} {l:List Letter} (h:StepR m L a l L') (e:m.d=n.d) (f:m.c.me=n.c.me/\m.c.many=n.c.many/\m.c.commit=n.c.commit/\m.c.st=n.c.st/\m.c.bin=n.c.bin):StepR n L a l L':=by
 obtain ⟨g,i,j,o,p⟩:=f;exact ⟨h.inv,h.pre,by rw [<- g,<- i]; exact h.me,by rw [<- e]; exact h.len,h.lets,fun q s=>by rw [<- j,<- o,<- p]; exact h.mono (by rw [e]; exact q) s⟩
theorem GA (h:NInv n L) (a:n.d.down=false) (j:1<=t):∃ L',StepR n L (n.save [⟨3,(n.c.st.log.length:Int)+1,t,b⟩]) [] L':=by
 have i:∀ r ∈ [Record.mk 3 ((n.c.st.log.length:Int)+1) t b],r.kind=3->1<=r.b:=fun r f _=>by rw [abL.1 f]; exact j
 by_cases g:n.aR [⟨3,(n.c.st.log.length:Int)+1,t,b⟩]=0
 ·have y:=oa h a aa i g;have o:=h.up a;have e:=y.st;rw [QW (KH g)] at e;have p:=h.ok.com;refine ⟨_,lT h a y (fun f=>by rw [e]; exact o.vote f) (by rw [e]) ?_ ?_ fun _=>?_⟩
  ·grind
  ·grind
  rw [e]; dsimp only; rw [List.length_append]; omega
 exact kJ h a aa i g
def SD {c:Type} {a d:c}:∀ {k i:Nat},i<k->(List.replicate k a).getD i d=a:=fun h=>by
 rw [List.getD_eq_getElem?_getD,List.getElem?_replicate,if_pos h]; rfl
def aaS (h:NInv n L) (j:n.d.down=false) (s:n.c.role=1):∃ L',StepR n L (fV n).n (fV n).l L':=by
 have a:=h.up j;have o:=a.vote aI;have e:=h.ok.len.resolve_left aI;have p:NInv { n with c:={ n.c with role:=2 },nx:=List.replicate n.nx.length ((n.c.st.log.length:Int)+1),mt:=List.replicate n.mt.length 0 } L:=
  ⟨⟨h.ok.d,h.ok.many,h.ok.me,h.ok.log,h.ok.term,h.ok.com,.inr ⟨e.1,e.2.1,by dsimp only; rw [ag6]; exact e.2.2.1,by dsimp only; rw [ag6]; exact e.2.2.2⟩,h.ok.rp⟩,h.d,h.le,fun _=>
   ⟨a.st,a.bin,⟨(by decide:(0:Int)<=2),(by decide:(2:Int)<=2)⟩,fun _=>o,fun _ i f=>by
    dsimp only at f ⊢;rw [SD aI]; omega,a.pl⟩⟩
 unfold fV;dsimp only;split
 ·obtain ⟨L',q⟩:=GA (t:=n.c.st.term) (b:=[]) p j o.2;split
  ·exact ⟨L',(q.of_eq (n:=n) rfl ⟨rfl,rfl,rfl,rfl,rfl⟩).tell fun x g=>pc g⟩
  exact ⟨L',q.of_eq (n:=n) rfl ⟨rfl,rfl,rfl,rfl,rfl⟩⟩
 exact ⟨L,((StepR.refl p).of_eq (n:=n) rfl ⟨rfl,rfl,rfl,rfl,rfl⟩).tell fun x g=>pc g⟩
def acS {s:Stable}:k<=mh s l k:=by
 unfold mh;split <;> omega
theorem acE (c:0<=x.a):1<=jC k x:=by
 unfold jC;grind
theorem acu (h:NInv n L) (o:n.d.down=false) (p:n.c.role=2) (w:0<=x.a) (y:x.frm≠n.c.me/\0<=x.frm/\x.frm<n.c.many):∃ L',StepR n L (gw n x).n (gw n x).l L':=by
 have g:=h.up o;have j:=h.ok.len.resolve_left aI;generalize f:n.nx.set x.frm.toNat (min (jC (n.nx.getD x.frm.toNat 0) x) ((n.c.st.log.length:Int)+1))=nx;generalize q:(if x.ok=true then n.mt.set x.frm.toNat (max (n.mt.getD x.frm.toNat 0) (min x.a (n.c.st.log.length:Int))) else n.mt)=mt;have A:nx.length=n.nx.length:=by rw [<- f,aeD]
 have B:mt.length=n.mt.length:=by
  grind
 have C:NInv { n with nx:=nx,mt:=mt } L:=⟨⟨h.ok.d,h.ok.many,h.ok.me,h.ok.log,h.ok.term,h.ok.com,.inr ⟨j.1,j.2.1,by dsimp only; rw [A]; exact j.2.2.1,by dsimp only; rw [B]; exact j.2.2.2⟩,h.ok.rp⟩,h.d,h.le,fun _=>
   ⟨g.st,g.bin,g.role,g.vote,fun p i s=>by
    dsimp only;rw [<- f];by_cases e:x.frm.toNat=i
    ·subst e;rw [List.getD_eq_getElem?_getD,aeb aI];have:=acE (k:=n.nx.getD x.frm.toNat 0) w;grind
    rw [List.getD_eq_getElem?_getD,List.getElem?_set_ne e,<- List.getD_eq_getElem?_getD];exact g.nx p i s,g.pl⟩⟩
 have D:n.SH x={ ({ n with nx:=nx,mt:=mt }:Nd) with c:={ n.c with commit:=mh n.c.st (mt.set n.c.me.toNat (n.c.st.log.length:Int)) n.c.commit } }:=by
  unfold Nd.SH;dsimp only;rw [f,q]
 obtain ⟨u,v⟩:=((StepR.refl C).of_eq (n:=n) rfl ⟨rfl,rfl,rfl,rfl,rfl⟩).commit o (c:=mh n.c.st (mt.set n.c.me.toNat (n.c.st.log.length:Int)) n.c.commit) acS (My h.ok.com.2.2);dsimp only at u v;rw [<- D] at u v;obtain ⟨F,G,H,N,O,I⟩:=v;unfold gw;dsimp only;split
 ·grind
 split
 ·rename_i J;refine ⟨L,u.tell fun z K=>?_⟩;rw [abL.1 K];exact Iu (by rw [F]; exact o) (by rw [I]; exact p) J (by rw [G,H]; exact y)
 grind
def tc (h:NInv n L) (i:n.d.down=false) (q:ForMe n x) (C:n.c.role≠0->x.term<=n.c.st.term):∃ L',StepR n L (bu n x).n (bu n x).l L':=by
 have I:=fK q.may;have D:=qh q.may;have v:x.frm≠n.c.me/\0<=x.frm/\x.frm<n.c.many:=⟨by have:=q.to; omega,aI,q.frm⟩;have g:=h.up i;have f:(aB n.c.st x.term).length<=6:=Nat.le_trans fY am;by_cases j:n.aR (aB n.c.st x.term)=0;case neg=>
  rw [afm j];exact kJ h i f lu j
 have y:=oa h i f lu j;have o:=y.st;rw [(nW (s:=n.c.st) (t:=x.term) aI aI).1] at o;have A:n.c.role≠0->n.save (aB n.c.st x.term)=n:=fun a=>y.no (by unfold aB; rw [if_pos (C a)]);have w:StepR n L (n.save (aB n.c.st x.term)) [] (L++aB n.c.st x.term):=lT h i y (fun a=>by rw [A a]; exact g.vote a) (by rw [o]) (by rw [o]) (by rw [o]; exact h.ok.com.2.2) (fun _=>by rw [o]; exact Nat.le_refl _);by_cases p:¬ x.term=(n.save (aB n.c.st x.term)).c.st.term\/(n.save (aB n.c.st x.term)).c.role=0
 ·rw [age j p]; exact ⟨_,w⟩
 rw [not_or] at p;have B:n.c.role≠0:=p.2;have e:=A B;rw [QH j (adv.1 p.1) p.2];unfold awA VE;rw [e];have z:=h.ok.len.resolve_left B;have u:∀ {vs:List Bool},vs.length=n.vs.length->NInv ⟨n.c,n.d,n.rp,vs,n.bn.set x.frm.toNat x.bin,n.nx,n.mt⟩ L:=fun {vs} F=>
  ⟨⟨h.ok.d,h.ok.many,h.ok.me,h.ok.log,h.ok.term,h.ok.com,.inr ⟨by dsimp only; rw [F]; exact z.1,by dsimp only; rw [aeD]; exact z.2.1,z.2.2⟩,h.ok.rp⟩,h.d,h.le,fun _=>⟨g.st,g.bin,g.role,g.vote,g.nx,g.pl⟩⟩
 split
 ·rename_i G;split
  ·obtain ⟨L',k⟩:=aaS (u (vs:=n.vs.set x.frm.toNat true) aeD) i G.2;exact ⟨L',k.of_eq (n:=n) rfl ⟨rfl,rfl,rfl,rfl,rfl⟩⟩
  exact ⟨L,(StepR.refl (u (vs:=n.vs.set x.frm.toNat true) aeD)).of_eq (n:=n) rfl ⟨rfl,rfl,rfl,rfl,rfl⟩⟩
 split
 ·rename_i H;obtain ⟨L',k⟩:=acu (x:=x) (u (vs:=n.vs) rfl) i H.2 aI v;exact ⟨L',k.of_eq (n:=n) rfl ⟨rfl,rfl,rfl,rfl,rfl⟩⟩
 exact ⟨L,(StepR.refl (u (vs:=n.vs) rfl)).of_eq (n:=n) rfl ⟨rfl,rfl,rfl,rfl,rfl⟩⟩
def IP (h:NInv n L):∃ L',StepR n L (bd n x).n (bd n x).l L':=by
 cases a:n.d.down;case true=>rw [afJ a]; exact ⟨L,.refl h⟩
 cases f:dr n.c x
 ·rw [agw a f]; exact ⟨L,.refl h⟩
 have g:=(xJ f).1;by_cases o:n.c.st.term<x.term
 ·rw [MO a f o];have e:n.follow.c.role≠0->x.term<=n.follow.c.st.term:=fun e=>absurd rfl e;have i:ForMe n.follow x:=⟨g.may,g.to,g.frm⟩;split
  ·obtain ⟨L',k⟩:=GJ h.follow a i e;exact ⟨L',k.lQ⟩
  split
  ·rename_i j;obtain ⟨L',k⟩:=Co h.follow a (afA f) j;exact ⟨L',k.lQ⟩
  obtain ⟨L',k⟩:=tc h.follow a i e;exact ⟨L',k.lQ⟩
 rw [MA a f aI];have e:n.c.role≠0->x.term<=n.c.st.term:=fun _=>by omega
 split
 ·exact GJ h a g e
 split
 ·rename_i j;exact Co h a f j
 exact tc h a g e
theorem acd {c:Command} (h:NInv n L):∃ L',StepR n L (cE n c).n [] L':=by
 unfold cE;split
 ·exact ⟨L,.refl h⟩
 rename_i f;have a:n.d.down=false:=by simpa using f
 split
 ·exact ⟨L,.refl h⟩
 rename_i j;split
 ·exact ⟨L,.refl h⟩
 split
 ·exact ⟨L,.refl h⟩
 split
 ·exact ⟨L,.refl h⟩
 split
 ·exact ⟨L,.refl h⟩
 split
 ·exact ⟨L,.refl h⟩
 rename_i e;have g:(ey c n.c.st.term n.c.s.version).1.term=n.c.st.term:=by
  unfold ey at e ⊢;split at e
  ·grind
  grind
 have i:=((h.up a).vote aI).2;obtain ⟨L',k⟩:=GA (t:=(ey c n.c.st.term n.c.s.version).1.term) (b:=(ey c n.c.st.term n.c.s.version).1.b) h a (by rw [g]; exact i);dsimp only;split
 ·grind
 exact ⟨L',k⟩
theorem DkI.ck {d:Dsk} {L:List Record} {k:Int} (h:DkI d L):DkI (d.ck k) L/\(d.ck k).b=d.b:=by
 have f:=h.syn;have c:d.at_ k=d.b.length:=by unfold Dsk.at_; omega
 have a:(d.ck k).b=d.b:=by
  show d.b.take (d.at_ k).toNat=d.b;simp_all
 refine ⟨⟨h.st,by rw [a]; exact h.rep,by rw [a]; exact h.pre,?_,fun e=>by cases e⟩,a⟩;rw [a]; exact c
def NInv.dead (h:NInv n L) (g:m.c=n.c/\m.rp=n.rp/\m.vs=n.vs/\m.bn=n.bn/\m.nx=n.nx/\m.mt=n.mt) (i:m.d.OK) (j:DkI m.d L') (o:∀ r ∈ L',r.kind=3->1<=r.b) (e:m.d.down=true):NInv m L':=by
 obtain ⟨a,p,q,s,u,v⟩:=g;exact ⟨⟨i,by rw [a]; exact h.ok.many,by rw [a]; exact h.ok.me,by rw [a]; exact h.ok.log,by rw [a]; exact h.ok.term,by rw [a]; exact h.ok.com,by rw [a,q,s,u,v]; exact h.ok.len,by rw [a,p]; exact h.ok.rp⟩,j,o,fun f=>by rw [e] at f; cases f⟩
def yQ (h:NInv n L):StepR n L { n with d:=n.d.ck k } [] L:=by
 obtain ⟨a,c⟩:=h.d.ck (k:=k);exact ⟨h.dead ⟨rfl,rfl,rfl,rfl,rfl,rfl⟩ (sE h.ok.d) a h.le rfl,List.prefix_refl _,⟨rfl,rfl⟩,by dsimp only; rw [c]; omega,fun _ e=>(by cases e),fun _ f=>by cases f⟩
def abR (h:NInv n L):StepR n L { n with d:=⟨n.d.b,n.d.synced,n.d.down,true,k⟩ } [] L:=by
 have c:DkI ⟨n.d.b,n.d.synced,n.d.down,true,k⟩ L:=⟨h.d.st,h.d.rep,h.d.pre,h.d.syn,h.d.up⟩;exact ⟨⟨⟨h.ok.d,h.ok.many,h.ok.me,h.ok.log,h.ok.term,h.ok.com,h.ok.len,h.ok.rp⟩,c,h.le,fun a=>⟨(h.up a).st,(h.up a).bin,(h.up a).role,(h.up a).vote,(h.up a).nx,(h.up a).pl⟩⟩,List.prefix_refl _,⟨rfl,rfl⟩,by dsimp only; omega,fun _ e=>(by cases e),fun _ _=>⟨agO _,rfl,rfl⟩⟩
def aaN (h:NInv n L):StepR n L n (bD n).1 L:=(StepR.refl h).tell fun _ a=>pc a
theorem Jp {a b:Int} (h:bW a b=0):1<=a/\a<=3/\1<=b/\b<=a:=by
 unfold bW at h;grind
def Az {s:Stable} {b:Int} (a:1<=b) (c:b<=3) (h:s.floor<b):stepsF s [⟨1,b,0,[]⟩]=({ s with floor:=b },0):=by
 have e:aG s ⟨1,b,0,[]⟩=({ s with floor:=b },0):=by
  refine oE (akO ⟨rfl,a,c,rfl,rfl⟩) ?_;rw [cV,if_pos rfl,du,if_neg (by dsimp only; omega)]
 rw [jM (by rw [e]),e]
theorem HD {b:Int} (h:NInv n L):∃ L',StepR n L (aL n b).n [] L':=by
 cases g:n.d.down;case false=>rw [agk g]; exact ⟨L,.refl h⟩
 by_cases v:bW b (max (replayF n.d.b).1.floor 1)=0;case neg=>rw [af2 g v]; exact ⟨L,.refl h⟩
 obtain ⟨z,A,W,X⟩:=Jp v;obtain ⟨B,Y,P⟩:=rV g h.ok.d;have e:=h.d.rep;obtain ⟨t,I⟩:=h.d.pre;have a:=nh n.d.b
 have Q:n.d.b.take (replayF n.d.b).2.toNat=encL L:=by
  rw [e,I];dsimp only;rw [agr,List.take_left]
 have j:(n.fr b).d=⟨encL L,((encL L).length:Int),false,false,0⟩:=by
  show (if n.d.down=true then n.d.up else n.d).cut (replayF n.d.b).2=_;rw [P,Q,e]
 have o:DkI (n.fr b).d L:=by rw [j]; exact DkI.enc h.d.st rfl rfl
 have p:(n.fr b).c.st=(stepsF sta0 L).1:=by show (replayF n.d.b).1=_; rw [e]
 have C:NdOK (n.fr b):=⟨B,h.ok.many,h.ok.me,a.1.1,a.1.2,⟨agO 0,agO 0,Int.natCast_nonneg _⟩,.inl rfl,rfl⟩;have J:(n.fr b).d.b.length<=n.d.b.length:=by
  rw [j,I];show (encL L).length<=_;rw [List.length_append]; omega
 have D:okPl b ((replayF n.d.b).1.log.take 0)/\fr0=pS b fr0 ((replayF n.d.b).1.log.take 0)/\([]:List Reply)=pR b fr0 ((replayF n.d.b).1.log.take 0):=⟨fun x q=>(by cases q),rfl,rfl⟩;by_cases F:(replayF n.d.b).1.floor<b;case neg=>
  rw [Vy g v aI];exact ⟨L,⟨C,o,h.le,fun _=>⟨p,⟨z,A,by show (replayF n.d.b).1.floor=b; omega⟩,⟨agO 0,(by decide:(0:Int)<=2)⟩,fun hr=>absurd rfl hr,fun hr=>absurd (show (0:Int)=2 from hr) am,D⟩⟩,List.prefix_refl _,⟨rfl,rfl⟩,by show (n.fr b).d.b.length<=_; omega,fun _ q=>(by cases q),fun f=>by rw [g] at f; cases f⟩
 have G:(n.fr b).d.down=false:=by rw [j]
 have s:=DR (l:=[⟨1,b,0,[]⟩]) o G p;have Z:=rX s aa;have w:∀ (i:Nat),∀ r ∈ L++[Record.mk 1 b 0 []].take i,r.kind=3->1<=r.b:=fun i r hr=>by
  rcases abx.1 hr with hr | hr
  ·exact h.le r hr
  grind
 by_cases y:(n.fr b).aR [⟨1,b,0,[]⟩]=0
 ·rw [Xk g v F y];obtain ⟨K,N,u,m,k5,k6,k7,k8⟩:=s.ok y;have H:((n.fr b).save [⟨1,b,0,[]⟩]).c.st={ (n.fr b).c.st with floor:=b }:=by
   show (saveF _ _ _).2.1=_;rw [u,Az z A F]
  refine ⟨L++[⟨1,b,0,[]⟩],⟨⟨re B,h.ok.many,h.ok.me,by rw [H]; exact a.1.1,by rw [H]; exact a.1.2,⟨agO 0,agO 0,Int.natCast_nonneg _⟩,.inl rfl,rfl⟩,N,fun r hr=>w 1 r hr,fun _=>⟨?_,⟨z,A,by rw [H]⟩,⟨agO 0,(by decide:(0:Int)<=2)⟩,fun hr=>absurd rfl hr,fun hr=>absurd (show (0:Int)=2 from hr) am,?_⟩⟩,List.prefix_append _ _,⟨rfl,rfl⟩,by show (saveF (n.fr b).d (n.fr b).c.st _).1.b.length<=_; omega,fun _ q=>(by cases q),fun f=>by rw [g] at f; cases f⟩
  ·show (saveF _ _ _).2.1=_;rw [u,dC h.d.st,<- p]
  grind
 rw [aav g v F y];obtain ⟨K,N,u⟩:=s.no y;have O:((n.fr b).save [⟨1,b,0,[]⟩]).c=(n.fr b).c:=by rw [MG,K]
 have S:∃ i,DkI ((n.fr b).save [⟨1,b,0,[]⟩]).d (L++[Record.mk 1 b 0 []].take i):=by
  rcases u with ⟨u,_⟩ | ⟨_,_,_,_,i,_,u⟩
  ·exact ⟨0,by rw [alN,adD,RI,u]; exact o⟩
  grind
 obtain ⟨i,T⟩:=S;obtain ⟨U,V⟩:=T.ck (k:=0);refine ⟨_,⟨⟨sE (re B),h.ok.many,h.ok.me,by rw [O]; exact a.1.1,by rw [O]; exact a.1.2,⟨agO 0,agO 0,Int.natCast_nonneg _⟩,.inl rfl,rfl⟩,U,w i,fun f=>by cases f⟩,AY,⟨rfl,rfl⟩,?_,fun _ q=>(by cases q),fun f=>by rw [g] at f; cases f⟩;show (((n.fr b).save [⟨1,b,0,[]⟩]).d.ck 0).b.length<=_;rw [V];show (saveF (n.fr b).d (n.fr b).c.st _).1.b.length<=_;omega
structure ToldN where
 l:List Letter
 a:Int
 b:Int
 e:Int
def uM (x:Letter):Letter:={ x with l:=(x.l.take 6).map fun y=>⟨y.term,y.b.take 250⟩ }
def kL (c:Command):Command:={ c with chunks:=c.chunks.take 12,text:=⟨c.text.b.take 40⟩ }
def dt (n:Nd) (o:NOp):Nd × ToldN:=
 if o.kind.toNat % 8=0 then ((aL n o.n).n,⟨[],0,0,(aL n o.n).e⟩)
 else if o.kind.toNat % 8=1 then ((bj n).n,⟨(bj n).l,0,0,(bj n).e⟩)
 else if o.kind.toNat % 8=2 then (n,⟨(bD n).1,0,0,(bD n).2⟩)
 else if o.kind.toNat % 8=3 then ((bd n (uM o.x)).n,⟨(bd n (uM o.x)).l,0,0,(bd n (uM o.x)).e⟩)
 else if o.kind.toNat % 8=4 then ((cE n (kL o.c)).n,⟨[],(cE n (kL o.c)).a,(cE n (kL o.c)).b,(cE n (kL o.c)).e⟩)
 else if o.kind.toNat % 8=5 then ({ n with d:=⟨n.d.b,n.d.synced,n.d.down,true,o.n⟩ },⟨[],0,0,0⟩)
 else if o.kind.toNat % 8=6 then ({ n with d:=n.d.ck o.n },⟨[],0,0,0⟩)
 else (n,⟨[],0,0,0⟩)
def aaU {o:NOp} (h:NInv n L):∃ L',StepR n L (dt n o).1 (dt n o).2.l L':=by
 unfold dt;split
 ·exact HD h
 split
 ·exact JJ h
 split
 ·exact ⟨L,aaN h⟩
 split
 ·exact IP h
 split
 ·exact acd h
 split
 ·exact ⟨L,abR h⟩
 split
 ·exact ⟨L,yQ h⟩
 exact ⟨L,.refl h⟩
def HJ {me a:Int} (h:3<=a/\a<=5/\0<=me/\me<a):NInv (hP me a) []:=
 ⟨⟨⟨agO 0,agO 0,ahj _⟩,⟨h.1,h.2.1⟩,h.2.2,ahj _,⟨agO 0,(by decide:(0:Int)<=1048576)⟩,⟨agO 0,agO 0,Int.natCast_nonneg _⟩,.inl rfl,rfl⟩,⟨rfl,rY (L:=[]) rfl,⟨[],rfl⟩,rfl,fun _=>rfl⟩,fun r c=>(by cases c),fun d=>(by cases d)⟩
variable {k:Nat} {l:List Entry}
def afQ {y:Entry} (a:l[k]? = some y):(l.take k).map (fun z:Entry=>(⟨z.term,z.b.take 250⟩:Entry))++[Entry.mk y.term (y.b.take 250)]=(l.take (k+1)).map (fun z:Entry=>(⟨z.term,z.b.take 250⟩:Entry)):=by
 rw [ai a,List.map_append]; rfl
def ajd {y:Entry} (a:l[k]? = some y) (h:(y.b.length:Int)<=250):(l.take k).map (fun z:Entry=>(⟨z.term,z.b.take 250⟩:Entry))++[y]=(l.take (k+1)).map (fun z:Entry=>(⟨z.term,z.b.take 250⟩:Entry)):=by
 rw [<- afQ a,List.take_of_length_le (l:=y.b) aI]
def ai5 (a:k<=6) (h:(l.length:Int)<=k\/6<=(k:Int)):(l.take k).map (fun z:Entry=>(⟨z.term,z.b.take 250⟩:Entry))=(l.take 6).map (fun z:Entry=>(⟨z.term,z.b.take 250⟩:Entry)):=by
 by_cases e:k=6
 ·rw [e]
 rw [List.take_of_length_le aI,List.take_of_length_le aI]
def afG:NInv (hP 0 3) []:=HJ ⟨am,am,am,am⟩
abbrev sw1:NdR:=aL (hP 0 3) 1
abbrev sw2:=bj sw1.n
def ai8:NdOK sw1.n:=let ⟨_,h⟩:=HD (b:=1) afG; h.inv.ok
def akd:(decide (sw1.e=0) && decide (sw2.e=0) && decide ((sw2.l.length:Int)=2) && decide ((sw2.l.getD 0 (aj (.nm .letter))).kind=1) && decide ((sw2.l.getD 1 (aj (.nm .letter))).to=2) && decide ((sw2.l.getD 0 (aj (.nm .letter))).term=1) && decide ((fC sw2.n).role=1))=true:=bP
def JS (x:Letter):List (Nat × LI):=[(3,{ σ:=Nat,F:=fun k=>([(1,one (.ptr 0 0)),(2,one (.ptr 1 0)),(3,one (.own 2)),(4,one (.int k))],[.box 40 (cellsOf (.nm .letter) (x)),.box 40 (cellsOf (.nm .letter) (cr)),.row 52 (.nm .entry) (((x.l.take k).map (fun z:Entry=>(⟨z.term,z.b.take 250⟩:Entry))))]),J:=fun k=>k<=x.l.length/\k<=6,μ:=fun k=>6 - k })]
def uc:Kn:=aO (ae (kT (.nm .letter)) al) av fun (x,_) _=>⟨[],[.agg (cellsOf (.nm .letter) (uM x))],none,false⟩
theorem Es:CK 23 uc:=ah fun (x,_) _ _=>by
 refine ao kH (JS x) Tryz.func23 (?_:(fun (g:Nat)=>(fun (h:Nat)=>(fun (e:Int)=>aT x (∃ (j:Nat),(e=(↑j:Int)/\iK x x (e=cr.kind/\e=cr.frm/\e=cr.to/\e=cr.term/\e=cr.a/\e=cr.b/\e=cr.c/\e=cr.bin/\false=cr.ok/\cr.l=[]/\List.map (fun (z:Entry)=>Entry.mk z.term (List.take h z.b)) (List.take j x.l)=[]))/\(j<=x.l.length/\j<=g)/\∀ (s:Nat),(fun (o:Int)=>(fun (i:List (den (Sh.nm NT.entry)))=>s<=x.l.length/\s<=g->((↑s:Int)<(↑x.l.length:Int)/\(↑s:Int)<6->e<=(↑s:Int)/\(↑s:Int)<(↑x.l.length:Int)/\∀ (d:Entry),x.l[s]? = some d->I64 d.term->d.b.length*1<=140737488355328->(250<(↑d.b.length:Int)->e<=250/\250<=(↑d.b.length:Int)/\(i.length+[Entry.mk d.term (List.take h d.b)].length)*32<=140737488355328/\I64 o/\∃ (f:Nat),(o=(↑f:Int)/\iK x x (iK cr cr (i++[Entry.mk d.term (List.take h d.b)]=List.map (fun (z:Entry)=>Entry.mk z.term (List.take h z.b)) (List.take f x.l))))/\(f <= x.l.length/\f <= g)/\g - f < g - s)/\((↑d.b.length:Int)<=250->(i.length+[d].length)*32<=140737488355328/\I64 o/\∃ (f:Nat),(o=(↑f:Int)/\iK x x (iK cr cr (i++[d]=List.map (fun (z:Entry)=>Entry.mk z.term (List.take h z.b)) (List.take f x.l))))/\(f <= x.l.length/\f <= g)/\g - f < g - s))/\((↑x.l.length:Int)<=(↑s:Int)\/6<=(↑s:Int)->AI (Letter.mk x.kind x.frm x.to x.term x.a x.b x.c x.bin x.ok i) (uM x))) (List.map (fun (z:Entry)=>Entry.mk z.term (List.take h z.b)) (List.take s x.l))) ((↑s:Int)+1))) 0) 250) 6);iterate 3 ((all_goals (repeat' with_reducible first|apply a_|refine aY ?_|intro)); (all_goals try (first | exact bq | exact rfl | exact (afQ ab) | exact (ajd ab ab) | exact (ai5 aI ab) | (simp only [List.length_map,List.length_take,List.length_cons,List.length_nil]; omega))); all_goals try first | refine ⟨‹Nat› + 1,?_⟩ | refine ⟨0,?_⟩)
def Ig:Kn:=aO (ae (kT (.nm .command)) al) av fun (c,_) _=>⟨[],[.agg (cellsOf (.nm .command) (kL c))],none,false⟩
def Vh:CK 32 Ig:=ah fun (c,_) _ _=>by
 refine ao kH [] Tryz.func32 (?_:(fun e=>(fun a=>(fun d=>bB c (((12:Int)<e->(0:Int)<=(12:Int)/\(12:Int)<=e/\(a<d->(0:Int)<=a/\a<=d/\aS (Command.mk c.kind c.client c.seq c.set c.id c.n (List.take (12:Nat) c.chunks) (Str.mk (List.take (40:Nat) c.text.b))) (kL c))/\(d<=a->aS (Command.mk c.kind c.client c.seq c.set c.id c.n (List.take (12:Nat) c.chunks) c.text) (kL c)))/\(e<=(12:Int)->(a<d->(0:Int)<=a/\a<=d/\aS (Command.mk c.kind c.client c.seq c.set c.id c.n c.chunks (Str.mk (List.take (40:Nat) c.text.b))) (kL c))/\(d<=a->aS c (kL c))))) (↑c.text.b.length:Int)) (40:Int)) (↑c.chunks.length:Int));(repeat' with_reducible first|apply a_|refine aY ?_|intro)
 all_goals (first | exact bq | exact rfl | (dsimp only [kL]; first | exact (List.take_of_length_le aI).symm | exact OC aI))
def F_:Kn:=aO (ae (kC (cL (.nm .nop))) al) av fun (l,_) _=>⟨[],[.c (.fz (.nm .nop) ((l.take 40)))],none,false⟩
def WV:CK 18 F_:=ah fun (l,_) _ _=>by
 refine ao kH [] Tryz.func18 (?_:l.length*(200:Nat)<=(140737488355328:Nat)->((40:Int)<(↑l.length:Int)->(0:Int)<=(40:Int)/\(40:Int)<=(↑l.length:Int)/\List.take (40:Nat) l=List.take (40:Nat) l)/\((↑l.length:Int)<=(40:Int)->l=List.take (40:Nat) l));(repeat' with_reducible first|apply a_|refine aY ?_|intro)
 all_goals (first | exact bq | exact rfl | exact (List.take_of_length_le aI).symm)
def wv:Kn:=aO al av fun _ _=>⟨[],[.c (.bool (.atom ((true))))],none,false⟩
theorem Jw:CK 11 wv:=ah fun _ _ _=>by
 refine ao kH [] Tryz.func11 (?_:(fun w=>(fun q=>(fun A=>(fun o=>(fun C=>(fun D=>(fun g=>(fun y=>(fun B=>(fun p=>(fun j=>(fun s=>(fun h=>(fun i=>(fun f=>(fun d=>(fun z=>(fun u=>(fun v=>(w<=w/\w<=5/\g<=g/\g<w)/\(I64 g->(false=true\/¬g=g->false=true)/\(false=false/\g=g->NdOK (hP g w)/\(I64 y.e->NdOK y.n/\(p.l.length*96<=q->I64 p.e->(s->g<=g/\g<j)/\((s->z)->(u->g<=o/\o<j)/\((u->I64 f.kind/\I64 f.frm/\I64 f.to/\I64 f.term/\I64 f.a/\I64 f.b/\I64 f.c/\I64 f.bin/\f.l.length*32<=q)->(v->g<=g/\g<j)/\((v->z)->(v/\d.term=o->I64 h.role/\I64 h.binary/\I64 h.floor/\I64 h.term/\I64 h.vote/\I64 h.commit/\I64 h.applied/\h.log.length*32<=q/\I64 i.version/\I64 i.next/\I64 i.keep/\I64 i.quota/\i.sess.length*32<=q/\i.opens.length*16<=q/\i.snaps.length*64<=q)->(decide (y.e=g) && decide (p.e=g) && decide (j=A) && decide (d.kind=o) && decide (f.to=A) && decide (d.term=o) && decide (h.role=o))=true)))))))) (u/\f.to=A)) (s/\d.kind=o)) (I64 d.kind/\I64 d.frm/\I64 d.to/\I64 d.term/\I64 d.a/\I64 d.b/\I64 d.c/\I64 d.bin/\d.l.length*32<=q)) (p.l.getD D B)) (p.l.getD C B)) h.state) (fC p.n)) ((y.e=g/\p.e=g)/\j=A)) (↑p.l.length:Int)) (bj y.n)) (aj (Sh.nm NT.letter))) (aL (hP g w) o)) (0:Int)) (0:Nat)) (1:Nat)) (1:Int)) (2:Int)) (140737488355328:Nat)) (3:Int));(repeat' with_reducible first|apply a_|refine aY ?_|intro)
 all_goals (first | exact bq | exact rfl | exact afG.ok | exact ai8 | exact akd | (simp_all; done))
def XT:bH:=(aP 11 wv (aP 18 F_ (aP 32 Ig (aP 23 uc YI))))
def Cc:aw Tryz.prog (ak tyT) XT:=(ag Jw (ag WV (ag Vh (ag Es kH))))
section
variable {n:Nd} {o:NOp} {k:UInt8}
def o7:(k &&& UInt8.ofNat 7).toNat=k.toNat % 8:=by
 rw [UInt8.toNat_and]; exact Nat.and_two_pow_sub_one_eq_mod k.toNat 3
variable {i:Nat}
def DW (h:((k &&& UInt8.ofNat 7).toNat:Int)=((UInt8.ofNat i).toNat:Int)) (a:i<8):k.toNat % 8=i:=by
 rw [o7,show (UInt8.ofNat i).toNat=i by rw [UInt8.toNat_ofNat']; omega] at h; omega
theorem Ek (h:¬((k &&& UInt8.ofNat 7).toNat:Int)=((UInt8.ofNat i).toNat:Int)) (a:i<8):¬k.toNat % 8=i:=by
 rw [o7,show (UInt8.ofNat i).toNat=i by rw [UInt8.toNat_ofNat']; omega] at h; omega
def ahq (h:((o.kind &&& UInt8.ofNat 7).toNat:Int)=((UInt8.ofNat 0).toNat:Int)):dt n o=((aL n o.n).n,⟨[],0,0,(aL n o.n).e⟩):=by
 have e:=DW h am; simp [dt,e]
def ah5 (h:((o.kind &&& UInt8.ofNat 7).toNat:Int)=((UInt8.ofNat 1).toNat:Int)):dt n o=((bj n).n,⟨(bj n).l,0,0,(bj n).e⟩):=by
 have e:=DW h am; simp [dt,e]
def ail (h:((o.kind &&& UInt8.ofNat 7).toNat:Int)=((UInt8.ofNat 2).toNat:Int)):dt n o=(n,⟨(bD n).1,0,0,(bD n).2⟩):=by
 have e:=DW h am; simp [dt,e]
def aj2 (h:((o.kind &&& UInt8.ofNat 7).toNat:Int)=((UInt8.ofNat 3).toNat:Int)):dt n o=((bd n (uM o.x)).n,⟨(bd n (uM o.x)).l,0,0,(bd n (uM o.x)).e⟩):=by
 have e:=DW h am; simp [dt,e]
def ako (h:((o.kind &&& UInt8.ofNat 7).toNat:Int)=((UInt8.ofNat 4).toNat:Int)):dt n o=((cE n (kL o.c)).n,⟨[],(cE n (kL o.c)).a,(cE n (kL o.c)).b,(cE n (kL o.c)).e⟩):=by
 have e:=DW h am; simp [dt,e]
def ai7 (h:((o.kind &&& UInt8.ofNat 7).toNat:Int)=((UInt8.ofNat 5).toNat:Int)):dt n o=({ n with d:=⟨n.d.b,n.d.synced,n.d.down,true,o.n⟩ },⟨[],0,0,0⟩):=by
 have e:=DW h am; simp [dt,e]
def ajG (h:((o.kind &&& UInt8.ofNat 7).toNat:Int)=((UInt8.ofNat 6).toNat:Int)):dt n o=({ n with d:=n.d.ck o.n },⟨[],0,0,0⟩):=by
 have e:=DW h am; simp [dt,e]
def ajQ (a:¬((o.kind &&& UInt8.ofNat 7).toNat:Int)=((UInt8.ofNat 0).toNat:Int)) (c:¬((o.kind &&& UInt8.ofNat 7).toNat:Int)=((UInt8.ofNat 1).toNat:Int)) (d:¬((o.kind &&& UInt8.ofNat 7).toNat:Int)=((UInt8.ofNat 2).toNat:Int)) (e:¬((o.kind &&& UInt8.ofNat 7).toNat:Int)=((UInt8.ofNat 3).toNat:Int)) (f:¬((o.kind &&& UInt8.ofNat 7).toNat:Int)=((UInt8.ofNat 4).toNat:Int)) (g:¬((o.kind &&& UInt8.ofNat 7).toNat:Int)=((UInt8.ofNat 5).toNat:Int)) (h:¬((o.kind &&& UInt8.ofNat 7).toNat:Int)=((UInt8.ofNat 6).toNat:Int)):dt n o=(n,⟨[],0,0,0⟩):=by
 simp [dt,Ek a am,Ek c am,Ek d am,Ek e am,Ek f am,Ek g am,Ek h am]
end
def CF:Kn:=aO (ae (kC (ba 0 0)) (ae (kT (.nm .nop)) al)) rk fun (_,o,_) n=>⟨[NdOK n],[.agg ([.fz (.nm .letter) (((dt n o).2.l)),.int (((dt n o).2.a)),.int (((dt n o).2.b)),.int (((dt n o).2.e))])],some ((mW ((dt n o).1))),false⟩
def Nh:CK 19 CF:=ah fun (_,o,_) n z=>by
 have y:=cg z;refine bA Cc [] Tryz.func19 (?_:(fun u=>(fun v=>(fun i=>(fun j=>(fun p=>(fun f=>(fun w=>(fun q=>(fun s=>(fun g=>MZ o ((g=(↑(UInt8.ofNat 0).toNat:Int)->NdOK n/\(I64 (aL n o.n).e->w/\s/\q/\(aL n o.n).e=f.e/\bZ (aL n o.n).n i))/\(¬g=(↑(UInt8.ofNat 0).toNat:Int)->(g=(↑(UInt8.ofNat 1).toNat:Int)->NdOK n/\(u.l.length*96<=140737488355328->I64 u.e->u.l=f.l/\s/\q/\u.e=f.e/\bZ u.n i))/\(¬g=(↑(UInt8.ofNat 1).toNat:Int)->(g=(↑(UInt8.ofNat 2).toNat:Int)->n.c.many<=5/\(n.c.role=p\/(↑n.nx.length:Int)=n.c.many)/\((bD n).fst.length*96<=140737488355328->I64 (bD n).snd->(bD n).fst=f.l/\s/\q/\(bD n).snd=f.e/\bZ n i))/\(¬g=(↑(UInt8.ofNat 2).toNat:Int)->(g=(↑(UInt8.ofNat 3).toNat:Int)->aT (uM o.x) (NdOK n/\(v.l.length*96<=140737488355328->I64 v.e->v.l=f.l/\s/\q/\v.e=f.e/\bZ v.n i)))/\(¬g=(↑(UInt8.ofNat 3).toNat:Int)->(g=(↑(UInt8.ofNat 4).toNat:Int)->bB (kL o.c) (NdOK n/\(I64 j.a->I64 j.b->I64 j.e->w/\j.a=f.a/\j.b=f.b/\j.e=f.e/\bZ j.n i)))/\(¬g=(↑(UInt8.ofNat 4).toNat:Int)->(g=(↑(UInt8.ofNat 5).toNat:Int)->w/\s/\q/\p=f.e/\bZ (Nd.mk n.c (Dsk.mk n.d.b n.d.synced n.d.down true o.n) n.rp n.vs n.bn n.nx n.mt) i)/\(¬g=(↑(UInt8.ofNat 5).toNat:Int)->(g=(↑(UInt8.ofNat 6).toNat:Int)->(p<=n.d.synced/\n.d.synced<=(↑n.d.b.length:Int)/\n.d.b.length<=65536)/\w/\s/\q/\p=f.e/\bZ (Nd.mk n.c (n.d.ck o.n) n.rp n.vs n.bn n.nx n.mt) i)/\(¬g=(↑(UInt8.ofNat 6).toNat:Int)->w/\s/\q/\p=f.e/\bZ n i))))))))) (↑(o.kind &&& UInt8.ofNat 7).toNat:Int)) (p=f.a)) (p=f.b)) (f.l=[])) (dt n o).snd) (0:Int)) (cE n (kL o.c))) (dt n o).fst) (bd n (uM o.x))) (bj n));obtain ⟨A,B,C⟩:=id y.d;(repeat' with_reducible first|apply a_|refine aY ?_|intro)
 all_goals (first | exact bq | exact y | exact y.many.2 | exact (y.len.imp_right fun h=>h.2.2.1) | (rw [ahq (n:=n) (o:=o) ab] <;> rfl) | (rw [ah5 (n:=n) (o:=o) ab] <;> rfl) | (rw [ail (n:=n) (o:=o) ab] <;> rfl) | (rw [aj2 (n:=n) (o:=o) ab] <;> rfl) | (rw [ako (n:=n) (o:=o) ab] <;> rfl) | (rw [ai7 (n:=n) (o:=o) ab] <;> rfl) | (rw [ajG (n:=n) (o:=o) ab] <;> rfl) | (rw [ajQ (n:=n) (o:=o) ab ab ab ab ab ab ab] <;> rfl))
def XF:bH:=(aP 19 CF XT)
def CG:aw Tryz.prog (ak tyT) XF:=(ag Nh Cc)
def adF {x y:Entry} (h:x.term=y.term) (a:Str.mk x.b=Str.mk y.b):x=y:=by
 cases x; cases y; simp only [Str.mk.injEq] at *; subst h; subst a; rfl
section
variable {a b:List Entry} {k:Nat} {d:Entry}
def ahr (h:a.take k=b.take k) (c:k<a.length) (g:a.length=b.length) (e:(a.getD k d).term=(b.getD k d).term) (f:Str.mk (a.getD k d).b=Str.mk (b.getD k d).b):a.take (k+1)=b.take (k+1):=Bl h c aI (adF e f)
def aiK (e:¬(a.getD k d).term=(b.getD k d).term\/¬Str.mk (a.getD k d).b=Str.mk (b.getD k d).b):false=decide (a=b):=(ahP (by rintro rfl; simp at e)).symm
variable {α:Type}
def als [DecidableEq α] {a b:List α} (h:a.take k=b.take k) (c:a.length<=k) (e:a.length=b.length):true=decide (a=b):=by
 rw [List.take_of_length_le c,List.take_of_length_le aI] at h; exact (decide_eq_true h).symm
def ahV [DecidableEq α] {a b:List α} (h:¬(a.length:Int)=b.length):false=decide (a=b):=(ahP (by rintro rfl; exact h rfl)).symm
end
def Qx (a:List Entry) (b:List Entry):List (Nat × LI):=[(4,{ σ:=Nat,F:=fun k=>([(0,one (.fz (.nm .entry) (a))),(1,one (.fz (.nm .entry) (b))),(5,one (.int k))],[]),J:=fun k=>k<=a.length/\a.length=b.length/\a.take k=b.take k,μ:=fun k=>a.length - k })]
def wJ:Kn:=aO (ae (kC (cL (.nm .entry))) (ae (kC (cL (.nm .entry))) al)) av fun (a,b,_) _=>⟨[],[.c (.bool (.atom ((decide (a=b)))))],none,false⟩
theorem JT:CK 22 wJ:=ah fun (a,b,_) _ _=>by
 refine ao CG (Qx a b) Tryz.func22 (?_:(fun (p:Int)=>(fun (q:Nat)=>(fun (d:Nat)=>(fun (e:Int)=>(fun (w:den (Sh.nm NT.entry))=>a.length*32<=q->b.length*32<=q->(¬e=p->false=decide (a=b))/\(e=p->∃ (u:Nat),(a=a/\b=b/\0=(↑u:Int))/\(u<=d/\d=b.length/\List.take u a=List.take u b)/\∀ (s:Nat),(fun (c:Int)=>(fun (f:den (Sh.nm NT.entry))=>(fun (i:Prop)=>(fun (g:den (Sh.nm NT.entry))=>(fun (j:Prop)=>(fun (v:Prop)=>(fun (h:Prop)=>s<=d/\d=b.length/\List.take s a=List.take s b->(c<e->v/\c<e/\v/\c<p/\(h->v/\c<e)/\(h->v/\c<p)/\(I64 g.term->j->I64 f.term->i->(h->I64 g.term/\j)->(h->I64 f.term/\i)->(¬h\/¬Str.mk g.b=Str.mk f.b->false=decide (a=b))/\(h/\Str.mk g.b=Str.mk f.b->I64 (c+1)/\∃ (o:Nat),(a=a/\b=b/\c+1=(↑o:Int))/\(o <= d/\d=b.length/\List.take o a=List.take o b)/\d - o < d - s)))/\(e<=c->true=decide (a=b))) (g.term=f.term)) (0<=c)) (g.b.length*1<=q)) (a.getD s w)) (f.b.length*1<=q)) (b.getD s w)) (↑s:Int))) (aj (Sh.nm NT.entry))) (↑a.length:Int)) a.length) 140737488355328) (↑b.length:Int));iterate 3 ((all_goals (repeat' with_reducible first|apply a_|refine aY ?_|intro)); (all_goals try (first | exact bq | exact rfl | exact (ahV ab) | exact (ahr ab aI ab ab ab) | exact (aiK ab) | exact (als ab aI ab))); all_goals try first | refine ⟨‹Nat› + 1,?_⟩ | refine ⟨0,?_⟩)
def Zr:bH:=(aP 22 wJ XF)
def Ny:aw Tryz.prog (ak tyT) Zr:=(ag JT CG)
section
variable {a b:List Letter} {k:Nat} {d:Letter}
end
def YE:bH:=Zr
def Rv:aw Tryz.prog (ak tyT) YE:=Ny
def Xq:bH:=YE
def Cr:aw Tryz.prog (ak tyT) Xq:=Rv
def afB (s:Nat) (b:List UInt8):List (Nat × LI):=[(4,{ σ:=Nat,F:=fun k=>([(1,one (.fz .u8 (b))),(5,one (.xx (.w ((fI (s % 65536 % 65521,s / 65536 % 65521) (b.take k)).1)) [])),(6,one (.xx (.w ((fI (s % 65536 % 65521,s / 65536 % 65521) (b.take k)).2)) [])),(7,one (.int k))],[]),J:=fun k=>k<=b.length,μ:=fun k=>b.length - k })]
def Qt:Kn:=aO (ae (kC cW) (ae (kC (cL .u8)) al)) av fun (s,b,_) _=>⟨[],[.c (.xx (.w ((cz s b))) [])],none,false⟩
theorem acK:CK 267 Qt:=ah fun (s,b,_) _ _=>by
 refine ao Cr (afB s b) Tryz.func267 (?_:(fun e=>(fun d=>(fun c=>(fun f=>b.length*1<=140737488355328->e<d/\e<c/\e<d/\e<c/\∃ h,(b=b/\s % d % c=(fI f (List.take h b)).fst/\s / d % c=(fI f (List.take h b)).snd/\0=(↑h:Int))/\h<=b.length/\∀ (a:Nat),(fun i=>a<=b.length->((↑a:Int)<(↑b.length:Int)->0<=(↑a:Int)/\(↑a:Int)<(↑b.length:Int)/\∀ (x:UInt8),(fun j=>b[a]? = some x->e<c/\e<c/\I64 ((↑a:Int)+1)/\∃ g,(b=b/\j=(fI f (List.take g b)).fst/\(i.snd+j) % 4294967296 % c=(fI f (List.take g b)).snd/\(↑a:Int)+1=(↑g:Int))/\g <= b.length/\b.length - g < b.length - a) ((i.fst+x.toNat) % 4294967296 % c))/\((↑b.length:Int)<=(↑a:Int)->(d*i.snd % 4294967296+i.fst) % 4294967296=cz s b)) (fI f (List.take a b))) (s % d % c,s / d % c)) (65521:Nat)) (65536:Nat)) (0:Nat));(repeat' with_reducible first|apply a_|refine aY ?_|intro)
 all_goals try ( refine ⟨0,?_⟩; (repeat' with_reducible first|apply a_|refine aY ?_|intro))
 all_goals try ( refine ⟨‹Nat› + 1,?_⟩; (repeat' with_reducible first|apply a_|refine aY ?_|intro))
 all_goals (first | exact bq | exact rfl | exact (LD ab) | exact (Mt ab) | exact (MQ ab))
def XQ:bH:=(aP 267 Qt Xq)
def tX:aw Tryz.prog (ak tyT) XQ:=(ag acK Cr)
def Ft:Kn:=aO (ae (kC (cL .u8)) al) av fun (b,_) _=>⟨[],[.c (.xx (.w ((cz 1 b))) [])],none,false⟩
def Vw:CK 229 Ft:=ah fun (b,_) _ _=>by
 refine ao tX [] Tryz.func229 (?_:b.length*1<=140737488355328->cz 1 b=cz 1 b);intros; rfl
def Mz:Kn:=aO (ae (kC cI) (ae (kC cI) (ae (kC cI) al))) av fun (x,lo,a,_) _=>⟨[],[.c (.bool (.atom ((decide (lo<=x) && decide (x<=a)))))],none,false⟩
theorem adf:CK 176 Mz:=ah fun (x,lo,a,_) _ _=>by
 refine ao tX [] Tryz.func176 (?_:(fun c=>I64 x->I64 lo->I64 a->c=c) (decide (lo<=x) && decide (x<=a)));(repeat' with_reducible first|apply a_|refine aY ?_|intro) <;> first | (first | with_reducible rfl | with_reducible assumption | omega | (refine bw ?_ ?_ <;> omega)) | grind
def Yp:bH:=(aP 176 Mz (aP 229 Ft XQ))
def Ca:aw Tryz.prog (ak tyT) Yp:=(ag adf (ag Vw tX))
theorem ajt {x:List UInt8}:[Dg (Int.tdiv (x.length:Int) 256),Dg (Int.tmod (x.length:Int) 256)]++x=fJ x:=by
 have a:Int.tdiv (x.length:Int) 256=((x.length / 256:Nat):Int):=(Int.ofNat_tdiv _ _).symm;have c:Int.tmod (x.length:Int) 256=((x.length % 256:Nat):Int):=(Int.ofNat_tmod _ _).symm;have d:UInt8.ofNat (x.length % 256)=UInt8.ofNat x.length:=by apply UInt8.toNat.inj; simp
 rw [a,c,rH,rH,d,fJ]
def JP {x:List UInt8}:(fJ x).length=x.length+2:=by simp [fJ]
def AK:Kn:=aO (ae (kC (cL .u8)) al) av fun (x,_) _=>⟨[],[.c (.fz .u8 (((fS x).1))),.c (.int (((fS x).2)))],none,false⟩
theorem Pj:CK 174 AK:=ah fun (x,_) _ _=>by
 refine ao (yE Ca) [] Tryz.func174 (?_:(fun g=>(fun f=>(fun c=>(fun d=>(fun a=>(fun h=>(fun e=>(fun i=>x.length*d<=140737488355328->(a=c\/4096<a->(fS x).fst=[]/\4=(fS x).snd)/\(¬a=c/\a<=4096->c<=a/\c<f/\c<=a/\c<f/\(h.length+x.length)*d<=140737488355328/\24<32/\16<32/\8<32/\(e.length+i.length)*d<=140737488355328/\e++i=(fS x).fst/\c=(fS x).snd)) [UInt8.ofNat (cz d e / g ^ 24),UInt8.ofNat (cz d e / g ^ 16),UInt8.ofNat (cz d e / g ^ 8),UInt8.ofNat (cz d e)]) (h++x)) [Dg (a.tdiv f),Dg (a.tmod f)]) (↑x.length:Int)) (1:Nat)) (0:Int)) (256:Int)) (2:Nat));(repeat' with_reducible first|apply a_|refine aY ?_|intro)
 all_goals first | exact bq | (simp only [ajt,fS,eh,pP,ak_] at *; have:=JP (x:=x); grind)
def YC:bH:=(aP 174 AK Yp)
def zX:aw Tryz.prog (ak tyT) YC:=(ag Pj Ca)
def s_:bF b=256*((b.getD 0 (aj .u8):UInt8).toNat:Int)+((b.getD 1 (aj .u8):UInt8).toNat:Int):=by
 have a:((b.getD 0 (aj .u8):UInt8).toNat:Int)*2 ^ 8=(((b.getD 0 (aj .u8):UInt8).toNat*256:Nat):Int):=by omega
 rw [bF,a,Vp,agr,agr,mL (UInt8.toNat_lt _)];omega
def Qn {l:List UInt8} (h:l.length=4):pP (yX l)=l:=by
 obtain ⟨a,l,rfl⟩:=ah2 h;obtain ⟨b,l,rfl⟩:=ah2 (akh h);obtain ⟨c,l,rfl⟩:=ah2 (akh (akh h));obtain ⟨d,l,rfl⟩:=ah2 (akh (akh (akh h)));obtain rfl:=abb (akh (akh (akh (akh h))));have f:=a.toNat_lt; have g:=b.toNat_lt; have i:=c.toNat_lt; have j:=d.toNat_lt;have e:yX [a,b,c,d]=((a.toNat*256+b.toNat)*256+c.toNat)*256+d.toNat:=by
  simp only [yX,List.foldl_cons,List.foldl_nil];rw [show (0*256) % 4294967296=0*256 from rfl,mL (a:=0) f,alw,adz,Nat.mod_eq_of_lt (a:=a.toNat*256) aI,mL g,Nat.mod_eq_of_lt (a:=(a.toNat*256+b.toNat)*256) aI,mL i,Nat.mod_eq_of_lt aI,mL j]
 rw [e,pP];have k:∀ (x:UInt8) (n:Nat),n % 256=x.toNat->UInt8.ofNat n=x:=fun x n h=>UInt8.toNat.inj (by rw [ofNat_toNat,h]);rw [k a _ aI,k b _ aI,k c _ aI,k d _ aI]
section
variable {b:List UInt8}
def aeF (a:¬(b.length:Int)<2) (g:bF b+6<=(b.length:Int)):fJ ((b.drop 2).take (bF b).toNat)=b.take (bF b+2).toNat:=by
 obtain ⟨x,l,rfl⟩:=List.exists_cons_of_ne_nil (l:=b) (by rintro rfl; simp at a);obtain ⟨y,l,rfl⟩:=List.exists_cons_of_ne_nil (l:=l) (by rintro rfl; simp at a);have e:bF (x :: y :: l)=256*(x.toNat:Int)+(y.toNat:Int):=s_;have i:=x.toNat_lt; have j:=y.toNat_lt;have o:((x :: y :: l).length:Int)=l.length+2:=by simp; omega
 have c:(bF (x :: y :: l)).toNat=256*x.toNat+y.toNat:=by omega
 have d:(bF (x :: y :: l)+2).toNat=256*x.toNat+y.toNat+2:=by omega
 have k:∀ (x:UInt8) (n:Nat),n % 256=x.toNat->UInt8.ofNat n=x:=fun x n h=>UInt8.toNat.inj (by rw [ofNat_toNat,h]);rw [fJ,c,d];have f:(((x :: y :: l).drop 2).take (256*x.toNat+y.toNat)).length=256*x.toNat+y.toNat:=by
  rw [List.length_take,List.length_drop]; omega
 rw [f,k x _ aI,k y _ aI];rfl
def Zg (a:¬(b.length:Int)<2) (i:¬bF b=0) (j:¬bF b > 4096) (c:bF b+6<=(b.length:Int)):az b=if (fS ((b.drop 2).take (bF b).toNat)).1=b.take (bF b+6).toNat then ((b.drop 2).take (bF b).toNat,bF b+6,0) else ([],0,3):=by
 have o:=ow b;have p:((b.drop 2).take (bF b).toNat).length=(bF b).toNat:=by rw [List.length_take,List.length_drop]; omega
 have d:(2+bF b)=bF b+2:=by omega
 have e:b.take (bF b+6).toNat=b.take (bF b+2).toNat++(b.drop (bF b+2).toNat).take 4:=by
  rw [show (bF b+6).toNat=(bF b+2).toNat+4 by omega,List.take_add]
 have f:((b.drop (bF b+2).toNat).take 4).length=4:=by rw [List.length_take,List.length_drop]; omega
 have g:(fS ((b.drop 2).take (bF b).toNat)).1=b.take (bF b+2).toNat++pP (cz 1 (b.take (bF b+2).toNat)):=by
  rw [fS,if_neg aI,eh,aeF a c]
 rw [g,az,if_neg aI,if_neg aI,if_neg aI,e,d,show (bF b+2).toNat - 2=(bF b).toNat by omega,show bF b+2+4=bF b+6 by omega];by_cases h:cz 1 (b.take (bF b+2).toNat)=yX ((b.drop (bF b+2).toNat).take 4)
 ·rw [if_pos h,if_pos (by rw [h,Qn f])]
 rw [if_neg h,if_neg];intro q;have:=List.append_cancel_left q;exact h (by rw [<- this,GU (Bx _)])
abbrev sw (b:List UInt8):Int:=256*((b.getD 0 (aj .u8):UInt8).toNat:Int)+((b.getD 1 (aj .u8):UInt8).toNat:Int)
abbrev KK (b:List UInt8):List UInt8:=(b.drop 2).take ((sw b+2).toNat - 2)
def FN (h:(b.length:Int)<2):([],0,2)=az b:=by rw [az,if_pos aI]
def Gc (a:(2:Int)<=b.length) (h:sw b=0\/4096<sw b):([],0,3)=az b:=by
 rw [sw,<- s_] at h; rw [az,if_neg aI,if_pos aI]
def EX (c:(2:Int)<=b.length) (g:¬sw b=0) (h:sw b<=4096) (a:(b.length:Int)<sw b+6):([],0,2)=az b:=by
 rw [sw,<- s_] at g h a; rw [az,if_neg aI,if_neg aI,if_pos aI]
def FY (c:(2:Int)<=b.length) (g:¬sw b=0) (h:sw b<=4096) (a:sw b+6<=(b.length:Int)) (e:¬Str.mk (fS (KK b)).1=Str.mk (b.take (sw b+6).toNat)):([],0,3)=az b:=by
 have d:=ow b;rw [KK,sw,<- s_] at e; rw [sw,<- s_] at g h a;rw [Zg aI g aI a,if_neg];rw [show (bF b+2).toNat - 2=(bF b).toNat by omega] at e;exact fun q=>e (congrArg Str.mk q)
def MD (c:(2:Int)<=b.length) (g:¬sw b=0) (h:sw b<=4096) (a:sw b+6<=(b.length:Int)) (e:Str.mk (fS (KK b)).1=Str.mk (b.take (sw b+6).toNat)):(KK b,sw b+6,0)=az b:=by
 have d:=ow b;rw [KK,sw,<- s_] at e ⊢; rw [sw,<- s_] at g h a;rw [show (bF b+2).toNat - 2=(bF b).toNat by omega] at e ⊢;rw [Zg aI g aI a,if_pos (Str.mk.inj e)]
def ZL (g:¬sw b=0) (h:sw b<=4096):(KK b).length*1<=140737488355328:=by rw [KK,List.length_take]; omega
end
def wq:Kn:=aO (ae (kC (cL .u8)) al) av fun (b,_) _=>⟨[],[.c (.fz .u8 (((az b).1))),.c (.int (((az b).2.1))),.c (.int (((az b).2.2)))],none,false⟩
def Jx:CK 109 wq:=ah fun (b,_) _ _=>by
 refine ao zX [] Tryz.func109 (?_:(fun o=>(fun p=>(fun h=>(fun v=>(fun s=>(fun c=>(fun g=>(fun u=>(fun f=>(fun i=>(fun e=>(fun a=>(fun d=>(fun j=>b.length*1<=140737488355328->(g<f->i)/\(f<=g->c<=c/\c<g/\I64 p/\c<=1/\1<g/\I64 e/\(e=c\/4096<e->u)/\(¬e=c/\e<=4096->I64 a/\(g<a->i)/\(a<=g->I64 (e+f)/\c<=f/\f<=e+f/\e+f<=g/\d.length*1<=140737488355328/\((fS d).fst.length*1<=140737488355328->I64 (fS d).snd->I64 a/\c<=a/\a<=g/\(¬j->u)/\(j->I64 a/\d=(az b).fst/\a=h.fst/\c=h.snd)))))) (Str.mk (fS d).fst=Str.mk (List.take a.toNat b))) (List.take ((e+f).toNat - s) (List.drop s b))) (e+v)) (p+(↑(UInt8.toNat (b.getD 1 (aj Sh.u8))):Int))) (o/\c=h.fst/\f=h.snd)) (2:Int)) (o/\c=h.fst/\3=h.snd)) (↑b.length:Int)) (0:Int)) (2:Nat)) (6:Int)) (az b).snd) (256*(↑(UInt8.toNat (b.getD 0 (aj Sh.u8))):Int))) ((az b).fst=[]));have w:=(b.getD 0 (aj .u8):UInt8).toNat_lt;have y:=(b.getD 1 (aj .u8):UInt8).toNat_lt;(repeat' with_reducible first|apply a_|refine aY ?_|intro)
 all_goals (first | exact bq | exact (congrArg Prod.fst (FN ab)) | exact (congrArg (fun q=>q.2.1) (FN ab)) | exact (congrArg (fun q=>q.2.2) (FN ab)) | exact (congrArg Prod.fst (Gc ab ab)) | exact (congrArg (fun q=>q.2.1) (Gc ab ab)) | exact (congrArg (fun q=>q.2.2) (Gc ab ab)) | exact (congrArg Prod.fst (EX ab ab ab ab)) | exact (congrArg (fun q=>q.2.1) (EX ab ab ab ab)) | exact (congrArg (fun q=>q.2.2) (EX ab ab ab ab)) | exact (congrArg Prod.fst (FY ab ab ab ab ab)) | exact (congrArg (fun q=>q.2.1) (FY ab ab ab ab ab)) | exact (congrArg (fun q=>q.2.2) (FY ab ab ab ab ab)) | exact (congrArg Prod.fst (MD ab ab ab ab ab)) | exact (congrArg (fun q=>q.2.1) (MD ab ab ab ab ab)) | exact (congrArg (fun q=>q.2.2) (MD ab ab ab ab ab)) | exact (congrArg Prod.fst (FN ab)).symm | exact (congrArg Prod.fst (Gc ab ab)).symm | exact (congrArg Prod.fst (EX ab ab ab ab)).symm | exact (congrArg Prod.fst (FY ab ab ab ab ab)).symm | exact (ZL ab ab))
def Yg:bH:=(aP 109 wq YC)
def zl:aw Tryz.prog (ak tyT) Yg:=(ag Jx zX)
def aFr:Nat->List UInt8->List (List UInt8)
 | 0,_=>[]
 | n+1,b=>if (az b).2.2=0 then (az b).1 :: aFr n (b.drop (az b).2.1.toNat) else []
def aFn:Nat->List UInt8->Int
 | 0,_=>0
 | n+1,b=>if (az b).2.2=0 then (az b).2.1+aFn n (b.drop (az b).2.1.toNat) else 0
def aF (b:List UInt8):List (List UInt8):=aFr (b.length+1) b
def aN (b:List UInt8):Int:=aFn (b.length+1) b
theorem Ch:∀ {n m:Nat} {b:List UInt8},b.length<n->b.length<m->aFr n b=aFr m b/\aFn n b=aFn m b
 | 0,_,_,h,_=>absurd h aI
 | _,0,_,_,h=>absurd h aI
 | n+1,m+1,b,e,f=>by
  simp only [aFr,aFn];by_cases a:(az b).2.2=0
  ·have g:=db a;have i:(b.drop (az b).2.1.toNat).length<b.length:=by rw [List.length_drop]; omega
   obtain ⟨c,d⟩:=Ch (n:=n) (m:=m) (b:=b.drop (az b).2.1.toNat) aI aI;rw [c,d]; exact ⟨rfl,rfl⟩
  simp only [if_neg a,and_self]
def LV (h:(az b).2.2=0):aF b=(az b).1 :: aF (b.drop (az b).2.1.toNat)/\aN b=(az b).2.1+aN (b.drop (az b).2.1.toNat):=by
 have d:=db h;have e:(b.drop (az b).2.1.toNat).length<b.length:=by rw [List.length_drop]; omega
 obtain ⟨a,c⟩:=Ch (n:=b.length) (m:=(b.drop (az b).2.1.toNat).length+1) (b:=b.drop (az b).2.1.toNat) aI aI;rw [aF,aN,aFr,aFn,if_pos h,if_pos h,a,c]; exact ⟨rfl,rfl⟩
def ME (h:¬(az b).2.2=0):aF b=[]/\aN b=0:=by
 rw [aF,aN,aFr,aFn,if_neg h,if_neg h]; exact ⟨rfl,rfl⟩
structure ZAv where
 l:List (List UInt8)
 a:Int
structure AJr (b:List UInt8) (q:ZAv):Prop where
 a0:0<=q.a
 a1:q.a<=b.length
 n:7*(q.l.length:Int)<=q.a
 f:aF b=q.l++aF (b.drop q.a.toNat)
 s:aN b=q.a+aN (b.drop q.a.toNat)
section
variable {b:List UInt8} {q:ZAv}
def ahB:AJr b ⟨[],0⟩:=⟨agO 0,Int.natCast_nonneg _,agO 0,rfl,(Int.zero_add _).symm⟩
def akk (h:AJr b q) (e:(az (b.drop q.a.toNat)).2.2=0):AJr b ⟨q.l++[(az (b.drop q.a.toNat)).1],q.a+(az (b.drop q.a.toNat)).2.1⟩:=by
 have g:=db e;have ⟨o,p,s,i,c⟩:=h;rw [List.length_drop] at g;obtain ⟨d,f⟩:=LV e;have j:(b.drop q.a.toNat).drop (az (b.drop q.a.toNat)).2.1.toNat=b.drop (q.a+(az (b.drop q.a.toNat)).2.1).toNat:=by
  rw [ahb]; congr 1; omega
 rw [j] at d f;refine ⟨by dsimp only; omega,by dsimp only; omega,?_,?_,?_⟩
 ·simp only [List.length_append,List.length_cons,List.length_nil]; omega
 ·dsimp only; rw [i,d,List.append_assoc,List.singleton_append]
 dsimp only; rw [c,f]; omega
def aaR (h:AJr b q) (e:¬(az (b.drop q.a.toNat)).2.2=0):q.l=aF b/\q.a=aN b:=by
 have ⟨f,g,i,c,d⟩:=h;rw [c,d,(ME e).1,(ME e).2,adD]; exact ⟨rfl,(Int.add_zero _).symm⟩
end
def aay (b:List UInt8):List (Nat × LI):=[(3,{ σ:=ZAv,F:=fun q=>([(0,one (.fz .u8 (b))),(4,one (.own 0)),(5,one (.int q.a))],[.row 50 (.lst .u8) ((q.l))]),J:=fun q=>AJr b q,μ:=fun q=>(b.length - q.a).toNat })]
def Hd:Kn:=aO (ae (kC (cL .u8)) al) av fun (b,_) _=>⟨[b.length<=1000000],[.c (.fz (.lst .u8) ((aF b))),.c (.int ((aN b)))],none,false⟩
theorem Tz:CK 63 Hd:=ah fun (b,_) _ f=>by
 have i:=cg f;refine ao zl (aay b) Tryz.func63 (?_:b.length*1<=140737488355328->∃ e,(b=b/\0=e.a/\e.l=[])/\AJr b e/\∀ (s:ZAv),(fun c=>AJr b s->0<=s.a/\s.a<=(↑b.length:Int)/\(c.fst.length*1<=140737488355328->I64 c.snd.fst->I64 c.snd.snd->(¬c.snd.snd=0->s.l=aF b/\s.a=aN b)/\(c.snd.snd=0->(s.l.length+[c.fst].length)*24<=140737488355328/\I64 (s.a+c.snd.fst)/\∃ d,(b=b/\s.a+c.snd.fst=d.a/\s.l++[c.fst]=d.l)/\AJr b d /\ ((↑b.length:Int) - d.a).toNat<((↑b.length:Int) - s.a).toNat))) (az (List.drop s.a.toNat b)));iterate 3 ((all_goals (repeat' with_reducible first|apply a_|refine aY ?_|intro)); (all_goals try (first | exact bq | exact rfl | exact ahB | exact (akk ab ab) | exact (aaR ab ab).1 | exact (aaR ab ab).2 | exact (aaR ab ab).1.symm | (have g:=(show AJr b ‹ZAv› by assumption); have ⟨_,_,_,_,_⟩:=g; first | omega | (refine bw ?_ ?_ <;> omega) | (have h:=db (b:=(List.drop (‹ZAv›.a).toNat b)) ab; rw [List.length_drop] at h; first | omega | (refine bw ?_ ?_ <;> omega) | (dsimp only; omega) | (rw [show ∀ x:List UInt8,[x].length=1 from fun _=>rfl]; omega))))); all_goals try first | refine ⟨ZAv.mk (‹ZAv›.l++[(az (List.drop (‹ZAv›.a).toNat b)).1]) (‹ZAv›.a+(az (List.drop (‹ZAv›.a).toNat b)).2.1),?_⟩ | refine ⟨ZAv.mk [] 0,?_⟩)
def Zj:bH:=(aP 63 Hd Yg)
def zh:aw Tryz.prog (ak tyT) Zj:=(ag Tz zl)
section
variable {r:Record}
def iP:recOk r=true↔(r.kind=1/\1<=r.a/\r.a<=3/\r.b=0/\(r.x.length:Int)<=0)\/(r.kind=2/\0<=r.a/\r.a<=1048576/\0<=r.b/\r.b<=5/\(r.x.length:Int)<=0)\/(r.kind=3/\1<=r.a/\r.a<=64/\0<=r.b/\r.b<=1048576/\(r.x.length:Int)<=200)\/(r.kind=4/\1<=r.a/\r.a<=64/\r.b=0/\(r.x.length:Int)<=0):=by
 have e:r.x=[]↔(r.x.length:Int)<=0:=by rw [<- List.length_eq_zero_iff]; omega
 rw [bR,e];omega
def af4 (h:¬recOk r=true):ay r=([],1):=if_neg h
def XH (h:recOk r=true):Dg r.kind=UInt8.ofNat r.kind.toNat:=by
 have:=dg h;rw [show r.kind=((r.kind.toNat:Nat):Int) by omega,rH,agr]
def ad2 (c:recOk r=true) (h:r.kind=2\/r.kind=3):[Dg r.kind]++bk r.a.toNat++bk r.b.toNat++r.x=(ay r).1:=by
 rw [qS c,recPut,XH c,if_pos (by rcases h with h | h <;> rw [h] <;> rfl)]
def afh (c:recOk r=true) (h:¬r.kind=2/\¬r.kind=3):[Dg r.kind]++bk r.a.toNat++r.x=(ay r).1:=by
 have e:r.kind=1\/r.kind=4:=by have:=iP.1 c; omega
 rw [qS c,recPut,XH c,if_neg (by rcases e with h | h <;> rw [h] <;> decide),adD]
end
def EU:Kn:=aO (ae (kT (.nm .record)) al) av fun (r,_) _=>⟨[],[.c (.fz .u8 (((ay r).1))),.c (.int (((ay r).2)))],none,false⟩
theorem Ug:CK 111 EU:=ah fun (r,_) _ _=>by
 refine ao (yE zh) [] Tryz.func111 (?_:(fun h=>(fun B=>(fun y=>(fun z=>(fun o=>(fun p=>(fun g=>(fun q=>(fun s=>(fun u=>(fun v=>(fun j=>(fun i=>(fun c=>(fun d=>(fun e=>(fun f=>(fun w=>de r ((r.kind=1->((B=false\/f)\/e->p)/\((B=true/\d)/\c->w))/\(¬r.kind=1->(j->(((u=false\/s=false)\/f)\/e->p)/\(((u=true/\s=true)/\d)/\c->w))/\(¬j->(i->((((z=false\/q=false)\/200<y)\/f)\/e->p)/\((((z=true/\q=true)/\y<=200)/\d)/\c->w))/\(¬i->(r.kind=4->((z=false\/f)\/e->p)/\((z=true/\d)/\c->w))/\(¬r.kind=4->(((!false)=true\/f)\/e->p)/\(((!false)=false/\d)/\c->w))))))) (g<=r.a/\([Dg r.kind].length+(bk r.a.toNat).length)*1<=140737488355328/\(j\/i->g<=h/\(o.length+(bk h.toNat).length)*1<=140737488355328/\((o++bk h.toNat).length+r.x.length)*1<=140737488355328/\o++bk h.toNat++r.x=(ay r).fst/\g=(ay r).snd)/\(¬j/\¬i->(o.length+r.x.length)*1<=140737488355328/\o++r.x=(ay r).fst/\g=(ay r).snd))) ((¬j/\¬i)/\¬v)) (¬i/\g<y)) ((j\/i)\/v)) (i\/y<=g)) (r.kind=3)) (r.kind=2)) (h=g)) (decide (g<=r.a) && decide (r.a<=1048576))) (decide (g<=h) && decide (h<=5))) (decide (g<=h) && decide (h<=1048576))) (0:Int)) ((ay r).fst=[]/\1=(ay r).snd)) ([Dg r.kind]++bk r.a.toNat)) (decide (1<=r.a) && decide (r.a<=64))) (↑r.x.length:Int)) (decide (1<=r.a) && decide (r.a<=3))) r.b);(repeat' with_reducible first|apply a_|refine aY ?_|intro)
 all_goals first | exact bq | (rw [af4 (by rw [iP]; simp only [Bool.and_eq_true,decide_eq_true_eq,aly,ahg] at *; omega)]; done) | (have A:recOk r=true:=(by rw [iP]; simp only [Bool.and_eq_true,decide_eq_true_eq,aly,ahg] at *; omega); have C:=dg A; first | omega | (simp only [List.length_append,List.length_cons,List.length_nil]; omega) | exact ad2 A ab | exact afh A aI | (rw [qS A]; done)) | (simp_all; done) | skip
def X_:bH:=(aP 111 EU Zj)
def zQ:aw Tryz.prog (ak tyT) X_:=(ag Ug zh)
abbrev rs15 (b:List UInt8):List UInt8:=b.drop (1+((takeF (b.drop 1)).2.1:Int)).toNat
structure Tk15 (b:List UInt8) (r:Record):Prop where
 ok:recOk r=true
 put:b=recPut r
 len:¬(b.length:Int)=0
 kd:b[0]? = some (UInt8.ofNat r.kind.toNat)
 a:(takeF (b.drop 1)).1=r.a.toNat
 e:(takeF (b.drop 1)).2.2=0
 b2:r.kind=2\/r.kind=3->(takeF (rs15 b)).1=r.b.toNat/\(takeF (rs15 b)).2.2=0/\(rs15 b).drop (takeF (rs15 b)).2.1=r.x
section
variable {b:List UInt8} {x:UInt8} {r:Record}
def DB (h:(aC b).2=0):Tk15 b (aC b).1:=by
 obtain ⟨e,g⟩:=xL h;generalize (aC b).1=r at *;subst g;have i:=dg e;have c:recPut r=UInt8.ofNat r.kind.toNat :: (bk r.a.toNat++((if qX r.kind=true then bk r.b.toNat else [])++r.x)):=by simp [recPut]
 have f:(recPut r).drop 1=bk r.a.toNat++((if qX r.kind=true then bk r.b.toNat else [])++r.x):=by rw [c]; rfl
 have d:takeF ((recPut r).drop 1)=(r.a.toNat,(bk r.a.toNat).length,0):=by rw [f]; exact jA aI _
 refine ⟨e,rfl,by rw [c]; simp only [List.length_cons]; omega,by rw [c]; rfl,by rw [d],by rw [d],fun j=>?_⟩;have o:rs15 (recPut r)=bk r.b.toNat++r.x:=by
  rw [rs15,d,show (1+((bk r.a.toNat).length:Int)).toNat=1+(bk r.a.toNat).length by omega,<- ahb,f,List.drop_left,if_pos (by rcases j with h | h <;> rw [h] <;> rfl)]
 rw [o,jA aI];exact ⟨rfl,rfl,List.drop_left⟩
def Gm (h:¬(aC b).2=0):aC b=(kv,3):=by
 revert h; unfold aC;split
 ·intro _; rfl
 split
 ·intro _; rfl
 intro h; exact absurd rfl h
def Gk (a:b[0]? = some x) (q:Tk15 b r):(x.toNat:Int)=r.kind:=by
 have c:=dg q.ok;have e:=q.kd;rw [a] at e; cases e;rw [ofNat_toNat]; omega
def mm (h:(b.length:Int)=0):aC b=(kv,3):=Gm fun k=>(DB k).len h
def mn (h:¬(takeF (b.drop 1)).2.2=0\/((1073741824:Nat):Int)<((takeF (b.drop 1)).1:Int)):aC b=(kv,3):=Gm fun k=>by
 have q:=DB k;have c:=dg q.ok;rw [q.e,q.a] at h; omega
def mz (h:¬(takeF (rs15 b)).2.2=0\/((1073741824:Nat):Int)<((takeF (rs15 b)).1:Int)) (c:b[0]? = some x) (a:(x.toNat:Int)=2\/(x.toNat:Int)=3):aC b=(kv,3):=Gm fun k=>by
 have q:=DB k;have d:=dg q.ok;rw [Gk c q] at a;rw [(q.b2 a).2.1,(q.b2 a).1] at h; omega
def RL (a:(aC b).2=0->(aC b).1=r) (h:¬(ay r).2=0\/¬Str.mk (ay r).1=Str.mk b):aC b=(kv,3):=Gm fun k=>by
 have q:=DB k;rw [a k] at q; rw [qS q.ok] at h;rcases h with h | h
 ·exact h rfl
 exact h (congrArg Str.mk q.put.symm)
def mB (h:(ay r).2=0) (a:Str.mk (ay r).1=Str.mk b):aC b=(r,0):=by
 have c:=cu.1 h;rw [qS c] at a;rw [<- Str.mk.inj a]; exact zT c
variable {a:Int}
def Bp {n:Nat} (h:n=a.toNat) (c:0<=a) (d:a<=1048576):a=dp n:=by
 rw [h,nn aI]; omega
theorem rec_eq {k c:Int} {y:List UInt8} (d:r.kind=k) (e:r.a=a) (f:r.b=c) (g:r.x=y):r=⟨k,a,c,y⟩:=by cases r; simp_all
def mM (h:¬(ay ⟨(x.toNat:Int),dp (takeF (b.drop 1)).1,dp (takeF (rs15 b)).1,(rs15 b).drop (takeF (rs15 b)).2.1⟩).2=0\/¬Str.mk (ay ⟨(x.toNat:Int),dp (takeF (b.drop 1)).1,dp (takeF (rs15 b)).1,(rs15 b).drop (takeF (rs15 b)).2.1⟩).1=Str.mk b) (d:b[0]? = some x) (f:(x.toNat:Int)=3):aC b=(kv,3):=RL (fun k=>by
 have q:=DB k;have g:=dg q.ok;have e:=Gk d q;have c:=q.b2 (.inr aI);exact rec_eq e.symm (Bp q.a aI aI) (Bp c.1 aI aI) c.2.2.symm) h
def mU (h:¬(ay ⟨(x.toNat:Int),dp (takeF (b.drop 1)).1,dp (takeF (rs15 b)).1,[]⟩).2=0\/¬Str.mk (ay ⟨(x.toNat:Int),dp (takeF (b.drop 1)).1,dp (takeF (rs15 b)).1,[]⟩).1=Str.mk b) (c:b[0]? = some x) (g:(x.toNat:Int)=2\/(x.toNat:Int)=3) (d:¬(x.toNat:Int)=3):aC b=(kv,3):=RL (fun k=>by
 have q:=DB k;have i:=dg q.ok;have e:=Gk c q;have f:=q.b2 (.inl aI);have c:(aC b).1.x=[]:=abb (by have:=iP.1 q.ok; omega);exact rec_eq e.symm (Bp q.a aI aI) (Bp f.1 aI aI) c) h
def mK (h:¬(ay ⟨(x.toNat:Int),dp (takeF (b.drop 1)).1,0,[]⟩).2=0\/¬Str.mk (ay ⟨(x.toNat:Int),dp (takeF (b.drop 1)).1,0,[]⟩).1=Str.mk b) (c:b[0]? = some x) (d:¬(x.toNat:Int)=2/\¬(x.toNat:Int)=3):aC b=(kv,3):=RL (fun k=>by
 have q:=DB k;have f:=dg q.ok;have e:=Gk c q;have g:=iP.1 q.ok;have c:(aC b).1.x=[]:=abb aI;exact rec_eq e.symm (Bp q.a aI aI) aI c) h
def Yf (c:b[0]? = some x):1+((takeF (b.drop 1)).2.1:Int)<=(b.length:Int):=by
 have:=Pf (b.drop 1);have d:=(aad.1 c).1;rw [List.length_drop] at this; omega
end
def BA:Kn:=aO (ae (kC (cL .u8)) al) av fun (b,_) _=>⟨[],[.agg (cellsOf (.nm .record) ((aC b).1)),.c (.int (((aC b).2)))],none,false⟩
def Nc:CK 64 BA:=ah fun (b,_) _ _=>by
 refine ao zQ [] Tryz.func64 (?_:(fun B=>(fun s=>(fun e=>(fun I=>(fun G=>(fun H=>(fun z=>(fun g=>(fun u=>(fun v=>(fun c=>(fun A=>(fun C=>(fun D=>(fun w=>(fun f=>(fun F=>(fun y=>b.length*z<=e->(H=c->C)/\(¬H=c->c<=c/\c<H/\∀ (x:UInt8),(fun d=>(fun h=>(fun i=>(fun j=>(fun o=>(fun p=>b[(0:Nat)]? = some x->c<=B/\B<=H/\(u.fst<(18446744073709551616:Nat)->I64 (↑u.snd.fst:Int)->I64 u.snd.snd->(¬u.snd.snd=c\/s<(↑u.fst:Int)->C)/\(u.snd.snd=c/\(↑u.fst:Int)<=s->I64 v/\c<=v/\v<=H/\(d=(2:Int)\/h->w<(18446744073709551616:Nat)->I64 (↑f.fst:Int)->I64 f.snd->(¬f.snd=c\/s<(↑w:Int)->C)/\(f.snd=c/\(↑w:Int)<=s->c<=(↑f.fst:Int)/\(↑f.fst:Int)<=(↑D.length:Int)/\(h->F.length*z<=e/\(p.fst.length*z<=e->I64 p.snd->(¬p.snd=c\/¬Str.mk p.fst=Str.mk b->C)/\(p.snd=c/\Str.mk p.fst=Str.mk b->lG (Record.mk d A y F) g (c=G))))/\(¬h->o.fst.length*z<=e->I64 o.snd->(¬o.snd=c\/¬Str.mk o.fst=Str.mk b->C)/\(o.snd=c/\Str.mk o.fst=Str.mk b->d=g.kind/\A=g.a/\y=g.b/\g.x=[]/\c=G))))/\(¬d=(2:Int)/\¬h->(h->D.length*z<=e/\(i.fst.length*z<=e->I64 i.snd->(¬i.snd=c\/¬Str.mk i.fst=Str.mk b->C)/\(i.snd=c/\Str.mk i.fst=Str.mk b->lG (Record.mk d A c D) g (c=G))))/\(¬h->j.fst.length*z<=e->I64 j.snd->(¬j.snd=c\/¬Str.mk j.fst=Str.mk b->C)/\(j.snd=c/\Str.mk j.fst=Str.mk b->d=g.kind/\A=g.a/\c=g.b/\g.x=[]/\c=G)))))) (ay (Record.mk d A y F))) (ay (Record.mk d A y []))) (ay (Record.mk d A c []))) (ay (Record.mk d A c D))) (d=I)) (↑x.toNat:Int))) (dp w)) (List.drop f.fst D)) (takeF D).snd) (takeF D).fst) (List.drop v.toNat b)) (c=g.kind/\c=g.a/\c=g.b/\g.x=[]/\I=G)) (dp u.fst)) (0:Int)) (B+(↑u.snd.fst:Int))) (takeF (List.drop z b))) (aC b).fst) (1:Nat)) (↑b.length:Int)) (aC b).snd) (3:Int)) (140737488355328:Nat)) (↑(1073741824:Nat):Int)) (1:Int));(repeat' with_reducible first|apply a_|refine aY ?_|intro)
 all_goals (first | exact bq | exact (congrArg (fun q=>q.2) (mm ab)) | exact (congrArg (fun q=>q.2) (mm ab)).symm | exact (congrArg (fun q=>q.1.kind) (mm ab)) | exact (congrArg (fun q=>q.1.kind) (mm ab)).symm | exact (congrArg (fun q=>q.1.a) (mm ab)) | exact (congrArg (fun q=>q.1.a) (mm ab)).symm | exact (congrArg (fun q=>q.1.b) (mm ab)) | exact (congrArg (fun q=>q.1.b) (mm ab)).symm | exact (congrArg (fun q=>q.1.x) (mm ab)) | exact (congrArg (fun q=>q.1.x) (mm ab)).symm | exact (congrArg (fun q=>q.2) (mn ab)) | exact (congrArg (fun q=>q.2) (mn ab)).symm | exact (congrArg (fun q=>q.1.kind) (mn ab)) | exact (congrArg (fun q=>q.1.kind) (mn ab)).symm | exact (congrArg (fun q=>q.1.a) (mn ab)) | exact (congrArg (fun q=>q.1.a) (mn ab)).symm | exact (congrArg (fun q=>q.1.b) (mn ab)) | exact (congrArg (fun q=>q.1.b) (mn ab)).symm | exact (congrArg (fun q=>q.1.x) (mn ab)) | exact (congrArg (fun q=>q.1.x) (mn ab)).symm | exact (congrArg (fun q=>q.2) (mz ab ab ab)) | exact (congrArg (fun q=>q.2) (mz ab ab ab)).symm | exact (congrArg (fun q=>q.1.kind) (mz ab ab ab)) | exact (congrArg (fun q=>q.1.kind) (mz ab ab ab)).symm | exact (congrArg (fun q=>q.1.a) (mz ab ab ab)) | exact (congrArg (fun q=>q.1.a) (mz ab ab ab)).symm | exact (congrArg (fun q=>q.1.b) (mz ab ab ab)) | exact (congrArg (fun q=>q.1.b) (mz ab ab ab)).symm | exact (congrArg (fun q=>q.1.x) (mz ab ab ab)) | exact (congrArg (fun q=>q.1.x) (mz ab ab ab)).symm | exact (congrArg (fun q=>q.2) (mM ab ab ab)) | exact (congrArg (fun q=>q.2) (mM ab ab ab)).symm | exact (congrArg (fun q=>q.1.kind) (mM ab ab ab)) | exact (congrArg (fun q=>q.1.kind) (mM ab ab ab)).symm | exact (congrArg (fun q=>q.1.a) (mM ab ab ab)) | exact (congrArg (fun q=>q.1.a) (mM ab ab ab)).symm | exact (congrArg (fun q=>q.1.b) (mM ab ab ab)) | exact (congrArg (fun q=>q.1.b) (mM ab ab ab)).symm | exact (congrArg (fun q=>q.1.x) (mM ab ab ab)) | exact (congrArg (fun q=>q.1.x) (mM ab ab ab)).symm | exact (congrArg (fun q=>q.2) (mU ab ab ab ab)) | exact (congrArg (fun q=>q.2) (mU ab ab ab ab)).symm | exact (congrArg (fun q=>q.1.kind) (mU ab ab ab ab)) | exact (congrArg (fun q=>q.1.kind) (mU ab ab ab ab)).symm | exact (congrArg (fun q=>q.1.a) (mU ab ab ab ab)) | exact (congrArg (fun q=>q.1.a) (mU ab ab ab ab)).symm | exact (congrArg (fun q=>q.1.b) (mU ab ab ab ab)) | exact (congrArg (fun q=>q.1.b) (mU ab ab ab ab)).symm | exact (congrArg (fun q=>q.1.x) (mU ab ab ab ab)) | exact (congrArg (fun q=>q.1.x) (mU ab ab ab ab)).symm | exact (congrArg (fun q=>q.2) (mK ab ab aI)) | exact (congrArg (fun q=>q.2) (mK ab ab aI)).symm | exact (congrArg (fun q=>q.1.kind) (mK ab ab aI)) | exact (congrArg (fun q=>q.1.kind) (mK ab ab aI)).symm | exact (congrArg (fun q=>q.1.a) (mK ab ab aI)) | exact (congrArg (fun q=>q.1.a) (mK ab ab aI)).symm | exact (congrArg (fun q=>q.1.b) (mK ab ab aI)) | exact (congrArg (fun q=>q.1.b) (mK ab ab aI)).symm | exact (congrArg (fun q=>q.1.x) (mK ab ab aI)) | exact (congrArg (fun q=>q.1.x) (mK ab ab aI)).symm | exact (congrArg (fun q=>q.2) (mB ab ab)) | exact (congrArg (fun q=>q.2) (mB ab ab)).symm | exact (congrArg (fun q=>q.1.kind) (mB ab ab)) | exact (congrArg (fun q=>q.1.kind) (mB ab ab)).symm | exact (congrArg (fun q=>q.1.a) (mB ab ab)) | exact (congrArg (fun q=>q.1.a) (mB ab ab)).symm | exact (congrArg (fun q=>q.1.b) (mB ab ab)) | exact (congrArg (fun q=>q.1.b) (mB ab ab)).symm | exact (congrArg (fun q=>q.1.x) (mB ab ab)) | exact (congrArg (fun q=>q.1.x) (mB ab ab)).symm | exact (Yf ab) | exact (Pf _) | (have:=Yf (b:=b) ab; exact bw aI aI) | (simp only [List.length_drop]; omega))
def Xv:bH:=(aP 64 BA X_)
def Bn:aw Tryz.prog (ak tyT) Xv:=(ag Nc zQ)
section
variable {s:Stable} {r:Record}
def mN (h:¬(ay r).2=0):aG s r=(s,(ay r).2):=by
 rw [(ji h).1,aG,if_pos (ji h).2]
variable (h0:(ay r).2=0)
include h0
def Ir (e:cV s r=none):aG s r=(s,5):=by rw [aG,if_neg (by rw [cu.1 h0]; decide),e]
def Gj {t:Stable} (e:cV s r=some t):aG s r=(t,0):=by rw [aG,if_neg (by rw [cu.1 h0]; decide),e]
def mH (c:r.kind=1) (h:r.a<s.floor):aG s r=(s,5):=Ir h0 (by rw [cV,if_pos c,du,if_pos h])
def mC (c:r.kind=1) (h:s.floor<=r.a):aG s r=(⟨r.a,s.term,s.vote,s.log⟩,0):=Gj h0 (by rw [cV,if_pos c,du,if_neg aI])
def ml (c:r.kind=2) (d:r.a<=s.term) (h:¬r.a=s.term\/¬s.vote=0/\¬s.vote=r.b):aG s r=(s,5):=Ir h0 (by rw [cV,if_neg aI,if_pos c,eB,if_pos aI])
def mR (c:r.kind=2) (h:s.term<r.a\/r.a=s.term/\(s.vote=0\/s.vote=r.b)):aG s r=(⟨s.floor,r.a,r.b,s.log⟩,0):=Gj h0 (by rw [cV,if_neg aI,if_pos c,eB,if_neg aI])
def mT (c:r.kind=3) (h:¬r.a=(s.log.length:Int)+1):aG s r=(s,5):=Ir h0 (by rw [cV,if_neg aI,if_neg aI,if_pos c,df,if_pos h])
def mu (c:r.kind=3) (h:r.a=(s.log.length:Int)+1):aG s r=(⟨s.floor,s.term,s.vote,s.log++[⟨r.b,r.x⟩]⟩,0):=Gj h0 (by rw [cV,if_neg aI,if_neg aI,if_pos c,df,if_neg (adv.2 h)])
def mV (c:r.kind=4) (h:(s.log.length:Int)<r.a):aG s r=(s,5):=Ir h0 (by rw [cV,if_neg aI,if_neg aI,if_neg aI,eX,if_pos h])
def mJ (c:r.kind=4) (h:r.a<=(s.log.length:Int)):aG s r=(⟨s.floor,s.term,s.vote,s.log.take (r.a - 1).toNat⟩,0):=Gj h0 (by rw [cV,if_neg aI,if_neg aI,if_neg aI,eX,if_neg aI])
def mI (a:¬r.kind=1) (c:¬r.kind=2) (d:¬r.kind=3) (e:¬r.kind=4):aG s r=(s,5):=by have:=iP.1 (cu.1 h0); omega
def aep:0<=r.a/\r.a<=1048576/\(r.kind=4->0<=r.a - 1):=by have:=iP.1 (cu.1 h0); omega
end
def zw:Kn:=aO (ae (kT (.nm .stable)) (ae (kT (.nm .record)) al)) av fun (s,r,_) _=>⟨[s.log.length<=1000000],[.agg (cellsOf (.nm .stable) ((aG s r).1)),.c (.int (((aG s r).2)))],none,false⟩
def Pm:CK 65 zw:=ah fun (s,r,_) _ o=>by
 have p:=cg o;refine ao Bn [] Tryz.func65 (?_:(fun j=>(fun c=>(fun g=>(fun e=>(fun f=>(fun i=>(fun d=>(fun h=>bS s (de r ((ay r).fst.length*1<=140737488355328->I64 j->(¬j=g->aD s f (j=(aG s r).snd))/\(j=g->s.log.length*32<=140737488355328/\(r.kind=e->(c<s.floor->h)/\(s.floor<=c->aD (Stable.mk c s.term s.vote s.log) f i))/\(¬r.kind=e->(r.kind=2->(c<=s.term/\(¬c=s.term\/¬s.vote=g/\¬s.vote=r.b)->h)/\(s.term<c\/c=s.term/\(s.vote=g\/s.vote=r.b)->aD (Stable.mk s.floor c r.b s.log) f i))/\(¬r.kind=2->(r.kind=3->I64 (d+e)/\r.x.length*1<=140737488355328/\(s.log.length+[Entry.mk r.b r.x].length)*32<=140737488355328/\(¬c=d+e->h)/\(c=d+e->aD (Stable.mk s.floor s.term s.vote (s.log++[Entry.mk r.b r.x])) f i))/\(¬r.kind=3->(r.kind=4->(c<=d->I64 (c - e)/\g<=c - e/\c - e<=d/\(d<c->h)/\(c<=d->aD (Stable.mk s.floor s.term s.vote (List.take (c - e).toNat s.log)) f i))/\(d<c->(d<c->h)/\(c<=d->aD s f i)))/\(¬r.kind=4->h)))))))) (aD s f (5=(aG s r).snd))) (↑s.log.length:Int)) (g=(aG s r).snd)) (aG s r).fst) (1:Int)) (0:Int)) r.a) (ay r).snd);(repeat' with_reducible first|apply a_|refine aY ?_|intro)
 all_goals (first | exact bq | exact (congrArg (fun q=>q.2) (mN ab)) | exact (congrArg (fun q=>q.2) (mN ab)).symm | exact (congrArg (fun q=>q.1.floor) (mN ab)) | exact (congrArg (fun q=>q.1.floor) (mN ab)).symm | exact (congrArg (fun q=>q.1.term) (mN ab)) | exact (congrArg (fun q=>q.1.term) (mN ab)).symm | exact (congrArg (fun q=>q.1.vote) (mN ab)) | exact (congrArg (fun q=>q.1.vote) (mN ab)).symm | exact (congrArg (fun q=>q.1.log) (mN ab)) | exact (congrArg (fun q=>q.1.log) (mN ab)).symm | exact (congrArg (fun q=>q.2) (mI ab ab ab ab ab)) | exact (congrArg (fun q=>q.2) (mI ab ab ab ab ab)).symm | exact (congrArg (fun q=>q.1.floor) (mI ab ab ab ab ab)) | exact (congrArg (fun q=>q.1.floor) (mI ab ab ab ab ab)).symm | exact (congrArg (fun q=>q.1.term) (mI ab ab ab ab ab)) | exact (congrArg (fun q=>q.1.term) (mI ab ab ab ab ab)).symm | exact (congrArg (fun q=>q.1.vote) (mI ab ab ab ab ab)) | exact (congrArg (fun q=>q.1.vote) (mI ab ab ab ab ab)).symm | exact (congrArg (fun q=>q.1.log) (mI ab ab ab ab ab)) | exact (congrArg (fun q=>q.1.log) (mI ab ab ab ab ab)).symm | exact (congrArg (fun q=>q.2) (mH ab ab ab)) | exact (congrArg (fun q=>q.2) (mH ab ab ab)).symm | exact (congrArg (fun q=>q.1.floor) (mH ab ab ab)) | exact (congrArg (fun q=>q.1.floor) (mH ab ab ab)).symm | exact (congrArg (fun q=>q.1.term) (mH ab ab ab)) | exact (congrArg (fun q=>q.1.term) (mH ab ab ab)).symm | exact (congrArg (fun q=>q.1.vote) (mH ab ab ab)) | exact (congrArg (fun q=>q.1.vote) (mH ab ab ab)).symm | exact (congrArg (fun q=>q.1.log) (mH ab ab ab)) | exact (congrArg (fun q=>q.1.log) (mH ab ab ab)).symm | exact (congrArg (fun q=>q.2) (mC ab ab ab)) | exact (congrArg (fun q=>q.2) (mC ab ab ab)).symm | exact (congrArg (fun q=>q.1.floor) (mC ab ab ab)) | exact (congrArg (fun q=>q.1.floor) (mC ab ab ab)).symm | exact (congrArg (fun q=>q.1.term) (mC ab ab ab)) | exact (congrArg (fun q=>q.1.term) (mC ab ab ab)).symm | exact (congrArg (fun q=>q.1.vote) (mC ab ab ab)) | exact (congrArg (fun q=>q.1.vote) (mC ab ab ab)).symm | exact (congrArg (fun q=>q.1.log) (mC ab ab ab)) | exact (congrArg (fun q=>q.1.log) (mC ab ab ab)).symm | exact (congrArg (fun q=>q.2) (ml ab ab ab ab)) | exact (congrArg (fun q=>q.2) (ml ab ab ab ab)).symm | exact (congrArg (fun q=>q.1.floor) (ml ab ab ab ab)) | exact (congrArg (fun q=>q.1.floor) (ml ab ab ab ab)).symm | exact (congrArg (fun q=>q.1.term) (ml ab ab ab ab)) | exact (congrArg (fun q=>q.1.term) (ml ab ab ab ab)).symm | exact (congrArg (fun q=>q.1.vote) (ml ab ab ab ab)) | exact (congrArg (fun q=>q.1.vote) (ml ab ab ab ab)).symm | exact (congrArg (fun q=>q.1.log) (ml ab ab ab ab)) | exact (congrArg (fun q=>q.1.log) (ml ab ab ab ab)).symm | exact (congrArg (fun q=>q.2) (mR ab ab ab)) | exact (congrArg (fun q=>q.2) (mR ab ab ab)).symm | exact (congrArg (fun q=>q.1.floor) (mR ab ab ab)) | exact (congrArg (fun q=>q.1.floor) (mR ab ab ab)).symm | exact (congrArg (fun q=>q.1.term) (mR ab ab ab)) | exact (congrArg (fun q=>q.1.term) (mR ab ab ab)).symm | exact (congrArg (fun q=>q.1.vote) (mR ab ab ab)) | exact (congrArg (fun q=>q.1.vote) (mR ab ab ab)).symm | exact (congrArg (fun q=>q.1.log) (mR ab ab ab)) | exact (congrArg (fun q=>q.1.log) (mR ab ab ab)).symm | exact (congrArg (fun q=>q.2) (mT ab ab ab)) | exact (congrArg (fun q=>q.2) (mT ab ab ab)).symm | exact (congrArg (fun q=>q.1.floor) (mT ab ab ab)) | exact (congrArg (fun q=>q.1.floor) (mT ab ab ab)).symm | exact (congrArg (fun q=>q.1.term) (mT ab ab ab)) | exact (congrArg (fun q=>q.1.term) (mT ab ab ab)).symm | exact (congrArg (fun q=>q.1.vote) (mT ab ab ab)) | exact (congrArg (fun q=>q.1.vote) (mT ab ab ab)).symm | exact (congrArg (fun q=>q.1.log) (mT ab ab ab)) | exact (congrArg (fun q=>q.1.log) (mT ab ab ab)).symm | exact (congrArg (fun q=>q.2) (mu ab ab ab)) | exact (congrArg (fun q=>q.2) (mu ab ab ab)).symm | exact (congrArg (fun q=>q.1.floor) (mu ab ab ab)) | exact (congrArg (fun q=>q.1.floor) (mu ab ab ab)).symm | exact (congrArg (fun q=>q.1.term) (mu ab ab ab)) | exact (congrArg (fun q=>q.1.term) (mu ab ab ab)).symm | exact (congrArg (fun q=>q.1.vote) (mu ab ab ab)) | exact (congrArg (fun q=>q.1.vote) (mu ab ab ab)).symm | exact (congrArg (fun q=>q.1.log) (mu ab ab ab)) | exact (congrArg (fun q=>q.1.log) (mu ab ab ab)).symm | exact (congrArg (fun q=>q.2) (mV ab ab ab)) | exact (congrArg (fun q=>q.2) (mV ab ab ab)).symm | exact (congrArg (fun q=>q.1.floor) (mV ab ab ab)) | exact (congrArg (fun q=>q.1.floor) (mV ab ab ab)).symm | exact (congrArg (fun q=>q.1.term) (mV ab ab ab)) | exact (congrArg (fun q=>q.1.term) (mV ab ab ab)).symm | exact (congrArg (fun q=>q.1.vote) (mV ab ab ab)) | exact (congrArg (fun q=>q.1.vote) (mV ab ab ab)).symm | exact (congrArg (fun q=>q.1.log) (mV ab ab ab)) | exact (congrArg (fun q=>q.1.log) (mV ab ab ab)).symm | exact (congrArg (fun q=>q.2) (mJ ab ab ab)) | exact (congrArg (fun q=>q.2) (mJ ab ab ab)).symm | exact (congrArg (fun q=>q.1.floor) (mJ ab ab ab)) | exact (congrArg (fun q=>q.1.floor) (mJ ab ab ab)).symm | exact (congrArg (fun q=>q.1.term) (mJ ab ab ab)) | exact (congrArg (fun q=>q.1.term) (mJ ab ab ab)).symm | exact (congrArg (fun q=>q.1.vote) (mJ ab ab ab)) | exact (congrArg (fun q=>q.1.vote) (mJ ab ab ab)).symm | exact (congrArg (fun q=>q.1.log) (mJ ab ab ab)) | exact (congrArg (fun q=>q.1.log) (mJ ab ab ab)).symm | (have:=aep ab; first | omega | exact bw aI aI) | (simp only [List.length_cons,List.length_nil]; omega))
def Yx:bH:=(aP 65 zw Xv)
def Cz:aw Tryz.prog (ak tyT) Yx:=(ag Pm Bn)
structure ZPv where
 i:Nat
 s:Stable
 u:Int
structure RK (b:List UInt8) (q:ZPv):Prop where
 rj:RJ b q.s q.u
 d:(aF b).drop q.i=aF (b.drop q.u.toNat)
section
variable {b x:List UInt8} {q:ZPv}
def vQ (h:(az b).2.2=0):(az b).2.1=((az b).1.length:Int)+6:=by
 have a:=ow b;revert h;unfold az;split
 ·intro h; cases h
 split
 ·intro h; cases h
 split
 ·intro h; cases h
 split
 ·intro _;dsimp only;rw [List.length_take,List.length_drop]; omega
 intro h; cases h
def aks:RK b ⟨0,sta0,0⟩:=⟨agW,rfl⟩
def Vf (h:RK b q) (a:(aF b)[q.i]? = some x):(az (b.drop q.u.toNat)).2.2=0/\x=(az (b.drop q.u.toNat)).1/\(aF b).drop (q.i+1)=aF ((b.drop q.u.toNat).drop (az (b.drop q.u.toNat)).2.1.toNat):=by
 obtain ⟨f,a⟩:=aad.1 a;have e:=ag2 f;rw [h.d,a] at e;by_cases c:(az (b.drop q.u.toNat)).2.2=0
 ·rw [(LV c).1] at e;injection e with g j;exact ⟨c,g.symm,j.symm⟩
 rw [(ME c).1] at e; cases e
def vi (h:RK b q) (c:(aF b)[q.i]? = some x) (d:¬(aC x).2=0):replayF b=(q.s,q.u):=by
 obtain ⟨a,rfl,_⟩:=Vf h c; exact uk h.rj a d
def uV (h:RK b q) (c:(aF b)[q.i]? = some x) (d:(aC x).2=0) (e:¬(aG q.s (aC x).1).2=0):replayF b=(q.s,q.u):=by
 obtain ⟨a,rfl,_⟩:=Vf h c; exact sf h.rj a d e
def acw (a:(aF b)[k]? = some x):x=(aF b).getD k []:=by rw [List.getD_eq_getElem?_getD,a]; rfl
def Vr {s:Stable} (a:(aF b)[k]? = some x):aG s (aC x).1=aG s (aC ((aF b).getD k [])).1:=by rw [<- acw a]
def aht (f:(aG q.s (aC x).1).2=0) (g:(aC x).2=0) (d:(aF b)[q.i]? = some x) (h:RK b q):RK b ⟨q.i+1,(aG q.s (aC ((aF b).getD q.i [])).1).1,q.u+(((aF b).getD q.i []).length:Int)+6⟩:=by
 rw [<- acw d];obtain ⟨a,rfl,c⟩:=Vf h d;have e:q.u+(((az (b.drop q.u.toNat)).1.length:Nat):Int)+6=q.u+(az (b.drop q.u.toNat)).2.1:=by rw [vQ a]; omega
 have j:=db a;have o:=h.rj.le;rw [e];refine ⟨aec h.rj a g f,?_⟩;show (aF b).drop (q.i+1)=_;rw [c,ahb,show q.u.toNat+(az (b.drop q.u.toNat)).2.1.toNat=(q.u+(az (b.drop q.u.toNat)).2.1).toNat by omega]
def uS (h:RK b q) (c:((aF b).length:Int)<=(q.i:Int)):replayF b=(q.s,q.u):=by
 refine tG h.rj fun a=>?_;have e:=h.d;rw [ag8 aI,(LV a).1] at e; cases e
def ae8 (h:RK b q) (c:(aF b)[q.i]? = some x) (f:b.length<=1000000):I64 (q.u+(x.length:Int))/\I64 (q.u+(x.length:Int)+6):=by
 obtain ⟨a,rfl,_⟩:=Vf h c;have e:=vQ a;have d:=db a;have g:=h.rj.le;rw [List.length_drop] at d;exact ⟨bw aI aI,bw aI aI⟩
end
def Iv (b:List UInt8):List (Nat × LI):=[(5,{ σ:=ZPv,F:=fun q=>([(2,one (.ptr 0 0)),(4,one (.ptr 1 0)),(5,one (.fz (.lst .u8) (aF b))),(7,one (.int q.u)),(8,one (.int q.i))],[.box 64 (cellsOf (.nm .stable) (sta0)),.box 64 (cellsOf (.nm .stable) (q.s))]),J:=fun q=>q.i<=(aF b).length/\RK b q,μ:=fun q=>(aF b).length - q.i })]
def sN:Kn:=aO (ae (kC (cL .u8)) al) av fun (b,_) _=>⟨[b.length<=1000000],[.agg (cellsOf (.nm .stable) ((replayF b).1)),.c (.int (((replayF b).2)))],none,false⟩
theorem ED:CK 21 sN:=ah fun (b,_) _ p=>by
 have v:=cg p;refine ao Cz (Iv b) Tryz.func21 (?_:(fun f=>(fun h=>(fun a=>b.length*1<=140737488355328->b.length<=1000000/\((aF b).length*24<=140737488355328->I64 (aN b)->∃ c,(aF b=aF b/\a=c.u/\a=(↑c.i:Int)/\a=sta0.floor/\a=sta0.term/\a=sta0.vote/\sta0.log=[]/\a=c.s.floor/\a=c.s.term/\a=c.s.vote/\c.s.log=[])/\(c.i<=f/\RK b c)/\∀ (s:ZPv),(fun d=>(fun j=>s.i<=f/\RK b s->(d<h->a<=d/\d<h/\∀ (x:List (den Sh.u8)),(fun g=>(aF b)[s.i]? = some x->x.length*1<=140737488355328->de (aC x).fst (I64 (aC x).snd->(¬(aC x).snd=a->j)/\((aC x).snd=a->s.s.log.length<=1000000/\bS g.fst (I64 g.snd->(¬g.snd=a->j)/\(g.snd=a->a<=d/\d<h/\∀ (x:List (den Sh.u8)),(fun o=>(aF b)[s.i]? = some x->x.length*1<=140737488355328->I64 o/\I64 (o+6)/\I64 (d+1)/\∃ e,(aF b=aF b/\o+6=e.u/\d+1=(↑e.i:Int)/\aD sta0 sta0 (dJ g.fst e.s))/\(e.i<=f/\RK b e)/\f - e.i<f - s.i) (s.u+(↑x.length:Int))))))) (aG s.s (aC x).fst))/\(h<=d->j)) (aD s.s (replayF b).fst (s.u=(replayF b).snd))) (↑s.i:Int))) (0:Int)) (↑(aF b).length:Int)) (aF b).length);iterate 3 ((all_goals (repeat' with_reducible first|apply a_|refine aY ?_|intro)); (all_goals try (first | exact bq | exact rfl | exact aks | exact (congrArg (fun q=>q.2) (vi ab ab ab)) | exact (congrArg (fun q=>q.2) (vi ab ab ab)).symm | exact (congrArg (fun q=>q.1.floor) (vi ab ab ab)) | exact (congrArg (fun q=>q.1.floor) (vi ab ab ab)).symm | exact (congrArg (fun q=>q.1.term) (vi ab ab ab)) | exact (congrArg (fun q=>q.1.term) (vi ab ab ab)).symm | exact (congrArg (fun q=>q.1.vote) (vi ab ab ab)) | exact (congrArg (fun q=>q.1.vote) (vi ab ab ab)).symm | exact (congrArg (fun q=>q.1.log) (vi ab ab ab)) | exact (congrArg (fun q=>q.1.log) (vi ab ab ab)).symm | exact (congrArg (fun q=>q.2) (uV ab ab ab ab)) | exact (congrArg (fun q=>q.2) (uV ab ab ab ab)).symm | exact (congrArg (fun q=>q.1.floor) (uV ab ab ab ab)) | exact (congrArg (fun q=>q.1.floor) (uV ab ab ab ab)).symm | exact (congrArg (fun q=>q.1.term) (uV ab ab ab ab)) | exact (congrArg (fun q=>q.1.term) (uV ab ab ab ab)).symm | exact (congrArg (fun q=>q.1.vote) (uV ab ab ab ab)) | exact (congrArg (fun q=>q.1.vote) (uV ab ab ab ab)).symm | exact (congrArg (fun q=>q.1.log) (uV ab ab ab ab)) | exact (congrArg (fun q=>q.1.log) (uV ab ab ab ab)).symm | exact (congrArg (fun q=>q.2) (uS ab ab)) | exact (congrArg (fun q=>q.2) (uS ab ab)).symm | exact (congrArg (fun q=>q.1.floor) (uS ab ab)) | exact (congrArg (fun q=>q.1.floor) (uS ab ab)).symm | exact (congrArg (fun q=>q.1.term) (uS ab ab)) | exact (congrArg (fun q=>q.1.term) (uS ab ab)).symm | exact (congrArg (fun q=>q.1.vote) (uS ab ab)) | exact (congrArg (fun q=>q.1.vote) (uS ab ab)).symm | exact (congrArg (fun q=>q.1.log) (uS ab ab)) | exact (congrArg (fun q=>q.1.log) (uS ab ab)).symm | exact (ae8 ab ab ab).1 | exact (ae8 ab ab ab).2 | exact (aeL (RK.rj ab) ab) | (dsimp only; with_reducible exact (congrArg (fun q:Stable × Int=>q.1.floor) (Vr ab))) | (dsimp only; with_reducible exact (congrArg (fun q:Stable × Int=>q.1.term) (Vr ab))) | (dsimp only; with_reducible exact (congrArg (fun q:Stable × Int=>q.1.vote) (Vr ab))) | (dsimp only; with_reducible exact (congrArg (fun q:Stable × Int=>q.1.log) (Vr ab))) | (with_reducible exact aht (q:=‹ZPv›) ab ab ab ab) | exact (congrArg (fun y:List UInt8=>‹ZPv›.u+(y.length:Int)+6) (acw ab)) | (dsimp only; omega))); all_goals try first | refine ⟨ZPv.mk (‹ZPv›.i+1) (aG ‹ZPv›.s (aC ((aF b).getD ‹ZPv›.i [])).1).1 (‹ZPv›.u+(((aF b).getD ‹ZPv›.i []).length:Int)+6),?_⟩ | refine ⟨ZPv.mk 0 sta0 0,?_⟩)
def aeV:bH:=(aP 21 sN Yx)
def Si:aw Tryz.prog (ak tyT) aeV:=(ag ED Cz)
abbrev tmL (L:List Record):Int:=(stepsF sta0 L).1.term
abbrev voL (L:List Record):Int:=(stepsF sta0 L).1.vote
structure SMono (s t:Stable):Prop where
 term:s.term<=t.term
 floor:s.floor<=t.floor
 vote:s.term=t.term->s.vote≠0->t.vote=s.vote
def SMono.refl (s:Stable):SMono s s:=⟨agO _,agO _,fun _ _=>rfl⟩
variable {t:Stable}
def SMono.trans {s u:Stable} (h:SMono s t) (k:SMono t u):SMono s u:=⟨aiY h.term k.term,aiY h.floor k.floor,fun e a=>by
 have d:=h.term;have f:=k.term;have c:=h.vote aI a;rw [k.vote aI (by rw [c]; exact a),c]⟩
theorem D_ {s:Stable} (h:cV s r=some t):SMono s t:=by
 unfold cV du eB df eX at h;split at h
 ·split at h <;> cases h;exact ⟨agO _,by dsimp only; omega,fun _ _=>rfl⟩
 split at h
 ·split at h <;> cases h;rename_i a;rw [not_or] at a;exact ⟨by dsimp only; omega,agO _,fun e c=>by
   by_cases q:s.vote=r.b
   ·grind
   exact absurd ⟨⟨e.symm,c⟩,q⟩ a.2⟩
 split at h
 ·split at h <;> cases h;exact ⟨agO _,agO _,fun _ _=>rfl⟩
 split at h <;> cases h;exact ⟨agO _,agO _,fun _ _=>rfl⟩
theorem sx:∀ {l:List Record} {s:Stable},SMono s (stepsF s l).1
 | [],s=>.refl s
 | r :: l,s=>by
  rw [stepsF];split
  ·rename_i h;exact (D_ (jj h).2).trans sx
  exact .refl s
def Mp (h:L <+: L') (a:(stepsF sta0 L).2=0):SMono (stepsF sta0 L).1 (stepsF sta0 L').1:=by
 obtain ⟨l,rfl⟩:=h;rw [dC a]; exact sx
def voteOf (x:Letter):Int:=if x.kind=1 then 2 else x.to+1
structure Gave (L:List Record) (x:Letter):Prop where
 kind:x.kind=1\/(x.kind=2/\x.ok=true)
 to:x.to≠1/\0<=x.to
 at_:x.term<=tmL L/\(x.term=tmL L->voL L=voteOf x)
def Gave.vote (h:x.to≠1/\0<=x.to):voteOf x≠0:=by
 unfold voteOf;split <;> omega
theorem Gave.mono (h:Gave L x) (a:L <+: L') (c:(stepsF sta0 L).2=0):Gave L' x:=by
 have m:=Mp a c;refine ⟨h.kind,h.to,aiY h.at_.1 m.term,fun e=>?_⟩;have f:=h.at_.1;have g:tmL L<=tmL L':=m.term;have d:=h.at_.2 aI;have i:=m.vote (show tmL L=tmL L' by omega) (by show voL L≠0; rw [d]; exact Gave.vote h.to);grind
section
variable {n m:Nd} {o:NOp} {t v f:Int}
def aiX (h:(true=false\/false=true)\/¬(0:Int)=0):false=true:=by simp at h
end
structure ZDv where
 i:Nat
 n:Nd
structure DI (n:Nd) (i:Nat):Prop where
 ex:∃ L,NInv n L/\n.d.b.length<=1400*i
abbrev kE (n:Nd) (k:Int):Nd:=⟨n.c,n.d.ck k,n.rp,n.vs,n.bn,n.nx,n.mt⟩
abbrev Mi (n:Nd) (k:Int):Nd:=(bj (kE n k)).n
abbrev dnR (n:Nd) (k:Int) (x:Letter):Nd:=(bd (Mi n k) x).n
abbrev x_ (n:Nd) (k:Int) (x:Letter) (c:Command):Nd:=(cE (dnR n k x) c).n
abbrev SJ:Record:=⟨1,3,0,[]⟩
def UX:(encL [SJ]).length<=300:=by have:=oI (l:=[SJ]) am; simp only [List.length_cons,List.length_nil] at this; omega
theorem floor_le:∀ {l:List Record} {s:Stable},s.floor<=3->(stepsF s l).1.floor<=3
 | [],_,h=>h
 | r :: l,s,h=>by
  rw [stepsF];split
  ·rename_i a;obtain ⟨c,d⟩:=jj a;refine floor_le ?_;generalize (aG s r).1=t at *;revert d;unfold cV du eB df eX;have f:=iP.1 c;split
   ·split
    ·intro e; cases e
    intro e; cases e; dsimp only; omega
   repeat' split
   all_goals (intro e; cases e)
   all_goals exact h
  exact h
section
variable {n m:Nd} {o:NOp} {i:Nat} {k:Int} {x:Letter} {c:Command}
theorem DI.ok (h:DI n i):NdOK n:=by obtain ⟨L,h,_⟩:=h.ex; exact h.ok
def ajR:DI (hP 1 5) 0:=⟨⟨[],HJ am,ahj _⟩⟩
def akK (h:DI n i):DI (dt n o).1 (i+1):=by
 obtain ⟨L,a,d⟩:=h.ex;obtain ⟨L',k⟩:=aaU (o:=o) a;have:=k.len;exact ⟨⟨L',k.inv,aI⟩⟩
def abA:bj (kE n k)=⟨kE n k,[],30⟩:=if_pos rfl
def abf:bd (Mi n k) x=⟨kE n k,[],30⟩:=by rw [Mi,abA]; exact if_pos rfl
def VM:cE (dnR n k x) c=⟨kE n k,0,0,30⟩:=by rw [dnR,abf]; exact if_pos rfl
def Hy (h:DI n i):NdOK (kE n k)/\NdOK (Mi n k)/\NdOK (dnR n k x)/\NdOK (x_ n k x c):=by
 obtain ⟨L,a,_⟩:=h.ex;have q:NdOK (kE n k):=(yQ (k:=k) a).inv.ok;rw [x_,VM,dnR,abf,Mi,abA]; exact ⟨q,q,q,q⟩
def QY (h:DI n i):NdOK (kE n k):=(Hy (x:=cr) (c:=⟨0,0,0,0,0,0,[],⟨[]⟩⟩) h).1
def Ix (h:DI n i):NdOK (Mi n k):=(Hy (x:=cr) (c:=⟨0,0,0,0,0,0,[],⟨[]⟩⟩) h).2.1
def WB (h:DI n i):NdOK (dnR n k x):=(Hy (c:=⟨0,0,0,0,0,0,[],⟨[]⟩⟩) h).2.2.1
def Kk (h:DI n i):NdOK (x_ n k x c):=(Hy h).2.2.2
def aaI (h:NdOK m):m.c.applied<=(m.c.st.log.length:Int)/\m.c.applied<=(m.rp.length:Int)/\m.d.b.length<=1000000:=by
 have:=h.com;have:=h.rp;have:=h.d.2.2;omega
def afk {l:List NOp}:(l.take 40).length<=40:=by rw [List.length_take]; omega
def ajh (a:((((((¬((bj (kE n k)).l.length:Int)+((bD (Mi n k)).1.length:Int)+((bd (Mi n k) x).l.length:Int)=0\/¬(bj (kE n k)).e=30)\/¬(bD (Mi n k)).2=30)\/¬(bd (Mi n k) x).e=30)\/¬(cE (dnR n k x) c).e=30)\/¬(iz (x_ n k x c) 1 1).2=30)\/(fC (x_ n k x c)).up=true)\/¬Str.mk (x_ n k x c).d.b=Str.mk (kE n k).d.b):false=true:=by
 have f:bD (kE n k)=([],30):=if_pos rfl;have g:iz (kE n k) 1 1=(⟨0,0⟩,30):=if_pos rfl;have h:fC (kE n k)=⟨false,0,0,0,0,0,0,0,[],⟨0,0,0,0,[],[],[]⟩⟩:=if_pos rfl;rw [x_,VM,abf,Mi,abA,f,g,h] at a;simp at a
def W_ {d:Dsk} {s:Stable} (a:d.down=false) (e:d.doomed=false) (p:d.b.length<=60000) (g:s.floor<3):(saveF d s [SJ]).1.down=false/\(saveF d s [SJ]).2=({ s with floor:=3 },0):=by
 have u:=UX;have h:d.je (encL [SJ])=0:=by
  unfold Dsk.je; rw [if_neg (by rw [a]; decide),if_neg aI]
 have f:d.app (encL [SJ])=⟨d.b++encL [SJ],d.synced,d.down,d.doomed,d.keep⟩:=by
  unfold Dsk.app; rw [if_neg];rw [a]; rintro (q | q)
  ·cases q
  omega
 have j:(d.app (encL [SJ])).eV=0:=by
  rw [f]; unfold Dsk.eV; rw [if_neg];dsimp only; rw [a,e]; decide
 rw [saveF,if_neg am,Az am am g];dsimp only;rw [if_neg (adv.2 rfl),if_neg aa,if_neg (adv.2 h),if_neg (adv.2 j)];refine ⟨?_,rfl⟩;rw [f]; unfold Dsk.sync; dsimp only; rw [a,e]; simp
def XC (h:DI n i) (y:i<=40):(aL (kE n k) 3).e=0/\fC (aL (kE n k) 3).n=⟨true,0,3,3,(replayF (kE n k).d.b).1.term,(replayF (kE n k).d.b).1.vote,0,0,(replayF (kE n k).d.b).1.log,fr0⟩:=by
 obtain ⟨L,v,z⟩:=h.ex;have q:=yQ (k:=k) v;have j:NInv (kE n k) L:=q.inv;have A:(kE n k).d.b.length<=n.d.b.length+1400:=q.len;have B:(replayF (kE n k).d.b).1.floor<=3:=by rw [j.d.rep]; exact floor_le am
 have p:bW 3 (max (replayF (kE n k).d.b).1.floor 1)=0:=by
  unfold bW; rw [if_pos aI,if_neg aI]
 have a:((kE n k).fr 3).d=⟨(kE n k).d.b.take (replayF (kE n k).d.b).2.toNat,(replayF (kE n k).d.b).2,false,false,0⟩:=(rV (n:=kE n k) rfl j.ok.d).2.2;by_cases u:(replayF (kE n k).d.b).1.floor<3
 ·have f:=W_ (d:=((kE n k).fr 3).d) (s:=((kE n k).fr 3).c.st) (by rw [a]) (by rw [a]) (by rw [a]; show ((kE n k).d.b.take _).length<=60000; rw [List.length_take]; omega) u;have w:((kE n k).fr 3).aR [SJ]=0:=by show (saveF _ _ _).2.2=0; rw [f.2]
  rw [Xk rfl p u w];refine ⟨rfl,?_⟩;have g:(((kE n k).fr 3).save [SJ]).c.st={ (replayF (kE n k).d.b).1 with floor:=3 }:=by show (saveF _ _ _).2.1=_; rw [f.2]
  rw [EG f.1,g]
 rw [Vy rfl p aI];refine ⟨rfl,?_⟩;rw [EG (by rw [a])];have:(replayF (kE n k).d.b).1.floor=3:=by omega
 rw [<- this]
def aiH (a:¬(aL (x_ n k x c) 3).e=0) (h:DI n i) (d:i<=40):false=true:=by
 rw [x_,VM] at a; exact absurd (XC h d).1 a
def aiT (h:DI n i) (a:i<=40):((fC (aL (x_ n k x c) 3).n).up && decide ((fC (aL (x_ n k x c) 3).n).role=0) && decide ((fC (aL (x_ n k x c) 3).n).term=(replayF (n.d.ck k).b).1.term) && decide ((fC (aL (x_ n k x c) 3).n).vote=(replayF (n.d.ck k).b).1.vote) && decide ((fC (aL (x_ n k x c) 3).n).floor=3) && decide ((fC (aL (x_ n k x c) 3).n).commit=0) && decide ((fC (aL (x_ n k x c) 3).n).applied=0) && decide ((fC (aL (x_ n k x c) 3).n).log=(replayF (n.d.ck k).b).1.log) && decide ((fC (aL (x_ n k x c) 3).n).state=State.mk 1 1 0 0 [] [] []))=true:=by
 rw [x_,VM,(XC h a).2]; simp
end
def ab0 (l:List NOp) (a:Int) (o:NOp):List (Nat × LI):=[(7,{ σ:=ZDv,F:=fun q=>([(0,one (.fz (.nm .nop) (l.take 40))),(1,one (.int a)),(5,one (.ptr 0 0)),(8,one (.ptr 1 0)),(10,one (.int q.i))],([.box 60 (cellsOf (.nm .nop) (o))]++ndO 1 ((q.n)))),J:=fun q=>q.i<=(l.take 40).length/\DI q.n q.i,μ:=fun q=>(l.take 40).length - q.i })]
set_option maxHeartbeats 4000000 in
set_option maxRecDepth 8000 in
theorem Vq (l:List NOp) (j:Int) (o:NOp):Sat Tryz.prog (ak tyT) 8 [.c (.fz (.nm .nop) (l)),.c (.int (j)),.agg (cellsOf (.nm .nop) o)] [] ⟨[],[.c (.bool (.atom ((true))))],none,false⟩:=by
 refine ao Si (ab0 l j o) Tryz.func8 (?_:(fun (I:Prop)=>(fun (S:Int)=>(fun (U:Nat)=>(fun (y:Nat)=>(fun (Z:Int)=>(fun (J:List (den (Sh.nm NT.nop)))=>(fun (H:Int)=>(fun (F:Int)=>(fun (p:Int)=>(fun (m:Command)=>(fun (r:Letter)=>l.length*(200:Nat)<=y->I64 j->MZ o ((Z<=S/\S<=S/\p<=F/\F<S)/\(I64 p->((true=false\/I)\/¬p=p->I)/\((true=true/\false=false)/\p=p->J.length*(200:Nat)<=y->∃ (V:ZDv),(J=J/\j=j/\p=(↑V.i:Int)/\Zf o o (bZ (hP F S) V.n))/\(V.i<=U/\DI V.n V.i)/\∀ (s:ZDv),(fun (B:Int)=>(fun (f:Nd)=>(fun (q:Dsk)=>(fun (K:Stable)=>(fun (W:Nd)=>(fun (C:NdR)=>(fun (u:Nd)=>(fun (X:Int)=>(fun (z:NdR)=>(fun (P:Int)=>(fun (k:Prop)=>(fun (D:NdC3)=>(fun (g:Nd)=>(fun (N:NdR)=>(fun (G:Reply × Int)=>(fun (Y:Prop)=>(fun (v:Site)=>(fun (A:State)=>(fun (Q:Prop)=>(fun (w:Site)=>s.i<=U/\DI f s.i->(B<(↑J.length:Int)->p<=B/\B<(↑J.length:Int)/\∀ (x:NOp),(fun (O:ToldN)=>J[s.i]? = some x->MZ x (NdOK f/\(O.l.length*(96:Nat)<=y->I64 O.a->I64 O.b->I64 O.e->I64 (B+F)/\∃ (T:ZDv),(J=J/\j=j/\B+F=(↑T.i:Int)/\Zf o o (bZ (dt f x).fst T.n))/\(T.i<=U/\DI T.n T.i)/\U - T.i<U - s.i))) (dt f x).snd)/\((↑J.length:Int)<=B->(p<=f.d.synced/\f.d.synced<=(↑f.d.b.length:Int)/\f.d.b.length<=(65536:Nat))/\(p<=q.synced/\q.synced<=(↑q.b.length:Int)/\q.b.length<=(65536:Nat))/\(q.b.length*(1:Nat)<=y->NdOK W/\(C.l.length*(96:Nat)<=y->I64 C.e->u.c.many<=S/\(u.c.role=p\/(↑u.nx.length:Int)=u.c.many)/\((bD u).fst.length*(96:Nat)<=y->I64 (bD u).snd->aT r (NdOK u/\(z.l.length*(96:Nat)<=y->I64 z.e->bB m (NdOK z.n/\(I64 D.a->I64 D.b->I64 D.e->g.c.applied<=(↑g.c.st.log.length:Int)/\g.c.applied<=(↑g.rp.length:Int)/\(I64 G.fst.code->I64 G.fst.n->I64 G.snd->I64 X/\I64 P/\(Q->p<=g.d.synced/\g.d.synced<=(↑g.d.b.length:Int)/\g.d.b.length<=(65536:Nat))/\((Y->I64 v.role/\I64 v.binary/\I64 v.floor/\I64 v.term/\I64 v.vote/\I64 v.commit/\I64 v.applied/\v.log.length*(32:Nat)<=y/\I64 A.version/\I64 A.next/\I64 A.keep/\I64 A.quota/\A.sess.length*(32:Nat)<=y/\A.opens.length*(16:Nat)<=y/\A.snaps.length*(64:Nat)<=y)->(Q->g.d.b.length*(1:Nat)<=y)->(((((((¬P=p\/¬C.e=H)\/¬(bD u).snd=H)\/¬z.e=H)\/¬D.e=H)\/¬G.snd=H)\/v.up=true)\/¬Str.mk g.d.b=Str.mk q.b->I)/\(Q/\Str.mk g.d.b=Str.mk q.b->q.b.length<=(1000000:Nat)/\bS K (I64 (replayF q.b).snd->NdOK g/\(I64 N.e->(¬N.e=p->I)/\(N.e=p->ac6 w (I64 F->I64 F->I64 p->I64 p->(0:Nat)*(32:Nat)<=y->(0:Nat)*(16:Nat)<=y->(0:Nat)*(64:Nat)<=y->(w.up && decide (w.role=p) && decide (w.term=K.term) && decide (w.vote=K.vote) && decide (w.floor=Z) && decide (w.commit=p) && decide (w.applied=p) && decide (w.log=K.log) && decide (w.state=State.mk F F p p [] [] []))=true)))))))))))))))) (fC N.n)) (Y/\v.up=false)) v.state) (fC g)) ((k/\D.e=H)/\G.snd=H)) (iz g F F)) (aL g Z)) D.n) (cE z.n m)) (((P=p/\C.e=H)/\(bD u).snd=H)/\z.e=H)) (X+(↑z.l.length:Int))) (bd u r)) ((↑C.l.length:Int)+(↑(bD u).fst.length:Int))) C.n) (bj W)) (Nd.mk f.c q f.rp f.vs f.bn f.nx f.mt)) (replayF q.b).fst) (f.d.ck j)) s.n) (↑s.i:Int))))) (uM o.x)) (kL o.c)) (0:Int)) (1:Int)) (30:Int)) (List.take (40:Nat) l)) (3:Int)) (140737488355328:Nat)) (List.take (40:Nat) l).length) (5:Int)) (false=true))
 (repeat' with_reducible first|apply a_|refine aY ?_|intro)
 all_goals try ( refine ⟨ZDv.mk 0 (hP 1 5),?_⟩; (repeat' with_reducible first|apply a_|refine aY ?_|intro))
 all_goals try ( refine ⟨ZDv.mk (‹ZDv›.i+1) (dt ‹ZDv›.n ‹NOp›).1,?_⟩; (repeat' with_reducible first|apply a_|refine aY ?_|intro))
 all_goals (first | exact bq | exact rfl | exact ajR | exact (aiX ab) | (dsimp only; omega) | exact (DI.ok ab) | exact (QY ab) | exact (Ix ab) | exact (WB ab) | exact (Kk ab) | exact (akK ab) | exact (DI.ok ab).d.1 | exact (DI.ok ab).d.2.1 | exact (DI.ok ab).d.2.2 | exact (QY ab).d.1 | exact (QY ab).d.2.1 | exact (QY ab).d.2.2 | exact (Ix ab).d.1 | exact (Ix ab).d.2.1 | exact (Ix ab).d.2.2 | exact (WB ab).d.1 | exact (WB ab).d.2.1 | exact (WB ab).d.2.2 | exact (Kk ab).d.1 | exact (Kk ab).d.2.1 | exact (Kk ab).d.2.2 | exact (Ix ab).many.2 | exact ((Ix ab).len.imp_right fun h=>h.2.2.1) | exact (aaI (Kk ab)).1 | exact (aaI (Kk ab)).2.1 | exact (aaI (QY ab)).2.2 | (exact ajh ab) | (have:=afk (l:=l); exact aiH ab ab aI) | (have:=afk (l:=l); exact aiT ab aI))
end Go.Proofs.YticbaadnibdbkaaGreat
namespace Go.Proofs.YticbaadnibdbkaaGreat
open Go.RowKit Go.ChangeShapes Go.WideShapes
def Ef (shp:TypeId->Option Sh) (w:World):Cx:=cx ⟨shp,w.heap.size,fun _=>False⟩ [] w
def ac3 {shp:TypeId->Option Sh} {w:World} {s:Sh} {b:Nat} (h:b<w.heap.size):(Ef shp w).at s b:=⟨⟨h,fun ⟨_,_,h,_⟩=>by simp at h,fun h=>h⟩,.inl h⟩
def Tr (P:Program) (shp:TypeId->Option Sh) (t:TypeId) (s:Sh):Prop:=
 ∀ (H:Type) (b:TypeId × Value->H) (w:World) (a:Nat) (c:List Value) (x:DataW H × List MemPlace),
  DataW.trod b P w 0 (fun _=>true) true a t c=some x->(∀ n ∈ x.1.weights P t,n<=140737488351232)->(∀ q ∈ x.2,q.block<w.heap.size)->∃ y:den s,Pds (Ef shp w) (cellsOf s y) c
def aa2:List Sh->List AV->Prop
 | [],a=>a=[]
 | s :: r,a=>∃ (y:den s) (l:List AV),a=cellsOf s y++l/\aa2 r l
def szL:List Sh->Nat
 | []=>0
 | s :: r=>s.size+szL r
def lP (P:Program) (shp:TypeId->Option Sh) (d:List Go.Field) (o:Nat) (h:List Sh):Prop:=
 ∀ (H:Type) (e:TypeId × Value->H) (w:World) (a:Nat) (g:List Value) (c:List (DataW H × List MemPlace)),
  g.length=o+szL h->c.length=d.length->(∀ (i:Nat) (f:Go.Field),d[i]? = some f->DataW.trod e P w 0 (fun _=>true) true a f.type ((g.drop f.offset).take (P.cellsOf f.type))=c[i]?) ->
  (∀ n ∈ DataW.weightsEach P (d.map (·.type)) (c.map (·.1)),n<=140737488351232)->(∀ q ∈ c.flatMap (·.2),q.block<w.heap.size)->∃ b,aa2 h b/\Pds (Ef shp w) b (g.drop o)
section
variable {P:Program} {shp:TypeId->Option Sh} {t:TypeId}
theorem Tr.int (h:P.underlying t=some (.int .i64)):Tr P shp t .int:=fun _ b w a e x c _ _=>by
 obtain ⟨n,rfl,_,d⟩:=DataW.trod_int h c;have f:IntKind.i64.min = -9223372036854775808:=rfl;have g:IntKind.i64.max=9223372036854775807:=rfl;simp only [Lit.wf,Bool.and_eq_true,decide_eq_true_eq] at d;exact ⟨n,.cons (.int ⟨aI,aI⟩) .nil⟩
def Tr.bool (h:P.underlying t=some .bool):Tr P shp t .bool:=fun _ b w a d x c _ _=>by
 obtain ⟨n,rfl,_⟩:=DataW.trod_bool h c;exact ⟨n,.cons (Pd.bool (e:=.atom n)) .nil⟩
def Tr.u8 (h:P.underlying t=some (.int .u8)):Tr P shp t .u8:=fun _ c w a f x d _ _=>by
 obtain ⟨n,rfl,_,e⟩:=DataW.trod_int h d;have g:IntKind.u8.min=0:=rfl;have i:IntKind.u8.max=255:=rfl;simp only [Lit.wf,Bool.and_eq_true,decide_eq_true_eq] at e;refine ⟨UInt8.ofNat n.toNat,?_⟩;have:n=((UInt8.ofNat n.toNat).toNat:Int):=by
  rw [UInt8.toNat_ofNat']; omega
 generalize j:UInt8.ofNat n.toNat=b at this;subst this;exact .cons .u8 .nil
def Tr.u64 (h:P.underlying t=some (.int .u64)):Tr P shp t .u64:=fun _ c w a f x d _ _=>by
 obtain ⟨n,rfl,_,e⟩:=DataW.trod_int h d;have g:IntKind.u64.min=0:=rfl;have i:IntKind.u64.max=18446744073709551615:=rfl;simp only [Lit.wf,Bool.and_eq_true,decide_eq_true_eq] at e;refine ⟨⟨n.toNat⟩,?_⟩;have:n=(n.toNat:Int):=by omega
 generalize j:n.toNat=b at this;subst this;exact .cons (.u64 (by show b<_; omega)) .nil
def Tr.str (h:P.underlying t=some .string):Tr P shp t .str:=fun _ d w b g x a f _=>by
 obtain ⟨s,rfl,a,_⟩:=DataW.trod_string h a;refine ⟨⟨s.data.toList⟩,?_⟩;have:=f s.data.toList.length (by rw [a]; simp [DataW.weights]);have e:=Pd.str (c:=Ef shp w) (s:=⟨s.data.toList⟩) (by show s.data.toList.length<=_; omega);have i:(⟨s.data.toList⟩:Str).val = .string s:=by simp [Str.val]
 exact .cons e .nil
theorem lF {H:Type} {e:TypeId}:∀ {a:List (DataW H)} {d:DataW H},d ∈ a->∀ n ∈ d.weights P e,n ∈ DataW.weightsAll P e a
 | d0 :: a,d,h,n,b=>by
  rw [DataW.weightsAll,abx];rcases ado.1 h with rfl | h
  ·grind
  exact .inr (lF h n b)
def IJ {s:Sh} {a:List (den s)} {y:den s}:(a++[y]).flatMap (cellsOf s)=a.flatMap (cellsOf s)++cellsOf s y:=by simp
theorem Tr.list {e:TypeId} {s:Sh} (u:P.underlying t=some (.slice e)) (O:P.cellsOf e=s.size) (hB:P.bytesOf e=s.bytes) (Q:Tr P shp e s):Tr P shp t (.lst s):=fun H z w K A x S L i=>by
 have T:=size_pos s;rcases DataW.trod_slice u S with ⟨rfl,_⟩ | ⟨a,len,U,c,f,n,rfl,rfl,rfl,_,hl,V,W,l,B,_⟩
 ·exact ⟨([]:List (den s)),.cons (Pd.yA (.em (a:=none) (b:=true) rfl)) .nil⟩
 rw [O] at *;have step:∀ m,m<=len->∃ (d:List Value) (h:List (den s)),Pds (Ef shp w) (h.flatMap (cellsOf s)) d/\h.length=m/\CellsAt w a d:=by
  intro m;induction m with
  | zero=>intro _; exact ⟨[],[],.nil,rfl,CellsAt.nil⟩
  | succ m X=>
   intro hm;obtain ⟨d,h,p,r,C⟩:=X aI;have N:=l m aI;have D:c[m]? = some (c[m]' aI):=List.getElem?_eq_getElem aI;rw [D,Option.bind_eq_some_iff] at N;obtain ⟨A,F,G⟩:=N;have g:c[m]' aI ∈ c:=aha _;obtain ⟨y,Y⟩:=Q H z w n A _ G
    (fun k Z=>L k (by
     simp only [DataW.weights,u,ado,abx];exact .inr (.inl (lF (alo g) k Z))))
    (fun q hq=>i q (by
     simp only [abx,List.mem_flatMap];exact .inr ⟨_,.inl g,hq⟩))
   obtain ⟨_,hcl,I⟩:=World.cells?_some F;refine ⟨d++A,h++[y],by rw [IJ]; exact p.append Y,by simp [r],fun j v o=>?_⟩;have J:d.length=m*s.size:=by rw [<- p.length,bX,r]
   by_cases hj:j<m*s.size
   ·rw [List.getElem?_append_left aI] at o;exact C j v o
   rw [ag_ aI,J] at o;have hj2:=uL o;have:=I (j - m*s.size) aI;rw [o,add_add,show m*s.size+(j - m*s.size)=j by omega] at this;exact this
 obtain ⟨d,h,p,r,C⟩:=step len (Nat.le_refl _);have hwt:(c.length+f.length)*P.bytesOf e<=140737488351232:=L _ (by simp [DataW.weights,u]);refine ⟨h,.cons ?_ .nil⟩;subst r;refine .fz aI V ?_ p ?_
 ·grind
 by_cases h0:h.length=0
 ·grind
 right;refine ⟨a,rfl,ac3 ?_,C⟩;have:MemPlace.cell a.block (a.off+0) ∈ MemPlace.row a ((c.length+f.length)*s.size):=MemPlace.mem_row.2 ⟨0,Nat.mul_pos aI T,rfl⟩;exact i _ (ady _ this)
def lP.nil {o:Nat}:lP P shp [] o []:=fun H b w a d e c _ _ _ _=>⟨[],rfl,by rw [List.drop_eq_nil_of_le (by simp only [szL] at c; omega)]; exact .nil⟩
def lP.cons {f:Go.Field} {p:List Go.Field} {o:Nat} {s:Sh} {d:List Sh} (h:Tr P shp f.type s) (B:f.offset=o) (C:P.cellsOf f.type=s.size) (D:lP P shp p (o+s.size) d):lP P shp (f :: p) o (s :: d):=fun H b w a r e F g u v c=>by
 match e,g with
 | x :: e,g=>
  have G:r.length=o+(s.size+szL d):=F;have A:=u 0 f rfl;rw [B,C] at A;obtain ⟨y,I⟩:=h H b w a _ x A (fun n j=>v n (by simp [DataW.weightsEach,j])) (fun q k=>c q (by simp [k]));obtain ⟨z,l,m⟩:=D H b w a r e aI (by simpa using g) (fun i J K=>by simpa using u (i+1) J (by simpa using K)) (fun n j=>v n (by simp only [ahd,DataW.weightsEach,abx]; exact .inr j)) (fun q k=>c q (by simp only [List.flatMap_cons,abx]; exact .inr k));refine ⟨cellsOf s y++z,⟨y,z,rfl,l⟩,?_⟩;have:=I.append m;rwa [<- ahb,List.take_append_drop] at this
theorem Tr.struct {s:Sh} {ss:List Sh} {e:Array Go.Field} (g:P.underlying t=some (.struct e)) (v:P.cellsOf t=szL ss) (z:∀ a,aa2 ss a->∃ y:den s,a=cellsOf s y) (h:lP P shp e.toList 0 ss):Tr P shp t s:=fun H b w j l x m o c=>by
 obtain ⟨p,n,_,rfl,A,d,q⟩:=DataW.trod_struct g m;obtain ⟨a,B,C⟩:=h H b w n l p aI (by simpa using d) (fun i f r=>q i f (by simpa using r)) (fun k u=>o k (by simpa [DataW.weights,g] using u)) c;grind
end
section
variable {H:Type} {enc:TypeId × Value->H} {P:Program} {shp:TypeId->Option Sh}
structure Ar (enc:TypeId × Value->H) (P:Program) (W:World) (t:TypeId) (v:Value):Prop where
 form:∃ base,Value.okWide P W .any base t v
 read:∃ d p fuel,DataW.trod enc P W 0 (fun _=>true) true fuel t v.cells.toList=some (d,p)/\(∀ n ∈ d.weights P t,n<=140737488351232)/\(∀ q ∈ p,q.block<W.heap.size)
variable {W:World} {t:TypeId} {v:Value}
def Ar.rp {s:Sh} (h:Ar enc P W t v) (b:Tr P shp t s):∃ y:den s,Pds (Ef shp W) (cellsOf s y) v.cells.toList:=by
 obtain ⟨d,p,a,c,e,f⟩:=h.read;exact b H enc W a _ _ c e f
def DM {a:AV} {u:Value} (h:Pds (Ef shp W) [a] [u]):dk (Ef shp W) [] (.c a) u:=by cases h with | cons b _=>exact lj b
theorem Ar.int (h:Ar enc P W t v) (a:P.underlying t=some (.int .i64)):∃ y:Int,dk (Ef shp W) [] (.c (.int y)) v:=by
 obtain ⟨base,b⟩:=h.form;obtain ⟨n,rfl⟩:=okWide_int a b;obtain ⟨y,d⟩:=h.rp (shp:=shp) (Tr.int a);exact ⟨y,DM (by simpa [Value.cells,cellsOf] using d)⟩
def Ar.u8 (h:Ar enc P W t v) (a:P.underlying t=some (.int .u8)):∃ y:UInt8,dk (Ef shp W) [] (.c (.u8 y)) v:=by
 obtain ⟨base,b⟩:=h.form;obtain ⟨n,rfl⟩:=okWide_int a b;obtain ⟨y,d⟩:=h.rp (shp:=shp) (Tr.u8 a);exact ⟨y,DM (by simpa [Value.cells,cellsOf] using d)⟩
def Ar.bool (h:Ar enc P W t v) (a:P.underlying t=some .bool):∃ y:Bool,dk (Ef shp W) [] (.c (.bool (.atom y))) v:=by
 obtain ⟨base,d⟩:=h.form;obtain ⟨b,rfl⟩:=okWide_bool a d;exact ⟨b,Pd.bool (e:=.atom b)⟩
def Ar.list {e:TypeId} {s:Sh} (h:Ar enc P W t v) (b:P.underlying t=some (.slice e)) (d:Tr P shp t (.lst s)):∃ f:List (den s),dk (Ef shp W) [] (.c (.fz s f)) v:=by
 obtain ⟨base,g⟩:=h.form;obtain ⟨a,len,i,rfl⟩:=okWide_slice b g;obtain ⟨y,j⟩:=h.rp d;exact ⟨y,DM (by simpa [Value.cells,cellsOf] using j)⟩
def Ar.struct {s:Sh} {a:Array Go.Field} (h:Ar enc P W t v) (b:P.underlying t=some (.struct a)) (c:Tr P shp t s):∃ x:den s,dk (Ef shp W) [] (.agg (cellsOf s x)) v:=by
 obtain ⟨base,d⟩:=h.form;obtain ⟨e,rfl,_⟩:=okWide_struct b d;obtain ⟨y,f⟩:=h.rp c;exact ⟨y,e.toList,aa,gq (by simpa [Value.cells] using f)⟩
def UC {f:Nat} {args:List TV1} {pre:List Prop} {e:BE} {b:List Value} (h:Sat P shp f args [] ⟨pre,[.c (.bool e)],none,false⟩) (a:e.val=true) (g:All2 (dk (Ef shp W) []) args b) (d:TabsOK (Ef shp W):=by refine ⟨?_,?_⟩ <;> intro e a <;> first | simp [UU] at a | simp [agR] at a):jS P f b.toArray W fun r i=>r = .bool true/\Kp [] W i:=by
 refine (h.2 ⟨shp,W.heap.size,fun _=>False⟩ [] W b rfl ⟨.nil,fun _ _ _ _ _ h=>by simp at h,fun _ _ _ h=>by simp at h,fun _ h=>h.elim,Nat.le_refl _,d⟩ g).mono fun v o ⟨p,j,k,l⟩=>⟨?_,k⟩;cases l with | cons m n=>
 cases n;cases m;rw [j,a]; rfl
variable {args:Array Value} {ds:List (DataW H)}
def TW {base:Nat} {a:List TypeId} {p:List MemPlace} (k:∀ (j:Nat) t v,a[j]? = some t->args[j]? = some v->Value.okWide P W .any base t v)
  (h:DataW.TrodAll enc P W 0 (fun _=>true) true a args.toList ds p) (i:∀ n ∈ DataW.weightsEach P a ds,n<=140737488351232) (c:∀ q ∈ p,q.block<W.heap.size) :
  args.size=a.length/\∀ (j:Nat) t v,a[j]? = some t->args[j]? = some v->Ar enc P W t v:=by
 have l:∀ (a:List TypeId) (e:List Value) (ds:List (DataW H)) (p:List MemPlace),DataW.TrodAll enc P W 0 (fun _=>true) true a e ds p->(∀ n ∈ DataW.weightsEach P a ds,n<=140737488351232)->(∀ q ∈ p,q.block<W.heap.size) ->
   e.length=a.length/\∀ (j:Nat) t v,a[j]? = some t->e[j]? = some v->∃ d p b,DataW.trod enc P W 0 (fun _=>true) true b t v.cells.toList=some (d,p)/\(∀ n ∈ d.weights P t,n<=140737488351232)/\(∀ q ∈ p,q.block<W.heap.size):=by
  intro a;induction a with
  | nil=>intro e ds p h _ _; obtain ⟨rfl,_,_⟩:=trodAll_nil h; exact ⟨rfl,fun j t v h=>by simp at h⟩
  | cons t a u=>
   intro e ds p h i c;obtain ⟨v,e,d,ds,w,x,rfl,rfl,rfl,y,z⟩:=trodAll_cons h;obtain ⟨m,o⟩:=u e ds x z (fun n r=>i n (by rw [DataW.weightsEach,abx]; exact .inr r)) (fun q s=>c q (adA _ s));refine ⟨by simp [m],fun j A B f g=>?_⟩;cases j with
   | zero=>
    simp at f g;subst f; subst g;obtain ⟨b,k⟩:=y;exact ⟨d,w,b,k,fun n r=>i n (by rw [DataW.weightsEach,abx]; exact .inl r),fun q s=>c q (ady _ s)⟩
   | succ j=>exact o j A B (by simpa using f) (by simpa using g)
 obtain ⟨m,o⟩:=l a args.toList ds p h i c;exact ⟨by simpa using m,fun j t v f g=>⟨⟨base,k j t v f g⟩,o j t v f (by simpa using g)⟩⟩
variable {W':World}
def JF (j:laidOutB P=true) (k:Below W.heap.size W W'):∀ (a:List TypeId) (c:List Value) (ds:List (DataW H)) (p:List MemPlace),a.all (fun t=>P.readableRec t && decide (t<P.types.size))=true->DataW.TrodAll enc P W 0 (fun _=>true) true a c ds p->(∀ q ∈ p,q.block<W.heap.size) ->
  DataW.TrodAll enc P W' 0 (fun b=>decide (b<W.heap.size)) true a c ds p:=by
 intro a;induction a with
 | nil=>intro c ds p _ h _; obtain ⟨rfl,rfl,rfl⟩:=trodAll_nil h; rfl
 | cons t a l=>
  intro c ds p f h e;obtain ⟨v,c,d,ds,m,i,rfl,rfl,rfl,n,o⟩:=trodAll_cons h;rw [aik,Bool.and_eq_true,Bool.and_eq_true,decide_eq_true_eq] at f;exact ⟨m,i,Below.trod j f.1.1 f.1.2 n k fun q g=>e q (ady _ g),l c ds i f.2 o fun q g=>e q (adA _ g),rfl⟩
variable {tb:TypeId} {fn:Func}
def OI {s:ChangeSpec} {p:List MemPlace} (e:laidOutB P=true)
  (a:fn.params.toList.all (fun t=>P.readableRec t && decide (t<P.types.size))=true) (f:fn.resultTypes = #[tb]) (g:P.underlying tb=some .bool) (i:s.vars=[])
  (b:s.fn H (ds++[])={ results:=[.lit (.bool true)],args:=ds }) (j:DataW.Whole enc P fn.params.toList s.vars false W args.toList ds [] p) (k:DataW.TrodAll enc P W 0 (fun _=>true) true fn.params.toList args.toList ds p) (c:∀ q ∈ p,q.block<W.heap.size) (d:Kp [] W W') :
  s.post enc P fn false true false false W args (.bool true) W':=by
 refine ⟨ds,[],p,[],p,[],j,?_,?_,?_,d.below.frame _,fun h=>by cases h⟩
 ·rw [b,f];exact trodAll_mk1 ⟨1,by simp [DataW.trod,Value.cells,g]⟩
 ·rw [b];exact JF e d.below _ _ _ _ a k c
 rw [b,i]; rfl
theorem PD {C:Checked} {os:Os} {f:FuncId} {s:ChangeSpec} {b:List PathCond} (I:ownKnob C.prog.godebug=none) (c:os.Started) (l:C.prog.inits.idxOf? f=none) (J:C.prog.funcs[f]? = some fn)
  (g:∃ (w:World) (a:Tape) (i:Input),w.os=os/\(w.forCall a i).Shaped C.prog/\i.vars=[]/\Input.okWide C.prog (w.forCall a i) .any w.heap.size f i /\
   s.pre6 enc C.prog fn b false (w.forCall a i).memory i.args/\({}:Assume).holds C.prog (lone (Frame.enter C.prog f i.args .normal) [] (w.forCall a i)))
  (Y:laidOutB C.prog=true) (u:fn.params.toList.all (fun t=>C.prog.readableRec t && decide (t<C.prog.types.size))=true) (Z:fn.resultTypes = #[tb]) (P:C.prog.underlying tb=some .bool) (F:s.vars=[])
  (hs:∀ ds:List (DataW H),ds.length=fn.params.size->s.fn H ds={ results:=[.lit (.bool true)],args:=ds })
  (K:∀ (W:World) (args:Array Value),args.size=fn.params.toList.length->(∀ (j:Nat) t v,fn.params.toList[j]? = some t->args[j]? = some v->Ar enc C.prog W t v)->jS C.prog f args W fun r W'=>r = .bool true/\Kp [] W W') :
  ReturnsInHanded {} C os f .any (s.pre6 enc C.prog fn b false) (s.post enc C.prog fn false true false false):=by
 refine returnsInHanded_of_change_sized I c l J g ?_;intro W base args ds gs G y U _ z _;have m:=U;obtain ⟨p,q,L,V,rfl,_,_⟩:=U;rw [F] at V;obtain ⟨rfl,rfl⟩:=trodVars_none V;simp only [adD] at m z;have A:∀ x ∈ p,x.block<W.heap.size:=fun x hx=>by simpa using m.lt x hx
 have N:∀ n ∈ DataW.weightsEach C.prog fn.params.toList ds,n<=140737488351232:=fun n hn=>by
  have B:n ∈ DataW.weightsEach C.prog (fn.params.toList++s.plain.varTypes C.prog) ds:=by
   have:∀ (k O:List TypeId) (ds:List (DataW H)),n ∈ DataW.weightsEach C.prog k ds->n ∈ DataW.weightsEach C.prog (k++O) ds:=by
    intro k;induction k with
    | nil=>intro O ds h; simp [DataW.weightsEach] at h
    | cons t k X=>
     intro O ds h;cases ds with
     | nil=>simp [DataW.weightsEach] at h
     | cons d ds=>
      rw [DataW.weightsEach,abx] at h;rw [List.cons_append,DataW.weightsEach,abx];grind
   grind
  exact adw (ahW.1 z n B)
 obtain ⟨o,Q⟩:=TW (fun j t v ht F=>y j t v (by simpa using ht) F) L N A;have S:ds.length=fn.params.size:=by
  have:∀ (k:List TypeId) (D:List Value) (ds:List (DataW H)) (p:List MemPlace),DataW.TrodAll enc C.prog W 0 (fun _=>true) true k D ds p->ds.length=k.length:=by
   intro k;induction k with
   | nil=>intro D ds p h; obtain ⟨_,rfl,_⟩:=trodAll_nil h; rfl
   | cons t k X=>intro D ds p h; obtain ⟨v,D,d,ds,p1,p2,rfl,rfl,rfl,_,h2⟩:=trodAll_cons h; simp [X D ds p2 h2]
  simpa using this _ _ _ _ L
 refine alJ (K W args o Q) fun e W' ⟨v,he,T,hk⟩=>⟨v,he,?_⟩;subst T;exact OI Y u Z P F (by rw [adD]; exact hs ds S) m L A hk
end
end Go.Proofs.YticbaadnibdbkaaGreat
namespace Go.Proofs.YticbaadnibdbkaaGreat
open Go.RowKit Go.ChangeShapes Go.WideShapes
def NL:ownKnob Tryz.prog.godebug=none:=bP
def R_:laidOutB Tryz.prog=true:=bP
def ahn:Tr Tryz.prog (ak tyT) 35 (.nm .command):=Tr.struct (ss:=[.int,.int,.int,.int,.int,.int,(.lst .int),.str]) Tryz.underlying35 bP (fun a h=>by
 obtain ⟨y0,j,rfl,b,k,rfl,c,l,rfl,d,m,rfl,e,n,rfl,f,o,rfl,g,p,rfl,i,q,rfl,rfl⟩:=h;exact ⟨⟨y0,b,c,d,e,f,g,i⟩,rfl⟩) (lP.cons (Tr.int Tryz.underlying3) rfl bP (lP.cons (Tr.int Tryz.underlying3) rfl bP (lP.cons (Tr.int Tryz.underlying3) rfl bP (lP.cons (Tr.int Tryz.underlying3) rfl bP (lP.cons (Tr.int Tryz.underlying3) rfl bP (lP.cons (Tr.int Tryz.underlying3) rfl bP (lP.cons (Tr.list Tryz.underlying33 bP bP (Tr.int Tryz.underlying3)) rfl bP (lP.cons (Tr.str Tryz.underlying9) rfl bP (lP.nil)))))))))
def ahF:Tr Tryz.prog (ak tyT) 52 (.nm .entry):=Tr.struct (ss:=[.int,(.lst .u8)]) Tryz.underlying52 bP (fun a h=>by
 obtain ⟨y0,c,rfl,b,d,rfl,rfl⟩:=h;exact ⟨⟨y0,b⟩,rfl⟩) (lP.cons (Tr.int Tryz.underlying3) rfl bP (lP.cons (Tr.list Tryz.underlying50 bP bP (Tr.u8 Tryz.underlying5)) rfl bP (lP.nil)))
def ala:Tr Tryz.prog (ak tyT) 40 (.nm .letter):=Tr.struct (ss:=[.int,.int,.int,.int,.int,.int,.int,.int,.bool,(.lst (.nm .entry))]) Tryz.underlying40 bP (fun a h=>by
 obtain ⟨y0,l,rfl,b,m,rfl,c,n,rfl,d,o,rfl,e,p,rfl,f,q,rfl,g,r,rfl,i,s,rfl,j,t,rfl,k,u,rfl,rfl⟩:=h;exact ⟨⟨y0,b,c,d,e,f,g,i,j,k⟩,rfl⟩) (lP.cons (Tr.int Tryz.underlying3) rfl bP (lP.cons (Tr.int Tryz.underlying3) rfl bP (lP.cons (Tr.int Tryz.underlying3) rfl bP (lP.cons (Tr.int Tryz.underlying3) rfl bP (lP.cons (Tr.int Tryz.underlying3) rfl bP (lP.cons (Tr.int Tryz.underlying3) rfl bP (lP.cons (Tr.int Tryz.underlying3) rfl bP (lP.cons (Tr.int Tryz.underlying3) rfl bP (lP.cons (Tr.bool Tryz.underlying4) rfl bP (lP.cons (Tr.list Tryz.underlying38 bP bP (ahF)) rfl bP (lP.nil)))))))))))
def agS:Tr Tryz.prog (ak tyT) 60 (.nm .nop):=Tr.struct (ss:=[.u8,.int,(.nm .letter),(.nm .command)]) Tryz.underlying60 bP (fun a h=>by
 obtain ⟨y0,e,rfl,b,f,rfl,c,g,rfl,d,i,rfl,rfl⟩:=h;exact ⟨⟨y0,b,c,d⟩,rfl⟩) (lP.cons (Tr.u8 Tryz.underlying5) rfl bP (lP.cons (Tr.int Tryz.underlying3) rfl bP (lP.cons (ala) rfl bP (lP.cons (ahn) rfl bP (lP.nil)))))
set_option maxRecDepth 100000 in
def vp (os:Os) (a:os.Started) (H:Type) (enc:TypeId × Value->H) :
  ReturnsInHanded {} Tryz.checked os 8 .any (Rows.nodeDownSpec.pre6 enc Tryz.prog Tryz.f8 Rows.nodeDownRow.domain false) (Rows.nodeDownSpec.post enc Tryz.prog Tryz.f8 false true false false):=by
 refine PD (C:=Tryz.checked) NL a bP Tryz.func8 (ChangeSpec.witness6 (enc:=enc) (C:=Tryz.checked) false ⟨#[],#[.slice none 0 0,.int .i64 0,.agg #[.int .u8 0,.int .i64 0,.int .i64 0,.int .i64 0,.int .i64 0,.int .i64 0,.int .i64 0,.int .i64 0,.int .i64 0,.int .i64 0,.bool false,.slice none 0 0,.int .i64 0,.int .i64 0,.int .i64 0,.int .i64 0,.int .i64 0,.int .i64 0,.slice none 0 0,.string ⟨#[]⟩]],[]⟩ 8 bP bP bP bP) R_ bP bP Tryz.underlying4 rfl (fun c h=>?_) ?_
 ·match c,h with
  | [m,n,o],_=>rfl
 intro W args d b;obtain ⟨l⟩:=args;match l,d with
 | [p,q,r],_=>
  obtain ⟨e,f⟩:=Ar.list (shp:=ak tyT) (b 0 54 _ rfl rfl) Tryz.underlying54 (Tr.list Tryz.underlying54 bP bP (agS));obtain ⟨g,i⟩:=Ar.int (shp:=ak tyT) (b 1 3 _ rfl rfl) Tryz.underlying3;obtain ⟨j,k⟩:=Ar.struct (shp:=ak tyT) (b 2 60 _ rfl rfl) Tryz.underlying60 agS;exact UC (Vq e g j) rfl (.cons f (.cons i (.cons k .nil)))
set_option maxHeartbeats 40000000 in
def tJ:joinedFacts Tryz.checked.prog 8 Tryz.f8 Rows.nodeDownSpec Rows.nodeDownRow=true:=by
 unfold joinedFacts;repeat' with_reducible refine Bool.and_eq_true_iff.2 ⟨?_,?_⟩
 all_goals as_aux_lemma=>kernel_rfl
theorem nodeDown_holds:Rows.NodeDownSaid:=
 OpenClaim.holds_of_wide 8 Tryz.f8 rfl rfl rfl rfl rfl rfl rfl ⟨rfl,rfl,rfl,rfl,rfl⟩ rfl rfl rfl rfl rfl bP Tryz.func8 tJ
  (adw bP) (by unfold Func.isWrapper; first | (rw [if_pos (by decide +kernel)]; kernel_rfl) | (rw [if_neg (by decide +kernel)]; exact ⟨rfl,rfl⟩))
  (fun os a H b _=>vp os a H b)
