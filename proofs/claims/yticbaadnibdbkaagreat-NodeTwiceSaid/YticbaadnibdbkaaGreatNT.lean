/- The law: for every input it returns true, and each argument reads behind the call as it read before; and what leads there. Conditions: each lemma's own. -/
import Derived.ProofKit
import Derived.SizedLaws
import Derived.Test.YticbaadnibdbkaaGreatChecked
import Derived.Test.YticbaadnibdbkaaGreatRows
import Derived.Test.YticbaadnibdbkaaGreatNTM7
set_option linter.unusedVariables false
set_option linter.unusedSimpArgs false
set_option maxHeartbeats 2000000
set_option linter.defProp false
noncomputable section
namespace Go.Proofs.YticbaadnibdbkaaGreat
open Go.RowKit
theorem Sat.ahd {P:Program} {shp:TypeId->Option Sh} {f:Nat} {args m:List TV1} {n:Nd} {q C:AH} {pre:List Prop} (K:gT q [0,1,2] [0,1,2]=true) (L:oU (posOf · [0,1,2]) (lB q [0,1,2])=C) (u:∀ (c N:Cx) (x a:List RE) o,All2 (db c x) m o->All2 (db N a) m o) (h:Sat P shp f args (mC n) ⟨pre,m,some q,false⟩):Sat P shp f args (mC n) ⟨pre,m,some C,false⟩:=by
 refine ⟨h.1,fun G x w O Q y S=>(h.2 G x w O Q y S).mono ?_⟩;rintro v w' ⟨o,T,a,A,k,U,V,k5⟩;obtain ⟨D,m2⟩:=A.sub (σ:=[0,1,2]) (Z':=G.Z) rfl K A.z (fun _ h _=>h) (fun b p=>by
  obtain ⟨i,r,d,F⟩:=gE p;exact (A.bnd i r b d F).2.2)
 rw [L] at D;refine ⟨o,T,di a [0,1,2],D,⟨k.os,k.tape,k.output,k.size,fun b H p=>⟨fun h=>(k.old b H p).1 (gE h),(k.old b H p).2⟩⟩,fun i g h=>?_,u _ _ _ _ _ V,fun h=>by cases h⟩;have l:∀ (j:Nat) (t:TypeId) (s:Sh) (I:List (den s)),(mC n)[j]? = some (.row t s I)->i≠j:=fun j t s I W e=>by
  subst e;obtain ⟨r,J,d⟩:=y.at_ W;rw [h] at J; cases J;obtain ⟨_,_,d | ⟨_,_,_,_,d,_⟩⟩:=d
  ·grind
  cases d
 have X:i<8:=by
  have d:=(abp.1 h).1;have F:(mC n).length=8:=rfl;have Y:=y.obj.length;omega
 have Y:=l 3 _ _ _ rfl;have h4:=l 4 _ _ _ rfl;have h5:=l 5 _ _ _ rfl;have h6:=l 6 _ _ _ rfl;have h7:=l 7 _ _ _ rfl;have B:=U i g h;have:i=0\/i=1\/i=2:=by omega
 rcases this with rfl | rfl | rfl
 ·exact (nD (j:=0) (i:=0) rfl).trans (congrArg some (getD_some B))
 ·exact (nD (j:=1) (i:=1) rfl).trans (congrArg some (getD_some B))
 exact (nD (j:=2) (i:=2) rfl).trans (congrArg some (getD_some B))
def aa6 {e:Int} (c b:Cx) (f a:List RE) (d:List Value) (h:All2 (db c f) [.c (.int e)] d):All2 (db b a) [.c (.int e)] d:=by
 cases h with | cons g i=>?_
 cases i;cases g with | int j=>exact .cons (show Pd b (.int e) _ from .int j) .nil
def iF (me a:Int):Nd:=⟨⟨me,a,0,sta0,0,0,0,⟨0,0,0,0,[],[],[]⟩⟩,⟨[],0,true,false,0⟩,[],[],[],[],[]⟩
def Ut:(Dsk.mk [] 0 false false 0).cF 0=⟨[],0,true,false,0⟩:=by decide
def FQ:Kn:=aN (ae (kC cI) (ae (kC cI) aq)) ax fun (me,a,_) _=>⟨[3<=a/\a<=5/\0<=me/\me<a],[.c (.ptr 0 0),.c (.int ((0)))],some ([.box 103 (Yj 0 (((iF me a).c))++[.em true,.em true,.em true,.em true,.em true]),.box 147 ([.own 2,.int (((iF me a).d.synced)),.bool (.atom (((iF me a).d.down))),.bool (.atom (((iF me a).d.doomed))),.int (((iF me a).d.keep))]),.row 5 .u8 (((iF me a).d.b))]),true⟩
def FR:CK 12 FQ:=ah fun (me,a,_) _ i=>by
 have j:=cd i;refine dw sK [] Tryz.func12 (?_:(fun (e:Int)=>(fun (h:Dsk)=>(fun (g:Nd)=>(fun (f:NdC)=>I64 me->I64 a->(((a<(3:Int)\/(5:Int)<a)\/me<e)\/a<=me->False/\(1:Int)=e/\False/\False/\g.d.b=[])/\((((3:Int)<=a/\a<=(5:Int))/\e<=me)/\me<a->(e<=e/\e<=(↑(0:Nat):Int)/\(0:Nat)<=(65536:Nat))/\e=e/\me=f.me/\a=f.many/\e=f.bin/\e=f.st.floor/\e=f.st.term/\e=f.st.vote/\f.st.log=[]/\e=f.role/\e=f.commit/\e=f.applied/\e=f.s.version/\e=f.s.next/\e=f.s.keep/\e=f.s.quota/\f.s.sess=[]/\f.s.opens=[]/\f.s.snaps=[]/\h.synced=g.d.synced/\h.down=g.d.down/\h.doomed=g.d.doomed/\h.keep=g.d.keep/\h.b=g.d.b)) g.c) (iF me a)) ((Dsk.mk [] e false false e).cF e)) (0:Int));(repeat' with_reducible first|apply bh|refine bg ?_|intro)
 all_goals (first | exact br | exact rfl | (rw [Ut] <;> rfl) | (exfalso; omega))
def RX (me:Int) (a:Int) (f:3<=a/\a<=5/\0<=me/\me<a):Sat Tryz.prog (al tyT) 12 [.c (.int (me)),.c (.int (a))] [] ⟨[3<=a/\a<=5/\0<=me/\me<a],[.c (.ptr 0 0),.c (.int ((0)))],some ([.box 103 (Yj 0 (((iF me a).c))++[.em true,.em true,.em true,.em true,.em true]),.box 147 ([.own 2,.int (((iF me a).d.synced)),.bool (.atom (((iF me a).d.down))),.bool (.atom (((iF me a).d.doomed))),.int (((iF me a).d.keep))]),.row 5 .u8 (((iF me a).d.b))]),true⟩:=FR _ _ _ rfl (by intro p e; simp only [acb,aiV,or_false] at e; subst e; exact f)
def ZS (me:Int) (a:Int) (b:3<=a/\a<=5/\0<=me/\me<a):Sat Tryz.prog (al tyT) 12 [.c (.int (me)),.c (.int (a))] [] ⟨[3<=a/\a<=5/\0<=me/\me<a],[.c (.ptr 0 0),.c (.int ((0)))],some ((mC ((iF me a)))),true⟩:=Sat.Mu 0 22 3 .int bK rfl rfl (Sat.Mu 0 21 3 .int bK rfl rfl (Sat.Mu 0 20 3 .int bK rfl rfl (Sat.Mu 0 19 4 .bool bK rfl rfl (Sat.Mu 0 18 78 (.nm .reply) bK rfl rfl (RX me a b) rfl) rfl) rfl) rfl) rfl
def NZ:Kn:=aN (ae (kC cI) (ae (kC cI) aq)) ax fun (me,a,_) _=>⟨[3<=a/\a<=5/\0<=me/\me<a],[.c (.ptr 0 0),.c (.int ((0)))],some ((mC ((iF me a)))),true⟩
def Zg:CK 12 NZ:=ah fun (me,a,_) _ b=>ZS me a (cd b)
def yI:Kn:=aN (ae (kC (aY 0 0)) (ae (kC (cL (.nm .record))) aq)) (aE (dF 103 (lNd 0 (aA (cEm true) (aA (cEm true) (aA (cEm true) (aA (cEm true) (aA (cEm true) dy))))))) (aE (dF 147 (aA (fb 2) (aA cI (aA cB (aA cB (aA cI dy)))))) (aE (e_ 5 .u8) ax))) fun (_,l,_) ((a,_,_,_,_,_,_),(_,e,f,g,h,_),i,_)=>⟨[(Dsk.mk i e f g h).OK,a.st.log.length<=10000,l.length<=1000],[.c (.int (((Nd.mk a ⟨i,e,f,g,h⟩ [] [] [] [] []).aJ l)))],some ([.box 103 (Yj 0 ((((Nd.mk a ⟨i,e,f,g,h⟩ [] [] [] [] []).save l).c))++[.em true,.em true,.em true,.em true,.em true]),.box 147 ([.own 2,.int ((((Nd.mk a ⟨i,e,f,g,h⟩ [] [] [] [] []).save l).d.synced)),.bool (.atom ((((Nd.mk a ⟨i,e,f,g,h⟩ [] [] [] [] []).save l).d.down))),.bool (.atom ((((Nd.mk a ⟨i,e,f,g,h⟩ [] [] [] [] []).save l).d.doomed))),.int ((((Nd.mk a ⟨i,e,f,g,h⟩ [] [] [] [] []).save l).d.keep))]),.row 5 .u8 ((((Nd.mk a ⟨i,e,f,g,h⟩ [] [] [] [] []).save l).d.b))]),false⟩
def Lt:CK 47 yI:=ah fun (_,l,_) ((e,_,_,_,_,_,_),(_,h,m,n,o,_),i,_) j=>by
 have q:=cd j;have r:=cd (eY j);have t:=cd (eY (eY j));refine bt sK [] Tryz.func47 (?_:(fun k=>(fun f=>(fun g=>(fun a=>(fun p=>l.length*48<=140737488355328->((0<=h/\h<=(↑i.length:Int)/\i.length<=65536)/\e.st.log.length<=10000/\l.length<=1000)/\ck f.snd.fst (I64 f.snd.snd->(¬f.snd.snd=0->f.snd.snd=k.aJ l/\e.me=a.c.me/\e.many=a.c.many/\e.bin=a.c.bin/\aG e.st a.c.st p)/\(f.snd.snd=0->0=k.aJ l/\e.me=a.c.me/\e.many=a.c.many/\e.bin=a.c.bin/\aG f.snd.fst a.c.st p))) (e.role=a.c.role/\e.commit=a.c.commit/\e.applied=a.c.applied/\bE e.s a.c.s (g.synced=a.d.synced/\g.down=a.d.down/\g.doomed=a.d.doomed/\g.keep=a.d.keep/\g.b=a.d.b))) (k.save l)) f.fst) (saveF (Dsk.mk i h m n o) e.st l)) (Nd.mk e (Dsk.mk i h m n o) [] [] [] [] []));obtain ⟨u,v,w⟩:=id q;(repeat' with_reducible first|apply bh|refine bg ?_|intro)
 all_goals (first | exact br | exact rfl | exact (Eq.symm ab) | exact (congrArg Stable.floor (gy ab)).symm | exact (congrArg Stable.term (gy ab)).symm | exact (congrArg Stable.vote (gy ab)).symm | exact (congrArg Stable.log (gy ab)).symm)
def Wd:bM:=(aP 47 yI (aP 12 NZ (aP 12 FQ XH)))
def rS:aB Tryz.prog (al tyT) Wd:=(ag Lt (ag Zg (ag FR sK)))
variable {m:Nd}
theorem af1 (a:m.rp=[]) (b:m.vs=[]) (e:m.bn=[]) (f:m.nx=[]) (g:m.mt=[]):mC m=mC ⟨m.c,m.d,[],[],[],[],[]⟩:=by
 cases m;grind
def ah2 {p:Prop} {x:Bool} (h:x=true) (a:x=false):p:=by rw [h] at a; cases a
variable {b:List UInt8}
def ack:(replayF b).1.log.length<=10000:=by have:=mN b; omega
def acV {r:Record}:[r].length<=1000:=by simp
section
variable {n:Nd} {b:Int}
def aa2 (a:NdOK n) (h:n.d.down=true):((if n.d.down=true then n.d.up else n.d).cut (replayF n.d.b).2).OK:=(xM h a.d).1
def ZL (a:NdOK n):(if n.d.down=true then n.d.up else n.d).OK:=by
 split
 ·exact Wz a.d
 exact a.d
def afg {p:Prop} (a:NdOK n) (h:n.d.down=true) (c:¬ (if n.d.down=true then n.d.up else n.d).kV (replayF n.d.b).2=0):p:=absurd (xM h a.d).2.1 c
def ad6 {p:Prop} (h:n.d.down=true) (a:¬ (if n.d.down=true then (0:Int) else 31)=0):p:=absurd (if_pos h) a
def abg (a:NdOK n) (h:n.d.down=true):((n.fr b).save [⟨1,b,0,[]⟩]).d.OK:=ra (xM h a.d).1
theorem aeN {p:Prop} (h:n.d.down=false\/¬ b_ b (max (replayF n.d.b).1.floor 1)=0) (a:n.d.down=true) (c:b_ b (max (replayF n.d.b).1.floor 1)=0):p:=by grind
end
def uO:Kn:=aN (ae (kC (aY 0 0)) (ae (kC cI) aq)) sU fun (_,b,_) n=>⟨[NdOK n,n.d.down=true,b_ b (max (replayF n.d.b).1.floor 1)=0],[.c (.int (((aX n b).e)))],some ([.box 103 (Yj 0 (((aX n b).n.c))++[.em true,.em true,.em true,.em true,.em true]),.box 147 ([.own 2,.int (((aX n b).n.d.synced)),.bool (.atom (((aX n b).n.d.down))),.bool (.atom (((aX n b).n.d.doomed))),.int (((aX n b).n.d.keep))]),.row 5 .u8 (((aX n b).n.d.b)),.row 78 (.nm .reply) ((n.rp)),.row 4 .bool ((n.vs)),.row 3 .int ((n.bn)),.row 3 .int ((n.nx)),.row 3 .int ((n.mt))]),false⟩
def vZ:CK 13 uO:=ah fun (_,b,_) n Q=>by
 have o:=cd Q;have p:=cd (eY Q);have P:=cd (eY (eY Q));refine bt rS [] Tryz.func13 (?_:(fun (q:Bool)=>(fun (j:NdC)=>(fun (D:Int)=>(fun (B:Int)=>(fun (h:Int)=>(fun (w:Int)=>(fun (F:List (den (Sh.nm NT.record)))=>(fun (C:Stable × Int)=>(fun (x:Int)=>(fun (l:Int)=>(fun (T:NdC)=>(fun (K:Prop)=>(fun (S:Nd)=>(fun (f:Dsk)=>(fun (r:Bool)=>(fun (t:Int)=>(fun (a:NdC)=>(fun (G:Prop)=>(fun (H:Prop)=>(fun (I:Prop)=>(fun (y:Prop)=>(fun (J:Prop)=>(fun (z:Prop)=>(fun (L:Prop)=>(fun (k:Dsk)=>(fun (i:Dsk)=>(fun (N:Nd)=>(fun (A:Int)=>(fun (O:Prop)=>(fun (u:Nd)=>(fun (g:NdC)=>(fun (v:Dsk)=>I64 b->(q=false->(31:Int)=D/\L)/\(q=true->(h<=n.d.synced/\n.d.synced<=(↑n.d.b.length:Int)/\n.d.b.length<=(65536:Nat))/\n.d.b.length<=(1000000:Nat)/\ck C.fst (I64 l->I64 x->(¬x=h->x=D/\L)/\(x=h->I64 w->(¬w=h->w=D/\y/\z/\G/\aG j.st a.st (H/\I/\J/\bE j.s a.s (False/\False/\False/\False/\False/\k.synced=t/\k.down=f.down/\k.doomed=r/\k.keep=f.keep/\k.b=f.b/\K)))/\(w=h->(h<=k.synced/\k.synced<=(↑k.b.length:Int)/\k.b.length<=(65536:Nat))/\(I64 (k.kV l)->(¬k.kV l=h->k.kV l=D/\y/\z/\G/\aG j.st a.st (H/\I/\J/\bE j.s a.s (False/\False/\False/\False/\False/\O)))/\(k.kV l=h->I64 B->I64 B->I64 h->I64 h->(0:Nat)*(32:Nat)<=(140737488355328:Nat)->(0:Nat)*(16:Nat)<=(140737488355328:Nat)->(0:Nat)*(64:Nat)<=(140737488355328:Nat)->(C.fst.floor<b->(h<=i.synced/\i.synced<=(↑i.b.length:Int)/\i.b.length<=(65536:Nat))/\C.fst.log.length<=(10000:Nat)/\F.length<=(1000:Nat)/\(I64 A->(¬A=h->(h<=u.d.synced/\u.d.synced<=(↑u.d.b.length:Int)/\u.d.b.length<=(65536:Nat))/\A=D/\g.me=a.me/\g.many=a.many/\g.bin=a.bin/\aG g.st a.st (g.role=a.role/\g.commit=a.commit/\g.applied=a.applied/\bE g.s a.s (v.synced=t/\v.down=f.down/\v.doomed=r/\v.keep=f.keep/\v.b=f.b/\K)))/\(A=h->h=D/\g.me=a.me/\g.many=a.many/\g.bin=a.bin/\aG g.st a.st (g.role=a.role/\g.commit=a.commit/\g.applied=a.applied/\bE g.s a.s (u.d.synced=t/\u.d.down=f.down/\u.d.doomed=r/\u.d.keep=f.keep/\u.d.b=f.b/\K)))))/\(b<=C.fst.floor->h=D/\y/\z/\b=a.bin/\aG C.fst a.st (h=a.role/\h=a.commit/\h=a.applied/\bE (State.mk B B h h [] [] []) a.s O))))))))) (u.d.cF h)) u.c) (N.save F)) (i.synced=t/\i.down=f.down/\i.doomed=r/\i.keep=f.keep/\i.b=f.b/\K)) (N.aJ F)) (Nd.mk T i [] [] [] [] [])) (k.cut l)) (if q=true then n.d.up else n.d)) (y/\z/\G/\aG j.st a.st (H/\I/\J/\bE j.s a.s (False/\False/\False/\False/\False/\n.d.synced=t/\q=f.down/\n.d.doomed=r/\n.d.keep=f.keep/\n.d.b=f.b/\K)))) (j.many=a.many)) (j.applied=a.applied)) (j.me=a.me)) (j.commit=a.commit)) (j.role=a.role)) (j.bin=a.bin)) S.c) f.synced) f.doomed) S.d) (aX n b).n) (n.rp=n.rp/\n.vs=n.vs/\n.bn=n.bn/\n.nx=n.nx/\n.mt=n.mt)) (NdC.mk j.me j.many b C.fst h h h (State.mk B B h h [] [] []))) C.snd) (b_ b (max C.fst.floor B))) (replayF n.d.b)) [Record.mk B b h []]) (if q=true then h else (31:Int))) (0:Int)) (1:Int)) (aX n b).e) n.c) n.d.down)
 obtain ⟨U,V,W⟩:=id o.d;have X:=o.log;(repeat' with_reducible first|apply bh|refine bg ?_|intro)
 all_goals (first | exact br | exact (ah2 p ab) | exact (absurd P ab) | exact (afg o p ab) | exact (ad6 p ab) | exact ack | exact acV | exact (aa2 o p).1 | exact (aa2 o p).2.1 | exact (aa2 o p).2.2 | exact (ZL o).1 | exact (ZL o).2.1 | exact (ZL o).2.2 | exact (abg o p).1 | exact (abg o p).2.1 | exact (abg o p).2.2 | (rw [abx (n:=n) (b:=b) p P ab ab] <;> rfl) | (rw [Zz (n:=n) (b:=b) p P ab ab] <;> rfl) | (rw [ab2 (n:=n) (b:=b) p P ab] <;> rfl))
theorem IA (b:Int) (n:Nd) (f:NdOK n) (g:n.d.down=true) (h:b_ b (max (replayF n.d.b).1.floor 1)=0):Sat Tryz.prog (al tyT) 13 [.c (.ptr 0 0),.c (.int (b))] (mC n) ⟨[NdOK n,n.d.down=true,b_ b (max (replayF n.d.b).1.floor 1)=0],[.c (.int (((aX n b).e)))],some ([.box 103 (Yj 0 (((aX n b).n.c))++[.em true,.em true,.em true,.em true,.em true]),.box 147 ([.own 2,.int (((aX n b).n.d.synced)),.bool (.atom (((aX n b).n.d.down))),.bool (.atom (((aX n b).n.d.doomed))),.int (((aX n b).n.d.keep))]),.row 5 .u8 (((aX n b).n.d.b)),.row 78 (.nm .reply) ((n.rp)),.row 4 .bool ((n.vs)),.row 3 .int ((n.bn)),.row 3 .int ((n.nx)),.row 3 .int ((n.mt))]),false⟩:=vZ _ _ _ rfl (by intro p a; simp only [acb,aiV,or_false] at a; rcases a with rfl | rfl | rfl <;> assumption)
def vk:Kn:=aN (ae (kC (aY 0 0)) (ae (kC cI) aq)) sU fun (_,b,_) n=>⟨[NdOK n,n.d.down=false\/¬ b_ b (max (replayF n.d.b).1.floor 1)=0],[.c (.int (((aX n b).e)))],some ((mC ((aX n b).n))),false⟩
def vO:CK 13 vk:=ah fun (_,b,_) n A=>by
 have B:=cd A;have C:=cd (eY A);refine bt rS [] Tryz.func13 (?_:(fun (z:Bool)=>(fun (v:Int)=>(fun (t:Int)=>(fun (h:Int)=>(fun (q:Int)=>(fun (x:List (den (Sh.nm NT.record)))=>(fun (u:Stable × Int)=>(fun (j:Int)=>(fun (r:Int)=>(fun (p:Dsk)=>(fun (i:Dsk)=>(fun (k:Nd)=>(fun (g:Dsk)=>(fun (a:NdC)=>(fun (w:Prop)=>(fun (y:Nd)=>(fun (l:Nd)=>(fun (f:NdC)=>(fun (o:Dsk)=>I64 b->(z=false->(31:Int)=v/\bV n k)/\(z=true->(h<=n.d.synced/\n.d.synced<=(↑n.d.b.length:Int)/\n.d.b.length<=(65536:Nat))/\n.d.b.length<=(1000000:Nat)/\ck u.fst (I64 j->I64 r->(¬r=h->r=v/\bV n k)/\(r=h->I64 q->(¬q=h->q=v/\bV (Nd.mk n.c p n.rp n.vs n.bn n.nx n.mt) k)/\(q=h->(h<=p.synced/\p.synced<=(↑p.b.length:Int)/\p.b.length<=(65536:Nat))/\(I64 (p.kV j)->(¬p.kV j=h->p.kV j=v/\bV (Nd.mk n.c i n.rp n.vs n.bn n.nx n.mt) k)/\(p.kV j=h->I64 t->I64 t->I64 h->I64 h->(0:Nat)*(32:Nat)<=(140737488355328:Nat)->(0:Nat)*(16:Nat)<=(140737488355328:Nat)->(0:Nat)*(64:Nat)<=(140737488355328:Nat)->(u.fst.floor<b->(h<=i.synced/\i.synced<=(↑i.b.length:Int)/\i.b.length<=(65536:Nat))/\u.fst.log.length<=(10000:Nat)/\x.length<=(1000:Nat)/\(I64 (y.aJ x)->(¬y.aJ x=h->(h<=l.d.synced/\l.d.synced<=(↑l.d.b.length:Int)/\l.d.b.length<=(65536:Nat))/\y.aJ x=v/\f.me=a.me/\f.many=a.many/\f.bin=a.bin/\aG f.st a.st (f.role=a.role/\f.commit=a.commit/\f.applied=a.applied/\bE f.s a.s (False/\False/\False/\False/\False/\o.synced=g.synced/\o.down=g.down/\o.doomed=g.doomed/\o.keep=g.keep/\o.b=g.b/\w)))/\(y.aJ x=h->h=v/\f.me=a.me/\f.many=a.many/\f.bin=a.bin/\aG f.st a.st (f.role=a.role/\f.commit=a.commit/\f.applied=a.applied/\bE f.s a.s (False/\False/\False/\False/\False/\l.d.synced=g.synced/\l.d.down=g.down/\l.d.doomed=g.doomed/\l.d.keep=g.keep/\l.d.b=g.b/\w)))))/\(b<=u.fst.floor->h=v/\n.c.me=a.me/\n.c.many=a.many/\b=a.bin/\aG u.fst a.st (h=a.role/\h=a.commit/\h=a.applied/\bE (State.mk t t h h [] [] []) a.s (False/\False/\False/\False/\False/\i.synced=g.synced/\i.down=g.down/\i.doomed=g.doomed/\i.keep=g.keep/\i.b=g.b/\w)))))))))) (l.d.cF h)) l.c) (y.save x)) (Nd.mk (NdC.mk n.c.me n.c.many b u.fst h h h (State.mk t t h h [] [] [])) i [] [] [] [] [])) (n.rp=k.rp/\n.vs=k.vs/\n.bn=k.bn/\n.nx=k.nx/\n.mt=k.mt)) k.c) k.d) (aX n b).n) (p.cut j)) (if z=true then n.d.up else n.d)) (b_ b (max u.fst.floor t))) u.snd) (replayF n.d.b)) [Record.mk t b h []]) (if z=true then h else (31:Int))) (0:Int)) (1:Int)) (aX n b).e) n.d.down);obtain ⟨D,F,G⟩:=id B.d;have H:=B.log;(repeat' with_reducible first|apply bh|refine bg ?_|intro)
 all_goals (first | exact br | exact (aeN C ab ab) | (rw [aef (n:=n) (b:=b) ab] <;> rfl) | (rw [afp (n:=n) (b:=b) ab ab] <;> rfl))
theorem vM (b:Int) (n:Nd) (f:NdOK n) (g:n.d.down=false\/¬ b_ b (max (replayF n.d.b).1.floor 1)=0):Sat Tryz.prog (al tyT) 13 [.c (.ptr 0 0),.c (.int (b))] (mC n) ⟨[NdOK n,n.d.down=false\/¬ b_ b (max (replayF n.d.b).1.floor 1)=0],[.c (.int (((aX n b).e)))],some ((mC ((aX n b).n))),false⟩:=vO _ _ _ rfl (by intro p a; simp only [acb,aiV,or_false] at a; rcases a with rfl | rfl <;> assumption)
def Qf (b:Int) (n:Nd) (a:NdOK n):Sat Tryz.prog (al tyT) 13 [.c (.ptr 0 0),.c (.int (b))] (mC n) ⟨[NdOK n],[.c (.int (((aX n b).e)))],some ((mC ((aX n b).n))),false⟩:=by
 by_cases f:n.d.down=true
 ·by_cases g:b_ b (max (replayF n.d.b).1.floor 1)=0
  ·have h:=Sat.Mu 0 22 3 .int bK rfl rfl (Sat.Mu 0 21 3 .int bK rfl rfl (Sat.Mu 0 20 3 .int bK rfl rfl (Sat.Mu 0 19 4 .bool bK rfl rfl (Sat.Mu 0 18 78 (.nm .reply) bK rfl rfl (Sat.ahd bK rfl aa6 (IA b n a f g)) rfl) rfl) rfl) rfl) rfl;obtain ⟨i,j,k,l,o⟩:=ajx f g;rw [af1 i j k l o];exact ⟨h.1,h.2⟩
  have h:=vM b n a (.inr g);exact ⟨h.1,h.2⟩
 have h:=vM b n a (.inl (by simpa using f));exact ⟨h.1,h.2⟩
def AR:Kn:=aN (ae (kC (aY 0 0)) (ae (kC cI) aq)) sU fun (_,b,_) n=>⟨[NdOK n],[.c (.int (((aX n b).e)))],some ((mC ((aX n b).n))),false⟩
def QY:CK 13 AR:=ah fun (_,b,_) n a=>Qf b n (cd a)
def Xp:bM:=(aP 13 AR (aP 13 vk (aP 13 uO Wd)))
def BK:aB Tryz.prog (al tyT) Xp:=(ag QY (ag vO (ag vZ rS)))
def aic (n:Nd):AH:=.box 25 [.ptr 1 0] :: ndO 1 n
def aak:PH Nd:=PH.Zf (aE (dF 25 (aA (aY 1 0) dy)) (aec 1 ax)) (·.2.1) (fun n=>(((),()),n,()))
def gr (n:Nd) (r:Record):Bool:=decide (r.kind=4) && decide (r.a<=n.c.commit)
def Kd (n:Nd) (l:List Record):Int:=if l.any (gr n)=true then (l.findIdx (gr n):Int) else -1
section
variable {n:Nd} {l:List Record} {k:Nat} {r:Record}
def af9 (h:(l.take k).any (gr n)=false) (a:l[k]? = some r) (c:gr n r=false):(l.take (k+1)).any (gr n)=false:=by
 rw [ai a,List.any_append,h]; simp [c]
def afU (h:(l.take k).any (gr n)=false) (c:l[k]? = some r) (d:gr n r=true):(k:Int)=Kd n l:=by
 have a:=abp.1 c;have f:l.any (gr n)=true:=List.any_eq_true.2 ⟨r,afu c,d⟩;rw [Kd,if_pos f];have e:l.findIdx (gr n)=k:=by
  rw [List.findIdx_eq a.1];refine ⟨by rw [a.2]; exact d,fun j g=>?_⟩;have:=List.any_eq_false.1 h (l[j]'(by have:=a.1; omega)) (List.mem_iff_getElem?.2 ⟨j,by rw [List.getElem?_take_of_lt g,List.getElem?_eq_getElem]⟩);simpa using this
 rw [e]
def ahb (h:(l.take k).any (gr n)=false) (a:(l.length:Int)<=k):-1=Kd n l:=by
 rw [List.take_of_length_le aL] at h;rw [Kd,if_neg (by rw [h]; decide)]
def ahR:decide (0<=Kd n l)=l.any (gr n):=by
 unfold Kd;cases h:l.any (gr n) <;> simp
end
def FJ:Kn:=aN (ae (kT (.nm .record)) (ae (kC (aY 0 0)) aq)) aak fun (r,_,_) n=>⟨[],[.c (.bool (.atom ((gr n r))))],none,false⟩
theorem Uo:CK 97 FJ:=ah fun (r,_,_) n _=>by
 refine aw BK [] Tryz.func97 (?_:dW r ((r.kind=4->decide (r.a<=n.c.commit)=gr n r)/\(¬r.kind=4->false=gr n r)));(repeat' with_reducible first|apply bh|refine bg ?_|intro)
 all_goals (first | exact br | (simp only [gr]; simp_all; done) | exact rfl)
def Xh:bM:=(aP 97 FJ Xp)
def B_:aB Tryz.prog (al tyT) Xh:=(ag Uo BK)
def ahE (l:List Record) (n:Nd):List (Nat × LI):=[(2,{ σ:=Nat,F:=fun k=>([(0,one (.fz (.nm .record) (l))),(1,one (.fn 97 [] [(0,0)])),(7,one (.int (l).length)),(8,one (.int k))],(aic (n))),J:=fun k=>k<=l.length/\(l.take k).any (gr n)=false,μ:=fun k=>(l).length - k })]
def Xq:Kn:=aN (ae (kC (cL (.nm .record))) (ae (kC (qK 97 [] [(0,0)])) aq)) aak fun (l,_,_) n=>⟨[],[.c (.int ((Kd n l)))],none,false⟩
theorem adR:CK 168 Xq:=ah fun (l,_,_) n _=>by
 refine aw B_ (ahE l n) Tryz.func168 (?_:(fun (a:Nat)=>l.length*48<=140737488355328->∃ (d:Nat),(l=l/\(↑l.length:Int)=(↑a:Int)/\0=(↑d:Int)/\bV n n)/\(d<=a/\(List.take d l).any (gr n)=false)/\∀ (s:Nat),s<=a/\(List.take s l).any (gr n)=false->((↑s:Int)<(↑a:Int)->0<=(↑s:Int)/\(↑s:Int)<(↑l.length:Int)/\∀ (x:Record),l[s]? = some x->dW x ((gr n x=true->(↑s:Int)=Kd n l)/\(gr n x=false->I64 ((↑s:Int)+1)/\∃ (c:Nat),(l=l/\(↑a:Int)=(↑a:Int)/\(↑s:Int)+1=(↑c:Int)/\bV n n)/\(c <= a/\(List.take c l).any (gr n)=false)/\a - c < a - s)))/\((↑a:Int)<=(↑s:Int) -> -1=Kd n l)) l.length);iterate 3 ((all_goals (repeat' with_reducible first|apply bh|refine bg ?_|intro)); (all_goals try (first | exact br | exact rfl | exact (af9 ab ab ab) | exact (afU ab ab ab) | exact (ahb ab ab))); all_goals try first | refine ⟨‹Nat› + 1,?_⟩ | refine ⟨0,?_⟩)
def Wo:bM:=(aP 168 Xq Xh)
def Bl:aB Tryz.prog (al tyT) Wo:=(ag adR B_)
def Xs:Kn:=aN (ae (kC (cL (.nm .record))) (ae (kC (qK 97 [] [(0,0)])) aq)) aak fun (l,_,_) n=>⟨[],[.c (.bool (.atom ((l.any (gr n)))))],none,false⟩
def ad0:CK 96 Xs:=ah fun (l,_,_) n _=>by
 refine aw Bl [] Tryz.func96 (?_:l.length*48<=140737488355328->I64 (Kd n l)->decide (0<=Kd n l)=l.any (gr n));(repeat' with_reducible first|apply bh|refine bg ?_|intro)
 all_goals (first | exact br | exact ahR)
def Wr:bM:=(aP 96 Xs Wo)
def Ba:aB Tryz.prog (al tyT) Wr:=(ag ad0 Bl)
variable {x:Letter} {n:NdC}
def ad8 (h:(¬ mayL x=0\/¬ x.to=n.me)\/n.many<=x.frm):cq n x=false:=if_pos h
def adL (h:mayL x=0) (c:x.to=n.me) (d:x.frm<n.many) (a:¬ x.kind=3):cq n x=true:=by rw [cq,if_neg aL,if_pos a]
def afl (h:mayL x=0) (c:x.to=n.me) (d:x.frm<n.many) (e:x.kind=3) (a:¬ (ay n.st x).2.2.2=0):cq n x=false:=by rw [cq,if_neg aL,if_neg aL,if_pos a]
variable {n:Nd}
def aem (h:mayL x=0) (a:x.to=n.c.me) (d:x.frm<n.c.many) (e:x.kind=3) (f:(ay n.c.st x).2.2.2=0):(!(ay n.c.st x).1.any (gr n))=cq n.c x:=by rw [cq,if_neg aL,if_neg aL,if_neg aL]; rfl
def Qi:Kn:=aN (ae (kC (aY 0 0)) (ae (kT (.nm .letter)) aq)) sU fun (_,x,_) n=>⟨[],[.c (.bool (.atom ((cq n.c x))))],none,false⟩
def aav:CK 55 Qi:=ah fun (_,x,_) n _=>by
 refine aw Ba [] Tryz.func55 (?_:(fun a=>aK x (I64 (mayL x)->((¬mayL x=0\/¬x.to=n.c.me)\/n.c.many<=x.frm->false=cq n.c x)/\((mayL x=0/\x.to=n.c.me)/\x.frm<n.c.many->(¬x.kind=3->true=cq n.c x)/\(x.kind=3->(ay n.c.st x).fst.length*48<=140737488355328->I64 a.fst->I64 a.snd->(¬a.snd=0->false=cq n.c x)/\(a.snd=0->(!(ay n.c.st x).fst.any (gr n))=cq n.c x))))) (ay n.c.st x).snd.snd);(repeat' with_reducible first|apply bh|refine bg ?_|intro)
 all_goals (first | exact br | exact (aem ab ab ab ab ab) | exact (ad8 ab).symm | exact (adL ab ab ab ab).symm | exact (afl ab ab ab ab ab).symm)
def WH:bM:=(aP 55 Qi Wr)
def tP:aB Tryz.prog (al tyT) WH:=(ag aav Ba)
theorem acN:∀ {k:Nat} {n:Nd},(n.bw k).nx=n.nx/\(n.bw k).d=n.d/\(n.bw k).c.me=n.c.me/\(n.bw k).c.st=n.c.st
 | 0,_=>⟨rfl,rfl,rfl,rfl⟩
 | k+1,n=>by
  unfold Nd.bw;split
  ·split
   ·exact acN
   grind
  grind
def VT:n.apply.nx=n.nx:=acN.1
variable {k:Int} {l:List Int}
theorem PG {s:Stable} (h:k<=(s.log.length:Int)):iN s l k<=(s.log.length:Int):=by
 unfold iN;grind
abbrev Oi (n:Nd) (x:Letter):Nd:=⟨⟨n.c.me,n.c.many,n.c.bin,n.c.st,n.c.role,iN n.c.st ((n.mt.set x.frm.toNat (max (n.mt.getD x.frm.toNat (ak Sh.int)) (min x.a (n.c.st.log.length:Int)))).set n.c.me.toNat (n.c.st.log.length:Int)) n.c.commit,n.c.applied,n.c.s⟩,n.d,n.rp,n.vs,n.bn,n.nx.set x.frm.toNat (min (jo (n.nx.getD x.frm.toNat (ak Sh.int)) x) ((n.c.st.log.length:Int)+1)),n.mt.set x.frm.toNat (max (n.mt.getD x.frm.toNat (ak Sh.int)) (min x.a (n.c.st.log.length:Int)))⟩
abbrev Mj (n:Nd) (x:Letter):Nd:=⟨⟨n.c.me,n.c.many,n.c.bin,n.c.st,n.c.role,iN n.c.st (n.mt.set n.c.me.toNat (n.c.st.log.length:Int)) n.c.commit,n.c.applied,n.c.s⟩,n.d,n.rp,n.vs,n.bn,n.nx.set x.frm.toNat (min (jo (n.nx.getD x.frm.toNat (ak Sh.int)) x) ((n.c.st.log.length:Int)+1)),n.mt⟩
section
variable {n:Nd} {x:Letter}
def Qr (h:x.ok=true):n.qz x=Oi n x:=by
 unfold Nd.qz; dsimp only; rw [if_pos h]; rfl
def LQ (h:x.ok=false):n.qz x=Mj n x:=by
 unfold Nd.qz; dsimp only; rw [if_neg (mb h)]; rfl
def abi:(Oi n x).apply.nx.length=n.nx.length:=by rw [VT]; exact afx
def Yx:(Mj n x).apply.nx.length=n.nx.length:=by rw [VT]; exact afx
variable {G:Nd}
def adZ (a:n.qz x=G) (h:(n.c.st.log.length:Int)<G.apply.nx.getD x.frm.toNat (ak Sh.int)):eJ n x=⟨G.apply,[],0⟩:=by
 rw [eJ,a]; exact if_pos h
def aea (a:n.qz x=G) (h:G.apply.nx.getD x.frm.toNat (ak Sh.int)<=(n.c.st.log.length:Int)) (d:¬ (iW G.apply x.frm).2=0):eJ n x=⟨G.apply,[],(iW G.apply x.frm).2⟩:=by
 rw [eJ,a]; exact (if_neg (Int.not_lt.2 h)).trans (if_neg d)
def ae_ (a:n.qz x=G) (h:G.apply.nx.getD x.frm.toNat (ak Sh.int)<=(n.c.st.log.length:Int)) (d:(iW G.apply x.frm).2=0):eJ n x=⟨G.apply,[(iW G.apply x.frm).1],0⟩:=by
 rw [eJ,a]; exact (if_neg (Int.not_lt.2 h)).trans (if_pos d)
end
def cT (n:Nd) (k:Nat):Nd:={ n with c:={ n.c with role:=2 },nx:=List.replicate k ((n.c.st.log.length:Int)+1)++n.nx.drop k,mt:=List.replicate k (0:Int)++n.mt.drop k }
theorem xg {c:Type} {a:c}:∀ {l:List c} {k:Nat},k<l.length->(List.replicate k a++l.drop k).set k a=List.replicate (k+1) a++l.drop (k+1)
 | x :: l,0,_=>by simp
 | x :: l,k+1,h=>by
  rw [List.replicate_succ,List.drop_succ_cons,List.cons_append,List.set_cons_succ,xg (by simpa using h),List.replicate_succ (n:=k+1),List.cons_append,List.drop_succ_cons]
section
variable {n:Nd} {k:Nat}
def aeT (h:(k:Int)<(n.nx.length:Int)):(cT n k).nx.set k ((n.c.st.log.length:Int)+1)=(cT n (k+1)).nx:=xg aL
def acs (h:(k:Int)<(n.mt.length:Int)):(cT n k).mt.set k 0=(cT n (k+1)).mt:=xg aL
def Ww (h:k<=n.nx.length):(cT n k).nx.length=n.nx.length:=by
 simp only [cT,List.length_append,afF,List.length_drop]; omega
def acG (h:k<=n.mt.length):(cT n k).mt.length=n.mt.length:=by
 simp only [cT,List.length_append,afF,List.length_drop]; omega
variable (h1:(n.nx.length:Int)=n.c.many) (h2:(n.mt.length:Int)=n.c.many) (hk:k<=n.c.many.toNat) (hm:n.c.many<=k)
include h1 h2 hk hm
theorem aat:cT n k={ n with c:={ n.c with role:=2 },nx:=List.replicate n.nx.length ((n.c.st.log.length:Int)+1),mt:=List.replicate n.mt.length 0 }:=by
 unfold cT;grind
def ags (h:(n.c.st.log.length:Int)+1<=64) (a:(cT n k).aJ [⟨3,(n.c.st.log.length:Int)+1,(cT n k).c.st.term,[]⟩]=0):dj n=⟨(cT n k).save [⟨3,(n.c.st.log.length:Int)+1,(cT n k).c.st.term,[]⟩],(bN ((cT n k).save [⟨3,(n.c.st.log.length:Int)+1,(cT n k).c.st.term,[]⟩])).1,(bN ((cT n k).save [⟨3,(n.c.st.log.length:Int)+1,(cT n k).c.st.term,[]⟩])).2⟩:=by
 rw [aat h1 h2 hk hm] at a ⊢;exact (if_pos h).trans (if_pos a)
def ago (h:(n.c.st.log.length:Int)+1<=64) (a:¬ (cT n k).aJ [⟨3,(n.c.st.log.length:Int)+1,(cT n k).c.st.term,[]⟩]=0):dj n=⟨(cT n k).save [⟨3,(n.c.st.log.length:Int)+1,(cT n k).c.st.term,[]⟩],[],(cT n k).aJ [⟨3,(n.c.st.log.length:Int)+1,(cT n k).c.st.term,[]⟩]⟩:=by
 rw [aat h1 h2 hk hm] at a ⊢;exact (if_pos h).trans (if_neg a)
def ahL (h:64<(n.c.st.log.length:Int)+1):dj n=⟨cT n k,(bN (cT n k)).1,(bN (cT n k)).2⟩:=by
 rw [aat h1 h2 hk hm];exact if_neg aL
end
def aaE (n:Nd):List (Nat × LI):=[(4,{ σ:=Nat,F:=fun k=>([(0,one (.ptr 0 0)),(4,one (.int (n.c.st.log.length+1))),(22,one (.int n.c.many)),(23,one (.int k))],(mC ((cT n k)))),J:=fun k=>k<=n.c.many.toNat,μ:=fun k=>n.c.many.toNat - k })]
def Gk:Kn:=aN (ae (kC (aY 0 0)) (ae (kT (.nm .letter)) aq)) sU fun (_,x,_) n=>⟨[NdOK n,0<=x.frm/\x.frm<n.c.many,n.c.role=2,0<=x.a/\x.a<=64],[.c (.fz (.nm .letter) (((eJ n x).l))),.c (.int (((eJ n x).e)))],some ((mC ((eJ n x).n))),false⟩
def Sr:CK 103 Gk:=ah fun (_,x,_) n J=>by
 have A:=cd J;have L:=cd (eY J);have N:=cd (eY (eY J));have O:=cd (eY (eY (eY J)));refine bt tP [] Tryz.func103 (?_:(fun f=>(fun r=>(fun F=>(fun i=>(fun K=>(fun q=>(fun D=>(fun h=>(fun p=>(fun o=>(fun j=>(fun g=>(fun w=>(fun t=>(fun H=>(fun B=>(fun I=>(fun C=>(fun u=>(fun y=>(fun v=>(fun z=>aK x (j/\o<(↑n.nx.length:Int)/\(p<=x.a/\x.a<=64)/\I64 (t+1)/\j/\o<(↑n.nx.length:Int)/\(I64 w->I64 (jo w x)->I64 w->(x.ok=true->j/\o<(↑n.mt.length:Int)/\j/\o<(↑n.mt.length:Int)/\(I64 (n.mt.getD g q)->I64 (n.mt.getD g q)->p<=f.me/\f.me<(↑I.length:Int)/\(I64 (I.getD D q)->(I.set D t).length<=12/\(I64 C->((p<=r/\C<=(↑i.log.length:Int))/\K)/\j/\o<(↑v.nx.length:Int)/\(I64 (v.nx.getD g q)->(t<v.nx.getD g q->h.l=[]/\p=h.e/\bV v h.n)/\(v.nx.getD g q<=t->(j/\o<(↑v.nx.length:Int))/\aK (iW v o).fst (I64 z->(¬z=p->h.l=[]/\z=h.e/\bV v h.n)/\(z=p->[(iW v o).fst]=h.l/\p=h.e/\bV v h.n))))))))/\(x.ok=false->p<=f.me/\f.me<(↑n.mt.length:Int)/\(I64 (n.mt.getD D q)->(n.mt.set D t).length<=12/\(I64 B->((p<=r/\B<=(↑i.log.length:Int))/\K)/\j/\o<(↑u.nx.length:Int)/\(I64 (u.nx.getD g q)->(t<u.nx.getD g q->h.l=[]/\p=h.e/\bV u h.n)/\(u.nx.getD g q<=t->(j/\o<(↑u.nx.length:Int))/\aK (iW u o).fst (I64 y->(¬y=p->h.l=[]/\y=h.e/\bV u h.n)/\(y=p->[(iW u o).fst]=h.l/\p=h.e/\bV u h.n)))))))))) (iW v o).snd) (Nd.mk (NdC.mk f.me f.many f.bin i f.role C r f.s) n.d n.rp n.vs n.bn H I).apply) (iW u o).snd) (Nd.mk (NdC.mk f.me f.many f.bin i f.role B r f.s) n.d n.rp n.vs n.bn H n.mt).apply) (iN i (I.set D t) F)) (n.mt.set g (max (n.mt.getD g q) (min x.a t)))) (iN i (n.mt.set D t) F)) (n.nx.set g (min (jo w x) (t+1)))) (↑i.log.length:Int)) (n.nx.getD g q)) o.toNat) (p<=o)) x.frm) (0:Int)) (eJ n x)) f.me.toNat) (ak Sh.int)) ((↑n.rp.length:Int)<=r/\i.log.length<=10000)) f.st) f.commit) f.applied) n.c);obtain ⟨P,Q,S⟩:=id A.d;have T:=A.log;have U:=A.many;have V:=A.me;have o7:=A.com;have W:=A.term;have X:=A.rp;obtain ⟨Y,Z,b,k⟩:=A.len.resolve_left aL;(repeat' with_reducible first|apply bh|refine bg ?_|intro)
 all_goals (first | exact br | exact (PG o7.2.2) | (rw [abi]; omega) | (rw [Yx]; omega) | (rw [afx]; omega) | (rw [afx,afx]; omega) | (rw [adZ (n:=n) (x:=x) (G:=Oi n x) (Qr ab) ab] <;> rfl) | (rw [aea (n:=n) (x:=x) (G:=Oi n x) (Qr ab) ab ab] <;> rfl) | (rw [ae_ (n:=n) (x:=x) (G:=Oi n x) (Qr ab) ab ab] <;> rfl) | (rw [adZ (n:=n) (x:=x) (G:=Mj n x) (LQ ab) ab] <;> rfl) | (rw [aea (n:=n) (x:=x) (G:=Mj n x) (LQ ab) ab ab] <;> rfl) | (rw [ae_ (n:=n) (x:=x) (G:=Mj n x) (LQ ab) ab ab] <;> rfl))
def GN:Kn:=aN (ae (kC (aY 0 0)) aq) sU fun _ n=>⟨[NdOK n,n.c.role=1],[.c (.fz (.nm .letter) (((dj n).l))),.c (.int (((dj n).e)))],some ((mC ((dj n).n))),false⟩
theorem Vj:CK 102 GN:=ah fun _ n v=>by
 have j:=cd v;have F:=cd (eY v);refine bt tP (aaE n) Tryz.func102 (?_:(fun (w:Int)=>(fun (h:NdR)=>(fun (i:Int)=>(fun (f:Int)=>(fun (y:Int)=>(fun (o:Int)=>I64 w/\∃ (t:Nat),(w=o/\f=f/\i=(↑t:Int)/\bV (Nd.mk (NdC.mk n.c.me f n.c.bin n.c.st 2 n.c.commit n.c.applied n.c.s) n.d n.rp n.vs n.bn n.nx n.mt) (cT n t))/\t<=f.toNat/\∀ (s:Nat),(fun (a:Nd)=>(fun (p:List (den (Sh.nm NT.record)))=>(fun (g:Nd)=>s<=f.toNat->((↑s:Int)<f->(i<=(↑s:Int)/\(↑s:Int)<(↑a.nx.length:Int))/\(I64 (a.nx.getD s (ak Sh.int))->i<=(↑s:Int)/\(↑s:Int)<(↑a.mt.length:Int))/\(I64 (a.nx.getD s (ak Sh.int))->I64 (a.mt.getD s (ak Sh.int))->I64 ((↑s:Int)+1)/\∃ (q:Nat),(o=o/\f=f/\(↑s:Int)+1=(↑q:Int)/\bV (Nd.mk a.c a.d a.rp a.vs a.bn (a.nx.set s o) (a.mt.set s i)) (cT n q))/\q <= f.toNat/\f.toNat - q < f.toNat - s))/\(f<=(↑s:Int)->(o<=64->(i<=a.d.synced/\a.d.synced<=(↑a.d.b.length:Int)/\a.d.b.length<=65536)/\a.c.st.log.length<=10000/\p.length<=1000/\(I64 (a.aJ p)->(¬a.aJ p=i->h.l=[]/\a.aJ p=h.e/\bV g h.n)/\(a.aJ p=i->g.c.many<=5/\(g.c.role=i\/(↑g.nx.length:Int)=g.c.many)/\((bN g).fst.length*96<=140737488355328->I64 (bN g).snd->(bN g).fst=h.l/\(bN g).snd=h.e/\bV g h.n))))/\(64<o->a.c.many<=5/\(a.c.role=i\/(↑a.nx.length:Int)=a.c.many)/\((bN a).fst.length*96<=140737488355328->I64 (bN a).snd->(bN a).fst=h.l/\(bN a).snd=h.e/\bV a h.n)))) (a.save p)) [Record.mk y o a.c.st.term []]) (cT n s)) ((↑n.c.st.log.length:Int)+1)) 3) n.c.many) 0) (dj n)) ((↑n.c.st.log.length:Int)+1));obtain ⟨z,A,B⟩:=id j.d;have C:=j.log;have D:=j.many;have G:=j.me;have o7:=j.com;have H:=j.term;have I:=j.rp;obtain ⟨J,K,r,u⟩:=j.len.resolve_left aL;iterate 3 ((all_goals (repeat' with_reducible first|apply bh|refine bg ?_|intro)); (all_goals try (first | exact br | exact rfl | exact (aeT aL) | exact (acs aL) | (rw [Ww aL]; omega) | (rw [acG aL]; omega) | exact (.inr ((congrArg Int.ofNat (Ww aL)).trans r)) | exact acV | exact D.2 | exact z | exact A | exact B | exact (Nat.le_trans C am) | (rw [ags (n:=n) (k:=‹Nat›) r u ab ab ab ab] <;> rfl) | (rw [ago (n:=n) (k:=‹Nat›) r u ab ab ab ab] <;> rfl) | (rw [ahL (n:=n) (k:=‹Nat›) r u ab ab ab] <;> rfl))); all_goals try first | refine ⟨‹Nat› + 1,?_⟩ | refine ⟨0,?_⟩)
def Xj:bM:=(aP 102 GN (aP 103 Gk WH))
def Bx:aB Tryz.prog (al tyT) Xj:=(ag Vj (ag Sr tP))
variable {t:Int}
theorem Jk {s:Stable}:(stepsF s (az s t)).1.log=s.log:=by
 unfold az;split
 ·rfl
 rw [stepsF];split
 ·rw [stepsF];unfold aQ;split
  ·rfl
  split
  ·rename_i u h;rw [fE,if_neg (show ¬ (2:Int)=1 by decide),if_pos rfl,fx] at h;grind
  rfl
 rfl
abbrev YE (n:Nd) (x:Letter):Nd:=⟨(n.save (az n.c.st x.term)).c,(n.save (az n.c.st x.term)).d,(n.save (az n.c.st x.term)).rp,(n.save (az n.c.st x.term)).vs,(n.save (az n.c.st x.term)).bn.set x.frm.toNat x.bin,(n.save (az n.c.st x.term)).nx,(n.save (az n.c.st x.term)).mt⟩
abbrev Re (n:Nd) (x:Letter):Nd:=⟨(n.save (az n.c.st x.term)).c,(n.save (az n.c.st x.term)).d,(n.save (az n.c.st x.term)).rp,(n.save (az n.c.st x.term)).vs.set x.frm.toNat true,(n.save (az n.c.st x.term)).bn.set x.frm.toNat x.bin,(n.save (az n.c.st x.term)).nx,(n.save (az n.c.st x.term)).mt⟩
def Qp {s:Stable}:(az s t).length<=1000:=Nat.le_trans eO am
section
variable {n:Nd} {x:Letter}
def X_ (h:¬ n.aJ (az n.c.st x.term)=0):answeredF n x=⟨n.save (az n.c.st x.term),[],n.aJ (az n.c.st x.term)⟩:=if_pos h
variable (h:n.aJ (az n.c.st x.term)=0)
include h
def SV (a:¬ x.term=(n.save (az n.c.st x.term)).c.st.term\/(n.save (az n.c.st x.term)).c.role=0):answeredF n x=⟨n.save (az n.c.st x.term),[],0⟩:=(if_neg (adJ.2 h)).trans (if_pos a)
def VS (a:NdOK n):NdOK (n.save (az n.c.st x.term)):=by
 have f:(n.save (az n.c.st x.term)).c.st=(stepsF n.c.st (az n.c.st x.term)).1:=(xH h).1;have e:=nO (l:=az n.c.st x.term) a.log a.term;rw [<- f] at e;refine ⟨ra a.d,a.many,a.me,e.1,e.2,⟨a.com.1,a.com.2.1,?_⟩,a.len,a.rp⟩;rw [f,Jk]; exact a.com.2.2
def Yn (a:NdOK n):NdOK (YE n x):=by
 have k:=VS h a;exact ⟨k.d,k.many,k.me,k.log,k.term,k.com,k.len.imp id fun q=>⟨q.1,by rw [afx]; exact q.2.1,q.2.2⟩,k.rp⟩
def Y_ (a:NdOK n):NdOK (Re n x):=by
 have k:=VS h a;exact ⟨k.d,k.many,k.me,k.log,k.term,k.com,k.len.imp id fun q=>⟨by rw [afx]; exact q.1,by rw [afx]; exact q.2.1,q.2.2⟩,k.rp⟩
omit h in
def acd (a:NdOK n) (e:x.frm<n.c.many) (d:¬ (n.save (az n.c.st x.term)).c.role=0):x.frm<((n.save (az n.c.st x.term)).bn.length:Int)/\x.frm<((n.save (az n.c.st x.term)).vs.length:Int):=by
 have q:=a.len.resolve_left d;exact ⟨by show x.frm<(n.bn.length:Int); omega,by show x.frm<(n.vs.length:Int); omega⟩
variable (h1:x.term=(n.save (az n.c.st x.term)).c.st.term) (h2:¬ (n.save (az n.c.st x.term)).c.role=0)
include h1 h2
def JD:answeredF n x=if (x.kind=2/\x.ok=true)/\(n.save (az n.c.st x.term)).c.role=1 then (if mz (Re n x).vs=true then dj (Re n x) else ⟨Re n x,[],0⟩) else if x.kind=4/\(n.save (az n.c.st x.term)).c.role=2 then eJ (YE n x) x else ⟨YE n x,[],0⟩:=
 (if_neg (adJ.2 h)).trans (if_neg (by rintro (q | q); exact q h1; exact h2 q))
def agu (a:x.kind=2) (d:x.ok=true) (e:(n.save (az n.c.st x.term)).c.role=1) (f:mz (Re n x).vs=true):answeredF n x=dj (Re n x):=(JD h h1 h2).trans ((if_pos ⟨⟨a,d⟩,e⟩).trans (if_pos f))
def agw (a:x.kind=2) (d:x.ok=true) (e:(n.save (az n.c.st x.term)).c.role=1) (f:mz (Re n x).vs=false):answeredF n x=⟨Re n x,[],0⟩:=(JD h h1 h2).trans ((if_pos ⟨⟨a,d⟩,e⟩).trans (if_neg (mb f)))
def ajO (d:(¬ x.kind=2\/x.ok=false)\/¬ (n.save (az n.c.st x.term)).c.role=1) (e:x.kind=4) (f:(n.save (az n.c.st x.term)).c.role=2):answeredF n x=eJ (YE n x) x:=
 (JD h h1 h2).trans ((if_neg (by rintro ⟨⟨a,b⟩,c⟩; rcases d with (q | q) | q; exact q a; exact mb q b; exact q c)).trans (if_pos ⟨e,f⟩))
def ahy (d:(¬ x.kind=2\/x.ok=false)\/¬ (n.save (az n.c.st x.term)).c.role=1) (e:¬ x.kind=4\/¬ (n.save (az n.c.st x.term)).c.role=2):answeredF n x=⟨YE n x,[],0⟩:=
 (JD h h1 h2).trans ((if_neg (by rintro ⟨⟨a,b⟩,c⟩; rcases d with (q | q) | q; exact q a; exact mb q b; exact q c)).trans (if_neg (by rintro ⟨a,b⟩; rcases e with q | q; exact q a; exact q b)))
end
def pU:Kn:=aN (ae (kC (aY 0 0)) (ae (kT (.nm .letter)) aq)) sU fun (_,x,_) n=>⟨[NdOK n,0<=x.frm/\x.frm<n.c.many,0<=x.a/\x.a<=64],[.c (.fz (.nm .letter) (((answeredF n x).l))),.c (.int (((answeredF n x).e)))],some ((mC ((answeredF n x).n))),false⟩
def yL:CK 58 pU:=ah fun (_,x,_) n s=>by
 have o:=cd s;have u:=cd (eY s);have y:=cd (eY (eY s));refine bt Bx [] Tryz.func58 (?_:(fun w=>(fun h=>(fun p=>(fun g=>(fun q=>(fun f=>(fun i=>(fun v=>(fun r=>(fun j=>aK x (((h<=n.d.synced/\n.d.synced<=(↑n.d.b.length:Int)/\n.d.b.length<=65536)/\n.c.st.log.length<=10000/\p.length<=1000)/\(I64 (n.aJ p)->(¬n.aJ p=h->g.l=[]/\n.aJ p=g.e/\bV f g.n)/\(n.aJ p=h->(¬x.term=f.c.st.term\/i=h->g.l=[]/\h=g.e/\bV f g.n)/\(x.term=f.c.st.term/\¬i=h->h<=x.frm/\x.frm<(↑f.bn.length:Int)/\(I64 (f.bn.getD q (ak Sh.int))->((x.kind=2/\x.ok=true)/\i=1->h<=x.frm/\x.frm<(↑f.vs.length:Int)/\(mz (f.vs.set q true)=true->NdOK j/\i=1/\((dj j).l.length*96<=140737488355328->I64 (dj j).e->(dj j).l=g.l/\(dj j).e=g.e/\bV (dj j).n g.n))/\(mz (f.vs.set q true)=false->g.l=[]/\h=g.e/\bV j g.n))/\((¬x.kind=2\/x.ok=false)\/¬i=1->(x.kind=4/\i=2->NdOK v/\(h<=x.frm/\x.frm<f.c.many)/\i=2/\(h<=x.a/\x.a<=64)/\(r.l.length*96<=140737488355328->I64 r.e->r.l=g.l/\r.e=g.e/\bV r.n g.n))/\(¬x.kind=4\/¬i=2->g.l=[]/\h=g.e/\bV v g.n)))))))) (Nd.mk f.c f.d f.rp (f.vs.set q true) (f.bn.set q w) f.nx f.mt)) (eJ v x)) (Nd.mk f.c f.d f.rp f.vs (f.bn.set q w) f.nx f.mt)) f.c.role) (n.save p)) x.frm.toNat) (answeredF n x)) (az n.c.st x.term)) (0:Int)) x.bin);obtain ⟨z,A,B⟩:=id o.d;have C:=o.log;(repeat' with_reducible first|apply bh|refine bg ?_|intro)
 all_goals (first | exact br | exact Qp | exact (Y_ ab o) | exact (Yn ab o) | exact (acd o u.2 ab).1 | exact (acd o u.2 ab).2 | exact u.2 | (rw [X_ (n:=n) (x:=x) ab] <;> rfl) | (rw [SV (n:=n) (x:=x) ab ab] <;> rfl) | (rw [agu (n:=n) (x:=x) ab ab ab ab ab ab ab] <;> rfl) | (rw [agw (n:=n) (x:=x) ab ab ab ab ab ab ab] <;> rfl) | (rw [ajO (n:=n) (x:=x) ab ab ab ab ab ab] <;> rfl) | (rw [ahy (n:=n) (x:=x) ab ab ab ab ab] <;> rfl))
def Xr:bM:=(aP 58 pU Xj)
def yF:aB Tryz.prog (al tyT) Xr:=(ag yL Bx)
section
variable {n:Nd} {x:Letter}
def Kf (d:cq n.c x=true):0<=x.frm/\x.frm<n.c.many/\0<=x.a/\x.a<=64/\1<=x.kind/\x.kind<=4:=by
 have h:=(oI d).1;have:=eu h.may;have:=h.frm;omega
def ahq {p:Prop} (a:cq n.c x=true) (d:¬ x.kind=1) (e:¬ x.kind=2) (f:¬ x.kind=3) (g:¬ x.kind=4):p:=by
 have:=Kf a; omega
def IL (h:NdOK n):NdOK n.follow:=⟨h.d,h.many,h.me,h.log,h.term,h.com,.inl rfl,h.rp⟩
def aaM (a:cq n.c x=true):cq n.follow.c x=true:=a
def QJ (h:n.d.down=true):au n x=⟨n,[],30⟩:=if_pos h
variable (h:n.d.down=false)
include h
def SZ (a:cq n.c x=false):au n x=⟨n,[],1⟩:=(if_neg (mb h)).trans (if_pos a)
variable (hm:cq n.c x=true)
include hm
def DU (a:n.c.st.term<x.term):au n x=if x.kind=1 then ba n.follow x else if x.kind=3 then aM n.follow x else answeredF n.follow x:=by
 rw [au,if_neg (mb h),if_neg (by rw [hm]; decide),if_pos a]
def DQ (a:x.term<=n.c.st.term):au n x=if x.kind=1 then ba n x else if x.kind=3 then aM n x else answeredF n x:=by
 rw [au,if_neg (mb h),if_neg (by rw [hm]; decide),if_neg (show ¬ n.c.st.term<x.term by omega)]
section
variable (ht:n.c.st.term<x.term)
include ht
def agi (a:x.kind=1):au n x=ba n.follow x:=(DU h hm ht).trans (if_pos a)
def ahx (a:x.kind=3):au n x=aM n.follow x:=(DU h hm ht).trans ((if_neg aL).trans (if_pos a))
def afT (a:x.kind=2):au n x=answeredF n.follow x:=(DU h hm ht).trans ((if_neg aL).trans (if_neg aL))
def agc (a:x.kind=4):au n x=answeredF n.follow x:=(DU h hm ht).trans ((if_neg aL).trans (if_neg aL))
end
section
variable (ht:x.term<=n.c.st.term)
include ht
def aiG (a:x.kind=1):au n x=ba n x:=(DQ h hm ht).trans (if_pos a)
def agC (a:x.kind=3):au n x=aM n x:=(DQ h hm ht).trans ((if_neg aL).trans (if_pos a))
def ahP (a:x.kind=2):au n x=answeredF n x:=(DQ h hm ht).trans ((if_neg aL).trans (if_neg aL))
def af6 (a:x.kind=4):au n x=answeredF n x:=(DQ h hm ht).trans ((if_neg aL).trans (if_neg aL))
end
end
def sG:Kn:=aN (ae (kC (aY 0 0)) (ae (kT (.nm .letter)) aq)) sU fun (_,x,_) n=>⟨[NdOK n],[.c (.fz (.nm .letter) (((au n x).l))),.c (.int (((au n x).e)))],some ((mC ((au n x).n))),false⟩
def DK:CK 16 sG:=ah fun (_,x,_) n G=>by
 have B:=cd G;refine bt yF [] Tryz.func16 (?_:(fun i=>(fun j=>(fun g=>(fun h=>(fun v=>(fun y=>(fun z=>(fun A=>(fun C=>(fun r=>(fun D=>(fun f=>(fun F=>(fun u=>(fun o=>(fun p=>(fun q=>(fun w=>aK x ((n.d.down=true->f.l=[]/\30=f.e/\bV n f.n)/\(n.d.down=false->(cq n.c x=false->f.l=[]/\1=f.e/\bV n f.n)/\(cq n.c x=true->(n.c.st.term<x.term->(y->w)/\(¬y->(z->w)/\(¬z->(r->aK x (NdOK u/\cq C x=true/\r)/\aK x (p.l.length*h<=g->I64 p.e->p.l=f.l/\p.e=f.e/\bV p.n f.n))/\(¬r->(A->aK x (NdOK u)/\aK x (o.l.length*h<=g->I64 o.e->o.l=f.l/\o.e=f.e/\bV o.n f.n))/\(¬A->False)))))/\(x.term<=n.c.st.term->(y->F)/\(¬y->(z->F)/\(¬z->(r->aK x (NdOK n/\cq n.c x=true/\r)/\aK x (j.l.length*h<=g->I64 j.e->j.l=f.l/\j.e=f.e/\bV j.n f.n))/\(¬r->(A->aK x (NdOK n)/\aK x (i.l.length*h<=g->I64 i.e->i.l=f.l/\i.e=f.e/\bV i.n f.n))/\(¬A->False))))))))) (aK x (NdOK u/\D)/\aK x (q.l.length*h<=g->I64 q.e->q.l=f.l/\q.e=f.e/\bV q.n f.n))) (answeredF u x)) (aM u x)) (ba u x)) (Nd.mk C n.d n.rp n.vs n.bn n.nx n.mt)) (aK x (NdOK n/\D)/\aK x (v.l.length*h<=g->I64 v.e->v.l=f.l/\v.e=f.e/\bV v.n f.n))) (au n x)) ((0<=x.frm/\x.frm<n.c.many)/\0<=x.a/\x.a<=64)) (x.kind=3)) (NdC.mk n.c.me n.c.many n.c.bin n.c.st 0 n.c.commit n.c.applied n.c.s)) (x.kind=1)) (x.kind=2)) (x.kind=4)) (answeredF n x)) (96:Nat)) (140737488355328:Nat)) (aM n x)) (ba n x));(repeat' with_reducible first|apply bh|refine bg ?_|intro)
 all_goals (first | exact br | exact B | exact (IL B) | exact (aaM (n:=n) ab) | exact (ahq (n:=n) ab ab ab ab ab) | exact (Kf (n:=n) ab).1 | exact (Kf (n:=n) ab).2.1 | exact (Kf (n:=n) ab).2.2.1 | exact (Kf (n:=n) ab).2.2.2.1 | (rw [QJ (n:=n) (x:=x) ab] <;> rfl) | (rw [SZ (n:=n) (x:=x) ab ab] <;> rfl) | (rw [agi (n:=n) (x:=x) ab ab ab ab] <;> rfl) | (rw [ahx (n:=n) (x:=x) ab ab ab ab] <;> rfl) | (rw [afT (n:=n) (x:=x) ab ab ab ab] <;> rfl) | (rw [agc (n:=n) (x:=x) ab ab ab ab] <;> rfl) | (rw [aiG (n:=n) (x:=x) ab ab ab ab] <;> rfl) | (rw [agC (n:=n) (x:=x) ab ab ab ab] <;> rfl) | (rw [ahP (n:=n) (x:=x) ab ab ab ab] <;> rfl) | (rw [af6 (n:=n) (x:=x) ab ab ab ab] <;> rfl))
def WU:bM:=(aP 16 sG Xr)
def kM:aB Tryz.prog (al tyT) WU:=(ag DK yF)
theorem Bi {s:Stable} (h:(stepsF s [⟨3,(s.log.length:Int)+1,t,b⟩]).2=0):(stepsF s [⟨3,(s.log.length:Int)+1,t,b⟩]).1={ s with log:=s.log++[⟨t,b⟩] }:=by
 have a:(aQ s ⟨3,(s.log.length:Int)+1,t,b⟩).2=0:=by
  rw [stepsF] at h;grind
 obtain ⟨_,c⟩:=lP a;rw [fE,if_neg (show ¬ (3:Int)=1 by decide),if_neg (show ¬ (3:Int)=2 by decide),if_pos rfl,dz,if_neg (by dsimp only; omega)] at c;rw [jE a];grind
def uP {d:Dsk} {s:Stable} {l:List Record} (h:(saveF d s l).2.2=0):(stepsF s l).2=0:=(xH h).2
variable {L' L:List Record}
def StepR.of_eq {a:Nd} {l:List Letter} (h:StepR m L a l L') (e:m.d=n.d) (f:m.c.me=n.c.me/\m.c.many=n.c.many/\m.c.commit=n.c.commit/\m.c.st=n.c.st/\m.c.bin=n.c.bin):StepR n L a l L':=by
 obtain ⟨g,i,j,o,p⟩:=f;exact ⟨h.inv,h.pre,by rw [<- g,<- i]; exact h.me,by rw [<- e]; exact h.len,h.lets,fun q r=>by rw [<- j,<- o,<- p]; exact h.mono (by rw [e]; exact q) r⟩
theorem Gw (h:NInv n L) (a:n.d.down=false) (j:1<=t):∃ L',StepR n L (n.save [⟨3,(n.c.st.log.length:Int)+1,t,b⟩]) [] L':=by
 have i:∀ r ∈ [Record.mk 3 ((n.c.st.log.length:Int)+1) t b],r.kind=3->1<=r.b:=fun r f _=>by rw [ab7.1 f]; exact j
 by_cases g:n.aJ [⟨3,(n.c.st.log.length:Int)+1,t,b⟩]=0
 ·have y:=gL h a aa i g;have o:=h.up a;have e:=y.st;rw [Bi (uP g)] at e;have p:=h.ok.com;refine ⟨_,lN h a y (fun f=>by rw [e]; exact o.vote f) (by rw [e]) ?_ ?_ fun _=>?_⟩
  ·grind
  ·grind
  rw [e]; dsimp only; rw [List.length_append]; omega
 exact lD h a aa i g
def zx {c:Type} {a d:c}:∀ {k i:Nat},i<k->(List.replicate k a).getD i d=a:=fun h=>by
 rw [List.getD_eq_getElem?_getD,List.getElem?_replicate,if_pos h]; rfl
def ab3 (h:NInv n L) (j:n.d.down=false) (r:n.c.role=1):∃ L',StepR n L (dj n).n (dj n).l L':=by
 have a:=h.up j;have o:=a.vote aL;have e:=h.ok.len.resolve_left aL;have p:NInv { n with c:={ n.c with role:=2 },nx:=List.replicate n.nx.length ((n.c.st.log.length:Int)+1),mt:=List.replicate n.mt.length 0 } L:=
  ⟨⟨h.ok.d,h.ok.many,h.ok.me,h.ok.log,h.ok.term,h.ok.com,.inr ⟨e.1,e.2.1,by dsimp only; rw [afF]; exact e.2.2.1,by dsimp only; rw [afF]; exact e.2.2.2⟩,h.ok.rp⟩,h.d,h.le,fun _=>
   ⟨a.st,a.bin,⟨(by decide:(0:Int)<=2),(by decide:(2:Int)<=2)⟩,fun _=>o,fun _ i f=>by
    dsimp only at f ⊢;rw [zx aL]; omega,a.pl⟩⟩
 unfold dj;dsimp only;split
 ·obtain ⟨L',q⟩:=Gw (t:=n.c.st.term) (b:=[]) p j o.2;split
  ·exact ⟨L',(q.of_eq (n:=n) rfl ⟨rfl,rfl,rfl,rfl,rfl⟩).tell fun x g=>ph g⟩
  exact ⟨L',q.of_eq (n:=n) rfl ⟨rfl,rfl,rfl,rfl,rfl⟩⟩
 exact ⟨L,((StepR.refl p).of_eq (n:=n) rfl ⟨rfl,rfl,rfl,rfl,rfl⟩).tell fun x g=>ph g⟩
def aaN {s:Stable}:k<=iN s l k:=by
 unfold iN;split <;> omega
theorem abe (c:0<=x.a):1<=jo k x:=by
 unfold jo;grind
theorem ME (h:NInv n L) (o:n.d.down=false) (p:n.c.role=2) (v:0<=x.a) (w:x.frm≠n.c.me/\0<=x.frm/\x.frm<n.c.many):∃ L',StepR n L (eJ n x).n (eJ n x).l L':=by
 have g:=h.up o;have j:=h.ok.len.resolve_left aL;generalize f:n.nx.set x.frm.toNat (min (jo (n.nx.getD x.frm.toNat 0) x) ((n.c.st.log.length:Int)+1))=nx;generalize q:(if x.ok=true then n.mt.set x.frm.toNat (max (n.mt.getD x.frm.toNat 0) (min x.a (n.c.st.log.length:Int))) else n.mt)=mt;have y:nx.length=n.nx.length:=by rw [<- f,afx]
 have A:mt.length=n.mt.length:=by
  grind
 have B:NInv { n with nx:=nx,mt:=mt } L:=⟨⟨h.ok.d,h.ok.many,h.ok.me,h.ok.log,h.ok.term,h.ok.com,.inr ⟨j.1,j.2.1,by dsimp only; rw [y]; exact j.2.2.1,by dsimp only; rw [A]; exact j.2.2.2⟩,h.ok.rp⟩,h.d,h.le,fun _=>
   ⟨g.st,g.bin,g.role,g.vote,fun p i r=>by
    dsimp only;rw [<- f];by_cases e:x.frm.toNat=i
    ·subst e;rw [List.getD_eq_getElem?_getD,afw aL];have:=abe (k:=n.nx.getD x.frm.toNat 0) v;grind
    rw [List.getD_eq_getElem?_getD,List.getElem?_set_ne e,<- List.getD_eq_getElem?_getD];exact g.nx p i r,g.pl⟩⟩
 have C:n.qz x={ ({ n with nx:=nx,mt:=mt }:Nd) with c:={ n.c with commit:=iN n.c.st (mt.set n.c.me.toNat (n.c.st.log.length:Int)) n.c.commit } }:=by
  unfold Nd.qz;dsimp only;rw [f,q]
 obtain ⟨s,u⟩:=((StepR.refl B).of_eq (n:=n) rfl ⟨rfl,rfl,rfl,rfl,rfl⟩).commit o (c:=iN n.c.st (mt.set n.c.me.toNat (n.c.st.log.length:Int)) n.c.commit) aaN (PG h.ok.com.2.2);dsimp only at s u;rw [<- C] at s u;obtain ⟨D,F,G,K,N,H⟩:=u;unfold eJ;dsimp only;split
 ·grind
 split
 ·rename_i I;refine ⟨L,s.tell fun z J=>?_⟩;rw [ab7.1 J];exact Ee (by rw [D]; exact o) (by rw [H]; exact p) I (by rw [F,G]; exact w)
 grind
def rD (h:NInv n L) (i:n.d.down=false) (q:ForMe n x) (B:n.c.role≠0->x.term<=n.c.st.term):∃ L',StepR n L (answeredF n x).n (answeredF n x).l L':=by
 have H:=eu q.may;have C:=lM q.may;have u:x.frm≠n.c.me/\0<=x.frm/\x.frm<n.c.many:=⟨by have:=q.to; omega,aL,q.frm⟩;have g:=h.up i;have f:(az n.c.st x.term).length<=6:=Nat.le_trans eO am;by_cases j:n.aJ (az n.c.st x.term)=0;case neg=>
  rw [X_ j];exact lD h i f iI j
 have y:=gL h i f iI j;have o:=y.st;rw [(hU (s:=n.c.st) (t:=x.term) aL aL).1] at o;have z:n.c.role≠0->n.save (az n.c.st x.term)=n:=fun a=>y.no (by unfold az; rw [if_pos (B a)]);have v:StepR n L (n.save (az n.c.st x.term)) [] (L++az n.c.st x.term):=lN h i y (fun a=>by rw [z a]; exact g.vote a) (by rw [o]) (by rw [o]) (by rw [o]; exact h.ok.com.2.2) (fun _=>by rw [o]; exact Nat.le_refl _);by_cases p:¬ x.term=(n.save (az n.c.st x.term)).c.st.term\/(n.save (az n.c.st x.term)).c.role=0
 ·rw [SV j p]; exact ⟨_,v⟩
 rw [not_or] at p;have A:n.c.role≠0:=p.2;have e:=z A;rw [JD j (adJ.1 p.1) p.2];unfold YE Re;rw [e];have w:=h.ok.len.resolve_left A;have r:∀ {vs:List Bool},vs.length=n.vs.length->NInv ⟨n.c,n.d,n.rp,vs,n.bn.set x.frm.toNat x.bin,n.nx,n.mt⟩ L:=fun {vs} D=>
  ⟨⟨h.ok.d,h.ok.many,h.ok.me,h.ok.log,h.ok.term,h.ok.com,.inr ⟨by dsimp only; rw [D]; exact w.1,by dsimp only; rw [afx]; exact w.2.1,w.2.2⟩,h.ok.rp⟩,h.d,h.le,fun _=>⟨g.st,g.bin,g.role,g.vote,g.nx,g.pl⟩⟩
 split
 ·rename_i F;split
  ·obtain ⟨L',k⟩:=ab3 (r (vs:=n.vs.set x.frm.toNat true) afx) i F.2;exact ⟨L',k.of_eq (n:=n) rfl ⟨rfl,rfl,rfl,rfl,rfl⟩⟩
  exact ⟨L,(StepR.refl (r (vs:=n.vs.set x.frm.toNat true) afx)).of_eq (n:=n) rfl ⟨rfl,rfl,rfl,rfl,rfl⟩⟩
 split
 ·rename_i G;obtain ⟨L',k⟩:=ME (x:=x) (r (vs:=n.vs) rfl) i G.2 aL u;exact ⟨L',k.of_eq (n:=n) rfl ⟨rfl,rfl,rfl,rfl,rfl⟩⟩
 exact ⟨L,(StepR.refl (r (vs:=n.vs) rfl)).of_eq (n:=n) rfl ⟨rfl,rfl,rfl,rfl,rfl⟩⟩
def uT (h:NInv n L):∃ L',StepR n L (au n x).n (au n x).l L':=by
 cases a:n.d.down;case true=>rw [QJ a]; exact ⟨L,.refl h⟩
 cases f:cq n.c x
 ·rw [SZ a f]; exact ⟨L,.refl h⟩
 have g:=(oI f).1;by_cases o:n.c.st.term<x.term
 ·rw [DU a f o];have e:n.follow.c.role≠0->x.term<=n.follow.c.st.term:=fun e=>absurd rfl e;have i:ForMe n.follow x:=⟨g.may,g.to,g.frm⟩;split
  ·obtain ⟨L',k⟩:=Et h.follow a i e;exact ⟨L',k.lT⟩
  split
  ·rename_i j;obtain ⟨L',k⟩:=BY h.follow a (aaM f) j;exact ⟨L',k.lT⟩
  obtain ⟨L',k⟩:=rD h.follow a i e;exact ⟨L',k.lT⟩
 rw [DQ a f aL];have e:n.c.role≠0->x.term<=n.c.st.term:=fun _=>by omega
 split
 ·exact Et h a g e
 split
 ·rename_i j;exact BY h a f j
 exact rD h a g e
theorem ZX {c:Command} (h:NInv n L):∃ L',StepR n L (cS n c).n [] L':=by
 unfold cS;split
 ·exact ⟨L,.refl h⟩
 rename_i f;have a:n.d.down=false:=by simpa using f
 split
 ·exact ⟨L,.refl h⟩
 rename_i j;split
 ·exact ⟨L,.refl h⟩
 split
 ·exact ⟨L,.refl h⟩
 split
 ·exact ⟨L,.refl h⟩
 split
 ·exact ⟨L,.refl h⟩
 split
 ·exact ⟨L,.refl h⟩
 rename_i e;have g:(eA c n.c.st.term n.c.s.version).1.term=n.c.st.term:=by
  unfold eA at e ⊢;split at e
  ·grind
  grind
 have i:=((h.up a).vote aL).2;obtain ⟨L',k⟩:=Gw (t:=(eA c n.c.st.term n.c.s.version).1.term) (b:=(eA c n.c.st.term n.c.s.version).1.b) h a (by rw [g]; exact i);dsimp only;split
 ·grind
 exact ⟨L',k⟩
theorem DkI.cF {d:Dsk} {L:List Record} {k:Int} (h:DkI d L):DkI (d.cF k) L/\(d.cF k).b=d.b:=by
 have f:=h.syn;have c:d.at_ k=d.b.length:=by unfold Dsk.at_; omega
 have a:(d.cF k).b=d.b:=by
  show d.b.take (d.at_ k).toNat=d.b;simp_all
 refine ⟨⟨h.st,by rw [a]; exact h.rep,by rw [a]; exact h.pre,?_,fun e=>by cases e⟩,a⟩;rw [a]; exact c
def NInv.dead (h:NInv n L) (g:m.c=n.c/\m.rp=n.rp/\m.vs=n.vs/\m.bn=n.bn/\m.nx=n.nx/\m.mt=n.mt) (i:m.d.OK) (j:DkI m.d L') (o:∀ r ∈ L',r.kind=3->1<=r.b) (e:m.d.down=true):NInv m L':=by
 obtain ⟨a,p,q,s,u,v⟩:=g;exact ⟨⟨i,by rw [a]; exact h.ok.many,by rw [a]; exact h.ok.me,by rw [a]; exact h.ok.log,by rw [a]; exact h.ok.term,by rw [a]; exact h.ok.com,by rw [a,q,s,u,v]; exact h.ok.len,by rw [a,p]; exact h.ok.rp⟩,j,o,fun f=>by rw [e] at f; cases f⟩
def TO (h:NInv n L):StepR n L { n with d:=n.d.cF k } [] L:=by
 obtain ⟨a,c⟩:=h.d.cF (k:=k);exact ⟨h.dead ⟨rfl,rfl,rfl,rfl,rfl,rfl⟩ (tf h.ok.d) a h.le rfl,List.prefix_refl _,⟨rfl,rfl⟩,by dsimp only; rw [c]; omega,fun _ e=>(by cases e),fun _ f=>by cases f⟩
def aan (h:NInv n L):StepR n L { n with d:=⟨n.d.b,n.d.synced,n.d.down,true,k⟩ } [] L:=by
 have c:DkI ⟨n.d.b,n.d.synced,n.d.down,true,k⟩ L:=⟨h.d.st,h.d.rep,h.d.pre,h.d.syn,h.d.up⟩;exact ⟨⟨⟨h.ok.d,h.ok.many,h.ok.me,h.ok.log,h.ok.term,h.ok.com,h.ok.len,h.ok.rp⟩,c,h.le,fun a=>⟨(h.up a).st,(h.up a).bin,(h.up a).role,(h.up a).vote,(h.up a).nx,(h.up a).pl⟩⟩,List.prefix_refl _,⟨rfl,rfl⟩,by dsimp only; omega,fun _ e=>(by cases e),fun _ _=>⟨afI _,rfl,rfl⟩⟩
def ZV (h:NInv n L):StepR n L n (bN n).1 L:=(StepR.refl h).tell fun _ a=>ph a
variable {b:Int}
theorem Il {a:Int} (h:b_ a b=0):1<=a/\a<=3/\1<=b/\b<=a:=by
 unfold b_ at h;grind
def Pn {s:Stable} (a:1<=b) (c:b<=3) (h:s.floor<b):stepsF s [⟨1,b,0,[]⟩]=({ s with floor:=b },0):=by
 have e:aQ s ⟨1,b,0,[]⟩=({ s with floor:=b },0):=by
  refine nA (agB ⟨rfl,a,c,rfl,rfl⟩) ?_;rw [fE,if_pos rfl,dM,if_neg (by dsimp only; omega)]
 rw [jE (by rw [e]),e]
theorem Ed (h:NInv n L):∃ L',StepR n L (aX n b).n [] L':=by
 cases g:n.d.down;case false=>rw [aef g]; exact ⟨L,.refl h⟩
 by_cases v:b_ b (max (replayF n.d.b).1.floor 1)=0;case neg=>rw [afp g v]; exact ⟨L,.refl h⟩
 obtain ⟨z,A,W,X⟩:=Il v;obtain ⟨B,Y,P⟩:=xM g h.ok.d;have e:=h.d.rep;obtain ⟨t,I⟩:=h.d.pre;have a:=mN n.d.b
 have Q:n.d.b.take (replayF n.d.b).2.toNat=encL L:=by
  rw [e,I];dsimp only;rw [afE,List.take_left]
 have j:(n.fr b).d=⟨encL L,((encL L).length:Int),false,false,0⟩:=by
  show (if n.d.down=true then n.d.up else n.d).cut (replayF n.d.b).2=_;rw [P,Q,e]
 have o:DkI (n.fr b).d L:=by rw [j]; exact DkI.enc h.d.st rfl rfl
 have p:(n.fr b).c.st=(stepsF sta0 L).1:=by show (replayF n.d.b).1=_; rw [e]
 have C:NdOK (n.fr b):=⟨B,h.ok.many,h.ok.me,a.1.1,a.1.2,⟨afI 0,afI 0,Int.natCast_nonneg _⟩,.inl rfl,rfl⟩;have J:(n.fr b).d.b.length<=n.d.b.length:=by
  rw [j,I];show (encL L).length<=_;rw [List.length_append]; omega
 have D:okPl b ((replayF n.d.b).1.log.take 0)/\fr0=pS b fr0 ((replayF n.d.b).1.log.take 0)/\([]:List Reply)=pR b fr0 ((replayF n.d.b).1.log.take 0):=⟨fun x q=>(by cases q),rfl,rfl⟩;by_cases F:(replayF n.d.b).1.floor<b;case neg=>
  rw [ab2 g v aL];exact ⟨L,⟨C,o,h.le,fun _=>⟨p,⟨z,A,by show (replayF n.d.b).1.floor=b; omega⟩,⟨afI 0,(by decide:(0:Int)<=2)⟩,fun hr=>absurd rfl hr,fun hr=>absurd (show (0:Int)=2 from hr) am,D⟩⟩,List.prefix_refl _,⟨rfl,rfl⟩,by show (n.fr b).d.b.length<=_; omega,fun _ q=>(by cases q),fun f=>by rw [g] at f; cases f⟩
 have G:(n.fr b).d.down=false:=by rw [j]
 have s:=xo (l:=[⟨1,b,0,[]⟩]) o G p;have Z:=rA s aa;have w:∀ (i:Nat),∀ r ∈ L++[Record.mk 1 b 0 []].take i,r.kind=3->1<=r.b:=fun i r hr=>by
  rcases ab8.1 hr with hr | hr
  ·exact h.le r hr
  grind
 by_cases y:(n.fr b).aJ [⟨1,b,0,[]⟩]=0
 ·rw [abx g v F y];obtain ⟨K,N,u,m,k5,k6,k7,k8⟩:=s.ok y;have H:((n.fr b).save [⟨1,b,0,[]⟩]).c.st={ (n.fr b).c.st with floor:=b }:=by
   show (saveF _ _ _).2.1=_;rw [u,Pn z A F]
  refine ⟨L++[⟨1,b,0,[]⟩],⟨⟨ra B,h.ok.many,h.ok.me,by rw [H]; exact a.1.1,by rw [H]; exact a.1.2,⟨afI 0,afI 0,Int.natCast_nonneg _⟩,.inl rfl,rfl⟩,N,fun r hr=>w 1 r hr,fun _=>⟨?_,⟨z,A,by rw [H]⟩,⟨afI 0,(by decide:(0:Int)<=2)⟩,fun hr=>absurd rfl hr,fun hr=>absurd (show (0:Int)=2 from hr) am,?_⟩⟩,List.prefix_append _ _,⟨rfl,rfl⟩,by show (saveF (n.fr b).d (n.fr b).c.st _).1.b.length<=_; omega,fun _ q=>(by cases q),fun f=>by rw [g] at f; cases f⟩
  ·show (saveF _ _ _).2.1=_;rw [u,dS h.d.st,<- p]
  grind
 rw [Zz g v F y];obtain ⟨K,N,u⟩:=s.no y;have O:((n.fr b).save [⟨1,b,0,[]⟩]).c=(n.fr b).c:=by rw [Nt,K]
 have S:∃ i,DkI ((n.fr b).save [⟨1,b,0,[]⟩]).d (L++[Record.mk 1 b 0 []].take i):=by
  rcases u with ⟨u,_⟩ | ⟨_,_,_,_,i,_,u⟩
  ·exact ⟨0,by rw [ajZ,afy,PN,u]; exact o⟩
  grind
 obtain ⟨i,T⟩:=S;obtain ⟨U,V⟩:=T.cF (k:=0);refine ⟨_,⟨⟨tf (ra B),h.ok.many,h.ok.me,by rw [O]; exact a.1.1,by rw [O]; exact a.1.2,⟨afI 0,afI 0,Int.natCast_nonneg _⟩,.inl rfl,rfl⟩,U,w i,fun f=>by cases f⟩,yH,⟨rfl,rfl⟩,?_,fun _ q=>(by cases q),fun f=>by rw [g] at f; cases f⟩;show (((n.fr b).save [⟨1,b,0,[]⟩]).d.cF 0).b.length<=_;rw [V];show (saveF (n.fr b).d (n.fr b).c.st _).1.b.length<=_;omega
structure ToldN where
 l:List Letter
 a:Int
 b:Int
 e:Int
def sa (x:Letter):Letter:={ x with l:=(x.l.take 6).map fun y=>⟨y.term,y.b.take 250⟩ }
def mc (c:Command):Command:={ c with chunks:=c.chunks.take 12,text:=⟨c.text.b.take 40⟩ }
def dg (n:Nd) (o:NOp):Nd × ToldN:=
 if o.kind.toNat % 8=0 then ((aX n o.n).n,⟨[],0,0,(aX n o.n).e⟩)
 else if o.kind.toNat % 8=1 then ((bm n).n,⟨(bm n).l,0,0,(bm n).e⟩)
 else if o.kind.toNat % 8=2 then (n,⟨(bN n).1,0,0,(bN n).2⟩)
 else if o.kind.toNat % 8=3 then ((au n (sa o.x)).n,⟨(au n (sa o.x)).l,0,0,(au n (sa o.x)).e⟩)
 else if o.kind.toNat % 8=4 then ((cS n (mc o.c)).n,⟨[],(cS n (mc o.c)).a,(cS n (mc o.c)).b,(cS n (mc o.c)).e⟩)
 else if o.kind.toNat % 8=5 then ({ n with d:=⟨n.d.b,n.d.synced,n.d.down,true,o.n⟩ },⟨[],0,0,0⟩)
 else if o.kind.toNat % 8=6 then ({ n with d:=n.d.cF o.n },⟨[],0,0,0⟩)
 else (n,⟨[],0,0,0⟩)
def ZQ {o:NOp} (h:NInv n L):∃ L',StepR n L (dg n o).1 (dg n o).2.l L':=by
 unfold dg;split
 ·exact Ed h
 split
 ·exact Jh h
 split
 ·exact ⟨L,ZV h⟩
 split
 ·exact uT h
 split
 ·exact ZX h
 split
 ·exact ⟨L,aan h⟩
 split
 ·exact ⟨L,TO h⟩
 exact ⟨L,.refl h⟩
def FL {me a:Int} (h:3<=a/\a<=5/\0<=me/\me<a):NInv (iF me a) []:=
 ⟨⟨⟨afI 0,afI 0,ahu _⟩,⟨h.1,h.2.1⟩,h.2.2,ahu _,⟨afI 0,(by decide:(0:Int)<=1048576)⟩,⟨afI 0,afI 0,Int.natCast_nonneg _⟩,.inl rfl,rfl⟩,⟨rfl,tz (L:=[]) rfl,⟨[],rfl⟩,rfl,fun _=>rfl⟩,fun r c=>(by cases c),fun d=>(by cases d)⟩
theorem E_:∀ {l:List Record} {s:Stable},s.log.all dk=true->(∀ r ∈ l,r.kind=3->1<=r.b)->(stepsF s l).1.log.all dk=true
 | [],_,h,_=>h
 | r :: l,s,h,c=>by
  rw [stepsF];split
  ·rename_i d;obtain ⟨e,a⟩:=lP d;refine E_ ?_ fun q f=>c q (by simp [f]);have j:=bI.1 e;generalize (aQ s r).1=t at a ⊢;unfold fE at a;split at a
   ·unfold dM at a;split at a <;> cases a; exact h
   split at a
   ·unfold fx at a;split at a <;> cases a; exact h
   split at a
   ·rename_i g;unfold dz at a;split at a <;> cases a;show (s.log++[_]).all dk=true;rw [List.all_append,h,Bool.true_and,List.all_cons,List.all_nil,Bool.and_true,lO];have:=c r aa g;dsimp only; omega
   unfold fO at a;split at a <;> cases a;exact List.all_eq_true.2 fun y i=>List.all_eq_true.1 h y (List.mem_of_mem_take i)
  exact h
section
variable {n m:Nd} {L:List Record} {x:Letter} {l:List Record}
def NInv.ahi (h:NInv n L) (a:n.d.down=false):n.c.st.log.all dk=true:=by rw [(h.up a).st]; exact E_ rfl h.le
def Mn {l:List Entry} (h:l.all dk=true) (a:0<=k) (c:k<=l.length):0<=cf l k/\cf l k<=1048576:=by
 unfold cf;split
 ·omega
 rename_i d;rw [if_neg aL,List.getD_eq_getElem?_getD,List.getElem?_eq_getElem aL];have:=lO.1 (List.all_eq_true.1 h _ (afK (l:=l) (n:=(k - 1).toNat) aL));simp only [aj3]; omega
def ZN {l:List Entry} (h:l.all dk=true):(ek l k 4).all dk=true/\(ek l k 4).length<=4:=by
 unfold ek;split
 ·exact ⟨rfl,aa⟩
 refine ⟨List.all_eq_true.2 fun y a=>List.all_eq_true.1 h y (ajl (List.mem_of_mem_take a)),?_⟩;rw [List.length_take]; omega
def ahA {to:Int} (h:NInv n L) (a:n.d.down=false) (f:n.c.role=2) (o:to≠n.c.me/\0<=to/\to<n.c.many):(iW n to).2=0:=by
 have u:=h.up a;have p:=u.nx f to.toNat aL;have q:=u.vote aL;have e:=h.ahi a;have r:=h.ok.log;have g:=h.ok.term;have s:=h.ok.many;have i:=h.ok.me;have v:=h.ok.com;have w:=u.bin;have t:=Mn (k:=n.nx.getD to.toNat 0 - 1) e aL aL;obtain ⟨j,y⟩:=ZN (k:=n.nx.getD to.toNat 0 - 1) e;unfold iW fT;rw [if_neg (by dsimp only; omega)];have:mayL (mh n.c.st ⟨n.c.me,to,n.nx.getD to.toNat 0,n.c.commit,n.c.bin⟩)=0:=by
  unfold mayL;rw [if_pos];refine ⟨?_,j⟩;simp only [mJ,mh,dJ,cm,Bool.and_eq_true,Bool.or_eq_true,Bool.not_eq_true',decide_eq_true_eq,decide_eq_false_iff_not];simp [-List.getD_eq_getElem?_getD];refine ⟨⟨⟨⟨⟨⟨⟨⟨⟨?_,?_⟩,?_,?_⟩,?_⟩,?_,?_⟩,?_,?_⟩,?_,?_⟩,?_,?_⟩,?_,?_⟩,?_⟩;all_goals first | omega | (apply decide_eq_true; omega) | (apply decide_eq_false; omega)
 rw [if_neg (by rw [this]; simp)]
def nj (m:Nd):m.save []=m/\m.aJ []=0:=by
 have:saveF m.d m.c.st []=(m.d,m.c.st,0):=by simp [saveF,stepsF]
 unfold Nd.save Nd.aJ;rw [this]; exact ⟨rfl,rfl⟩
def qX (h:NInv m L) (c:m.d.down=false) (e:m.aJ l≠0):m.save l=m\/(m.save l).d.down=true:=by
 obtain ⟨f,_,a⟩:=(xo (l:=l) h.d c (h.up c).st).no e;rcases a with ⟨a,_⟩ | ⟨_,_,g,_⟩
 ·left; unfold Nd.save; rw [f,a]
 exact .inr g
theorem GY:∀ (k:Nat) (n:Nd),(n.bw k).c={ n.c with s:=(n.bw k).c.s,applied:=(n.bw k).c.applied }/\(n.bw k).d=n.d/\(n.bw k).vs=n.vs/\(n.bw k).bn=n.bn/\(n.bw k).nx=n.nx/\(n.bw k).mt=n.mt
 | 0,n=>⟨rfl,rfl,rfl,rfl,rfl,rfl⟩
 | k+1,n=>by
  simp only [Nd.bw];split
  ·split
   ·exact GY k _
   exact ⟨rfl,rfl,rfl,rfl,rfl,rfl⟩
  exact ⟨rfl,rfl,rfl,rfl,rfl,rfl⟩
theorem Fz:∀ {k:Nat} {n:Nd},k=(n.c.commit - n.c.applied).toNat->(n.bw k).apply=n.bw k
 | 0,n,h=>by
  show n.apply=n;unfold Nd.apply; rw [<- h]; rfl
 | k+1,n,h=>by
  have e:n.apply=n.bw (k+1):=by unfold Nd.apply; rw [<- h]
  simp only [Nd.bw] at e ⊢;split
  ·split
   ·exact Fz (by dsimp only; omega)
   rename_i a d;rw [if_pos a,if_neg d] at e; exact e
  omega
def tK (n:Nd):n.apply.apply=n.apply:=Fz rfl
def qQ (n:Nd):n.apply.c={ n.c with s:=n.apply.c.s,applied:=n.apply.c.applied }:=(GY _ n).1
def Tq {s:Stable} (d:mayL x=0) (f:x.kind=1):aC { s with term:=max s.term x.term,vote:=if (aC s x).2.1=true then x.frm+1 else if s.term<x.term then 0 else s.vote } x=([],(aC s x).2.1,0):=by
 have c:¬ (¬ mayL x=0\/¬ x.kind=1):=by omega
 by_cases h1:(x.term<s.term\/tw s x=false)\/jf s.log x.a x.b=false
 ·have e:aC s x=(az s x.term,false,0):=by rw [aC,if_neg c,if_pos h1]
  rw [e,aC,if_neg c,if_pos,az,if_pos]
  ·show x.term<=max s.term x.term; omega
  rcases h1 with (h1 | h1) | h1
  ·left; left; show x.term<max s.term x.term; omega
  ·left; right;simp only [tw,Bool.or_eq_false_iff,decide_eq_false_iff_not] at h1 ⊢;rw [if_neg am,if_neg aL];omega
  exact .inr h1
 have g:¬ x.term<s.term:=by omega
 have e:(aC s x).2.1=true:=by rw [aC,if_neg c,if_neg h1]; split <;> rfl
 rw [e,aC,if_neg c,if_neg,if_pos]
 ·show x.term=max s.term x.term/\_;exact ⟨aL,aa⟩
 rintro ((h | h) | h)
 ·have h:x.term<max s.term x.term:=h; omega
 ·simp [tw] at h
 exact h1 (.inr h)
def Lf (h:NInv m L) (j:m.d.down=false) (g:ForMe m x) (o:x.kind=1) (w:m.c.st.term<x.term->m.c.role=0) :
  ((ba m x).e≠0->(ba m x).l=[]/\((ba m x).n=m\/(ba m x).n.d.down=true)) /\
  ((ba m x).e=0->(ba m x).n.d.down=false/\x.term<=(ba m x).n.c.st.term/\((ba m x).n.c.me=m.c.me/\(ba m x).n.c.many=m.c.many)/\ba (ba m x).n x=⟨(ba m x).n,(ba m x).l,0⟩):=by
 have i:(aC m.c.st x).2.2=0:=by
  unfold aC;rw [if_neg (by have:=g.may; omega)];split
  ·rfl
  split <;> rfl
 obtain ⟨z,p,r,_⟩:=Pm i g.may;by_cases a:m.aJ (aC m.c.st x).1=0
 ·have y:=gL h j aL p a;have e:ba m x=⟨m.save (aC m.c.st x).1,[{ nQ (m.save (aC m.c.st x).1).c 2 x.frm with ok:=(aC m.c.st x).2.1 }],0⟩:=ZJ i a;rw [e];have f:=y.st.trans (congrArg Prod.fst r);refine ⟨fun q=>absurd rfl q,fun _=>⟨y.dn,by show x.term<=(m.save (aC m.c.st x).1).c.st.term; rw [f]; show x.term<=max _ _; omega,⟨rfl,rfl⟩,?_⟩⟩;show ba (m.save (aC m.c.st x).1) x=_;have t:=Tq (s:=m.c.st) g.may o;replace t:aC (m.save (aC m.c.st x).1).c.st x=([],(aC m.c.st x).2.1,0):=by rw [f]; exact t
  obtain ⟨u,v⟩:=nj (m.save (aC m.c.st x).1);have q:=ZJ (n:=m.save (aC m.c.st x).1) (x:=x) (by rw [t]) (by rw [t]; exact v);rw [t,u] at q;exact q
 have e:ba m x=⟨m.save (aC m.c.st x).1,[],m.aJ (aC m.c.st x).1⟩:=aeF i a;rw [e];exact ⟨fun _=>⟨rfl,qX h j a⟩,fun q=>absurd q a⟩
theorem tn:∀ {v:List Entry},ez v v=v.length
 | []=>rfl
 | y :: v=>by simp [ez,tn]
theorem Ad:∀ {u v:List Entry},ez (u.take (ez u v)++v.drop (ez u v)) v=v.length
 | [],v=>by simp only [ez,List.take_nil,aiv,ajF]; exact tn
 | _ :: _,[]=>by simp [ez]
 | x :: u,y :: v=>by
  simp only [ez];split
  ·rename_i h;rw [agy,List.drop_succ_cons,List.cons_append];simp only [ez];rw [if_pos h,Ad]; rfl
  rw [ajZ,ajF,aiv]; exact tn
def IG {l a:List Entry} (h:l.take k.toNat=a.take k.toNat) (d:k<=l.length) (f:k<=a.length):cf l k=cf a k:=by
 unfold cf;split
 ·rfl
 by_cases c:k<0
 ·rw [if_pos (.inl c),if_pos (.inl c)]
 rw [if_neg aL,if_neg aL];have e:∀ {q:List Entry},q[(k - 1).toNat]? = (q.take k.toNat)[(k - 1).toNat]?:=fun {q}=>(List.getElem?_take_of_lt aL).symm;rw [List.getD_eq_getElem?_getD,List.getD_eq_getElem?_getD,e,h,<- e]
def MJ {s:Stable} (d:x.a.toNat<=s.log.length):(cu s x).take x.a.toNat=s.log.take x.a.toNat/\ez ((cu s x).drop x.a.toNat) x.l=x.l.length:=by
 have c:=lX (h:=s.log.drop x.a.toNat) (a:=x.l);rw [List.length_drop] at c;unfold cu;split
 ·rename_i h;refine ⟨rfl,?_⟩;have h:x.l.length<=ez (s.log.drop x.a.toNat) x.l:=h;omega
 have e:(s.log.take (x.a.toNat+d_ s x)).length=x.a.toNat+d_ s x:=by rw [List.length_take]; show min (x.a.toNat+ez _ _) _=_+ez _ _; omega
 constructor
 ·rw [afG aL,ajP,show min x.a.toNat (x.a.toNat+d_ s x)=x.a.toNat by omega]
 rw [ajR aL,List.drop_take,show x.a.toNat+d_ s x - x.a.toNat=d_ s x by omega];exact Ad
def PJ {s:Stable} (r:(ay s x).2.2.2=0) (u:s.log.length<=64) (y:0<=s.term):ay (stepsF s (ay s x).1).1 x=([],(ay s x).2.1,(ay s x).2.2.1,0):=by
 obtain ⟨⟨d,z,f⟩,v⟩:=cZ r;have A:=eu d;have j:¬ ((¬ mayL x=0\/¬ x.kind=3)\/64<x.a+x.l.length):=by omega
 rcases v with ⟨_,e⟩ | ⟨o,c,e⟩ | ⟨o,c,e⟩ <;> rw [e]
 ·exact e
 ·have p:=rM c (CF d) aL;have g:=(xc d u f o c aL aL aL).1;have q:=qb (x:=x) p;obtain ⟨w,B⟩:=MJ (x:=x) p;show ay (stepsF s (gA s x)).1 x=_;rw [g];have h:cf (cu s x) x.a=x.b:=(IG w aL aL).trans c;unfold ay;rw [if_neg j,if_neg (by show ¬ x.term<x.term; omega),if_pos h];have i:a_ (cu s x) x.a x.l=(0,[]):=by
   unfold a_;rw [if_neg aL,if_pos aL]
  have:gA { s with term:=x.term,vote:=if s.term<x.term then 0 else s.vote,log:=cu s x } x=[]:=by
   unfold gA;dsimp only;rw [i];simp [az,eW]
  rw [this]
 have g:=(hU (s:=s) (t:=x.term) aL aL).1;show ay (stepsF s (az s x.term)).1 x=_;rw [g];unfold ay;rw [if_neg j,if_neg (by show ¬ x.term<max s.term x.term; omega),if_neg c];simp only [az];rw [if_pos aL]
def pn (n:Nd) (x:Letter) (ok:Bool) (up:Int):NdR:=
 let f:=if x.term=n.c.st.term then n.follow else n
 if ok=true then ⟨({ f with c:={ f.c with commit:=max f.c.commit (min x.c up) } }:Nd).apply,[{ nQ f.c 4 x.frm with ok:=true,a:=up }],0⟩
 else ⟨f,[{ nQ f.c 4 x.frm with a:=if x.term=f.c.st.term then min 64 (f.c.st.log.length:Int) else 0 }],0⟩
def yD (h:n.c.role=0):n.follow=n:=by
 obtain ⟨⟨a,b,c,d,e,f,g,k⟩,_⟩:=n;have h:e=0:=h;subst h; rfl
def aez (h:k=n.c.commit):({ n with c:={ n.c with commit:=k } }:Nd)=n:=by subst h; rfl
def Md {s:Nd} {ok:Bool} {up:Int}:pn (pn s x ok up).n x ok up=pn s x ok up:=by
 have a:∀ f:Nd,(x.term=f.c.st.term->f.c.role=0)->(if x.term=f.c.st.term then f.follow else f)=f:=fun f h=>by
  split
  ·rename_i q; exact yD (h q)
  rfl
 have o:∀ s:Nd,∃ f:Nd,f=(if x.term=s.c.st.term then s.follow else s)/\(x.term=f.c.st.term->f.c.role=0):=fun s=>by
  refine ⟨_,rfl,?_⟩;split
  ·intro _; rfl
  rename_i q; intro e; exact absurd e q
 obtain ⟨f,i,d⟩:=o s;unfold pn;dsimp only;rw [<- i];cases ok with
 | false=>
  simp only [Bool.false_eq_true,if_false];rw [a f d]
 | true=>
  rw [if_pos rfl,if_pos rfl];dsimp only;have j:=qQ ({ f with c:={ f.c with commit:=max f.c.commit (min x.c up) } }:Nd);have p:=tK ({ f with c:={ f.c with commit:=max f.c.commit (min x.c up) } }:Nd);generalize ({ f with c:={ f.c with commit:=max f.c.commit (min x.c up) } }:Nd).apply=g at *;have r:x.term=g.c.st.term->g.c.role=0:=fun e=>by rw [j] at e ⊢; exact d e
  rw [a g r,aez (n:=g) (by rw [j]; dsimp only; omega),p];have e:nQ g.c 4 x.frm=nQ f.c 4 x.frm:=by rw [j]; rfl
  rw [e]
def zj (a:(ay n.c.st x).2.2.2=0) (d:n.aJ (ay n.c.st x).1=0):aM n x=pn (n.save (ay n.c.st x).1) x (ay n.c.st x).2.1 (ay n.c.st x).2.2.1:=by
 rw [aM,if_neg aL,if_neg aL]; rfl
theorem adS {s:Nd} {ok:Bool} {up:Int}:(pn s x ok up).n.c.st=s.c.st/\(pn s x ok up).n.c.me=s.c.me/\(pn s x ok up).n.c.many=s.c.many/\(pn s x ok up).n.d=s.d/\(pn s x ok up).e=0:=by
 have h:∀ f:Nd,f=s.follow\/f=s->f.c.st=s.c.st/\f.c.me=s.c.me/\f.c.many=s.c.many/\f.d=s.d:=fun f h=>by rcases h with rfl | rfl <;> exact ⟨rfl,rfl,rfl,rfl⟩
 have o:∃ f:Nd,f=(if x.term=s.c.st.term then s.follow else s)/\(f=s.follow\/f=s):=⟨_,rfl,by split <;> simp⟩;obtain ⟨f,a,g⟩:=o;obtain ⟨p,q,r,i⟩:=h f g;unfold pn;dsimp only;rw [<- a];split
 ·have j:=GY (({ f with c:={ f.c with commit:=max f.c.commit (min x.c up) } }:Nd).c.commit - ({ f with c:={ f.c with commit:=max f.c.commit (min x.c up) } }:Nd).c.applied).toNat ({ f with c:={ f.c with commit:=max f.c.commit (min x.c up) } }:Nd);have u:=j.1;have v:=j.2.1;refine ⟨?_,?_,?_,v.trans i,rfl⟩ <;> (unfold Nd.apply; rw [u]; assumption)
 exact ⟨p,q,r,i,rfl⟩
def HC (h:NInv m L) (A:m.d.down=false) (D:cq m.c x=true) (F:x.kind=3) :
  ((aM m x).e≠0->(aM m x).l=[]/\((aM m x).n=m\/(aM m x).n.d.down=true)) /\
  ((aM m x).e=0->(aM m x).n.d.down=false/\cq (aM m x).n.c x=true/\(m.c.st.term<=x.term->x.term<=(aM m x).n.c.st.term)/\(x.term<=m.c.st.term->x.term<=(aM m x).n.c.st.term)/\aM (aM m x).n x=⟨(aM m x).n,(aM m x).l,0⟩):=by
 obtain ⟨g,G⟩:=oI D;obtain ⟨i,O⟩:=G F;have P:=eu g.may;have p:(ay m.c.st x).1.length<=6:=by
  rcases (cZ i).2 with ⟨_,e⟩ | ⟨_,_,e⟩ | ⟨_,_,e⟩ <;> rw [e]
  ·simp
  ·exact pA g.may
  have:=eO (s:=m.c.st) (t:=x.term); dsimp only; omega
 have w:∀ r ∈ (ay m.c.st x).1,r.kind=3->1<=r.b:=by
  rcases (cZ i).2 with ⟨_,e⟩ | ⟨_,_,e⟩ | ⟨_,_,e⟩ <;> rw [e]
  ·intro r H; cases H
  ·exact Fo g.may
  exact iI
 by_cases u:m.aJ (ay m.c.st x).1=0
 ·have y:=gL h A p w u;have e:=zj i u;have t:=PJ i h.ok.log h.ok.term.1;rw [<- y.st] at t;have f:x.term<=(m.save (ay m.c.st x).1).c.st.term:=by
   rw [y.st];rcases (cZ i).2 with ⟨z,e⟩ | ⟨z,j,e⟩ | ⟨z,_,e⟩
   ·rw [e];show x.term<=m.c.st.term; omega
   ·rw [e];show x.term<=(stepsF m.c.st (gA m.c.st x)).1.term;rw [(xc g.may h.ok.log (cZ i).1.2.2 z j aL aL aL).1];exact afI _
   rw [e];show x.term<=(stepsF m.c.st (az m.c.st x.term)).1.term;rw [(hU (s:=m.c.st) (t:=x.term) aL aL).1];show x.term<=max _ _; omega
  generalize B:m.save (ay m.c.st x).1=S at *;generalize (ay m.c.st x).2.1=ok at *;generalize (ay m.c.st x).2.2.1=up at *;obtain ⟨o,I,J,K,v⟩:=adS (x:=x) (s:=S) (ok:=ok) (up:=up);have C:S.c.me=m.c.me/\S.c.many=m.c.many:=by rw [<- B]; exact ⟨rfl,rfl⟩
  rw [e];refine ⟨fun q=>absurd v q,fun _=>⟨by rw [K,<- B]; exact y.dn,?_,fun _=>by rw [o]; exact f,fun _=>by rw [o]; exact f,?_⟩⟩
  ·unfold cq;rw [if_neg (by rw [I,J,C.1,C.2]; have:=g.may; have:=g.to; have:=g.frm; omega),if_neg aL,o,t];simp
  have j:=zj (n:=(pn S x ok up).n) (x:=x) (by rw [o,t]) (by rw [o,t]; exact (nj _).2);rw [o,t,(nj _).1] at j;dsimp only at j;rw [Md] at j;rw [j];cases N:pn S x ok up with
  | mk a b c=>rw [N] at v; dsimp only at v ⊢; rw [v]
 have e:aM m x=⟨m.save (ay m.c.st x).1,[],m.aJ (ay m.c.st x).1⟩:=by rw [aM,if_neg aL,if_pos u]
 rw [e];exact ⟨fun _=>⟨rfl,qX h A u⟩,fun q=>absurd q u⟩
def aaD (h:x.term<=n.c.st.term):az n.c.st x.term=[]:=by unfold az; rw [if_pos h]
def aek (h:x.term<=n.c.st.term):n.save (az n.c.st x.term)=n/\n.aJ (az n.c.st x.term)=0:=by rw [aaD h]; exact nj n
def XS (d:x.term<=n.c.st.term) (h:¬ x.term=n.c.st.term\/n.c.role=0):answeredF n x=⟨n,[],0⟩:=by
 obtain ⟨a,e⟩:=aek d;have:=SV e (by rw [a]; exact h);rwa [a] at this
def Bk (n:Nd) (x:Letter):Nd:=⟨n.c,n.d,n.rp,n.vs,n.bn.set x.frm.toNat x.bin,n.nx,n.mt⟩
def Nc (n:Nd) (x:Letter):Nd:=⟨n.c,n.d,n.rp,n.vs.set x.frm.toNat true,n.bn.set x.frm.toNat x.bin,n.nx,n.mt⟩
def BB (d:x.term=n.c.st.term) (e:¬ n.c.role=0):answeredF n x=if (x.kind=2/\x.ok=true)/\n.c.role=1 then (if mz (Nc n x).vs=true then dj (Nc n x) else ⟨Nc n x,[],0⟩)
  else if x.kind=4/\n.c.role=2 then eJ (Bk n x) x else ⟨Bk n x,[],0⟩:=by
 obtain ⟨a,f⟩:=aek (n:=n) (x:=x) aL;have:=JD f (by rw [a]; exact d) (by rw [a]; exact e);unfold YE Re at this;rw [a] at this;exact this
def ZD:∀ {l:List Int},(cc n l).2≠0->(cc n l).1=[]
 | [],h=>absurd rfl h
 | to :: l,h=>by
  rw [cc] at h ⊢;split
  ·rename_i a;rw [if_pos a] at h;split
   ·rename_i c; rw [if_pos c] at h; exact absurd rfl h
   rfl
  rfl
def FK (h:(bN n).2≠0):(bN n).1=[]:=by
 unfold bN at h ⊢;split
 ·rfl
 rename_i a;rw [if_neg a] at h;split
 ·rename_i c; rw [if_pos c] at h; exact ZD h
 rfl
def OF (h:NInv n L) (g:n.d.down=false) (o:n.c.role=1):NInv { n with c:={ n.c with role:=2 },nx:=List.replicate n.nx.length ((n.c.st.log.length:Int)+1),mt:=List.replicate n.mt.length 0 } L:=by
 have a:=h.up g;have j:=a.vote aL;have e:=h.ok.len.resolve_left aL;exact ⟨⟨h.ok.d,h.ok.many,h.ok.me,h.ok.log,h.ok.term,h.ok.com,.inr ⟨e.1,e.2.1,by dsimp only; rw [afF]; exact e.2.2.1,by dsimp only; rw [afF]; exact e.2.2.2⟩,h.ok.rp⟩,h.d,h.le,fun _=>
   ⟨a.st,a.bin,⟨(by decide:(0:Int)<=2),(by decide:(2:Int)<=2)⟩,fun _=>j,fun _ i f=>by
    dsimp only at f ⊢;rw [zx aL]; omega,a.pl⟩⟩
def Ug (h:NInv n L) (i:n.d.down=false) (j:n.c.role=1):((dj n).e≠0->(dj n).l=[]) /\
  ((dj n).n.d.down=true/\(dj n).e≠0\/(dj n).n.d.down=false/\(dj n).n.c.role=2/\(dj n).n.c.st.term=n.c.st.term/\(dj n).n.c.me=n.c.me/\(dj n).n.c.many=n.c.many):=by
 have o:=OF h i j;have v:=(h.up i).vote aL;obtain ⟨m,em⟩:∃ m:Nd,m={ n with c:={ n.c with role:=2 },nx:=List.replicate n.nx.length ((n.c.st.log.length:Int)+1),mt:=List.replicate n.mt.length 0 }:=⟨_,rfl⟩;unfold dj;dsimp only;rw [<- em] at o ⊢;have a:m.d.down=false/\m.c.role=2/\m.c.st=n.c.st/\m.c.me=n.c.me/\m.c.many=n.c.many:=by rw [em]; exact ⟨i,rfl,rfl,rfl,rfl⟩
 obtain ⟨a,p,g,s,u⟩:=a;split
 ·by_cases f:m.aJ [⟨3,(n.c.st.log.length:Int)+1,n.c.st.term,[]⟩]=0
  ·rw [if_pos f];have y:=gL o a aa (fun r j e=>by rw [ab7.1 j]; exact v.2) f;refine ⟨FK,.inr ⟨y.dn,p,?_,s,u⟩⟩;show (m.save _).c.st.term=_;have e:=uP f;rw [g] at e;rw [y.st,g,Bi e]
  rw [if_neg f];refine ⟨fun _=>rfl,?_⟩;rcases qX o a f with q | q
  ·right;change (m.save _).d.down=false/\(m.save _).c.role=2/\(m.save _).c.st.term=n.c.st.term/\(m.save _).c.me=n.c.me/\(m.save _).c.many=n.c.many;rw [q];exact ⟨a,p,by rw [g],s,u⟩
  exact .inl ⟨q,f⟩
 exact ⟨FK,.inr ⟨a,p,by rw [g],s,u⟩⟩
theorem yx {q:List Int}:∀ {k:Nat} {n:Nd},({ n with nx:=q }:Nd).bw k={ n.bw k with nx:=q }
 | 0,_=>rfl
 | k+1,n=>by
  simp only [Nd.bw];split
  ·split
   ·exact yx (n:=⟨⟨_,_,_,_,_,_,_,_⟩,_,_,_,_,n.nx,_⟩)
   rfl
  rfl
def DT:(eJ n x).n=(n.qz x).apply:=by
 unfold eJ;dsimp only;split
 ·rfl
 split <;> rfl
def wN (n:Nd):n.apply.d=n.d/\n.apply.bn=n.bn/\n.apply.mt=n.mt/\n.apply.nx=n.nx/\n.apply.vs=n.vs:=by
 have h:=GY (n.c.commit - n.c.applied).toNat n;exact ⟨h.2.1,h.2.2.2.1,h.2.2.2.2.2,h.2.2.2.2.1,h.2.2.1⟩
def QM (h:NInv n L) (g:n.d.down=false) (i:n.c.role=2) (p:0<=x.a) (j:x.frm≠n.c.me/\0<=x.frm/\x.frm<n.c.many):(eJ n x).e=0/\∃ L',NInv (n.qz x).apply L':=by
 obtain ⟨L',k⟩:=ME h g i p j;have f:=k.inv;rw [DT] at f;refine ⟨?_,L',f⟩;have o:=qQ (n.qz x);have c:=ahA (to:=x.frm) f (by rw [(wN _).1]; exact g) (by rw [o]; exact i) (by rw [o]; exact j);unfold eJ;dsimp only;split
 ·rfl
 first | rfl | rw [if_pos c]
def NI {s:Stable} {l:List Int}:iN s l (iN s l k)=iN s l k:=by
 unfold iN;split
 ·rename_i h;rw [if_neg aL]
 first | rfl | (rename_i h; rw [if_neg h])
def TU (o:x.frm.toNat<n.mt.length):∃ q,(n.qz x).apply.qz x={ (n.qz x).apply with nx:=q }:=by
 have f:=qQ (n.qz x);obtain ⟨_,_,j,_⟩:=wN (n.qz x);generalize w:(n.qz x).apply=g at *;have p:(if x.ok=true then g.mt.set x.frm.toNat (max (g.mt.getD x.frm.toNat 0) (min x.a (g.c.st.log.length:Int))) else g.mt)=g.mt:=by
  split
  ·rename_i h;have e:g.mt=n.mt.set x.frm.toNat (max (n.mt.getD x.frm.toNat 0) (min x.a (n.c.st.log.length:Int))):=by rw [j]; show (if x.ok=true then _ else _)=_; rw [if_pos h]
   have i:g.c.st=n.c.st:=by rw [f]; rfl
   have r:g.mt.getD x.frm.toNat 0=max (n.mt.getD x.frm.toNat 0) (min x.a (n.c.st.log.length:Int)):=by rw [e,List.getD_eq_getElem?_getD,afw o]; rfl
   rw [r,i,e,List.set_set];congr 1; omega
  rfl
 refine ⟨(g.qz x).nx,?_⟩;have i:iN g.c.st (g.mt.set g.c.me.toNat (g.c.st.log.length:Int)) g.c.commit=g.c.commit:=by
  have s:g.c.commit=(n.qz x).c.commit:=by rw [f]
  have u:g.c.st=n.c.st:=by rw [f]; rfl
  have v:g.c.me=n.c.me:=by rw [f]; rfl
  rw [s,u,v,j];exact NI
 show (⟨{ g.c with commit:=iN g.c.st ((if x.ok=true then _ else g.mt).set g.c.me.toNat (g.c.st.log.length:Int)) g.c.commit },g.d,g.rp,g.vs,g.bn,_,if x.ok=true then _ else g.mt⟩:Nd)=_;rw [p,i];rfl
structure AnG (m g:Nd) (x:Letter):Prop where
 up:g.d.down=false
 t:x.term<=g.c.st.term
 me:g.c.me=m.c.me/\g.c.many=m.c.many
 site:siteF (answeredF g x).n=siteF g
 d:(answeredF g x).n.d=g.d
 e:(answeredF g x).e=0
def Am (h:NInv m L) (p:m.d.down=false) (I:ForMe m x) (hr:m.c.role≠0->x.term<=m.c.st.term) :
  ((answeredF m x).e≠0->(answeredF m x).l=[]/\((answeredF m x).n=m\/(answeredF m x).n.d.down=true\/AnG m (answeredF m x).n x/\(answeredF (answeredF m x).n x).l=[])) /\
  ((answeredF m x).e=0->AnG m (answeredF m x).n x):=by
 have hb:=eu I.may;have hne:=lM I.may;have A:x.frm≠m.c.me/\0<=x.frm/\x.frm<m.c.many:=⟨by have:=I.to; omega,aL,I.frm⟩;have w:=h.up p;have B:(az m.c.st x.term).length<=6:=Nat.le_trans eO am;have r:∀ g:Nd,g.d.down=false->g.c.me=m.c.me->g.c.many=m.c.many->x.term<=g.c.st.term->(¬ x.term=g.c.st.term\/g.c.role=0)->AnG m g x:=fun g C J K N T=>by
  have q:=XS N T;exact ⟨C,N,⟨J,K⟩,by rw [q],by rw [q],by rw [q]⟩
 by_cases j:m.c.role=0
 ·by_cases D:m.aJ (az m.c.st x.term)=0
  ·have y:=gL h p B iI D;have Y:=y.st;rw [(hU (s:=m.c.st) (t:=x.term) aL aL).1] at Y;have q:=SV (n:=m) (x:=x) D (.inr j);rw [q];exact ⟨fun q=>absurd rfl q,fun _=>r _ y.dn rfl rfl (by show x.term<=(m.save _).c.st.term; rw [Y]; show x.term<=max _ _; omega) (.inr j)⟩
  rw [X_ D];exact ⟨fun _=>⟨rfl,(qX h p D).imp_right .inl⟩,fun q=>absurd q D⟩
 have F:=hr j;by_cases u:x.term=m.c.st.term;case neg=>
  rw [XS F (.inl u)];exact ⟨fun q=>absurd rfl q,fun _=>r m p rfl rfl F (.inl u)⟩
 have e:=BB u j;have U:=h.ok.len.resolve_left j;have f:∀ {V:Type} {l:List V} {i:Nat} {a:V},(l.set i a).set i a=l.set i a:=fun {V l i a}=>List.set_set ..;have Z:∀ {vs:List Bool},vs.length=m.vs.length->NInv ⟨m.c,m.d,m.rp,vs,m.bn.set x.frm.toNat x.bin,m.nx,m.mt⟩ L:=fun {vs} hv=>
  ⟨⟨h.ok.d,h.ok.many,h.ok.me,h.ok.log,h.ok.term,h.ok.com,.inr ⟨by dsimp only; rw [hv]; exact U.1,by dsimp only; rw [afx]; exact U.2.1,U.2.2⟩,h.ok.rp⟩,h.d,h.le,fun _=>⟨w.st,w.bin,w.role,w.vote,w.nx,w.pl⟩⟩
 by_cases z:(x.kind=2/\x.ok=true)/\m.c.role=1
 ·rw [if_pos z] at e;by_cases o:mz (Nc m x).vs=true
  ·rw [if_pos o] at e;rw [e];obtain ⟨O,v⟩:=Ug (n:=Nc m x) (Z (vs:=m.vs.set x.frm.toNat true) afx) p z.2;have G:∀ g:Nd,g.d.down=false->g.c.role=2->g.c.st.term=m.c.st.term->g.c.me=m.c.me->g.c.many=m.c.many->AnG m g x/\(answeredF g x).l=[]:=fun g C J K N T=>by
    have q:=BB (n:=g) (x:=x) (by rw [K]; exact u) aL;rw [if_neg aL,if_neg aL] at q;exact ⟨⟨C,aL,⟨N,T⟩,by rw [q]; rfl,by rw [q]; rfl,by rw [q]⟩,by rw [q]⟩
   rcases v with ⟨v,W⟩ | ⟨v,W,k4,k5,k6⟩
   ·exact ⟨fun q=>⟨O q,.inr (.inl v)⟩,fun q=>absurd q W⟩
   have b:=G _ v W k4 k5 k6;exact ⟨fun q=>⟨O q,.inr (.inr b)⟩,fun _=>b.1⟩
  rw [if_neg o] at e;rw [e];have q:=BB (n:=Nc m x) (x:=x) u j;have ea:Nc (Nc m x) x=Nc m x:=by unfold Nc; rw [f,f]
  rw [if_pos (show (x.kind=2/\x.ok=true)/\(Nc m x).c.role=1 from z),ea,if_neg o] at q;exact ⟨fun q=>absurd rfl q,fun _=>⟨p,F,⟨rfl,rfl⟩,by rw [q],by rw [q],by rw [q]⟩⟩
 rw [if_neg z] at e;have eb:Bk (Bk m x) x=Bk m x:=by unfold Bk; rw [f]
 by_cases o:x.kind=4/\m.c.role=2
 ·rw [if_pos o] at e;obtain ⟨O,L',v⟩:=QM (n:=Bk m x) (x:=x) (Z (vs:=m.vs) rfl) p o.2 aL A;rw [e,DT];refine ⟨fun q=>absurd O q,fun _=>?_⟩;have hg:=qQ ((Bk m x).qz x);obtain ⟨C,J,K,_⟩:=wN ((Bk m x).qz x);obtain ⟨q,hq⟩:=TU (n:=Bk m x) (x:=x) (by show x.frm.toNat<m.mt.length; omega);have X:=tK ((Bk m x).qz x);generalize ((Bk m x).qz x).apply=g at *;have P:g.c.st=m.c.st/\g.c.role=m.c.role/\g.c.me=m.c.me/\g.c.many=m.c.many:=by rw [hg]; exact ⟨rfl,rfl,rfl,rfl⟩
  obtain ⟨P,Q,k,c4⟩:=P;have gB:Bk g x=g:=by
   unfold Bk;rw [show g.bn.set x.frm.toNat x.bin=g.bn by rw [J]; exact f]
  have S:=BB (n:=g) (x:=x) (by rw [P]; exact u) (by rw [Q]; exact j);rw [if_neg (by rw [Q]; exact z),if_pos (by rw [Q]; exact o),gB] at S;have H:g.d.down=false:=by rw [C]; exact p
  obtain ⟨d1,_⟩:=QM (n:=g) (x:=x) v H (by rw [Q]; exact o.2) aL (by rw [k,c4]; exact A);have d2:(eJ g x).n={ g with nx:=q }:=by
   rw [DT,hq];have:({ g with nx:=q }:Nd).apply={ g.apply with nx:=q }:=yx;rw [this,X]
  exact ⟨H,by rw [P]; exact F,⟨k,c4⟩,by rw [S,d2]; rfl,by rw [S,d2],by rw [S]; exact d1⟩
 rw [if_neg o] at e;rw [e];have q:=BB (n:=Bk m x) (x:=x) u j;rw [if_neg (show ¬ ((x.kind=2/\x.ok=true)/\(Bk m x).c.role=1) from z),if_neg (show ¬ (x.kind=4/\(Bk m x).c.role=2) from o),eb] at q;exact ⟨fun q=>absurd rfl q,fun _=>⟨p,F,⟨rfl,rfl⟩,by rw [q],by rw [q],by rw [q]⟩⟩
def ku (m:Nd) (x:Letter):NdR:=if x.kind=1 then ba m x else if x.kind=3 then aM m x else answeredF m x
def Ft (a:m.d.down=false) (e:cq m.c x=true) (g:m.c.st.term<x.term->m.c.role=0):au m x=ku m x:=by
 by_cases f:m.c.st.term<x.term
 ·rw [DU a e f,yD (g f)]; rfl
 rw [DQ a e aL]; rfl
def XF {g:Nd} (a:ForMe m x) (h:g.c.me=m.c.me/\g.c.many=m.c.many) (d:¬ x.kind=3):cq g.c x=true:=by
 unfold cq;rw [if_neg (by rw [h.1,h.2]; have:=a.may; have:=a.to; have:=a.frm; omega),if_pos d]
structure TwR (a b:NdR) (x:Letter):Prop where
 no:a.e≠0->siteF b.n=siteF a.n/\a.l=[]/\b.l=[]
 yes:a.e=0->siteF b.n=siteF a.n/\b.e=0/\b.n.d.b=a.n.d.b/\(x.kind=1\/x.kind=3->b.l=a.l)
def acu (h:NInv m L) (s:m.d.down=false) (A:cq m.c x=true) (B:m.c.st.term<x.term->m.c.role=0):TwR (ku m x) (au (ku m x).n x) x:=by
 have u:=(oI A).1;have same:(ku m x).e≠0->(ku m x).l=[]->(ku m x).n=m->TwR (ku m x) (au (ku m x).n x) x:=fun v j w=>
  ⟨fun _=>by rw [w,Ft s A B,w]; exact ⟨rfl,j,j⟩,fun q=>absurd q v⟩
 have i:(ku m x).e≠0->(ku m x).l=[]->(ku m x).n.d.down=true->TwR (ku m x) (au (ku m x).n x) x:=fun v j w=>
  ⟨fun _=>by rw [QJ w]; exact ⟨rfl,j,rfl⟩,fun q=>absurd q v⟩
 have lo:∀ {g:Nd},x.term<=g.c.st.term->g.c.st.term<x.term->g.c.role=0:=fun v j=>by omega
 by_cases y:x.kind=1
 ·have e:∀ g,ku g x=ba g x:=fun g=>if_pos y;obtain ⟨o,p⟩:=Lf h s u y B;by_cases a:(ba m x).e=0
  ·obtain ⟨f,b2,C,D⟩:=p a;refine ⟨fun q=>absurd (by rw [e]; exact a) q,fun _=>?_⟩;rw [e m,Ft f (XF u C aL) (lo b2),e,D];exact ⟨rfl,rfl,rfl,fun _=>rfl⟩
  obtain ⟨f,b2⟩:=o a;rcases b2 with b2 | b2
  ·exact same (by rw [e]; exact a) (by rw [e]; exact f) (by rw [e]; exact b2)
  exact i (by rw [e]; exact a) (by rw [e]; exact f) (by rw [e]; exact b2)
 by_cases z:x.kind=3
 ·have e:∀ g,ku g x=aM g x:=fun g=>(if_neg y).trans (if_pos z);obtain ⟨o,p⟩:=HC h s A z;by_cases a:(aM m x).e=0
  ·obtain ⟨f,b2,C,F,D⟩:=p a;have G:x.term<=(aM m x).n.c.st.term:=by
    by_cases q:m.c.st.term<=x.term
    ·exact C q
    exact F aL
   refine ⟨fun q=>absurd (by rw [e]; exact a) q,fun _=>?_⟩;rw [e m,Ft f b2 (lo G),e,D];exact ⟨rfl,rfl,rfl,fun _=>rfl⟩
  obtain ⟨f,b2⟩:=o a;rcases b2 with b2 | b2
  ·exact same (by rw [e]; exact a) (by rw [e]; exact f) (by rw [e]; exact b2)
  exact i (by rw [e]; exact a) (by rw [e]; exact f) (by rw [e]; exact b2)
 have e:∀ g,ku g x=answeredF g x:=fun g=>(if_neg y).trans (if_neg z);obtain ⟨o,p⟩:=Am h s u (fun H=>by
  by_cases q:m.c.st.term<x.term
  ·exact absurd (B q) H
  omega)
 have r:∀ {g:Nd},AnG m g x->au g x=answeredF g x:=fun q=>by rw [Ft q.up (XF u q.me z) (lo q.t),e]
 by_cases a:(answeredF m x).e=0
 ·have q:=p a;refine ⟨fun q=>absurd (by rw [e]; exact a) q,fun _=>?_⟩;rw [e m,r q];exact ⟨q.site,q.e,by rw [q.d],fun k=>by omega⟩
 obtain ⟨f,b2⟩:=o a;rcases b2 with b2 | b2 | ⟨q,b2⟩
 ·exact same (by rw [e]; exact a) (by rw [e]; exact f) (by rw [e]; exact b2)
 ·exact i (by rw [e]; exact a) (by rw [e]; exact f) (by rw [e]; exact b2)
 refine ⟨fun _=>?_,fun q=>absurd (by rw [e] at q; exact q) a⟩;rw [e m,r q];exact ⟨q.site,f,b2⟩
def Si (h:NInv n L):TwR (au n x) (au (au n x).n x) x:=by
 cases a:n.d.down;case true=>
  rw [QJ a]; dsimp only; rw [QJ a];exact ⟨fun _=>⟨rfl,rfl,rfl⟩,fun q=>absurd q (by show ¬ (30:Int)=0; decide)⟩
 cases e:cq n.c x
 ·rw [SZ a e]; dsimp only; rw [SZ a e];exact ⟨fun _=>⟨rfl,rfl,rfl⟩,fun q=>absurd q (by show ¬ (1:Int)=0; decide)⟩
 by_cases f:n.c.st.term<x.term
 ·rw [show au n x=ku n.follow x from DU a e f];exact acu h.follow a (aaM e) fun _=>rfl
 rw [show au n x=ku n x from DQ a e aL];exact acu h a e fun q=>absurd q f
end
variable {k:Nat} {l:List Entry}
def acx {y:Entry} (a:l[k]? = some y):(l.take k).map (fun z:Entry=>(⟨z.term,z.b.take 250⟩:Entry))++[Entry.mk y.term (y.b.take 250)]=(l.take (k+1)).map (fun z:Entry=>(⟨z.term,z.b.take 250⟩:Entry)):=by
 rw [ai a,List.map_append]; rfl
def agK {y:Entry} (a:l[k]? = some y) (h:(y.b.length:Int)<=250):(l.take k).map (fun z:Entry=>(⟨z.term,z.b.take 250⟩:Entry))++[y]=(l.take (k+1)).map (fun z:Entry=>(⟨z.term,z.b.take 250⟩:Entry)):=by
 rw [<- acx a,List.take_of_length_le (l:=y.b) aL]
def ajy (a:k<=6) (h:(l.length:Int)<=k\/6<=(k:Int)):(l.take k).map (fun z:Entry=>(⟨z.term,z.b.take 250⟩:Entry))=(l.take 6).map (fun z:Entry=>(⟨z.term,z.b.take 250⟩:Entry)):=by
 by_cases e:k=6
 ·rw [e]
 rw [List.take_of_length_le aL,List.take_of_length_le aL]
def aci:NInv (iF 0 3) []:=FL ⟨am,am,am,am⟩
abbrev sw1:NdR:=aX (iF 0 3) 1
abbrev sw2:=bm sw1.n
def ajs:NdOK sw1.n:=let ⟨_,h⟩:=Ed (b:=1) aci; h.inv.ok
def aiB:(decide (sw1.e=0) && decide (sw2.e=0) && decide ((sw2.l.length:Int)=2) && decide ((sw2.l.getD 0 (ak (.nm .letter))).kind=1) && decide ((sw2.l.getD 1 (ak (.nm .letter))).to=2) && decide ((sw2.l.getD 0 (ak (.nm .letter))).term=1) && decide ((siteF sw2.n).role=1))=true:=bK
def HN (x:Letter):List (Nat × LI):=[(3,{ σ:=Nat,F:=fun k=>([(1,one (.ptr 0 0)),(2,one (.ptr 1 0)),(3,one (.own 2)),(4,one (.int k))],[.box 40 (cellsOf (.nm .letter) (x)),.box 40 (cellsOf (.nm .letter) (cH)),.row 52 (.nm .entry) (((x.l.take k).map (fun z:Entry=>(⟨z.term,z.b.take 250⟩:Entry))))]),J:=fun k=>k<=x.l.length/\k<=6,μ:=fun k=>6 - k })]
def ug:Kn:=aN (ae (kT (.nm .letter)) aq) ax fun (x,_) _=>⟨[],[.agg (cellsOf (.nm .letter) (sa x))],none,false⟩
theorem CX:CK 23 ug:=ah fun (x,_) _ _=>by
 refine aw kM (HN x) Tryz.func23 (?_:(fun (g:Nat)=>(fun (h:Nat)=>(fun (e:Int)=>aK x (∃ (j:Nat),(e=(↑j:Int)/\fM x x (e=cH.kind/\e=cH.frm/\e=cH.to/\e=cH.term/\e=cH.a/\e=cH.b/\e=cH.c/\e=cH.bin/\false=cH.ok/\cH.l=[]/\List.map (fun (z:Entry)=>Entry.mk z.term (List.take h z.b)) (List.take j x.l)=[]))/\(j<=x.l.length/\j<=g)/\∀ (s:Nat),(fun (o:Int)=>(fun (i:List (den (Sh.nm NT.entry)))=>s<=x.l.length/\s<=g->((↑s:Int)<(↑x.l.length:Int)/\(↑s:Int)<6->e<=(↑s:Int)/\(↑s:Int)<(↑x.l.length:Int)/\∀ (d:Entry),x.l[s]? = some d->I64 d.term->d.b.length*1<=140737488355328->(250<(↑d.b.length:Int)->e<=250/\250<=(↑d.b.length:Int)/\(i.length+[Entry.mk d.term (List.take h d.b)].length)*32<=140737488355328/\I64 o/\∃ (f:Nat),(o=(↑f:Int)/\fM x x (fM cH cH (i++[Entry.mk d.term (List.take h d.b)]=List.map (fun (z:Entry)=>Entry.mk z.term (List.take h z.b)) (List.take f x.l))))/\(f <= x.l.length/\f <= g)/\g - f < g - s)/\((↑d.b.length:Int)<=250->(i.length+[d].length)*32<=140737488355328/\I64 o/\∃ (f:Nat),(o=(↑f:Int)/\fM x x (fM cH cH (i++[d]=List.map (fun (z:Entry)=>Entry.mk z.term (List.take h z.b)) (List.take f x.l))))/\(f <= x.l.length/\f <= g)/\g - f < g - s))/\((↑x.l.length:Int)<=(↑s:Int)\/6<=(↑s:Int)->As (Letter.mk x.kind x.frm x.to x.term x.a x.b x.c x.bin x.ok i) (sa x))) (List.map (fun (z:Entry)=>Entry.mk z.term (List.take h z.b)) (List.take s x.l))) ((↑s:Int)+1))) 0) 250) 6);iterate 3 ((all_goals (repeat' with_reducible first|apply bh|refine bg ?_|intro)); (all_goals try (first | exact br | exact rfl | exact (acx ab) | exact (agK ab ab) | exact (ajy aL ab) | (simp only [List.length_map,List.length_take,List.length_cons,List.length_nil]; omega))); all_goals try first | refine ⟨‹Nat› + 1,?_⟩ | refine ⟨0,?_⟩)
def FH:Kn:=aN (ae (kT (.nm .command)) aq) ax fun (c,_) _=>⟨[],[.agg (cellsOf (.nm .command) (mc c))],none,false⟩
def VH:CK 32 FH:=ah fun (c,_) _ _=>by
 refine aw kM [] Tryz.func32 (?_:(fun e=>(fun a=>(fun d=>bC c (((12:Int)<e->(0:Int)<=(12:Int)/\(12:Int)<=e/\(a<d->(0:Int)<=a/\a<=d/\aR (Command.mk c.kind c.client c.seq c.set c.id c.n (List.take (12:Nat) c.chunks) (Str.mk (List.take (40:Nat) c.text.b))) (mc c))/\(d<=a->aR (Command.mk c.kind c.client c.seq c.set c.id c.n (List.take (12:Nat) c.chunks) c.text) (mc c)))/\(e<=(12:Int)->(a<d->(0:Int)<=a/\a<=d/\aR (Command.mk c.kind c.client c.seq c.set c.id c.n c.chunks (Str.mk (List.take (40:Nat) c.text.b))) (mc c))/\(d<=a->aR c (mc c))))) (↑c.text.b.length:Int)) (40:Int)) (↑c.chunks.length:Int));(repeat' with_reducible first|apply bh|refine bg ?_|intro)
 all_goals (first | exact br | exact rfl | (dsimp only [mc]; first | exact (List.take_of_length_le aL).symm | exact Qb aL))
def FU:Kn:=aN (ae (kC (cL (.nm .nop))) aq) ax fun (l,_) _=>⟨[],[.c (.fz (.nm .nop) ((l.take 40)))],none,false⟩
def Sd:CK 18 FU:=ah fun (l,_) _ _=>by
 refine aw kM [] Tryz.func18 (?_:l.length*(200:Nat)<=(140737488355328:Nat)->((40:Int)<(↑l.length:Int)->(0:Int)<=(40:Int)/\(40:Int)<=(↑l.length:Int)/\List.take (40:Nat) l=List.take (40:Nat) l)/\((↑l.length:Int)<=(40:Int)->l=List.take (40:Nat) l));(repeat' with_reducible first|apply bh|refine bg ?_|intro)
 all_goals (first | exact br | exact rfl | exact (List.take_of_length_le aL).symm)
def vJ:Kn:=aN aq ax fun _ _=>⟨[],[.c (.bool (.atom ((true))))],none,false⟩
theorem HX:CK 11 vJ:=ah fun _ _ _=>by
 refine aw kM [] Tryz.func11 (?_:(fun v=>(fun q=>(fun z=>(fun o=>(fun B=>(fun C=>(fun g=>(fun w=>(fun A=>(fun p=>(fun j=>(fun r=>(fun h=>(fun i=>(fun f=>(fun d=>(fun y=>(fun s=>(fun u=>(v<=v/\v<=5/\g<=g/\g<v)/\(I64 g->(false=true\/¬g=g->false=true)/\(false=false/\g=g->NdOK (iF g v)/\(I64 w.e->NdOK w.n/\(p.l.length*96<=q->I64 p.e->(r->g<=g/\g<j)/\((r->y)->(s->g<=o/\o<j)/\((s->I64 f.kind/\I64 f.frm/\I64 f.to/\I64 f.term/\I64 f.a/\I64 f.b/\I64 f.c/\I64 f.bin/\f.l.length*32<=q)->(u->g<=g/\g<j)/\((u->y)->(u/\d.term=o->I64 h.role/\I64 h.binary/\I64 h.floor/\I64 h.term/\I64 h.vote/\I64 h.commit/\I64 h.applied/\h.log.length*32<=q/\I64 i.version/\I64 i.next/\I64 i.keep/\I64 i.quota/\i.sess.length*32<=q/\i.opens.length*16<=q/\i.snaps.length*64<=q)->(decide (w.e=g) && decide (p.e=g) && decide (j=z) && decide (d.kind=o) && decide (f.to=z) && decide (d.term=o) && decide (h.role=o))=true)))))))) (s/\f.to=z)) (r/\d.kind=o)) (I64 d.kind/\I64 d.frm/\I64 d.to/\I64 d.term/\I64 d.a/\I64 d.b/\I64 d.c/\I64 d.bin/\d.l.length*32<=q)) (p.l.getD C A)) (p.l.getD B A)) h.state) (siteF p.n)) ((w.e=g/\p.e=g)/\j=z)) (↑p.l.length:Int)) (bm w.n)) (ak (Sh.nm NT.letter))) (aX (iF g v) o)) (0:Int)) (0:Nat)) (1:Nat)) (1:Int)) (2:Int)) (140737488355328:Nat)) (3:Int));(repeat' with_reducible first|apply bh|refine bg ?_|intro)
 all_goals (first | exact br | exact rfl | exact aci.ok | exact ajs | exact aiB | (simp_all; done))
def Xc:bM:=(aP 11 vJ (aP 18 FU (aP 32 FH (aP 23 ug WU))))
def zH:aB Tryz.prog (al tyT) Xc:=(ag HX (ag Sd (ag VH (ag CX kM))))
section
variable {n:Nd} {o:NOp} {k:UInt8}
def o7:(k &&& UInt8.ofNat 7).toNat=k.toNat % 8:=by
 rw [UInt8.toNat_and]; exact Nat.and_two_pow_sub_one_eq_mod k.toNat 3
variable {i:Nat}
def DG (h:((k &&& UInt8.ofNat 7).toNat:Int)=((UInt8.ofNat i).toNat:Int)) (a:i<8):k.toNat % 8=i:=by
 rw [o7,show (UInt8.ofNat i).toNat=i by rw [UInt8.toNat_ofNat']; omega] at h; omega
theorem DI (h:¬((k &&& UInt8.ofNat 7).toNat:Int)=((UInt8.ofNat i).toNat:Int)) (a:i<8):¬k.toNat % 8=i:=by
 rw [o7,show (UInt8.ofNat i).toNat=i by rw [UInt8.toNat_ofNat']; omega] at h; omega
def aja (h:((o.kind &&& UInt8.ofNat 7).toNat:Int)=((UInt8.ofNat 0).toNat:Int)):dg n o=((aX n o.n).n,⟨[],0,0,(aX n o.n).e⟩):=by
 have e:=DG h am; simp [dg,e]
def ajE (h:((o.kind &&& UInt8.ofNat 7).toNat:Int)=((UInt8.ofNat 1).toNat:Int)):dg n o=((bm n).n,⟨(bm n).l,0,0,(bm n).e⟩):=by
 have e:=DG h am; simp [dg,e]
def ahr (h:((o.kind &&& UInt8.ofNat 7).toNat:Int)=((UInt8.ofNat 2).toNat:Int)):dg n o=(n,⟨(bN n).1,0,0,(bN n).2⟩):=by
 have e:=DG h am; simp [dg,e]
def afY (h:((o.kind &&& UInt8.ofNat 7).toNat:Int)=((UInt8.ofNat 3).toNat:Int)):dg n o=((au n (sa o.x)).n,⟨(au n (sa o.x)).l,0,0,(au n (sa o.x)).e⟩):=by
 have e:=DG h am; simp [dg,e]
def agF (h:((o.kind &&& UInt8.ofNat 7).toNat:Int)=((UInt8.ofNat 4).toNat:Int)):dg n o=((cS n (mc o.c)).n,⟨[],(cS n (mc o.c)).a,(cS n (mc o.c)).b,(cS n (mc o.c)).e⟩):=by
 have e:=DG h am; simp [dg,e]
def aiE (h:((o.kind &&& UInt8.ofNat 7).toNat:Int)=((UInt8.ofNat 5).toNat:Int)):dg n o=({ n with d:=⟨n.d.b,n.d.synced,n.d.down,true,o.n⟩ },⟨[],0,0,0⟩):=by
 have e:=DG h am; simp [dg,e]
def aiu (h:((o.kind &&& UInt8.ofNat 7).toNat:Int)=((UInt8.ofNat 6).toNat:Int)):dg n o=({ n with d:=n.d.cF o.n },⟨[],0,0,0⟩):=by
 have e:=DG h am; simp [dg,e]
def aiL (a:¬((o.kind &&& UInt8.ofNat 7).toNat:Int)=((UInt8.ofNat 0).toNat:Int)) (c:¬((o.kind &&& UInt8.ofNat 7).toNat:Int)=((UInt8.ofNat 1).toNat:Int)) (d:¬((o.kind &&& UInt8.ofNat 7).toNat:Int)=((UInt8.ofNat 2).toNat:Int)) (e:¬((o.kind &&& UInt8.ofNat 7).toNat:Int)=((UInt8.ofNat 3).toNat:Int)) (f:¬((o.kind &&& UInt8.ofNat 7).toNat:Int)=((UInt8.ofNat 4).toNat:Int)) (g:¬((o.kind &&& UInt8.ofNat 7).toNat:Int)=((UInt8.ofNat 5).toNat:Int)) (h:¬((o.kind &&& UInt8.ofNat 7).toNat:Int)=((UInt8.ofNat 6).toNat:Int)):dg n o=(n,⟨[],0,0,0⟩):=by
 simp [dg,DI a am,DI c am,DI d am,DI e am,DI f am,DI g am,DI h am]
end
def yB:Kn:=aN (ae (kC (aY 0 0)) (ae (kT (.nm .nop)) aq)) sU fun (_,o,_) n=>⟨[NdOK n],[.agg ([.fz (.nm .letter) (((dg n o).2.l)),.int (((dg n o).2.a)),.int (((dg n o).2.b)),.int (((dg n o).2.e))])],some ((mC ((dg n o).1))),false⟩
def Ot:CK 19 yB:=ah fun (_,o,_) n y=>by
 have w:=cd y;refine bt zH [] Tryz.func19 (?_:(fun s=>(fun u=>(fun i=>(fun j=>(fun p=>(fun f=>(fun v=>(fun q=>(fun r=>(fun g=>XD o ((g=(↑(UInt8.ofNat 0).toNat:Int)->NdOK n/\(I64 (aX n o.n).e->v/\r/\q/\(aX n o.n).e=f.e/\bV (aX n o.n).n i))/\(¬g=(↑(UInt8.ofNat 0).toNat:Int)->(g=(↑(UInt8.ofNat 1).toNat:Int)->NdOK n/\(s.l.length*96<=140737488355328->I64 s.e->s.l=f.l/\r/\q/\s.e=f.e/\bV s.n i))/\(¬g=(↑(UInt8.ofNat 1).toNat:Int)->(g=(↑(UInt8.ofNat 2).toNat:Int)->n.c.many<=5/\(n.c.role=p\/(↑n.nx.length:Int)=n.c.many)/\((bN n).fst.length*96<=140737488355328->I64 (bN n).snd->(bN n).fst=f.l/\r/\q/\(bN n).snd=f.e/\bV n i))/\(¬g=(↑(UInt8.ofNat 2).toNat:Int)->(g=(↑(UInt8.ofNat 3).toNat:Int)->aK (sa o.x) (NdOK n/\(u.l.length*96<=140737488355328->I64 u.e->u.l=f.l/\r/\q/\u.e=f.e/\bV u.n i)))/\(¬g=(↑(UInt8.ofNat 3).toNat:Int)->(g=(↑(UInt8.ofNat 4).toNat:Int)->bC (mc o.c) (NdOK n/\(I64 j.a->I64 j.b->I64 j.e->v/\j.a=f.a/\j.b=f.b/\j.e=f.e/\bV j.n i)))/\(¬g=(↑(UInt8.ofNat 4).toNat:Int)->(g=(↑(UInt8.ofNat 5).toNat:Int)->v/\r/\q/\p=f.e/\bV (Nd.mk n.c (Dsk.mk n.d.b n.d.synced n.d.down true o.n) n.rp n.vs n.bn n.nx n.mt) i)/\(¬g=(↑(UInt8.ofNat 5).toNat:Int)->(g=(↑(UInt8.ofNat 6).toNat:Int)->(p<=n.d.synced/\n.d.synced<=(↑n.d.b.length:Int)/\n.d.b.length<=65536)/\v/\r/\q/\p=f.e/\bV (Nd.mk n.c (n.d.cF o.n) n.rp n.vs n.bn n.nx n.mt) i)/\(¬g=(↑(UInt8.ofNat 6).toNat:Int)->v/\r/\q/\p=f.e/\bV n i))))))))) (↑(o.kind &&& UInt8.ofNat 7).toNat:Int)) (p=f.a)) (p=f.b)) (f.l=[])) (dg n o).snd) (0:Int)) (cS n (mc o.c))) (dg n o).fst) (au n (sa o.x))) (bm n));obtain ⟨z,A,B⟩:=id w.d;(repeat' with_reducible first|apply bh|refine bg ?_|intro)
 all_goals (first | exact br | exact w | exact w.many.2 | exact (w.len.imp_right fun h=>h.2.2.1) | (rw [aja (n:=n) (o:=o) ab] <;> rfl) | (rw [ajE (n:=n) (o:=o) ab] <;> rfl) | (rw [ahr (n:=n) (o:=o) ab] <;> rfl) | (rw [afY (n:=n) (o:=o) ab] <;> rfl) | (rw [agF (n:=n) (o:=o) ab] <;> rfl) | (rw [aiE (n:=n) (o:=o) ab] <;> rfl) | (rw [aiu (n:=n) (o:=o) ab] <;> rfl) | (rw [aiL (n:=n) (o:=o) ab ab ab ab ab ab ab] <;> rfl))
def XA:bM:=(aP 19 yB Xc)
def Bt:aB Tryz.prog (al tyT) XA:=(ag Ot zH)
def ael {x y:Entry} (h:x.term=y.term) (a:Str.mk x.b=Str.mk y.b):x=y:=by
 cases x; cases y; simp only [Str.mk.injEq] at *; subst h; subst a; rfl
section
variable {a b:List Entry} {k:Nat} {d:Entry}
def ag0 (h:a.take k=b.take k) (c:k<a.length) (g:a.length=b.length) (e:(a.getD k d).term=(b.getD k d).term) (f:Str.mk (a.getD k d).b=Str.mk (b.getD k d).b):a.take (k+1)=b.take (k+1):=vf h c aL (ael e f)
def aip (e:¬(a.getD k d).term=(b.getD k d).term\/¬Str.mk (a.getD k d).b=Str.mk (b.getD k d).b):false=decide (a=b):=(decide_eq_false (by rintro rfl; simp at e)).symm
variable {α:Type}
def ac4 [DecidableEq α] {a b:List α} (h:a.take k=b.take k) (c:a.length<=k) (e:a.length=b.length):true=decide (a=b):=by
 rw [List.take_of_length_le c,List.take_of_length_le aL] at h; exact (decide_eq_true h).symm
def adv [DecidableEq α] {a b:List α} (h:¬(a.length:Int)=b.length):false=decide (a=b):=(decide_eq_false (by rintro rfl; exact h rfl)).symm
end
def Lm (a:List Entry) (b:List Entry):List (Nat × LI):=[(4,{ σ:=Nat,F:=fun k=>([(0,one (.fz (.nm .entry) (a))),(1,one (.fz (.nm .entry) (b))),(5,one (.int k))],[]),J:=fun k=>k<=a.length/\a.length=b.length/\a.take k=b.take k,μ:=fun k=>a.length - k })]
def vu:Kn:=aN (ae (kC (cL (.nm .entry))) (ae (kC (cL (.nm .entry))) aq)) ax fun (a,b,_) _=>⟨[],[.c (.bool (.atom ((decide (a=b)))))],none,false⟩
theorem IF:CK 22 vu:=ah fun (a,b,_) _ _=>by
 refine aw Bt (Lm a b) Tryz.func22 (?_:(fun (p:Int)=>(fun (q:Nat)=>(fun (d:Nat)=>(fun (e:Int)=>(fun (v:den (Sh.nm NT.entry))=>a.length*32<=q->b.length*32<=q->(¬e=p->false=decide (a=b))/\(e=p->∃ (r:Nat),(a=a/\b=b/\0=(↑r:Int))/\(r<=d/\d=b.length/\List.take r a=List.take r b)/\∀ (s:Nat),(fun (c:Int)=>(fun (f:den (Sh.nm NT.entry))=>(fun (i:Prop)=>(fun (g:den (Sh.nm NT.entry))=>(fun (j:Prop)=>(fun (u:Prop)=>(fun (h:Prop)=>s<=d/\d=b.length/\List.take s a=List.take s b->(c<e->u/\c<e/\u/\c<p/\(h->u/\c<e)/\(h->u/\c<p)/\(I64 g.term->j->I64 f.term->i->(h->I64 g.term/\j)->(h->I64 f.term/\i)->(¬h\/¬Str.mk g.b=Str.mk f.b->false=decide (a=b))/\(h/\Str.mk g.b=Str.mk f.b->I64 (c+1)/\∃ (o:Nat),(a=a/\b=b/\c+1=(↑o:Int))/\(o <= d/\d=b.length/\List.take o a=List.take o b)/\d - o < d - s)))/\(e<=c->true=decide (a=b))) (g.term=f.term)) (0<=c)) (g.b.length*1<=q)) (a.getD s v)) (f.b.length*1<=q)) (b.getD s v)) (↑s:Int))) (ak (Sh.nm NT.entry))) (↑a.length:Int)) a.length) 140737488355328) (↑b.length:Int));iterate 3 ((all_goals (repeat' with_reducible first|apply bh|refine bg ?_|intro)); (all_goals try (first | exact br | exact rfl | exact (adv ab) | exact (ag0 ab aL ab ab ab) | exact (aip ab) | exact (ac4 ab aL ab))); all_goals try first | refine ⟨‹Nat› + 1,?_⟩ | refine ⟨0,?_⟩)
def VM:bM:=(aP 22 vu XA)
def sD:aB Tryz.prog (al tyT) VM:=(ag IF Bt)
section
variable {a b:List Letter} {k:Nat} {d:Letter}
def ahe (h:a.take k=b.take k) (c:k<a.length) (f:a.length=b.length) (e:a.getD k d=b.getD k d):a.take (k+1)=b.take (k+1):=vf h c aL e
def ajj (e:¬a.getD k d=b.getD k d):false=decide (a=b):=(decide_eq_false (by rintro rfl; exact e rfl)).symm
end
def BA:Kn:=aN (ae (kT (.nm .letter)) (ae (kT (.nm .letter)) aq)) ax fun (a,b,_) _=>⟨[],[.c (.bool (.atom ((decide (a=b)))))],none,false⟩
theorem OU:CK 66 BA:=ah fun (a,b,_) _ _=>by
 refine aw sD [] Tryz.func66 (?_:aK a (aK b ((decide (a.l=b.l) && decide (a.kind=b.kind) && decide (a.frm=b.frm) && decide (a.to=b.to) && decide (a.term=b.term) && decide (a.a=b.a) && decide (a.b=b.b) && decide (a.c=b.c) && decide (a.bin=b.bin) && a.ok == b.ok)=decide (a=b))));(repeat intro); cases a; cases b; simp only [Letter.mk.injEq]; grind
def yW:Kn:=aN (ae (kT (.nm .site)) (ae (kT (.nm .site)) aq)) ax fun (a,b,_) _=>⟨[],[.c (.bool (.atom ((decide (a=b)))))],none,false⟩
theorem Of:CK 24 yW:=ah fun (a,b,_) _ _=>by
 refine aw sD [] Tryz.func24 (?_:ye a (ye b ((decide (a.log=b.log) && decide (a.state=b.state) && a.up == b.up && decide (a.role=b.role) && decide (a.binary=b.binary) && decide (a.floor=b.floor) && decide (a.term=b.term) && decide (a.vote=b.vote) && decide (a.commit=b.commit) && decide (a.applied=b.applied))=decide (a=b))));(repeat intro); cases a; cases b; simp only [Site.mk.injEq]; grind
def Wy:bM:=(aP 24 yW (aP 66 BA VM))
def yT:aB Tryz.prog (al tyT) Wy:=(ag Of (ag OU sD))
def Sg (a:List Letter) (b:List Letter):List (Nat × LI):=[(4,{ σ:=Nat,F:=fun k=>([(0,one (.fz (.nm .letter) (a))),(1,one (.fz (.nm .letter) (b))),(5,one (.int k))],[]),J:=fun k=>k<=a.length/\a.length=b.length/\a.take k=b.take k,μ:=fun k=>a.length - k })]
def zN:Kn:=aN (ae (kC (cL (.nm .letter))) (ae (kC (cL (.nm .letter))) aq)) ax fun (a,b,_) _=>⟨[],[.c (.bool (.atom ((decide (a=b)))))],none,false⟩
theorem QT:CK 25 zN:=ah fun (a,b,_) _ _=>by
 refine aw yT (Sg a b) Tryz.func25 (?_:(fun (c:Nat)=>(fun (d:Int)=>(fun (f:den (Sh.nm NT.letter))=>a.length*96<=140737488355328->b.length*96<=140737488355328->(¬d=(↑b.length:Int)->false=decide (a=b))/\(d=(↑b.length:Int)->∃ (g:Nat),(a=a/\b=b/\0=(↑g:Int))/\(g<=c/\c=b.length/\List.take g a=List.take g b)/\∀ (s:Nat),(fun (h:Bool)=>s<=c/\c=b.length/\List.take s a=List.take s b->((↑s:Int)<d->0<=(↑s:Int)/\(↑s:Int)<d/\0<=(↑s:Int)/\(↑s:Int)<(↑b.length:Int)/\aK (a.getD s f) (aK (b.getD s f) ((h=false->false=decide (a=b))/\(h=true->I64 ((↑s:Int)+1)/\∃ (e:Nat),(a=a/\b=b/\(↑s:Int)+1=(↑e:Int))/\(e <= c/\c=b.length/\List.take e a=List.take e b)/\c - e < c - s))))/\(d<=(↑s:Int)->true=decide (a=b))) (decide (a.getD s f=b.getD s f)))) (ak (Sh.nm NT.letter))) (↑a.length:Int)) a.length);iterate 3 ((all_goals (repeat' with_reducible first|apply bh|refine bg ?_|intro)); (all_goals try (first | exact br | exact rfl | exact (adv ab) | exact (ahe ab aL ab (acR ab)) | exact (ajj (ahN ab)) | exact (ac4 ab aL ab))); all_goals try first | refine ⟨‹Nat› + 1,?_⟩ | refine ⟨0,?_⟩)
def afa:bM:=(aP 25 zN Wy)
def PV:aB Tryz.prog (al tyT) afa:=(ag QT yT)
structure ZTv where
 i:Nat
 n:Nd
structure Inv (n:Nd):Prop where
 p:∃ L,NInv n L
section
variable {n:Nd} {o:NOp} {x:Letter}
def agP:Inv (iF 1 5):=⟨⟨[],FL am⟩⟩
theorem Inv.ok (h:Inv n):NdOK n:=by obtain ⟨L,h⟩:=h.p; exact h.ok
theorem Inv.d (h:Inv n):n.d.OK:=h.ok.d
def agU (h:Inv n):Inv (dg n o).1:=by
 obtain ⟨L,h⟩:=h.p;obtain ⟨L',k⟩:=ZQ (o:=o) h;exact ⟨⟨L',k.inv⟩⟩
def uz (h:Inv n):Inv (au n x).n:=by
 obtain ⟨L,h⟩:=h.p;obtain ⟨L',k⟩:=uT (x:=x) h;exact ⟨⟨L',k.inv⟩⟩
def N_ (h:Inv n):TwR (au n x) (au (au n x).n x) x:=by
 obtain ⟨L,h⟩:=h.p;exact Si h
def ajC (h:Inv n) (d:¬(au n x).e=0):(decide ((au n x).e=20) || decide (siteF (au n x).n=siteF (au (au n x).n x).n) && decide (((au n x).l.length:Int)=0) && decide (((au (au n x).n x).l.length:Int)=0))=true:=by
 obtain ⟨a,b,c⟩:=(N_ h).no d;rw [a,b,c]; simp
def ad3 (h:Inv n) (f:(au n x).e=0):(decide (siteF (au n x).n=siteF (au (au n x).n x).n) && decide ((au (au n x).n x).e=0) && decide (Str.mk (au (au n x).n x).n.d.b=Str.mk (au n x).n.d.b))=true:=by
 obtain ⟨a,b,c,_⟩:=(N_ h).yes f;rw [a,b,c]; simp
def ai4 (h:Inv n) (a:(au n x).e=0) (c:x.kind=1\/x.kind=3):(decide (siteF (au n x).n=siteF (au (au n x).n x).n) && decide ((au (au n x).n x).e=0) && decide (Str.mk (au (au n x).n x).n.d.b=Str.mk (au n x).n.d.b) && decide ((au n x).l=(au (au n x).n x).l))=true:=by
 rw [ad3 h a,((N_ h).yes a).2.2.2 c]; simp
def agx (h:(true=false\/false=true)\/¬(0:Int)=0):false=true:=by simp at h
end
def aby (l:List NOp) (x:Letter):List (Nat × LI):=[(7,{ σ:=ZTv,F:=fun q=>([(0,one (.fz (.nm .nop) (l.take 40))),(3,one (.ptr 0 0)),(6,one (.ptr 1 0)),(8,one (.int q.i))],([.box 40 (cellsOf (.nm .letter) (x))]++ndO 1 ((q.n)))),J:=fun q=>q.i<=(l.take 40).length/\Inv q.n,μ:=fun q=>(l.take 40).length - q.i })]
theorem SB (l:List NOp) (x:Letter):Sat Tryz.prog (al tyT) 6 [.c (.fz (.nm .nop) (l)),.agg (cellsOf (.nm .letter) x)] [] ⟨[],[.c (.bool (.atom ((true))))],none,false⟩:=by
 refine aw PV (aby l x) Tryz.func6 (?_:(fun (u:Int)=>(fun (v:Nat)=>(fun (z:Nat)=>(fun (o:List (den (Sh.nm NT.nop)))=>(fun (f:Int)=>(fun (w:Letter)=>l.length*(200:Nat)<=v->aK x (((3:Int)<=(5:Int)/\(5:Int)<=(5:Int)/\f<=u/\u<(5:Int))/\(I64 f->((true=false\/false=true)\/¬f=f->false=true)/\((true=true/\false=false)/\f=f->o.length*(200:Nat)<=v->∃ (F:ZTv),(o=o/\f=(↑F.i:Int)/\fM x x (bV (iF u (5:Int)) F.n))/\(F.i<=z/\Inv F.n)/\∀ (s:ZTv),(fun (y:Int)=>(fun (j:NdR)=>(fun (h:Dsk)=>(fun (G:Site)=>(fun (g:NdR)=>(fun (A:Prop)=>(fun (q14:Bool)=>(fun (B:Bool)=>(fun (C:Prop)=>(fun (p:Prop)=>s.i<=z/\Inv s.n->(y<(↑o.length:Int)->f<=y/\y<(↑o.length:Int)/\∀ (q:NOp),(fun (r:ToldN)=>o[s.i]? = some q->XD q (NdOK s.n/\(r.l.length*(96:Nat)<=v->I64 r.a->I64 r.b->I64 r.e->I64 (y+u)/\∃ (D:ZTv),(o=o/\y+u=(↑D.i:Int)/\fM x x (bV (dg s.n q).fst D.n))/\(D.i<=z/\Inv D.n)/\z - D.i<z - s.i))) (dg s.n q).snd)/\((↑o.length:Int)<=y->aK w (NdOK s.n/\(j.l.length*(96:Nat)<=v->I64 j.e->ye G ((f<=h.synced/\h.synced<=(↑h.b.length:Int)/\h.b.length<=(65536:Nat))/\(h.b.length*(1:Nat)<=v->NdOK j.n/\(g.l.length*(96:Nat)<=v->I64 g.e->ye (siteF g.n) ((¬j.e=f->(decide (j.e=(20:Int)) || q14 && decide ((↑j.l.length:Int)=f) && decide ((↑g.l.length:Int)=f))=true)/\(j.e=f->(w.kind=u\/w.kind=(3:Int)->(p->C)/\((p->A)->(B && decide (j.l=g.l))=true))/\(¬w.kind=u/\¬w.kind=(3:Int)->(p->C)/\((p->A)->B=true))))))))))) (q14=true/\g.e=f)) (f<=g.n.d.synced/\g.n.d.synced<=(↑g.n.d.b.length:Int)/\g.n.d.b.length<=(65536:Nat))) (q14 && decide (g.e=f) && decide (Str.mk g.n.d.b=Str.mk h.b))) (decide (G=siteF g.n))) (g.n.d.b.length*(1:Nat)<=v)) (au j.n w)) (siteF j.n)) j.n.d) (au s.n w)) (↑s.i:Int))))) (sa x)) (0:Int)) (List.take (40:Nat) l)) (List.take (40:Nat) l).length) (140737488355328:Nat)) (1:Int));iterate 3 ((all_goals (repeat' with_reducible first|apply bh|refine bg ?_|intro)); (all_goals try (first | exact br | exact rfl | exact agP | exact (agx ab) | (dsimp only; omega) | exact (Inv.ok ab) | exact (agU ab) | exact (uz ab).ok | exact (uz ab).d.1 | exact (uz ab).d.2.1 | exact (uz ab).d.2.2 | exact (uz (uz ab)).d.1 | exact (uz (uz ab)).d.2.1 | exact (uz (uz ab)).d.2.2 | exact (ajC ab ab) | exact (ai4 ab ab ab) | exact (ad3 ab ab))); all_goals try first | refine ⟨ZTv.mk (‹ZTv›.i+1) (dg ‹ZTv›.n ‹NOp›).1,?_⟩ | refine ⟨ZTv.mk 0 (iF 1 5),?_⟩)
end Go.Proofs.YticbaadnibdbkaaGreat
namespace Go.Proofs.YticbaadnibdbkaaGreat
open Go.RowKit Go.ChangeShapes Go.WideShapes
def Dw (shp:TypeId->Option Sh) (w:World):Cx:=cx ⟨shp,w.heap.size,fun _=>False⟩ [] w
def aaK {shp:TypeId->Option Sh} {w:World} {s:Sh} {b:Nat} (h:b<w.heap.size):(Dw shp w).at s b:=⟨⟨h,fun ⟨_,_,h,_⟩=>by simp at h,fun h=>h⟩,.inl h⟩
def Tr (P:Program) (shp:TypeId->Option Sh) (t:TypeId) (s:Sh):Prop:=
 ∀ (H:Type) (b:TypeId × Value->H) (w:World) (a:Nat) (c:List Value) (x:DataW H × List MemPlace),
  DataW.trod b P w 0 (fun _=>true) true a t c=some x->(∀ n ∈ x.1.weights P t,n<=140737488351232)->(∀ q ∈ x.2,q.block<w.heap.size)->∃ y:den s,Pds (Dw shp w) (cellsOf s y) c
def Yt:List Sh->List AV->Prop
 | [],a=>a=[]
 | s :: r,a=>∃ (y:den s) (l:List AV),a=cellsOf s y++l/\Yt r l
def szL:List Sh->Nat
 | []=>0
 | s :: r=>s.size+szL r
def lE (P:Program) (shp:TypeId->Option Sh) (d:List Go.Field) (o:Nat) (h:List Sh):Prop:=
 ∀ (H:Type) (e:TypeId × Value->H) (w:World) (a:Nat) (g:List Value) (c:List (DataW H × List MemPlace)),
  g.length=o+szL h->c.length=d.length->(∀ (i:Nat) (f:Go.Field),d[i]? = some f->DataW.trod e P w 0 (fun _=>true) true a f.type ((g.drop f.offset).take (P.cellsOf f.type))=c[i]?) ->
  (∀ n ∈ DataW.weightsEach P (d.map (·.type)) (c.map (·.1)),n<=140737488351232)->(∀ q ∈ c.flatMap (·.2),q.block<w.heap.size)->∃ b,Yt h b/\Pds (Dw shp w) b (g.drop o)
section
variable {P:Program} {shp:TypeId->Option Sh} {t:TypeId}
theorem Tr.int (h:P.underlying t=some (.int .i64)):Tr P shp t .int:=fun _ b w a e x c _ _=>by
 obtain ⟨n,rfl,_,d⟩:=DataW.trod_int h c;have f:IntKind.i64.min = -9223372036854775808:=rfl;have g:IntKind.i64.max=9223372036854775807:=rfl;simp only [Lit.wf,Bool.and_eq_true,decide_eq_true_eq] at d;exact ⟨n,.cons (.int ⟨aL,aL⟩) .nil⟩
def Tr.bool (h:P.underlying t=some .bool):Tr P shp t .bool:=fun _ b w a d x c _ _=>by
 obtain ⟨n,rfl,_⟩:=DataW.trod_bool h c;exact ⟨n,.cons (Pd.bool (e:=.atom n)) .nil⟩
def Tr.u8 (h:P.underlying t=some (.int .u8)):Tr P shp t .u8:=fun _ c w a f x d _ _=>by
 obtain ⟨n,rfl,_,e⟩:=DataW.trod_int h d;have g:IntKind.u8.min=0:=rfl;have i:IntKind.u8.max=255:=rfl;simp only [Lit.wf,Bool.and_eq_true,decide_eq_true_eq] at e;refine ⟨UInt8.ofNat n.toNat,?_⟩;have:n=((UInt8.ofNat n.toNat).toNat:Int):=by
  rw [UInt8.toNat_ofNat']; omega
 generalize j:UInt8.ofNat n.toNat=b at this;subst this;exact .cons .u8 .nil
def Tr.u64 (h:P.underlying t=some (.int .u64)):Tr P shp t .u64:=fun _ c w a f x d _ _=>by
 obtain ⟨n,rfl,_,e⟩:=DataW.trod_int h d;have g:IntKind.u64.min=0:=rfl;have i:IntKind.u64.max=18446744073709551615:=rfl;simp only [Lit.wf,Bool.and_eq_true,decide_eq_true_eq] at e;refine ⟨⟨n.toNat⟩,?_⟩;have:n=(n.toNat:Int):=by omega
 generalize j:n.toNat=b at this;subst this;exact .cons (.u64 (by show b<_; omega)) .nil
def Tr.str (h:P.underlying t=some .string):Tr P shp t .str:=fun _ d w b g x a f _=>by
 obtain ⟨s,rfl,a,_⟩:=DataW.trod_string h a;refine ⟨⟨s.data.toList⟩,?_⟩;have:=f s.data.toList.length (by rw [a]; simp [DataW.weights]);have e:=Pd.str (c:=Dw shp w) (s:=⟨s.data.toList⟩) (by show s.data.toList.length<=_; omega);have i:(⟨s.data.toList⟩:Str).val = .string s:=by simp [Str.val]
 exact .cons e .nil
theorem kY {H:Type} {e:TypeId}:∀ {a:List (DataW H)} {d:DataW H},d ∈ a->∀ n ∈ d.weights P e,n ∈ DataW.weightsAll P e a
 | d0 :: a,d,h,n,b=>by
  rw [DataW.weightsAll,ab8];rcases acb.1 h with rfl | h
  ·grind
  exact .inr (kY h n b)
def HE {s:Sh} {a:List (den s)} {y:den s}:(a++[y]).flatMap (cellsOf s)=a.flatMap (cellsOf s)++cellsOf s y:=by simp
theorem Tr.list {e:TypeId} {s:Sh} (u:P.underlying t=some (.slice e)) (O:P.cellsOf e=s.size) (hB:P.bytesOf e=s.bytes) (Q:Tr P shp e s):Tr P shp t (.lst s):=fun H z w K A x S L i=>by
 have T:=size_pos s;rcases DataW.trod_slice u S with ⟨rfl,_⟩ | ⟨a,len,U,c,f,n,rfl,rfl,rfl,_,hl,V,W,l,B,_⟩
 ·exact ⟨([]:List (den s)),.cons (Pd.xq (.em (a:=none) (b:=true) rfl)) .nil⟩
 rw [O] at *;have step:∀ m,m<=len->∃ (d:List Value) (h:List (den s)),Pds (Dw shp w) (h.flatMap (cellsOf s)) d/\h.length=m/\CellsAt w a d:=by
  intro m;induction m with
  | zero=>intro _; exact ⟨[],[],.nil,rfl,CellsAt.nil⟩
  | succ m X=>
   intro hm;obtain ⟨d,h,p,r,C⟩:=X aL;have N:=l m aL;have D:c[m]? = some (c[m]' aL):=List.getElem?_eq_getElem aL;rw [D,Option.bind_eq_some_iff] at N;obtain ⟨A,F,G⟩:=N;have g:c[m]' aL ∈ c:=afK _;obtain ⟨y,Y⟩:=Q H z w n A _ G
    (fun k Z=>L k (by
     simp only [DataW.weights,u,acb,ab8];exact .inr (.inl (kY (ajr g) k Z))))
    (fun q hq=>i q (by
     simp only [ab8,List.mem_flatMap];exact .inr ⟨_,.inl g,hq⟩))
   obtain ⟨_,hcl,I⟩:=World.cells?_some F;refine ⟨d++A,h++[y],by rw [HE]; exact p.append Y,by simp [r],fun j v o=>?_⟩;have J:d.length=m*s.size:=by rw [<- p.length,bR,r]
   by_cases hj:j<m*s.size
   ·rw [List.getElem?_append_left aL] at o;exact C j v o
   rw [afN aL,J] at o;have hj2:=yi o;have:=I (j - m*s.size) aL;rw [o,add_add,show m*s.size+(j - m*s.size)=j by omega] at this;exact this
 obtain ⟨d,h,p,r,C⟩:=step len (Nat.le_refl _);have hwt:(c.length+f.length)*P.bytesOf e<=140737488351232:=L _ (by simp [DataW.weights,u]);refine ⟨h,.cons ?_ .nil⟩;subst r;refine .fz aL V ?_ p ?_
 ·grind
 by_cases h0:h.length=0
 ·grind
 right;refine ⟨a,rfl,aaK ?_,C⟩;have:MemPlace.cell a.block (a.off+0) ∈ MemPlace.row a ((c.length+f.length)*s.size):=MemPlace.mem_row.2 ⟨0,Nat.mul_pos aL T,rfl⟩;exact i _ (adn _ this)
def lE.nil {o:Nat}:lE P shp [] o []:=fun H b w a d e c _ _ _ _=>⟨[],rfl,by rw [List.drop_eq_nil_of_le (by simp only [szL] at c; omega)]; exact .nil⟩
def lE.cons {f:Go.Field} {p:List Go.Field} {o:Nat} {s:Sh} {d:List Sh} (h:Tr P shp f.type s) (B:f.offset=o) (C:P.cellsOf f.type=s.size) (D:lE P shp p (o+s.size) d):lE P shp (f :: p) o (s :: d):=fun H b w a r e F g u v c=>by
 match e,g with
 | x :: e,g=>
  have G:r.length=o+(s.size+szL d):=F;have A:=u 0 f rfl;rw [B,C] at A;obtain ⟨y,I⟩:=h H b w a _ x A (fun n j=>v n (by simp [DataW.weightsEach,j])) (fun q k=>c q (by simp [k]));obtain ⟨z,l,m⟩:=D H b w a r e aL (by simpa using g) (fun i J K=>by simpa using u (i+1) J (by simpa using K)) (fun n j=>v n (by simp only [afP,DataW.weightsEach,ab8]; exact .inr j)) (fun q k=>c q (by simp only [List.flatMap_cons,ab8]; exact .inr k));refine ⟨cellsOf s y++z,⟨y,z,rfl,l⟩,?_⟩;have:=I.append m;rwa [<- ahG,List.take_append_drop] at this
theorem Tr.struct {s:Sh} {ss:List Sh} {e:Array Go.Field} (g:P.underlying t=some (.struct e)) (v:P.cellsOf t=szL ss) (z:∀ a,Yt ss a->∃ y:den s,a=cellsOf s y) (h:lE P shp e.toList 0 ss):Tr P shp t s:=fun H b w j l x m o c=>by
 obtain ⟨p,n,_,rfl,A,d,q⟩:=DataW.trod_struct g m;obtain ⟨a,B,C⟩:=h H b w n l p aL (by simpa using d) (fun i f r=>q i f (by simpa using r)) (fun k u=>o k (by simpa [DataW.weights,g] using u)) c;grind
end
section
variable {H:Type} {enc:TypeId × Value->H} {P:Program} {shp:TypeId->Option Sh}
structure Ar (enc:TypeId × Value->H) (P:Program) (W:World) (t:TypeId) (v:Value):Prop where
 form:∃ base,Value.okWide P W .any base t v
 read:∃ d p fuel,DataW.trod enc P W 0 (fun _=>true) true fuel t v.cells.toList=some (d,p)/\(∀ n ∈ d.weights P t,n<=140737488351232)/\(∀ q ∈ p,q.block<W.heap.size)
variable {W:World} {t:TypeId} {v:Value}
def Ar.rp {s:Sh} (h:Ar enc P W t v) (b:Tr P shp t s):∃ y:den s,Pds (Dw shp W) (cellsOf s y) v.cells.toList:=by
 obtain ⟨d,p,a,c,e,f⟩:=h.read;exact b H enc W a _ _ c e f
def DY {a:AV} {u:Value} (h:Pds (Dw shp W) [a] [u]):db (Dw shp W) [] (.c a) u:=by cases h with | cons b _=>exact kN b
theorem Ar.int (h:Ar enc P W t v) (a:P.underlying t=some (.int .i64)):∃ y:Int,db (Dw shp W) [] (.c (.int y)) v:=by
 obtain ⟨base,b⟩:=h.form;obtain ⟨n,rfl⟩:=okWide_int a b;obtain ⟨y,d⟩:=h.rp (shp:=shp) (Tr.int a);exact ⟨y,DY (by simpa [Value.cells,cellsOf] using d)⟩
def Ar.u8 (h:Ar enc P W t v) (a:P.underlying t=some (.int .u8)):∃ y:UInt8,db (Dw shp W) [] (.c (.u8 y)) v:=by
 obtain ⟨base,b⟩:=h.form;obtain ⟨n,rfl⟩:=okWide_int a b;obtain ⟨y,d⟩:=h.rp (shp:=shp) (Tr.u8 a);exact ⟨y,DY (by simpa [Value.cells,cellsOf] using d)⟩
def Ar.bool (h:Ar enc P W t v) (a:P.underlying t=some .bool):∃ y:Bool,db (Dw shp W) [] (.c (.bool (.atom y))) v:=by
 obtain ⟨base,d⟩:=h.form;obtain ⟨b,rfl⟩:=okWide_bool a d;exact ⟨b,Pd.bool (e:=.atom b)⟩
def Ar.list {e:TypeId} {s:Sh} (h:Ar enc P W t v) (b:P.underlying t=some (.slice e)) (d:Tr P shp t (.lst s)):∃ f:List (den s),db (Dw shp W) [] (.c (.fz s f)) v:=by
 obtain ⟨base,g⟩:=h.form;obtain ⟨a,len,i,rfl⟩:=okWide_slice b g;obtain ⟨y,j⟩:=h.rp d;exact ⟨y,DY (by simpa [Value.cells,cellsOf] using j)⟩
def Ar.struct {s:Sh} {a:Array Go.Field} (h:Ar enc P W t v) (b:P.underlying t=some (.struct a)) (c:Tr P shp t s):∃ x:den s,db (Dw shp W) [] (.agg (cellsOf s x)) v:=by
 obtain ⟨base,d⟩:=h.form;obtain ⟨e,rfl,_⟩:=okWide_struct b d;obtain ⟨y,f⟩:=h.rp c;exact ⟨y,e.toList,aa,gk (by simpa [Value.cells] using f)⟩
def SH {f:Nat} {args:List TV1} {pre:List Prop} {e:BE} {b:List Value} (h:Sat P shp f args [] ⟨pre,[.c (.bool e)],none,false⟩) (a:e.val=true) (g:All2 (db (Dw shp W) []) args b) (d:TabsOK (Dw shp W):=by refine ⟨?_,?_⟩ <;> intro e a <;> first | simp [Sx] at a | simp [aer] at a):jN P f b.toArray W fun r i=>r = .bool true/\Kp [] W i:=by
 refine (h.2 ⟨shp,W.heap.size,fun _=>False⟩ [] W b rfl ⟨.nil,fun _ _ _ _ _ h=>by simp at h,fun _ _ _ h=>by simp at h,fun _ h=>h.elim,Nat.le_refl _,d⟩ g).mono fun v o ⟨p,j,k,l⟩=>⟨?_,k⟩;cases l with | cons m n=>
 cases n;cases m;rw [j,a]; rfl
variable {args:Array Value} {ds:List (DataW H)}
def UJ {base:Nat} {a:List TypeId} {p:List MemPlace} (k:∀ (j:Nat) t v,a[j]? = some t->args[j]? = some v->Value.okWide P W .any base t v)
  (h:DataW.TrodAll enc P W 0 (fun _=>true) true a args.toList ds p) (i:∀ n ∈ DataW.weightsEach P a ds,n<=140737488351232) (c:∀ q ∈ p,q.block<W.heap.size) :
  args.size=a.length/\∀ (j:Nat) t v,a[j]? = some t->args[j]? = some v->Ar enc P W t v:=by
 have l:∀ (a:List TypeId) (e:List Value) (ds:List (DataW H)) (p:List MemPlace),DataW.TrodAll enc P W 0 (fun _=>true) true a e ds p->(∀ n ∈ DataW.weightsEach P a ds,n<=140737488351232)->(∀ q ∈ p,q.block<W.heap.size) ->
   e.length=a.length/\∀ (j:Nat) t v,a[j]? = some t->e[j]? = some v->∃ d p b,DataW.trod enc P W 0 (fun _=>true) true b t v.cells.toList=some (d,p)/\(∀ n ∈ d.weights P t,n<=140737488351232)/\(∀ q ∈ p,q.block<W.heap.size):=by
  intro a;induction a with
  | nil=>intro e ds p h _ _; obtain ⟨rfl,_,_⟩:=trodAll_nil h; exact ⟨rfl,fun j t v h=>by simp at h⟩
  | cons t a u=>
   intro e ds p h i c;obtain ⟨v,e,d,ds,w,x,rfl,rfl,rfl,y,z⟩:=trodAll_cons h;obtain ⟨m,o⟩:=u e ds x z (fun n r=>i n (by rw [DataW.weightsEach,ab8]; exact .inr r)) (fun q s=>c q (ad2 _ s));refine ⟨by simp [m],fun j A B f g=>?_⟩;cases j with
   | zero=>
    simp at f g;subst f; subst g;obtain ⟨b,k⟩:=y;exact ⟨d,w,b,k,fun n r=>i n (by rw [DataW.weightsEach,ab8]; exact .inl r),fun q s=>c q (adn _ s)⟩
   | succ j=>exact o j A B (by simpa using f) (by simpa using g)
 obtain ⟨m,o⟩:=l a args.toList ds p h i c;exact ⟨by simpa using m,fun j t v f g=>⟨⟨base,k j t v f g⟩,o j t v f (by simpa using g)⟩⟩
variable {W':World}
def ID (j:laidOutB P=true) (k:Below W.heap.size W W'):∀ (a:List TypeId) (c:List Value) (ds:List (DataW H)) (p:List MemPlace),a.all (fun t=>P.readableRec t && decide (t<P.types.size))=true->DataW.TrodAll enc P W 0 (fun _=>true) true a c ds p->(∀ q ∈ p,q.block<W.heap.size) ->
  DataW.TrodAll enc P W' 0 (fun b=>decide (b<W.heap.size)) true a c ds p:=by
 intro a;induction a with
 | nil=>intro c ds p _ h _; obtain ⟨rfl,rfl,rfl⟩:=trodAll_nil h; rfl
 | cons t a l=>
  intro c ds p f h e;obtain ⟨v,c,d,ds,m,i,rfl,rfl,rfl,n,o⟩:=trodAll_cons h;rw [List.all_cons,Bool.and_eq_true,Bool.and_eq_true,decide_eq_true_eq] at f;exact ⟨m,i,Below.trod j f.1.1 f.1.2 n k fun q g=>e q (adn _ g),l c ds i f.2 o fun q g=>e q (ad2 _ g),rfl⟩
variable {tb:TypeId} {fn:Func}
def LS {s:ChangeSpec} {p:List MemPlace} (e:laidOutB P=true)
  (a:fn.params.toList.all (fun t=>P.readableRec t && decide (t<P.types.size))=true) (f:fn.resultTypes = #[tb]) (g:P.underlying tb=some .bool) (i:s.vars=[])
  (b:s.fn H (ds++[])={ results:=[.lit (.bool true)],args:=ds }) (j:DataW.Whole enc P fn.params.toList s.vars false W args.toList ds [] p) (k:DataW.TrodAll enc P W 0 (fun _=>true) true fn.params.toList args.toList ds p) (c:∀ q ∈ p,q.block<W.heap.size) (d:Kp [] W W') :
  s.post enc P fn false true false false W args (.bool true) W':=by
 refine ⟨ds,[],p,[],p,[],j,?_,?_,?_,d.below.frame _,fun h=>by cases h⟩
 ·rw [b,f];exact trodAll_mk1 ⟨1,by simp [DataW.trod,Value.cells,g]⟩
 ·rw [b];exact ID e d.below _ _ _ _ a k c
 rw [b,i]; rfl
theorem NB {C:Checked} {os:Os} {f:FuncId} {s:ChangeSpec} {b:List PathCond} (I:ownKnob C.prog.godebug=none) (c:os.Started) (l:C.prog.inits.idxOf? f=none) (J:C.prog.funcs[f]? = some fn)
  (g:∃ (w:World) (a:Tape) (i:Input),w.os=os/\(w.forCall a i).Shaped C.prog/\i.vars=[]/\Input.okWide C.prog (w.forCall a i) .any w.heap.size f i /\
   s.pre6 enc C.prog fn b false (w.forCall a i).memory i.args/\({}:Assume).holds C.prog (lone (Frame.enter C.prog f i.args .normal) [] (w.forCall a i)))
  (Y:laidOutB C.prog=true) (u:fn.params.toList.all (fun t=>C.prog.readableRec t && decide (t<C.prog.types.size))=true) (Z:fn.resultTypes = #[tb]) (P:C.prog.underlying tb=some .bool) (F:s.vars=[])
  (hs:∀ ds:List (DataW H),ds.length=fn.params.size->s.fn H ds={ results:=[.lit (.bool true)],args:=ds })
  (K:∀ (W:World) (args:Array Value),args.size=fn.params.toList.length->(∀ (j:Nat) t v,fn.params.toList[j]? = some t->args[j]? = some v->Ar enc C.prog W t v)->jN C.prog f args W fun r W'=>r = .bool true/\Kp [] W W') :
  ReturnsInHanded {} C os f .any (s.pre6 enc C.prog fn b false) (s.post enc C.prog fn false true false false):=by
 refine returnsInHanded_of_change_sized I c l J g ?_;intro W base args ds gs G y U _ z _;have m:=U;obtain ⟨p,q,L,V,rfl,_,_⟩:=U;rw [F] at V;obtain ⟨rfl,rfl⟩:=trodVars_none V;simp only [afy] at m z;have A:∀ x ∈ p,x.block<W.heap.size:=fun x hx=>by simpa using m.lt x hx
 have N:∀ n ∈ DataW.weightsEach C.prog fn.params.toList ds,n<=140737488351232:=fun n hn=>by
  have B:n ∈ DataW.weightsEach C.prog (fn.params.toList++s.plain.varTypes C.prog) ds:=by
   have:∀ (k O:List TypeId) (ds:List (DataW H)),n ∈ DataW.weightsEach C.prog k ds->n ∈ DataW.weightsEach C.prog (k++O) ds:=by
    intro k;induction k with
    | nil=>intro O ds h; simp [DataW.weightsEach] at h
    | cons t k X=>
     intro O ds h;cases ds with
     | nil=>simp [DataW.weightsEach] at h
     | cons d ds=>
      rw [DataW.weightsEach,ab8] at h;rw [List.cons_append,DataW.weightsEach,ab8];grind
   grind
  exact acR (List.all_eq_true.1 z n B)
 obtain ⟨o,Q⟩:=UJ (fun j t v ht F=>y j t v (by simpa using ht) F) L N A;have S:ds.length=fn.params.size:=by
  have:∀ (k:List TypeId) (D:List Value) (ds:List (DataW H)) (p:List MemPlace),DataW.TrodAll enc C.prog W 0 (fun _=>true) true k D ds p->ds.length=k.length:=by
   intro k;induction k with
   | nil=>intro D ds p h; obtain ⟨_,rfl,_⟩:=trodAll_nil h; rfl
   | cons t k X=>intro D ds p h; obtain ⟨v,D,d,ds,p1,p2,rfl,rfl,rfl,_,h2⟩:=trodAll_cons h; simp [X D ds p2 h2]
  simpa using this _ _ _ _ L
 refine aj7 (K W args o Q) fun e W' ⟨v,he,T,hk⟩=>⟨v,he,?_⟩;subst T;exact LS Y u Z P F (by rw [afy]; exact hs ds S) m L A hk
end
end Go.Proofs.YticbaadnibdbkaaGreat
namespace Go.Proofs.YticbaadnibdbkaaGreat
open Go.RowKit Go.ChangeShapes Go.WideShapes
def Lo:ownKnob Tryz.prog.godebug=none:=bK
def PD:laidOutB Tryz.prog=true:=bK
def agA:Tr Tryz.prog (al tyT) 35 (.nm .command):=Tr.struct (ss:=[.int,.int,.int,.int,.int,.int,(.lst .int),.str]) Tryz.underlying35 bK (fun a h=>by
 obtain ⟨y0,j,rfl,b,k,rfl,c,l,rfl,d,m,rfl,e,n,rfl,f,o,rfl,g,p,rfl,i,q,rfl,rfl⟩:=h;exact ⟨⟨y0,b,c,d,e,f,g,i⟩,rfl⟩) (lE.cons (Tr.int Tryz.underlying3) rfl bK (lE.cons (Tr.int Tryz.underlying3) rfl bK (lE.cons (Tr.int Tryz.underlying3) rfl bK (lE.cons (Tr.int Tryz.underlying3) rfl bK (lE.cons (Tr.int Tryz.underlying3) rfl bK (lE.cons (Tr.int Tryz.underlying3) rfl bK (lE.cons (Tr.list Tryz.underlying33 bK bK (Tr.int Tryz.underlying3)) rfl bK (lE.cons (Tr.str Tryz.underlying9) rfl bK (lE.nil)))))))))
def ah0:Tr Tryz.prog (al tyT) 52 (.nm .entry):=Tr.struct (ss:=[.int,(.lst .u8)]) Tryz.underlying52 bK (fun a h=>by
 obtain ⟨y0,c,rfl,b,d,rfl,rfl⟩:=h;exact ⟨⟨y0,b⟩,rfl⟩) (lE.cons (Tr.int Tryz.underlying3) rfl bK (lE.cons (Tr.list Tryz.underlying50 bK bK (Tr.u8 Tryz.underlying5)) rfl bK (lE.nil)))
def aee:Tr Tryz.prog (al tyT) 40 (.nm .letter):=Tr.struct (ss:=[.int,.int,.int,.int,.int,.int,.int,.int,.bool,(.lst (.nm .entry))]) Tryz.underlying40 bK (fun a h=>by
 obtain ⟨y0,l,rfl,b,m,rfl,c,n,rfl,d,o,rfl,e,p,rfl,f,q,rfl,g,r,rfl,i,s,rfl,j,t,rfl,k,u,rfl,rfl⟩:=h;exact ⟨⟨y0,b,c,d,e,f,g,i,j,k⟩,rfl⟩) (lE.cons (Tr.int Tryz.underlying3) rfl bK (lE.cons (Tr.int Tryz.underlying3) rfl bK (lE.cons (Tr.int Tryz.underlying3) rfl bK (lE.cons (Tr.int Tryz.underlying3) rfl bK (lE.cons (Tr.int Tryz.underlying3) rfl bK (lE.cons (Tr.int Tryz.underlying3) rfl bK (lE.cons (Tr.int Tryz.underlying3) rfl bK (lE.cons (Tr.int Tryz.underlying3) rfl bK (lE.cons (Tr.bool Tryz.underlying4) rfl bK (lE.cons (Tr.list Tryz.underlying38 bK bK (ah0)) rfl bK (lE.nil)))))))))))
def ajc:Tr Tryz.prog (al tyT) 60 (.nm .nop):=Tr.struct (ss:=[.u8,.int,(.nm .letter),(.nm .command)]) Tryz.underlying60 bK (fun a h=>by
 obtain ⟨y0,e,rfl,b,f,rfl,c,g,rfl,d,i,rfl,rfl⟩:=h;exact ⟨⟨y0,b,c,d⟩,rfl⟩) (lE.cons (Tr.u8 Tryz.underlying5) rfl bK (lE.cons (Tr.int Tryz.underlying3) rfl bK (lE.cons (aee) rfl bK (lE.cons (agA) rfl bK (lE.nil)))))
set_option maxRecDepth 100000 in
def uc (os:Os) (a:os.Started) (H:Type) (enc:TypeId × Value->H) :
  ReturnsInHanded {} Tryz.checked os 6 .any (Rows.nodeTwiceSpec.pre6 enc Tryz.prog Tryz.f6 Rows.nodeTwiceRow.domain false) (Rows.nodeTwiceSpec.post enc Tryz.prog Tryz.f6 false true false false):=by
 refine NB (C:=Tryz.checked) Lo a bK Tryz.func6 (ChangeSpec.witness6 (enc:=enc) (C:=Tryz.checked) false ⟨#[],#[.slice none 0 0,.agg #[.int .i64 0,.int .i64 0,.int .i64 0,.int .i64 0,.int .i64 0,.int .i64 0,.int .i64 0,.int .i64 0,.bool false,.slice none 0 0]],[]⟩ 8 bK bK bK bK) PD bK bK Tryz.underlying4 rfl (fun c h=>?_) ?_
 ·match c,h with
  | [j,k],_=>rfl
 intro W args d b;obtain ⟨l⟩:=args;match l,d with
 | [m,n],_=>
  obtain ⟨e,f⟩:=Ar.list (shp:=al tyT) (b 0 54 _ rfl rfl) Tryz.underlying54 (Tr.list Tryz.underlying54 bK bK (ajc));obtain ⟨g,i⟩:=Ar.struct (shp:=al tyT) (b 1 40 _ rfl rfl) Tryz.underlying40 aee;exact SH (SB e g) rfl (.cons f (.cons i .nil))
set_option maxHeartbeats 40000000 in
def qx:joinedFacts Tryz.checked.prog 6 Tryz.f6 Rows.nodeTwiceSpec Rows.nodeTwiceRow=true:=by
 unfold joinedFacts;repeat' with_reducible refine Bool.and_eq_true_iff.2 ⟨?_,?_⟩
 all_goals as_aux_lemma=>kernel_rfl
theorem nodeTwice_holds:Rows.NodeTwiceSaid:=
 OpenClaim.holds_of_wide 6 Tryz.f6 rfl rfl rfl rfl rfl rfl rfl ⟨rfl,rfl,rfl,rfl,rfl⟩ rfl rfl rfl rfl rfl bK Tryz.func6 qx
  (acR bK) (by unfold Func.isWrapper; first | (rw [if_pos (by decide +kernel)]; kernel_rfl) | (rw [if_neg (by decide +kernel)]; exact ⟨rfl,rfl⟩))
  (fun os a H c _=>uc os a H c)
