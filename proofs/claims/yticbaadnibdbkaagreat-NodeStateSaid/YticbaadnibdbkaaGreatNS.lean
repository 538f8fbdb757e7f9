/- The law: for every input it returns true, and each argument reads behind the call as it read before; and what leads there. Conditions: each lemma's own. -/
import Derived.ProofKit
import Derived.SizedLaws
import Derived.Test.YticbaadnibdbkaaGreatChecked
import Derived.Test.YticbaadnibdbkaaGreatRows
import Derived.Test.YticbaadnibdbkaaGreatNSM7
set_option linter.unusedVariables false
set_option linter.unusedSimpArgs false
set_option maxHeartbeats 2000000
set_option linter.defProp false
noncomputable section
open List (prefix_refl replicate take)
open UInt8 (ofNat)
open Go.DataW (TrodAll trod trod_int weights weightsAll weightsEach)
namespace Go.Proofs.YticbaadnibdbkaaGreat
open Go.Proofs.Tryz
open Go.RowKit
variable {m:Nd}
theorem alS (a:m.rp=[]) (b:m.vs=[]) (e:m.bn=[]) (f:m.nx=[]) (g:m.mt=[]):mK m=mK ⟨m.c,m.d,[],[],[],[],[]⟩:=by
 cases m;grind
def amG {p:Prop} {x:Bool} (h:x=true) (a:x=false):p:=by rw [h] at a; cases a
variable {b:List UInt8}
def ahI:(ik b).1.log.length<=10000:=by have:=nY b; omega
def aj5 {r:c9}:[r].length<=1000:=by simp
section
variable {n:Nd} {b:Int}
def afI (a:o8 n) (h:n.d.down=true):((if n.d.down=true then n.d.up else n.d).cut (ik n.d.b).2).OK:=(zy h a.d).1
def afT (a:o8 n):(if n.d.down=true then n.d.up else n.d).OK:=by
 split
 ·exact aaJ a.d
 exact a.d
def ahk {p:Prop} (a:o8 n) (h:n.d.down=true) (c:¬ (if n.d.down=true then n.d.up else n.d).mH (ik n.d.b).2=0):p:=absurd (zy h a.d).2.1 c
def akF {p:Prop} (h:n.d.down=true) (a:¬ (if n.d.down=true then (0:Int) else 31)=0):p:=absurd (eg h) a
def af3 (a:o8 n) (h:n.d.down=true):((n.fr b).ep [⟨1,b,0,[]⟩]).d.OK:=sm (zy h a.d).1
theorem akY {p:Prop} (h:n.d.down=false\/¬ cN b (max (ik n.d.b).1.floor 1)=0) (a:n.d.down=true) (c:cN b (max (ik n.d.b).1.floor 1)=0):p:=by grind
end
def xH:Kn:=aH (ae (kC (bm 0 0)) (ae (kC cI) ao)) tW fun (_,b,_) n=>⟨[o8 n,n.d.down=true,cN b (max (ik n.d.b).1.floor 1)=0],[.c (.int (((bl n b).e)))],some ([.box 103 (P6 0 (((bl n b).n.c))++[.em true,.em true,.em true,.em true,.em true]),.box 147 ([.own 2,.int (((bl n b).n.d.ee)),.bool (.atom (((bl n b).n.d.down))),.bool (.atom (((bl n b).n.d.jx))),.int (((bl n b).n.d.dm))]),.row 5 .u8 (((bl n b).n.d.b)),.row 78 (.nm .nd) ((n.rp)),.row 4 .bool ((n.vs)),.row 3 .int ((n.bn)),.row 3 .int ((n.nx)),.row 3 .int ((n.mt))]),false⟩
def yg:CK 13 xH:=ag fun (_,b,_) n P=>by
 have o:=b_ P;have p:=b_ (dv P);have Q:=b_ (dv (dv P));refine bP tq [] func13 (?_:(fun (q:Bool)=>(fun (j:y8)=>(fun (D:Int)=>(fun (B:Int)=>(fun (h:Int)=>(fun (w:Int)=>(fun (F:List (l5 (Sh.nm NT.record)))=>(fun (C:c4 × Int)=>(fun (x:Int)=>(fun (l:Int)=>(fun (T:y8)=>(fun (K:Prop)=>(fun (S:Nd)=>(fun (f:n9)=>(fun (r:Bool)=>(fun (t:Int)=>(fun (a:y8)=>(fun (G:Prop)=>(fun (H:Prop)=>(fun (I:Prop)=>(fun (y:Prop)=>(fun (J:Prop)=>(fun (z:Prop)=>(fun (L:Prop)=>(fun (k:n9)=>(fun (i:n9)=>(fun (N:Nd)=>(fun (A:Int)=>(fun (O:Prop)=>(fun (u:Nd)=>(fun (g:y8)=>(fun (v:n9)=>a7 b->(q=false->(31:Int)=D/\L)/\(q=true->(h<=n.d.ee/\n.d.ee<=(n.d.b.length:Int)/\n.d.b.length<=(65536:Nat))/\n.d.b.length<=(1000000:Nat)/\cS C.fst (a7 l->a7 x->(¬x=h->x=D/\L)/\(x=h->a7 w->(¬w=h->w=D/\y/\z/\G/\aN j.st a.st (H/\I/\J/\bS j.s a.s (False/\False/\False/\False/\False/\k.ee=t/\k.down=f.down/\k.jx=r/\k.dm=f.dm/\k.b=f.b/\K)))/\(w=h->(h<=k.ee/\k.ee<=(k.b.length:Int)/\k.b.length<=(65536:Nat))/\(a7 (k.mH l)->(¬k.mH l=h->k.mH l=D/\y/\z/\G/\aN j.st a.st (H/\I/\J/\bS j.s a.s (False/\False/\False/\False/\False/\O)))/\(k.mH l=h->a7 B->a7 B->a7 h->a7 h->(0:Nat)*(32:Nat)<=(140737488355328:Nat)->(0:Nat)*(16:Nat)<=(140737488355328:Nat)->(0:Nat)*(64:Nat)<=(140737488355328:Nat)->(C.fst.floor<b->(h<=i.ee/\i.ee<=(i.b.length:Int)/\i.b.length<=(65536:Nat))/\C.fst.log.length<=(10000:Nat)/\F.length<=(1000:Nat)/\(a7 A->(¬A=h->(h<=u.d.ee/\u.d.ee<=(u.d.b.length:Int)/\u.d.b.length<=(65536:Nat))/\A=D/\g.me=a.me/\g.hY=a.hY/\g.bin=a.bin/\aN g.st a.st (g.j0=a.j0/\g.c7=a.c7/\g.c3=a.c3/\bS g.s a.s (v.ee=t/\v.down=f.down/\v.jx=r/\v.dm=f.dm/\v.b=f.b/\K)))/\(A=h->h=D/\g.me=a.me/\g.hY=a.hY/\g.bin=a.bin/\aN g.st a.st (g.j0=a.j0/\g.c7=a.c7/\g.c3=a.c3/\bS g.s a.s (u.d.ee=t/\u.d.down=f.down/\u.d.jx=r/\u.d.dm=f.dm/\u.d.b=f.b/\K)))))/\(b<=C.fst.floor->h=D/\y/\z/\b=a.bin/\aN C.fst a.st (h=a.j0/\h=a.c7/\h=a.c3/\bS (b7.mk B B h h [] [] []) a.s O))))))))) (u.d.dr h)) u.c) (N.ep F)) (i.ee=t/\i.down=f.down/\i.jx=r/\i.dm=f.dm/\i.b=f.b/\K)) (N.bd F)) (Nd.mk T i [] [] [] [] [])) (k.cut l)) (if q=true then n.d.up else n.d)) (y/\z/\G/\aN j.st a.st (H/\I/\J/\bS j.s a.s (False/\False/\False/\False/\False/\n.d.ee=t/\q=f.down/\n.d.jx=r/\n.d.dm=f.dm/\n.d.b=f.b/\K)))) (j.hY=a.hY)) (j.c3=a.c3)) (j.me=a.me)) (j.c7=a.c7)) (j.j0=a.j0)) (j.bin=a.bin)) S.c) f.ee) f.jx) S.d) (bl n b).n) (n.rp=n.rp/\n.vs=n.vs/\n.bn=n.bn/\n.nx=n.nx/\n.mt=n.mt)) (y8.mk j.me j.hY b C.fst h h h (b7.mk B B h h [] [] []))) C.snd) (cN b (max C.fst.floor B))) (ik n.d.b)) [c9.mk B b h []]) (if q=true then h else (31:Int))) (0:Int)) (1:Int)) (bl n b).e) n.c) n.d.down)
 obtain ⟨U,V,W⟩:=id o.d;have X:=o.log;(repeat' with_reducible first|apply aT|refine aW ?_|intro)
 all_goals (first | exact bR | exact (amG p ab) | exact (ahk o p ab) | exact (akF p ab) | exact ahI | exact aj5 | exact (afI o p).1 | exact (afI o p).2.1 | exact (afI o p).2.2 | exact (afT o).1 | exact (afT o).2.1 | exact (afT o).2.2 | exact (af3 o p).1 | exact (af3 o p).2.1 | exact (af3 o p).2.2 | (rw [afi (n:=n) (b:=b) p Q ab ab] <;> rfl) | (rw [aeS (n:=n) (b:=b) p Q ab ab] <;> rfl) | (rw [ach (n:=n) (b:=b) p Q ab] <;> rfl))
theorem MX (b:Int) (n:Nd) (f:o8 n) (g:n.d.down=true) (h:cN b (max (ik n.d.b).1.floor 1)=0):s6 prog (av l6) 13 [.c (.ptr 0 0),.c (.int (b))] (mK n) ⟨[o8 n,n.d.down=true,cN b (max (ik n.d.b).1.floor 1)=0],[.c (.int (((bl n b).e)))],some ([.box 103 (P6 0 (((bl n b).n.c))++[.em true,.em true,.em true,.em true,.em true]),.box 147 ([.own 2,.int (((bl n b).n.d.ee)),.bool (.atom (((bl n b).n.d.down))),.bool (.atom (((bl n b).n.d.jx))),.int (((bl n b).n.d.dm))]),.row 5 .u8 (((bl n b).n.d.b)),.row 78 (.nm .nd) ((n.rp)),.row 4 .bool ((n.vs)),.row 3 .int ((n.bn)),.row 3 .int ((n.nx)),.row 3 .int ((n.mt))]),false⟩:=yg _ _ _ rfl (by intro p a; simp only [u2,R2,or_false] at a; rcases a with rfl | rfl | rfl <;> assumption)
def xt:Kn:=aH (ae (kC (bm 0 0)) (ae (kC cI) ao)) tW fun (_,b,_) n=>⟨[o8 n,n.d.down=false\/¬ cN b (max (ik n.d.b).1.floor 1)=0],[.c (.int (((bl n b).e)))],some ((mK ((bl n b).n))),false⟩
def ye:CK 13 xt:=ag fun (_,b,_) n A=>by
 have B:=b_ A;have C:=b_ (dv A);refine bP tq [] func13 (?_:(fun (z:Bool)=>(fun (v:Int)=>(fun (t:Int)=>(fun (h:Int)=>(fun (q:Int)=>(fun (x:List (l5 (Sh.nm NT.record)))=>(fun (u:c4 × Int)=>(fun (j:Int)=>(fun (r:Int)=>(fun (p:n9)=>(fun (i:n9)=>(fun (k:Nd)=>(fun (g:n9)=>(fun (a:y8)=>(fun (w:Prop)=>(fun (y:Nd)=>(fun (l:Nd)=>(fun (f:y8)=>(fun (o:n9)=>a7 b->(z=false->(31:Int)=v/\cK n k)/\(z=true->(h<=n.d.ee/\n.d.ee<=(n.d.b.length:Int)/\n.d.b.length<=(65536:Nat))/\n.d.b.length<=(1000000:Nat)/\cS u.fst (a7 j->a7 r->(¬r=h->r=v/\cK n k)/\(r=h->a7 q->(¬q=h->q=v/\cK (Nd.mk n.c p n.rp n.vs n.bn n.nx n.mt) k)/\(q=h->(h<=p.ee/\p.ee<=(p.b.length:Int)/\p.b.length<=(65536:Nat))/\(a7 (p.mH j)->(¬p.mH j=h->p.mH j=v/\cK (Nd.mk n.c i n.rp n.vs n.bn n.nx n.mt) k)/\(p.mH j=h->a7 t->a7 t->a7 h->a7 h->(0:Nat)*(32:Nat)<=(140737488355328:Nat)->(0:Nat)*(16:Nat)<=(140737488355328:Nat)->(0:Nat)*(64:Nat)<=(140737488355328:Nat)->(u.fst.floor<b->(h<=i.ee/\i.ee<=(i.b.length:Int)/\i.b.length<=(65536:Nat))/\u.fst.log.length<=(10000:Nat)/\x.length<=(1000:Nat)/\(a7 (y.bd x)->(¬y.bd x=h->(h<=l.d.ee/\l.d.ee<=(l.d.b.length:Int)/\l.d.b.length<=(65536:Nat))/\y.bd x=v/\f.me=a.me/\f.hY=a.hY/\f.bin=a.bin/\aN f.st a.st (f.j0=a.j0/\f.c7=a.c7/\f.c3=a.c3/\bS f.s a.s (False/\False/\False/\False/\False/\o.ee=g.ee/\o.down=g.down/\o.jx=g.jx/\o.dm=g.dm/\o.b=g.b/\w)))/\(y.bd x=h->h=v/\f.me=a.me/\f.hY=a.hY/\f.bin=a.bin/\aN f.st a.st (f.j0=a.j0/\f.c7=a.c7/\f.c3=a.c3/\bS f.s a.s (False/\False/\False/\False/\False/\l.d.ee=g.ee/\l.d.down=g.down/\l.d.jx=g.jx/\l.d.dm=g.dm/\l.d.b=g.b/\w)))))/\(b<=u.fst.floor->h=v/\n.c.me=a.me/\n.c.hY=a.hY/\b=a.bin/\aN u.fst a.st (h=a.j0/\h=a.c7/\h=a.c3/\bS (b7.mk t t h h [] [] []) a.s (False/\False/\False/\False/\False/\i.ee=g.ee/\i.down=g.down/\i.jx=g.jx/\i.dm=g.dm/\i.b=g.b/\w)))))))))) (l.d.dr h)) l.c) (y.ep x)) (Nd.mk (y8.mk n.c.me n.c.hY b u.fst h h h (b7.mk t t h h [] [] [])) i [] [] [] [] [])) (n.rp=k.rp/\n.vs=k.vs/\n.bn=k.bn/\n.nx=k.nx/\n.mt=k.mt)) k.c) k.d) (bl n b).n) (p.cut j)) (if z=true then n.d.up else n.d)) (cN b (max u.fst.floor t))) u.snd) (ik n.d.b)) [c9.mk t b h []]) (if z=true then h else (31:Int))) (0:Int)) (1:Int)) (bl n b).e) n.d.down);obtain ⟨D,F,G⟩:=id B.d;have H:=B.log;(repeat' with_reducible first|apply aT|refine aW ?_|intro)
 all_goals (first | exact bR | exact (akY C ab ab) | (rw [agB (n:=n) (b:=b) ab] <;> rfl) | (rw [aiM (n:=n) (b:=b) ab ab] <;> rfl))
theorem xO (b:Int) (n:Nd) (f:o8 n) (g:n.d.down=false\/¬ cN b (max (ik n.d.b).1.floor 1)=0):s6 prog (av l6) 13 [.c (.ptr 0 0),.c (.int (b))] (mK n) ⟨[o8 n,n.d.down=false\/¬ cN b (max (ik n.d.b).1.floor 1)=0],[.c (.int (((bl n b).e)))],some ((mK ((bl n b).n))),false⟩:=ye _ _ _ rfl (by intro p a; simp only [u2,R2,or_false] at a; rcases a with rfl | rfl <;> assumption)
def Ri (b:Int) (n:Nd) (a:o8 n):s6 prog (av l6) 13 [.c (.ptr 0 0),.c (.int (b))] (mK n) ⟨[o8 n],[.c (.int (((bl n b).e)))],some ((mK ((bl n b).n))),false⟩:=by
 by_cases f:n.d.down=true
 ·by_cases g:cN b (max (ik n.d.b).1.floor 1)=0
  ·have h:=s6.SF 0 22 3 .int cm rfl rfl (s6.SF 0 21 3 .int cm rfl rfl (s6.SF 0 20 3 .int cm rfl rfl (s6.SF 0 19 4 .bool cm rfl rfl (s6.SF 0 18 78 (.nm .nd) cm rfl rfl (s6.apo cm rfl acs (MX b n a f g)) rfl) rfl) rfl) rfl) rfl;obtain ⟨i,j,k,l,o⟩:=ams f g;rw [alS i j k l o];exact ⟨h.1,h.2⟩
  have h:=xO b n a (.inr g);exact ⟨h.1,h.2⟩
 have h:=xO b n a (.inl (by simpa using f));exact ⟨h.1,h.2⟩
def CX:Kn:=aH (ae (kC (bm 0 0)) (ae (kC cI) ao)) tW fun (_,b,_) n=>⟨[o8 n],[.c (.int (((bl n b).e)))],some ((mK ((bl n b).n))),false⟩
def SE:CK 13 CX:=ag fun (_,b,_) n a=>Ri b n (b_ a)
def aaw:ck:=(aI 13 CX (aI 13 xt (aI 13 xH aaT)))
def El:ay prog (av l6) aaw:=(ah SE (ah ye (ah yg tq)))
def amJ (n:Nd):AH:=.box 25 [.ptr 1 0] :: ndO 1 n
def adz:PH Nd:=PH.P4 (aF (eu 25 (ax (bm 1 0) dY)) (ah_ 1 au)) (·.2.1) (fun n=>(((),()),n,()))
def gR (n:Nd) (r:c9):Bool:=decide (r.kind=4) && decide (r.a<=n.c.c7)
def PD (n:Nd) (l:List c9):Int:=if l.any (gR n)=true then (l.findIdx (gR n):Int) else -1
section
variable {n:Nd} {l:List c9} {k:Nat} {r:c9}
def amq (h:(l.take k).any (gR n)=false) (a:l[k]? = some r) (c:gR n r=false):(l.take (k+1)).any (gR n)=false:=by
 rw [aj a,List.any_append,h]; simp [c]
def an1 (h:(l.take k).any (gR n)=false) (c:l[k]? = some r) (d:gR n r=true):(k:Int)=PD n l:=by
 have a:=r3.1 c;have f:l.any (gR n)=true:=List.any_eq_true.2 ⟨r,A9 c,d⟩;rw [PD,eg f];have e:l.findIdx (gR n)=k:=by
  rw [List.findIdx_eq a.1];refine ⟨by rw [a.2]; exact d,fun j g=>?_⟩;have:=List.any_eq_false.1 h (l[j]'(by have:=a.1; omega)) (List.mem_iff_getElem?.2 ⟨j,by rw [List.getElem?_take_of_lt g,p6]⟩);simpa using this
 rw [e]
def anA (h:(l.take k).any (gR n)=false) (a:(l.length:Int)<=k):-1=PD n l:=by
 rw [r6 az] at h;rw [PD,dc (by rw [h]; decide)]
def ane:decide (0<=PD n l)=l.any (gR n):=by
 unfold PD;cases h:l.any (gR n) <;> simp
end
def JL:Kn:=aH (ae (kT (.nm .record)) (ae (kC (bm 0 0)) ao)) adz fun (r,_,_) n=>⟨[],[.c (.bool (.atom ((gR n r))))],none,false⟩
theorem Wm:CK 97 JL:=ag fun (r,_,_) n _=>by
 refine aq El [] func97 (?_:eN r ((r.kind=4->decide (r.a<=n.c.c7)=gR n r)/\(¬r.kind=4->false=gR n r)));(repeat' with_reducible first|apply aT|refine aW ?_|intro)
 all_goals (first | (simp only [gR]; simp_all; done))
def aaj:ck:=(aI 97 JL aaw)
def C_:ay prog (av l6) aaj:=(ah Wm El)
def aoF (l:List c9) (n:Nd):List (Nat × LI):=[(2,{ σ:=Nat,F:=fun k=>([(0,one (.fz (.nm .record) (l))),(1,one (.fn 97 [] [(0,0)])),(7,one (.int (l).length)),(8,one (.int k))],(amJ (n))),J:=fun k=>k<=l.length/\(l.take k).any (gR n)=false,μ:=fun k=>(l).length - k })]
def aae:Kn:=aH (ae (kC (cL (.nm .record))) (ae (kC (sQ 97 [] [(0,0)])) ao)) adz fun (l,_,_) n=>⟨[],[.c (.int ((PD n l)))],none,false⟩
theorem agv:CK 168 aae:=ag fun (l,_,_) n _=>by
 refine aq C_ (aoF l n) func168 (?_:(fun (a:Nat)=>l.length*48<=140737488355328->∃ (d:Nat),(l=l/\(l.length:Int)=(a:Int)/\0=(d:Int)/\cK n n)/\(d<=a/\(take d l).any (gR n)=false)/\∀ (s:Nat),s<=a/\(take s l).any (gR n)=false->((s:Int)<(a:Int)->0<=(s:Int)/\(s:Int)<(l.length:Int)/\∀ (x:c9),l[s]? = some x->eN x ((gR n x=true->(s:Int)=PD n l)/\(gR n x=false->a7 ((s:Int)+1)/\∃ (c:Nat),(l=l/\(a:Int)=(a:Int)/\(s:Int)+1=(c:Int)/\cK n n)/\(c <= a/\(take c l).any (gR n)=false)/\a - c < a - s)))/\((a:Int)<=(s:Int) -> -1=PD n l)) l.length);iterate 3 ((all_goals (repeat' with_reducible first|apply aT|refine aW ?_|intro)); (all_goals try (first | exact bR | exact (amq ab ab ab) | exact (an1 ab ab ab) | exact (anA ab ab))); all_goals try first | refine ⟨‹Nat› + 1,?_⟩ | refine ⟨0,?_⟩)
def aau:ck:=(aI 168 aae aaj)
def Cq:ay prog (av l6) aau:=(ah agv C_)
def abr:Kn:=aH (ae (kC (cL (.nm .record))) (ae (kC (sQ 97 [] [(0,0)])) ao)) adz fun (l,_,_) n=>⟨[],[.c (.bool (.atom ((l.any (gR n)))))],none,false⟩
def aix:CK 96 abr:=ag fun (l,_,_) n _=>by
 refine aq Cq [] func96 (?_:l.length*48<=140737488355328->a7 (PD n l)->decide (0<=PD n l)=l.any (gR n));(repeat' with_reducible first|apply aT|refine aW ?_|intro)
 all_goals (exact ane)
def abB:ck:=(aI 96 abr aau)
def AZ:ay prog (av l6) abB:=(ah aix Cq)
variable {n:y8} {x:eR}
def ajC (h:(¬ o5 x=0\/¬ x.to=n.me)\/n.hY<=x.n7):dK n x=false:=eg h
def akW (h:o5 x=0) (c:x.to=n.me) (d:x.n7<n.hY) (a:¬ x.kind=3):dK n x=true:=by rw [dK,dc az,eg a]
def ahF (h:o5 x=0) (c:x.to=n.me) (d:x.n7<n.hY) (e:x.kind=3) (a:¬ (aD n.st x).2.2.2=0):dK n x=false:=by rw [dK,dc az,dc az,eg a]
variable {n:Nd}
def ahj (h:o5 x=0) (a:x.to=n.c.me) (d:x.n7<n.c.hY) (e:x.kind=3) (f:(aD n.c.st x).2.2.2=0):(!(aD n.c.st x).1.any (gR n))=dK n.c x:=by rw [dK,dc az,dc az,dc az]; rfl
def Rj:Kn:=aH (ae (kC (bm 0 0)) (ae (kT (.nm .letter)) ao)) tW fun (_,x,_) n=>⟨[],[.c (.bool (.atom ((dK n.c x))))],none,false⟩
def aeh:CK 55 Rj:=ag fun (_,x,_) n _=>by
 refine aq AZ [] func55 (?_:(fun a=>bf x (a7 (o5 x)->((¬o5 x=0\/¬x.to=n.c.me)\/n.c.hY<=x.n7->false=dK n.c x)/\((o5 x=0/\x.to=n.c.me)/\x.n7<n.c.hY->(¬x.kind=3->true=dK n.c x)/\(x.kind=3->(aD n.c.st x).fst.length*48<=140737488355328->a7 a.fst->a7 a.snd->(¬a.snd=0->false=dK n.c x)/\(a.snd=0->(!(aD n.c.st x).fst.any (gR n))=dK n.c x))))) (aD n.c.st x).snd.snd);(repeat' with_reducible first|apply aT|refine aW ?_|intro)
 all_goals (first | exact (ahj ab ab ab ab ab) | exact (ajC ab).symm | exact (akW ab ab ab ab).symm | exact (ahF ab ab ab ab ab).symm)
def abl:ck:=(aI 55 Rj abB)
def tF:ay prog (av l6) abl:=(ah aeh AZ)
theorem ahW:∀ {k:Nat} {n:Nd},(n.dO k).nx=n.nx/\(n.dO k).d=n.d/\(n.dO k).c.me=n.c.me/\(n.dO k).c.st=n.c.st
 | 0,_=>⟨rfl,rfl,rfl,rfl⟩
 | k+1,n=>by
  unfold Nd.dO;split
  ·split
   ·exact ahW
   grind
  grind
def abG:n.apply.nx=n.nx:=ahW.1
variable {l:List Int} {k:Int}
theorem Qi {s:c4} (h:k<=(s.log.length:Int)):nk s l k<=(s.log.length:Int):=by
 unfold nk;grind
abbrev Pz (n:Nd) (x:eR):Nd:=⟨⟨n.c.me,n.c.hY,n.c.bin,n.c.st,n.c.j0,nk n.c.st ((n.mt.set x.n7.toNat (max (n.mt.getD x.n7.toNat (c5 Sh.int)) (min x.a (n.c.st.log.length:Int)))).set n.c.me.toNat (n.c.st.log.length:Int)) n.c.c7,n.c.c3,n.c.s⟩,n.d,n.rp,n.vs,n.bn,n.nx.set x.n7.toNat (min (jZ (n.nx.getD x.n7.toNat (c5 Sh.int)) x) ((n.c.st.log.length:Int)+1)),n.mt.set x.n7.toNat (max (n.mt.getD x.n7.toNat (c5 Sh.int)) (min x.a (n.c.st.log.length:Int)))⟩
abbrev Ov (n:Nd) (x:eR):Nd:=⟨⟨n.c.me,n.c.hY,n.c.bin,n.c.st,n.c.j0,nk n.c.st (n.mt.set n.c.me.toNat (n.c.st.log.length:Int)) n.c.c7,n.c.c3,n.c.s⟩,n.d,n.rp,n.vs,n.bn,n.nx.set x.n7.toNat (min (jZ (n.nx.getD x.n7.toNat (c5 Sh.int)) x) ((n.c.st.log.length:Int)+1)),n.mt⟩
section
variable {n:Nd} {x:eR}
def RI (h:x.ok=true):n.Vu x=Pz n x:=by
 unfold Nd.Vu; dsimp only; rw [eg h]; rfl
def Pj (h:x.ok=false):n.Vu x=Ov n x:=by
 unfold Nd.Vu; dsimp only; rw [dc (nq h)]; rfl
def afL:(Pz n x).apply.nx.length=n.nx.length:=by rw [abG]; exact B8
def aeL:(Ov n x).apply.nx.length=n.nx.length:=by rw [abG]; exact B8
variable {G:Nd}
def agM (a:n.Vu x=G) (h:(n.c.st.log.length:Int)<G.apply.nx.getD x.n7.toNat (c5 Sh.int)):hP n x=⟨G.apply,[],0⟩:=by
 rw [hP,a]; exact eg h
def ai3 (a:n.Vu x=G) (h:G.apply.nx.getD x.n7.toNat (c5 Sh.int)<=(n.c.st.log.length:Int)) (d:¬ (jN G.apply x.n7).2=0):hP n x=⟨G.apply,[],(jN G.apply x.n7).2⟩:=by
 rw [hP,a]; exact (dc (Int.not_lt.2 h)).trans (dc d)
def aiD (a:n.Vu x=G) (h:G.apply.nx.getD x.n7.toNat (c5 Sh.int)<=(n.c.st.log.length:Int)) (d:(jN G.apply x.n7).2=0):hP n x=⟨G.apply,[(jN G.apply x.n7).1],0⟩:=by
 rw [hP,a]; exact (dc (Int.not_lt.2 h)).trans (eg d)
end
def dD (n:Nd) (k:Nat):Nd:={ n with c:={ n.c with j0:=2 },nx:=replicate k ((n.c.st.log.length:Int)+1)++n.nx.drop k,mt:=replicate k (0:Int)++n.mt.drop k }
theorem yA {c:Type} {a:c}:∀ {l:List c} {k:Nat},k<l.length->(replicate k a++l.drop k).set k a=replicate (k+1) a++l.drop (k+1)
 | x :: l,0,_=>by simp
 | x :: l,k+1,h=>by
  rw [List.replicate_succ,List.drop_succ_cons,D0,List.set_cons_succ,yA (by simpa using h),List.replicate_succ (n:=k+1),D0,List.drop_succ_cons]
section
variable {n:Nd} {k:Nat}
def ahn (h:(k:Int)<(n.nx.length:Int)):(dD n k).nx.set k ((n.c.st.log.length:Int)+1)=(dD n (k+1)).nx:=yA az
def ahD (h:(k:Int)<(n.mt.length:Int)):(dD n k).mt.set k 0=(dD n (k+1)).mt:=yA az
def abh (h:k<=n.nx.length):(dD n k).nx.length=n.nx.length:=by
 simp [dD]; omega
def akd (h:k<=n.mt.length):(dD n k).mt.length=n.mt.length:=by
 simp [dD]; omega
variable (h1:(n.nx.length:Int)=n.c.hY) (h2:(n.mt.length:Int)=n.c.hY) (hk:k<=n.c.hY.toNat) (hm:n.c.hY<=k)
include h1 h2 hk hm
theorem Z5:dD n k={ n with c:={ n.c with j0:=2 },nx:=replicate n.nx.length ((n.c.st.log.length:Int)+1),mt:=replicate n.mt.length 0 }:=by
 unfold dD;grind
def alF (h:(n.c.st.log.length:Int)+1<=64) (a:(dD n k).bd [⟨3,(n.c.st.log.length:Int)+1,(dD n k).c.st.bo,[]⟩]=0):gu n=⟨(dD n k).ep [⟨3,(n.c.st.log.length:Int)+1,(dD n k).c.st.bo,[]⟩],(cJ ((dD n k).ep [⟨3,(n.c.st.log.length:Int)+1,(dD n k).c.st.bo,[]⟩])).1,(cJ ((dD n k).ep [⟨3,(n.c.st.log.length:Int)+1,(dD n k).c.st.bo,[]⟩])).2⟩:=by
 rw [Z5 h1 h2 hk hm] at a ⊢;exact (eg h).trans (eg a)
def aoL (h:(n.c.st.log.length:Int)+1<=64) (a:¬ (dD n k).bd [⟨3,(n.c.st.log.length:Int)+1,(dD n k).c.st.bo,[]⟩]=0):gu n=⟨(dD n k).ep [⟨3,(n.c.st.log.length:Int)+1,(dD n k).c.st.bo,[]⟩],[],(dD n k).bd [⟨3,(n.c.st.log.length:Int)+1,(dD n k).c.st.bo,[]⟩]⟩:=by
 rw [Z5 h1 h2 hk hm] at a ⊢;exact (eg h).trans (dc a)
def alR (h:64<(n.c.st.log.length:Int)+1):gu n=⟨dD n k,(cJ (dD n k)).1,(cJ (dD n k)).2⟩:=by
 rw [Z5 h1 h2 hk hm];exact dc az
end
def ab0 (n:Nd):List (Nat × LI):=[(4,{ σ:=Nat,F:=fun k=>([(0,one (.ptr 0 0)),(4,one (.int (n.c.st.log.length+1))),(22,one (.int n.c.hY)),(23,one (.int k))],(mK ((dD n k)))),J:=fun k=>k<=n.c.hY.toNat,μ:=fun k=>n.c.hY.toNat - k })]
def Hw:Kn:=aH (ae (kC (bm 0 0)) (ae (kT (.nm .letter)) ao)) tW fun (_,x,_) n=>⟨[o8 n,0<=x.n7/\x.n7<n.c.hY,n.c.j0=2,0<=x.a/\x.a<=64],[.c (.fz (.nm .letter) (((hP n x).l))),.c (.int (((hP n x).e)))],some ((mK ((hP n x).n))),false⟩
def Xj:CK 103 Hw:=ag fun (_,x,_) n J=>by
 have A:=b_ J;have L:=b_ (dv J);have N:=b_ (dv (dv J));have O:=b_ (dv (dv (dv J)));refine bP tF [] func103 (?_:(fun f=>(fun r=>(fun F=>(fun i=>(fun K=>(fun q=>(fun D=>(fun h=>(fun p=>(fun o=>(fun j=>(fun g=>(fun w=>(fun t=>(fun H=>(fun B=>(fun I=>(fun C=>(fun u=>(fun y=>(fun v=>(fun z=>bf x (j/\o<(n.nx.length:Int)/\(p<=x.a/\x.a<=64)/\a7 (t+1)/\j/\o<(n.nx.length:Int)/\(a7 w->a7 (jZ w x)->a7 w->(x.ok=true->j/\o<(n.mt.length:Int)/\j/\o<(n.mt.length:Int)/\(a7 (n.mt.getD g q)->a7 (n.mt.getD g q)->p<=f.me/\f.me<(I.length:Int)/\(a7 (I.getD D q)->(I.set D t).length<=12/\(a7 C->((p<=r/\C<=(i.log.length:Int))/\K)/\j/\o<(v.nx.length:Int)/\(a7 (v.nx.getD g q)->(t<v.nx.getD g q->h.l=[]/\p=h.e/\cK v h.n)/\(v.nx.getD g q<=t->(j/\o<(v.nx.length:Int))/\bf (jN v o).fst (a7 z->(¬z=p->h.l=[]/\z=h.e/\cK v h.n)/\(z=p->[(jN v o).fst]=h.l/\p=h.e/\cK v h.n))))))))/\(x.ok=false->p<=f.me/\f.me<(n.mt.length:Int)/\(a7 (n.mt.getD D q)->(n.mt.set D t).length<=12/\(a7 B->((p<=r/\B<=(i.log.length:Int))/\K)/\j/\o<(u.nx.length:Int)/\(a7 (u.nx.getD g q)->(t<u.nx.getD g q->h.l=[]/\p=h.e/\cK u h.n)/\(u.nx.getD g q<=t->(j/\o<(u.nx.length:Int))/\bf (jN u o).fst (a7 y->(¬y=p->h.l=[]/\y=h.e/\cK u h.n)/\(y=p->[(jN u o).fst]=h.l/\p=h.e/\cK u h.n)))))))))) (jN v o).snd) (Nd.mk (y8.mk f.me f.hY f.bin i f.j0 C r f.s) n.d n.rp n.vs n.bn H I).apply) (jN u o).snd) (Nd.mk (y8.mk f.me f.hY f.bin i f.j0 B r f.s) n.d n.rp n.vs n.bn H n.mt).apply) (nk i (I.set D t) F)) (n.mt.set g (max (n.mt.getD g q) (min x.a t)))) (nk i (n.mt.set D t) F)) (n.nx.set g (min (jZ w x) (t+1)))) (i.log.length:Int)) (n.nx.getD g q)) o.toNat) (p<=o)) x.n7) (0:Int)) (hP n x)) f.me.toNat) (c5 Sh.int)) ((n.rp.length:Int)<=r/\i.log.length<=10000)) f.st) f.c7) f.c3) n.c);obtain ⟨P,Q,S⟩:=id A.d;have T:=A.log;have U:=A.hY;have V:=A.me;have o7:=A.y3;have W:=A.bo;have X:=A.rp;obtain ⟨Y,Z,b,k⟩:=A.len.resolve_left az;(repeat' with_reducible first|apply aT|refine aW ?_|intro)
 all_goals (first | exact bR | exact (Qi o7.2.2) | (rw [afL]; omega) | (rw [aeL]; omega) | (rw [B8]; omega) | (rw [B8,B8]; omega) | (rw [agM (n:=n) (x:=x) (G:=Pz n x) (RI ab) ab] <;> rfl) | (rw [ai3 (n:=n) (x:=x) (G:=Pz n x) (RI ab) ab ab] <;> rfl) | (rw [aiD (n:=n) (x:=x) (G:=Pz n x) (RI ab) ab ab] <;> rfl) | (rw [agM (n:=n) (x:=x) (G:=Ov n x) (Pj ab) ab] <;> rfl) | (rw [ai3 (n:=n) (x:=x) (G:=Ov n x) (Pj ab) ab ab] <;> rfl) | (rw [aiD (n:=n) (x:=x) (G:=Ov n x) (Pj ab) ab ab] <;> rfl))
def Ir:Kn:=aH (ae (kC (bm 0 0)) ao) tW fun _ n=>⟨[o8 n,n.c.j0=1],[.c (.fz (.nm .letter) (((gu n).l))),.c (.int (((gu n).e)))],some ((mK ((gu n).n))),false⟩
theorem Xv:CK 102 Ir:=ag fun _ n v=>by
 have j:=b_ v;have F:=b_ (dv v);refine bP tF (ab0 n) func102 (?_:(fun (w:Int)=>(fun (h:H8)=>(fun (i:Int)=>(fun (f:Int)=>(fun (y:Int)=>(fun (o:Int)=>a7 w/\∃ (t:Nat),(w=o/\f=f/\i=(t:Int)/\cK (Nd.mk (y8.mk n.c.me f n.c.bin n.c.st 2 n.c.c7 n.c.c3 n.c.s) n.d n.rp n.vs n.bn n.nx n.mt) (dD n t))/\t<=f.toNat/\∀ (s:Nat),(fun (a:Nd)=>(fun (p:List (l5 (Sh.nm NT.record)))=>(fun (g:Nd)=>s<=f.toNat->((s:Int)<f->(i<=(s:Int)/\(s:Int)<(a.nx.length:Int))/\(a7 (a.nx.getD s (c5 Sh.int))->i<=(s:Int)/\(s:Int)<(a.mt.length:Int))/\(a7 (a.nx.getD s (c5 Sh.int))->a7 (a.mt.getD s (c5 Sh.int))->a7 ((s:Int)+1)/\∃ (q:Nat),(o=o/\f=f/\(s:Int)+1=(q:Int)/\cK (Nd.mk a.c a.d a.rp a.vs a.bn (a.nx.set s o) (a.mt.set s i)) (dD n q))/\q <= f.toNat/\f.toNat - q < f.toNat - s))/\(f<=(s:Int)->(o<=64->(i<=a.d.ee/\a.d.ee<=(a.d.b.length:Int)/\a.d.b.length<=65536)/\a.c.st.log.length<=10000/\p.length<=1000/\(a7 (a.bd p)->(¬a.bd p=i->h.l=[]/\a.bd p=h.e/\cK g h.n)/\(a.bd p=i->g.c.hY<=5/\(g.c.j0=i\/(g.nx.length:Int)=g.c.hY)/\((cJ g).fst.length*96<=140737488355328->a7 (cJ g).snd->(cJ g).fst=h.l/\(cJ g).snd=h.e/\cK g h.n))))/\(64<o->a.c.hY<=5/\(a.c.j0=i\/(a.nx.length:Int)=a.c.hY)/\((cJ a).fst.length*96<=140737488355328->a7 (cJ a).snd->(cJ a).fst=h.l/\(cJ a).snd=h.e/\cK a h.n)))) (a.ep p)) [c9.mk y o a.c.st.bo []]) (dD n s)) ((n.c.st.log.length:Int)+1)) 3) n.c.hY) 0) (gu n)) ((n.c.st.log.length:Int)+1));obtain ⟨z,A,B⟩:=id j.d;have C:=j.log;have D:=j.hY;have G:=j.me;have o7:=j.y3;have H:=j.bo;have I:=j.rp;obtain ⟨J,K,r,u⟩:=j.len.resolve_left az;iterate 3 ((all_goals (repeat' with_reducible first|apply aT|refine aW ?_|intro)); (all_goals try (first | exact bR | exact rfl | exact (ahn az) | exact (ahD az) | (rw [abh az]; omega) | (rw [akd az]; omega) | exact (.inr ((hC Int.ofNat (abh az)).trans r)) | exact aj5 | exact D.2 | exact z | exact A | exact B | exact (z7 C am) | (rw [alF (n:=n) (k:=‹Nat›) r u ab ab ab ab] <;> rfl) | (rw [aoL (n:=n) (k:=‹Nat›) r u ab ab ab ab] <;> rfl) | (rw [alR (n:=n) (k:=‹Nat›) r u ab ab ab] <;> rfl))); all_goals try first | refine ⟨‹Nat› + 1,?_⟩ | refine ⟨0,?_⟩)
def abK:ck:=(aI 102 Ir (aI 103 Hw abl))
def CS:ay prog (av l6) abK:=(ah Xv (ah Xj tF))
variable {t:Int}
theorem KM {s:c4}:(ed s (aB s t)).1.log=s.log:=by
 unfold aB;split
 ·rfl
 rw [ed];split
 ·rw [ed];unfold ba;split
  ·rfl
  split
  ·rename_i u h;rw [gl,dc (show ¬ (2:Int)=1 by decide),eg rfl,gj] at h;grind
  rfl
 rfl
abbrev R4 (n:Nd) (x:eR):Nd:=⟨(n.ep (aB n.c.st x.bo)).c,(n.ep (aB n.c.st x.bo)).d,(n.ep (aB n.c.st x.bo)).rp,(n.ep (aB n.c.st x.bo)).vs,(n.ep (aB n.c.st x.bo)).bn.set x.n7.toNat x.bin,(n.ep (aB n.c.st x.bo)).nx,(n.ep (aB n.c.st x.bo)).mt⟩
abbrev YL (n:Nd) (x:eR):Nd:=⟨(n.ep (aB n.c.st x.bo)).c,(n.ep (aB n.c.st x.bo)).d,(n.ep (aB n.c.st x.bo)).rp,(n.ep (aB n.c.st x.bo)).vs.set x.n7.toNat true,(n.ep (aB n.c.st x.bo)).bn.set x.n7.toNat x.bin,(n.ep (aB n.c.st x.bo)).nx,(n.ep (aB n.c.st x.bo)).mt⟩
def NW {s:c4}:(aB s t).length<=1000:=z7 gJ am
section
variable {n:Nd} {x:eR}
def ag4 (h:¬ n.bd (aB n.c.st x.bo)=0):bO n x=⟨n.ep (aB n.c.st x.bo),[],n.bd (aB n.c.st x.bo)⟩:=eg h
variable (h:n.bd (aB n.c.st x.bo)=0)
include h
def ajA (a:¬ x.bo=(n.ep (aB n.c.st x.bo)).c.st.bo\/(n.ep (aB n.c.st x.bo)).c.j0=0):bO n x=⟨n.ep (aB n.c.st x.bo),[],0⟩:=(dc (B4.2 h)).trans (eg a)
def aar (a:o8 n):o8 (n.ep (aB n.c.st x.bo)):=by
 have f:(n.ep (aB n.c.st x.bo)).c.st=(ed n.c.st (aB n.c.st x.bo)).1:=(yN h).1;have e:=po (l:=aB n.c.st x.bo) a.log a.bo;rw [<- f] at e;refine ⟨sm a.d,a.hY,a.me,e.1,e.2,⟨a.y3.1,a.y3.2.1,?_⟩,a.len,a.rp⟩;rw [f,KM]; exact a.y3.2.2
def aeg (a:o8 n):o8 (R4 n x):=by
 have k:=aar h a;exact ⟨k.d,k.hY,k.me,k.log,k.bo,k.y3,k.len.imp id fun q=>⟨q.1,by rw [B8]; exact q.2.1,q.2.2⟩,k.rp⟩
def ad5 (a:o8 n):o8 (YL n x):=by
 have k:=aar h a;exact ⟨k.d,k.hY,k.me,k.log,k.bo,k.y3,k.len.imp id fun q=>⟨by rw [B8]; exact q.1,by rw [B8]; exact q.2.1,q.2.2⟩,k.rp⟩
omit h in
def agS (a:o8 n) (e:x.n7<n.c.hY) (d:¬ (n.ep (aB n.c.st x.bo)).c.j0=0):x.n7<((n.ep (aB n.c.st x.bo)).bn.length:Int)/\x.n7<((n.ep (aB n.c.st x.bo)).vs.length:Int):=by
 have q:=a.len.resolve_left d;exact ⟨by show x.n7<(n.bn.length:Int); omega,by show x.n7<(n.vs.length:Int); omega⟩
variable (h1:x.bo=(n.ep (aB n.c.st x.bo)).c.st.bo) (h2:¬ (n.ep (aB n.c.st x.bo)).c.j0=0)
include h1 h2
def U_:bO n x=if (x.kind=2/\x.ok=true)/\(n.ep (aB n.c.st x.bo)).c.j0=1 then (if rL (YL n x).vs=true then gu (YL n x) else ⟨YL n x,[],0⟩) else if x.kind=4/\(n.ep (aB n.c.st x.bo)).c.j0=2 then hP (R4 n x) x else ⟨R4 n x,[],0⟩:=
 (dc (B4.2 h)).trans (dc (by rintro (q | q); exact q h1; exact h2 q))
def anp (a:x.kind=2) (d:x.ok=true) (e:(n.ep (aB n.c.st x.bo)).c.j0=1) (f:rL (YL n x).vs=true):bO n x=gu (YL n x):=(U_ h h1 h2).trans ((eg ⟨⟨a,d⟩,e⟩).trans (eg f))
def aoS (a:x.kind=2) (d:x.ok=true) (e:(n.ep (aB n.c.st x.bo)).c.j0=1) (f:rL (YL n x).vs=false):bO n x=⟨YL n x,[],0⟩:=(U_ h h1 h2).trans ((eg ⟨⟨a,d⟩,e⟩).trans (dc (nq f)))
def alI (d:(¬ x.kind=2\/x.ok=false)\/¬ (n.ep (aB n.c.st x.bo)).c.j0=1) (e:x.kind=4) (f:(n.ep (aB n.c.st x.bo)).c.j0=2):bO n x=hP (R4 n x) x:=
 (U_ h h1 h2).trans ((dc (by rintro ⟨⟨a,b⟩,c⟩; rcases d with (q | q) | q; exact q a; exact nq q b; exact q c)).trans (eg ⟨e,f⟩))
def alA (d:(¬ x.kind=2\/x.ok=false)\/¬ (n.ep (aB n.c.st x.bo)).c.j0=1) (e:¬ x.kind=4\/¬ (n.ep (aB n.c.st x.bo)).c.j0=2):bO n x=⟨R4 n x,[],0⟩:=
 (U_ h h1 h2).trans ((dc (by rintro ⟨⟨a,b⟩,c⟩; rcases d with (q | q) | q; exact q a; exact nq q b; exact q c)).trans (dc (by rintro ⟨a,b⟩; rcases e with q | q; exact q a; exact q b)))
end
def rA:Kn:=aH (ae (kC (bm 0 0)) (ae (kT (.nm .letter)) ao)) tW fun (_,x,_) n=>⟨[o8 n,0<=x.n7/\x.n7<n.c.hY,0<=x.a/\x.a<=64],[.c (.fz (.nm .letter) (((bO n x).l))),.c (.int (((bO n x).e)))],some ((mK ((bO n x).n))),false⟩
def CU:CK 58 rA:=ag fun (_,x,_) n s=>by
 have o:=b_ s;have u:=b_ (dv s);have y:=b_ (dv (dv s));refine bP CS [] func58 (?_:(fun w=>(fun h=>(fun p=>(fun g=>(fun q=>(fun f=>(fun i=>(fun v=>(fun r=>(fun j=>bf x (((h<=n.d.ee/\n.d.ee<=(n.d.b.length:Int)/\n.d.b.length<=65536)/\n.c.st.log.length<=10000/\p.length<=1000)/\(a7 (n.bd p)->(¬n.bd p=h->g.l=[]/\n.bd p=g.e/\cK f g.n)/\(n.bd p=h->(¬x.bo=f.c.st.bo\/i=h->g.l=[]/\h=g.e/\cK f g.n)/\(x.bo=f.c.st.bo/\¬i=h->h<=x.n7/\x.n7<(f.bn.length:Int)/\(a7 (f.bn.getD q (c5 Sh.int))->((x.kind=2/\x.ok=true)/\i=1->h<=x.n7/\x.n7<(f.vs.length:Int)/\(rL (f.vs.set q true)=true->o8 j/\i=1/\((gu j).l.length*96<=140737488355328->a7 (gu j).e->(gu j).l=g.l/\(gu j).e=g.e/\cK (gu j).n g.n))/\(rL (f.vs.set q true)=false->g.l=[]/\h=g.e/\cK j g.n))/\((¬x.kind=2\/x.ok=false)\/¬i=1->(x.kind=4/\i=2->o8 v/\(h<=x.n7/\x.n7<f.c.hY)/\i=2/\(h<=x.a/\x.a<=64)/\(r.l.length*96<=140737488355328->a7 r.e->r.l=g.l/\r.e=g.e/\cK r.n g.n))/\(¬x.kind=4\/¬i=2->g.l=[]/\h=g.e/\cK v g.n)))))))) (Nd.mk f.c f.d f.rp (f.vs.set q true) (f.bn.set q w) f.nx f.mt)) (hP v x)) (Nd.mk f.c f.d f.rp f.vs (f.bn.set q w) f.nx f.mt)) f.c.j0) (n.ep p)) x.n7.toNat) (bO n x)) (aB n.c.st x.bo)) (0:Int)) x.bin);obtain ⟨z,A,B⟩:=id o.d;have C:=o.log;(repeat' with_reducible first|apply aT|refine aW ?_|intro)
 all_goals (first | exact bR | exact NW | exact (ad5 ab o) | exact (aeg ab o) | exact (agS o u.2 ab).1 | exact (agS o u.2 ab).2 | exact u.2 | (rw [ag4 (n:=n) (x:=x) ab] <;> rfl) | (rw [ajA (n:=n) (x:=x) ab ab] <;> rfl) | (rw [anp (n:=n) (x:=x) ab ab ab ab ab ab ab] <;> rfl) | (rw [aoS (n:=n) (x:=x) ab ab ab ab ab ab ab] <;> rfl) | (rw [alI (n:=n) (x:=x) ab ab ab ab ab ab] <;> rfl) | (rw [alA (n:=n) (x:=x) ab ab ab ab ab] <;> rfl))
def Z_:ck:=(aI 58 rA abK)
def AP:ay prog (av l6) Z_:=(ah CU CS)
section
variable {n:Nd} {x:eR}
def QH (d:dK n.c x=true):0<=x.n7/\x.n7<n.c.hY/\0<=x.a/\x.a<=64/\1<=x.kind/\x.kind<=4:=by
 have h:=(zD d).1;have:=gi h.may;have:=h.n7;omega
def ami {p:Prop} (a:dK n.c x=true) (d:¬ x.kind=1) (e:¬ x.kind=2) (f:¬ x.kind=3) (g:¬ x.kind=4):p:=by
 have:=QH a; omega
def KE (h:o8 n):o8 n.follow:=⟨h.d,h.hY,h.me,h.log,h.bo,h.y3,.inl rfl,h.rp⟩
def agU (a:dK n.c x=true):dK n.follow.c x=true:=a
def ai_ (h:n.d.down=true):bH n x=⟨n,[],30⟩:=eg h
variable (h:n.d.down=false)
include h
def aia (a:dK n.c x=false):bH n x=⟨n,[],1⟩:=(dc (nq h)).trans (eg a)
variable (hm:dK n.c x=true)
include hm
def Tw (a:n.c.st.bo<x.bo):bH n x=if x.kind=1 then dt n.follow x else if x.kind=3 then cF n.follow x else bO n.follow x:=by
 rw [bH,dc (nq h),dc (by rw [hm]; decide),eg a]
def Ut (a:x.bo<=n.c.st.bo):bH n x=if x.kind=1 then dt n x else if x.kind=3 then cF n x else bO n x:=by
 rw [bH,dc (nq h),dc (by rw [hm]; decide),dc (show ¬ n.c.st.bo<x.bo by omega)]
section
variable (ht:n.c.st.bo<x.bo)
include ht
def ao5 (a:x.kind=1):bH n x=dt n.follow x:=(Tw h hm ht).trans (eg a)
def al5 (a:x.kind=3):bH n x=cF n.follow x:=(Tw h hm ht).trans ((dc az).trans (eg a))
def aoZ (a:x.kind=2):bH n x=bO n.follow x:=(Tw h hm ht).trans ((dc az).trans (dc az))
def ano (a:x.kind=4):bH n x=bO n.follow x:=(Tw h hm ht).trans ((dc az).trans (dc az))
end
section
variable (ht:x.bo<=n.c.st.bo)
include ht
def aoz (a:x.kind=1):bH n x=dt n x:=(Ut h hm ht).trans (eg a)
def anW (a:x.kind=3):bH n x=cF n x:=(Ut h hm ht).trans ((dc az).trans (eg a))
def ank (a:x.kind=2):bH n x=bO n x:=(Ut h hm ht).trans ((dc az).trans (dc az))
def alJ (a:x.kind=4):bH n x=bO n x:=(Ut h hm ht).trans ((dc az).trans (dc az))
end
end
def uE:Kn:=aH (ae (kC (bm 0 0)) (ae (kT (.nm .letter)) ao)) tW fun (_,x,_) n=>⟨[o8 n],[.c (.fz (.nm .letter) (((bH n x).l))),.c (.int (((bH n x).e)))],some ((mK ((bH n x).n))),false⟩
def Gc:CK 16 uE:=ag fun (_,x,_) n G=>by
 have B:=b_ G;refine bP AP [] func16 (?_:(fun i=>(fun j=>(fun g=>(fun h=>(fun v=>(fun y=>(fun z=>(fun A=>(fun C=>(fun r=>(fun D=>(fun f=>(fun F=>(fun u=>(fun o=>(fun p=>(fun q=>(fun w=>bf x ((n.d.down=true->f.l=[]/\30=f.e/\cK n f.n)/\(n.d.down=false->(dK n.c x=false->f.l=[]/\1=f.e/\cK n f.n)/\(dK n.c x=true->(n.c.st.bo<x.bo->(y->w)/\(¬y->(z->w)/\(¬z->(r->bf x (o8 u/\dK C x=true/\r)/\bf x (p.l.length*h<=g->a7 p.e->p.l=f.l/\p.e=f.e/\cK p.n f.n))/\(¬r->(A->bf x (o8 u)/\bf x (o.l.length*h<=g->a7 o.e->o.l=f.l/\o.e=f.e/\cK o.n f.n))/\(¬A->False)))))/\(x.bo<=n.c.st.bo->(y->F)/\(¬y->(z->F)/\(¬z->(r->bf x (o8 n/\dK n.c x=true/\r)/\bf x (j.l.length*h<=g->a7 j.e->j.l=f.l/\j.e=f.e/\cK j.n f.n))/\(¬r->(A->bf x (o8 n)/\bf x (i.l.length*h<=g->a7 i.e->i.l=f.l/\i.e=f.e/\cK i.n f.n))/\(¬A->False))))))))) (bf x (o8 u/\D)/\bf x (q.l.length*h<=g->a7 q.e->q.l=f.l/\q.e=f.e/\cK q.n f.n))) (bO u x)) (cF u x)) (dt u x)) (Nd.mk C n.d n.rp n.vs n.bn n.nx n.mt)) (bf x (o8 n/\D)/\bf x (v.l.length*h<=g->a7 v.e->v.l=f.l/\v.e=f.e/\cK v.n f.n))) (bH n x)) ((0<=x.n7/\x.n7<n.c.hY)/\0<=x.a/\x.a<=64)) (x.kind=3)) (y8.mk n.c.me n.c.hY n.c.bin n.c.st 0 n.c.c7 n.c.c3 n.c.s)) (x.kind=1)) (x.kind=2)) (x.kind=4)) (bO n x)) (96:Nat)) (140737488355328:Nat)) (cF n x)) (dt n x));(repeat' with_reducible first|apply aT|refine aW ?_|intro)
 all_goals (first | exact bR | exact B | exact (KE B) | exact (agU (n:=n) ab) | exact (ami (n:=n) ab ab ab ab ab) | exact (QH (n:=n) ab).1 | exact (QH (n:=n) ab).2.1 | exact (QH (n:=n) ab).2.2.1 | exact (QH (n:=n) ab).2.2.2.1 | (rw [ai_ (n:=n) (x:=x) ab] <;> rfl) | (rw [aia (n:=n) (x:=x) ab ab] <;> rfl) | (rw [ao5 (n:=n) (x:=x) ab ab ab ab] <;> rfl) | (rw [al5 (n:=n) (x:=x) ab ab ab ab] <;> rfl) | (rw [aoZ (n:=n) (x:=x) ab ab ab ab] <;> rfl) | (rw [ano (n:=n) (x:=x) ab ab ab ab] <;> rfl) | (rw [aoz (n:=n) (x:=x) ab ab ab ab] <;> rfl) | (rw [anW (n:=n) (x:=x) ab ab ab ab] <;> rfl) | (rw [ank (n:=n) (x:=x) ab ab ab ab] <;> rfl) | (rw [alJ (n:=n) (x:=x) ab ab ab ab] <;> rfl))
def ZX:ck:=(aI 16 uE Z_)
def mh:ay prog (av l6) ZX:=(ah Gc AP)
theorem Qo {s:c4} (h:(ed s [⟨3,(s.log.length:Int)+1,t,b⟩]).2=0):(ed s [⟨3,(s.log.length:Int)+1,t,b⟩]).1={ s with log:=s.log++[⟨t,b⟩] }:=by
 have a:(ba s ⟨3,(s.log.length:Int)+1,t,b⟩).2=0:=by
  rw [ed] at h;grind
 obtain ⟨_,c⟩:=qN a;rw [gl,dc (show ¬ (3:Int)=1 by decide),dc (show ¬ (3:Int)=2 by decide),eg rfl,eH,dc (by dsimp only; omega)] at c;rw [lh a];grind
def KV {d:n9} {s:c4} {l:List c9} (h:(l7 d s l).2.2=0):(ed s l).2=0:=(yN h).2
variable {L L':List c9}
def o6.of_eq {a:Nd} {l:List eR} (h:o6 m L a l L') (e:m.d=n.d) (f:m.c.me=n.c.me/\m.c.hY=n.c.hY/\m.c.c7=n.c.c7/\m.c.st=n.c.st/\m.c.bin=n.c.bin):o6 n L a l L':=by
 obtain ⟨g,i,j,o,p⟩:=f;exact ⟨h.inv,h.pre,by rw [<- g,<- i]; exact h.me,by rw [<- e]; exact h.len,h.lets,fun q r=>by rw [<- j,<- o,<- p]; exact h.mono (by rw [e]; exact q) r⟩
theorem IC (h:r9 n L) (a:n.d.down=false) (j:1<=t):∃ L',o6 n L (n.ep [⟨3,(n.c.st.log.length:Int)+1,t,b⟩]) [] L':=by
 have i:∀ r ∈ [c9.mk 3 ((n.c.st.log.length:Int)+1) t b],r.kind=3->1<=r.b:=fun r e _=>by rw [A1.1 e]; exact j
 by_cases f:n.bd [⟨3,(n.c.st.log.length:Int)+1,t,b⟩]=0
 ·have y:=ot h a aa i f;have o:=h.up a;have g:=y.st;rw [Qo (KV f)] at g;have p:=h.ok.y3;refine ⟨_,ni h a y (fun e=>by rw [g]; exact o.jc e) (by rw [g]) ?_ ?_ fun _=>?_⟩
  ·grind
  ·grind
  grind
 exact lZ h a aa i f
def SY {c:Type} {a d:c}:∀ {k i:Nat},i<k->(replicate k a).getD i d=a:=fun h=>by
 rw [ts,List.getElem?_replicate,eg h]; rfl
def acS (h:r9 n L) (j:n.d.down=false) (r:n.c.j0=1):∃ L',o6 n L (gu n).n (gu n).l L':=by
 have a:=h.up j;have o:=a.jc az;have e:=h.ok.len.resolve_left az;have p:r9 { n with c:={ n.c with j0:=2 },nx:=replicate n.nx.length ((n.c.st.log.length:Int)+1),mt:=replicate n.mt.length 0 } L:=
  ⟨⟨h.ok.d,h.ok.hY,h.ok.me,h.ok.log,h.ok.bo,h.ok.y3,.inr ⟨e.1,e.2.1,by dsimp only; rw [L6]; exact e.2.2.1,by dsimp only; rw [L6]; exact e.2.2.2⟩,h.ok.rp⟩,h.d,h.le,fun _=>
   ⟨a.st,a.bin,⟨(by decide:(0:Int)<=2),(by decide:(2:Int)<=2)⟩,fun _=>o,fun _ i f=>by
    dsimp only at f ⊢;rw [SY az]; omega,a.pl⟩⟩
 unfold gu;dsimp only;split
 ·obtain ⟨L',q⟩:=IC (t:=n.c.st.bo) (b:=[]) p j o.2;split
  ·exact ⟨L',(q.of_eq (n:=n) rfl ⟨rfl,rfl,rfl,rfl,rfl⟩).tell fun x g=>qH g⟩
  exact ⟨L',q.of_eq (n:=n) rfl ⟨rfl,rfl,rfl,rfl,rfl⟩⟩
 exact ⟨L,((o6.refl p).of_eq (n:=n) rfl ⟨rfl,rfl,rfl,rfl,rfl⟩).tell fun x g=>qH g⟩
def aes {s:c4}:k<=nk s l k:=by
 unfold nk;split <;> omega
theorem acw (c:0<=x.a):1<=jZ k x:=by
 unfold jZ;grind
theorem ab1 (h:r9 n L) (o:n.d.down=false) (p:n.c.j0=2) (v:0<=x.a) (w:x.n7≠n.c.me/\0<=x.n7/\x.n7<n.c.hY):∃ L',o6 n L (hP n x).n (hP n x).l L':=by
 have g:=h.up o;have j:=h.ok.len.resolve_left az;generalize f:n.nx.set x.n7.toNat (min (jZ (n.nx.getD x.n7.toNat 0) x) ((n.c.st.log.length:Int)+1))=nx;generalize q:(if x.ok=true then n.mt.set x.n7.toNat (max (n.mt.getD x.n7.toNat 0) (min x.a (n.c.st.log.length:Int))) else n.mt)=mt;have y:nx.length=n.nx.length:=by rw [<- f,B8]
 have A:mt.length=n.mt.length:=by grind
 have B:r9 { n with nx:=nx,mt:=mt } L:=⟨⟨h.ok.d,h.ok.hY,h.ok.me,h.ok.log,h.ok.bo,h.ok.y3,.inr ⟨j.1,j.2.1,by dsimp only; rw [y]; exact j.2.2.1,by dsimp only; rw [A]; exact j.2.2.2⟩,h.ok.rp⟩,h.d,h.le,fun _=>
   ⟨g.st,g.bin,g.j0,g.jc,fun p i r=>by
    dsimp only;rw [<- f];by_cases e:x.n7.toNat=i
    ·subst e;rw [ts,E8 az];have:=acw (k:=n.nx.getD x.n7.toNat 0) v;grind
    rw [ts,L8 e,<- ts];exact g.nx p i r,g.pl⟩⟩
 have C:n.Vu x={ ({ n with nx:=nx,mt:=mt }:Nd) with c:={ n.c with c7:=nk n.c.st (mt.set n.c.me.toNat (n.c.st.log.length:Int)) n.c.c7 } }:=by
  unfold Nd.Vu;dsimp only;rw [f,q]
 obtain ⟨s,u⟩:=((o6.refl B).of_eq (n:=n) rfl ⟨rfl,rfl,rfl,rfl,rfl⟩).c7 o (c:=nk n.c.st (mt.set n.c.me.toNat (n.c.st.log.length:Int)) n.c.c7) aes (Qi h.ok.y3.2.2);dsimp only at s u;rw [<- C] at s u;obtain ⟨D,F,G,K,N,H⟩:=u;unfold hP;dsimp only;split
 ·grind
 split
 ·rename_i I;refine ⟨L,s.tell fun z J=>?_⟩;rw [A1.1 J];exact IP (by rw [D]; exact o) (by rw [H]; exact p) I (by rw [F,G]; exact w)
 grind
def ud (h:r9 n L) (i:n.d.down=false) (q:G1 n x) (B:n.c.j0≠0->x.bo<=n.c.st.bo):∃ L',o6 n L (bO n x).n (bO n x).l L':=by
 have H:=gi q.may;have C:=qb q.may;have u:x.n7≠n.c.me/\0<=x.n7/\x.n7<n.c.hY:=⟨by have:=q.to; omega,az,q.n7⟩;have g:=h.up i;have f:(aB n.c.st x.bo).length<=6:=z7 gJ am;by_cases j:n.bd (aB n.c.st x.bo)=0;case neg=>
  rw [ag4 j];exact lZ h i f mG j
 have y:=ot h i f mG j;have o:=y.st;rw [(ov (s:=n.c.st) (t:=x.bo) az az).1] at o;have z:n.c.j0≠0->n.ep (aB n.c.st x.bo)=n:=fun a=>y.no (by unfold aB; rw [eg (B a)]);have v:o6 n L (n.ep (aB n.c.st x.bo)) [] (L++aB n.c.st x.bo):=ni h i y (fun a=>by rw [z a]; exact g.jc a) (by rw [o]) (by rw [o]) (by rw [o]; exact h.ok.y3.2.2) (fun _=>by rw [o]; exact sh _);by_cases p:¬ x.bo=(n.ep (aB n.c.st x.bo)).c.st.bo\/(n.ep (aB n.c.st x.bo)).c.j0=0
 ·rw [ajA j p]; exact ⟨_,v⟩
 rw [not_or] at p;have A:n.c.j0≠0:=p.2;have e:=z A;rw [U_ j (B4.1 p.1) p.2];unfold R4 YL;rw [e];have w:=h.ok.len.resolve_left A;have r:∀ {vs:List Bool},vs.length=n.vs.length->r9 ⟨n.c,n.d,n.rp,vs,n.bn.set x.n7.toNat x.bin,n.nx,n.mt⟩ L:=fun {vs} D=>
  ⟨⟨h.ok.d,h.ok.hY,h.ok.me,h.ok.log,h.ok.bo,h.ok.y3,.inr ⟨by dsimp only; rw [D]; exact w.1,by dsimp only; rw [B8]; exact w.2.1,w.2.2⟩,h.ok.rp⟩,h.d,h.le,fun _=>⟨g.st,g.bin,g.j0,g.jc,g.nx,g.pl⟩⟩
 split
 ·rename_i F;split
  ·obtain ⟨L',k⟩:=acS (r (vs:=n.vs.set x.n7.toNat true) B8) i F.2;exact ⟨L',k.of_eq (n:=n) rfl ⟨rfl,rfl,rfl,rfl,rfl⟩⟩
  exact ⟨L,(o6.refl (r (vs:=n.vs.set x.n7.toNat true) B8)).of_eq (n:=n) rfl ⟨rfl,rfl,rfl,rfl,rfl⟩⟩
 split
 ·rename_i G;obtain ⟨L',k⟩:=ab1 (x:=x) (r (vs:=n.vs) rfl) i G.2 az u;exact ⟨L',k.of_eq (n:=n) rfl ⟨rfl,rfl,rfl,rfl,rfl⟩⟩
 exact ⟨L,(o6.refl (r (vs:=n.vs) rfl)).of_eq (n:=n) rfl ⟨rfl,rfl,rfl,rfl,rfl⟩⟩
theorem MK (h:r9 n L):∃ L',o6 n L (bH n x).n (bH n x).l L':=by
 cases a:n.d.down;case true=>rw [ai_ a]; exact ⟨L,.refl h⟩
 cases f:dK n.c x
 ·rw [aia a f]; exact ⟨L,.refl h⟩
 have g:=(zD f).1;by_cases j:n.c.st.bo<x.bo
 ·rw [Tw a f j];have e:n.follow.c.j0≠0->x.bo<=n.follow.c.st.bo:=fun e=>absurd rfl e;have i:G1 n.follow x:=⟨g.may,g.to,g.n7⟩;split
  ·obtain ⟨L',k⟩:=Ii h.follow a i e;exact ⟨L',k.mW⟩
  split
  ·rename_i o;obtain ⟨L',k⟩:=CM h.follow a (agU f) o;exact ⟨L',k.mW⟩
  obtain ⟨L',k⟩:=ud h.follow a i e;exact ⟨L',k.mW⟩
 rw [Ut a f az];have e:n.c.j0≠0->x.bo<=n.c.st.bo:=fun _=>by omega
 split
 ·exact Ii h a g e
 split
 ·simp_all [CM]
 exact ud h a g e
theorem adV {c:b5} (h:r9 n L):∃ L',o6 n L (dG n c).n [] L':=by
 unfold dG;split
 ·exact ⟨L,.refl h⟩
 rename_i f;have a:n.d.down=false:=by simpa using f
 split
 ·exact ⟨L,.refl h⟩
 rename_i j;split
 ·exact ⟨L,.refl h⟩
 split
 ·exact ⟨L,.refl h⟩
 split
 ·exact ⟨L,.refl h⟩
 split
 ·exact ⟨L,.refl h⟩
 split
 ·exact ⟨L,.refl h⟩
 rename_i e;have g:(eX c n.c.st.bo n.c.s.a8).1.bo=n.c.st.bo:=by
  unfold eX at e ⊢;split at e
  ·grind
  grind
 have i:=((h.up a).jc az).2;obtain ⟨L',k⟩:=IC (t:=(eX c n.c.st.bo n.c.s.a8).1.bo) (b:=(eX c n.c.st.bo n.c.s.a8).1.b) h a (by rw [g]; exact i);dsimp only;split
 ·grind
 exact ⟨L',k⟩
theorem D4.dr {d:n9} {L:List c9} {k:Int} (h:D4 d L):D4 (d.dr k) L/\(d.dr k).b=d.b:=by
 have f:=h.U6;have c:d.at_ k=d.b.length:=by unfold n9.at_; omega
 have a:(d.dr k).b=d.b:=by
  show d.b.take (d.at_ k).toNat=d.b;simp_all
 refine ⟨⟨h.st,by rw [a]; exact h.C0,by rw [a]; exact h.pre,?_,fun e=>by cases e⟩,a⟩;rw [a]; exact c
def r9.dead (h:r9 n L) (g:m.c=n.c/\m.rp=n.rp/\m.vs=n.vs/\m.bn=n.bn/\m.nx=n.nx/\m.mt=n.mt) (i:m.d.OK) (j:D4 m.d L') (o:∀ r ∈ L',r.kind=3->1<=r.b) (e:m.d.down=true):r9 m L':=by
 obtain ⟨a,p,q,s,u,v⟩:=g;exact ⟨⟨i,by rw [a]; exact h.ok.hY,by rw [a]; exact h.ok.me,by rw [a]; exact h.ok.log,by rw [a]; exact h.ok.bo,by rw [a]; exact h.ok.y3,by rw [a,q,s,u,v]; exact h.ok.len,by rw [a,p]; exact h.ok.rp⟩,j,o,fun f=>by rw [e] at f; cases f⟩
def Yw (h:r9 n L):o6 n L { n with d:=n.d.dr k } [] L:=by
 obtain ⟨a,c⟩:=h.d.dr (k:=k);exact ⟨h.dead ⟨rfl,rfl,rfl,rfl,rfl,rfl⟩ (tQ h.ok.d) a h.le rfl,prefix_refl _,⟨rfl,rfl⟩,by dsimp only; rw [c]; omega,fun _ e=>(by cases e),fun _ f=>by cases f⟩
def aen (h:r9 n L):o6 n L { n with d:=⟨n.d.b,n.d.ee,n.d.down,true,k⟩ } [] L:=by
 have c:D4 ⟨n.d.b,n.d.ee,n.d.down,true,k⟩ L:=⟨h.d.st,h.d.C0,h.d.pre,h.d.U6,h.d.up⟩;exact ⟨⟨⟨h.ok.d,h.ok.hY,h.ok.me,h.ok.log,h.ok.bo,h.ok.y3,h.ok.len,h.ok.rp⟩,c,h.le,fun a=>⟨(h.up a).st,(h.up a).bin,(h.up a).j0,(h.up a).jc,(h.up a).nx,(h.up a).pl⟩⟩,prefix_refl _,⟨rfl,rfl⟩,by dsimp only; omega,fun _ e=>(by cases e),fun _ _=>⟨B5 _,rfl,rfl⟩⟩
def aeQ (h:r9 n L):o6 n L n (cJ n).1 L:=(o6.refl h).tell fun _ a=>qH a
variable {b:Int}
theorem MZ {a:Int} (h:cN a b=0):1<=a/\a<=3/\1<=b/\b<=a:=by
 unfold cN at h;grind
theorem UL {s:c4} (a:1<=b) (c:b<=3) (h:s.floor<b):ed s [⟨1,b,0,[]⟩]=({ s with floor:=b },0):=by
 have e:ba s ⟨1,b,0,[]⟩=({ s with floor:=b },0):=by
  refine pI (ans ⟨rfl,a,c,rfl,rfl⟩) ?_;rw [gl,eg rfl,eV,dc (by dsimp only; omega)]
 rw [lh (by rw [e]),e]
theorem HD (h:r9 n L):∃ L',o6 n L (bl n b).n [] L':=by
 cases f:n.d.down;case false=>rw [agB f]; exact ⟨L,.refl h⟩
 by_cases s:cN b (max (ik n.d.b).1.floor 1)=0;case neg=>rw [aiM f s]; exact ⟨L,.refl h⟩
 obtain ⟨F,G,T,U⟩:=MZ s;obtain ⟨z,V,W⟩:=zy f h.ok.d;have u:=h.d.C0;obtain ⟨t,X⟩:=h.d.pre;have a:=nY n.d.b
 have Y:n.d.b.take (ik n.d.b).2.toNat=l3 L:=by grind [Int.toNat_natCast,List.take_left]
 have v:(n.fr b).d=⟨l3 L,((l3 L).length:Int),false,false,0⟩:=by grind
 have g:D4 (n.fr b).d L:=by rw [v]; exact D4.enc h.d.st rfl rfl
 have j:(n.fr b).c.st=(ed rl L).1:=by show (ik n.d.b).1=_; rw [u]
 have A:o8 (n.fr b):=⟨z,h.ok.hY,h.ok.me,a.1.1,a.1.2,⟨B5 0,B5 0,I3 _⟩,.inl rfl,rfl⟩;have H:(n.fr b).d.b.length<=n.d.b.length:=by grind [List.length_append]
 have B:u4 b ((ik n.d.b).1.log.take 0)/\u6=pS b u6 ((ik n.d.b).1.log.take 0)/\([]:List lg)=pR b u6 ((ik n.d.b).1.log.take 0):=⟨fun x o=>(by cases o),rfl,rfl⟩;by_cases I:(ik n.d.b).1.floor<b;case neg=>
  rw [ach f s az];exact ⟨L,⟨A,g,h.le,fun _=>⟨j,⟨F,G,by show (ik n.d.b).1.floor=b; omega⟩,⟨B5 0,(by decide:(0:Int)<=2)⟩,fun hr=>absurd rfl hr,fun hr=>absurd (show (0:Int)=2 from hr) am,B⟩⟩,prefix_refl _,⟨rfl,rfl⟩,by show (n.fr b).d.b.length<=_; omega,fun _ o=>(by cases o),fun e=>by rw [f] at e; cases e⟩
 have C:(n.fr b).d.down=false:=by rw [v]
 have p:=Gs (l:=[⟨1,b,0,[]⟩]) g C j;have Z:=uD p aa;have w:∀ (i:Nat),∀ r ∈ L++[c9.mk 1 b 0 []].take i,r.kind=3->1<=r.b:=fun i r hr=>by
  rcases y2.1 hr with hr | hr
  ·exact h.le r hr
  grind
 by_cases y:(n.fr b).bd [⟨1,b,0,[]⟩]=0
 ·rw [afi f s I y];obtain ⟨J,K,q,m,k5,k6,k7,k8⟩:=p.ok y;have D:((n.fr b).ep [⟨1,b,0,[]⟩]).c.st={ (n.fr b).c.st with floor:=b }:=by grind [UL]
  refine ⟨L++[⟨1,b,0,[]⟩],⟨⟨sm z,h.ok.hY,h.ok.me,by rw [D]; exact a.1.1,by rw [D]; exact a.1.2,⟨B5 0,B5 0,I3 _⟩,.inl rfl,rfl⟩,K,fun r hr=>w 1 r hr,fun _=>⟨?_,⟨F,G,by rw [D]⟩,⟨B5 0,(by decide:(0:Int)<=2)⟩,fun hr=>absurd rfl hr,fun hr=>absurd (show (0:Int)=2 from hr) am,?_⟩⟩,List.prefix_append _ _,⟨rfl,rfl⟩,by show (l7 (n.fr b).d (n.fr b).c.st _).1.b.length<=_; omega,fun _ o=>(by cases o),fun e=>by rw [f] at e; cases e⟩
  ·show (l7 _ _ _).2.1=_;rw [q,eF h.d.st,<- j]
  grind
 rw [aeS f s I y];obtain ⟨J,K,q⟩:=p.no y;have N:((n.fr b).ep [⟨1,b,0,[]⟩]).c=(n.fr b).c:=by rw [Ur,J]
 have O:∃ i,D4 ((n.fr b).ep [⟨1,b,0,[]⟩]).d (L++[c9.mk 1 b 0 []].take i):=by
  rcases q with ⟨q,_⟩ | ⟨_,_,_,_,i,_,q⟩
  ·exact ⟨0,by rw [T2,A3,QX,q]; exact g⟩
  grind
 obtain ⟨i,P⟩:=O;obtain ⟨Q,S⟩:=P.dr (k:=0);refine ⟨_,⟨⟨tQ (sm z),h.ok.hY,h.ok.me,by rw [N]; exact a.1.1,by rw [N]; exact a.1.2,⟨B5 0,B5 0,I3 _⟩,.inl rfl,rfl⟩,Q,w i,fun e=>by cases e⟩,Bz,⟨rfl,rfl⟩,?_,fun _ o=>(by cases o),fun e=>by rw [f] at e; cases e⟩;show (((n.fr b).ep [⟨1,b,0,[]⟩]).d.dr 0).b.length<=_;rw [S];show (l7 (n.fr b).d (n.fr b).c.st _).1.b.length<=_;omega
structure L3 where
 l:List eR
 a:Int
 b:Int
 e:Int
def wi (x:eR):eR:={ x with l:=(x.l.take 6).map fun y=>⟨y.bo,y.b.take 250⟩ }
def nn (c:b5):b5:={ c with b9:=c.b9.take 12,text:=⟨c.text.b.take 40⟩ }
def dA (n:Nd) (o:C8):Nd × L3:=
 if o.kind.toNat % 8=0 then ((bl n o.n).n,⟨[],0,0,(bl n o.n).e⟩)
 else if o.kind.toNat % 8=1 then ((bN n).n,⟨(bN n).l,0,0,(bN n).e⟩)
 else if o.kind.toNat % 8=2 then (n,⟨(cJ n).1,0,0,(cJ n).2⟩)
 else if o.kind.toNat % 8=3 then ((bH n (wi o.x)).n,⟨(bH n (wi o.x)).l,0,0,(bH n (wi o.x)).e⟩)
 else if o.kind.toNat % 8=4 then ((dG n (nn o.c)).n,⟨[],(dG n (nn o.c)).a,(dG n (nn o.c)).b,(dG n (nn o.c)).e⟩)
 else if o.kind.toNat % 8=5 then ({ n with d:=⟨n.d.b,n.d.ee,n.d.down,true,o.n⟩ },⟨[],0,0,0⟩)
 else if o.kind.toNat % 8=6 then ({ n with d:=n.d.dr o.n },⟨[],0,0,0⟩)
 else (n,⟨[],0,0,0⟩)
def Oq {o:C8} (h:r9 n L):∃ L',o6 n L (dA n o).1 (dA n o).2.l L':=by
 unfold dA;split
 ·exact HD h
 split
 ·exact Mx h
 split
 ·exact ⟨L,aeQ h⟩
 split
 ·exact MK h
 split
 ·exact adV h
 split
 ·exact ⟨L,aen h⟩
 split
 ·exact ⟨L,Yw h⟩
 exact ⟨L,.refl h⟩
def IV {me a:Int} (h:3<=a/\a<=5/\0<=me/\me<a):r9 (ij me a) []:=
 ⟨⟨⟨B5 0,B5 0,F8 _⟩,⟨h.1,h.2.1⟩,h.2.2,F8 _,⟨B5 0,(by decide:(0:Int)<=1048576)⟩,⟨B5 0,B5 0,I3 _⟩,.inl rfl,rfl⟩,⟨rfl,uC (L:=[]) rfl,⟨[],rfl⟩,rfl,fun _=>rfl⟩,fun r c=>(by cases c),fun d=>(by cases d)⟩
section
variable {n m:Nd} {L:List c9} {x:eR} {l:List c9}
end
variable {l:List ec} {k:Nat}
def aif {y:ec} (a:l[k]? = some y):(l.take k).map (fun z:ec=>(⟨z.bo,z.b.take 250⟩:ec))++[ec.mk y.bo (y.b.take 250)]=(l.take (k+1)).map (fun z:ec=>(⟨z.bo,z.b.take 250⟩:ec)):=by
 rw [aj a,I8]; rfl
def anr {y:ec} (a:l[k]? = some y) (h:(y.b.length:Int)<=250):(l.take k).map (fun z:ec=>(⟨z.bo,z.b.take 250⟩:ec))++[y]=(l.take (k+1)).map (fun z:ec=>(⟨z.bo,z.b.take 250⟩:ec)):=by
 rw [<- aif a,r6 (l:=y.b) az]
theorem aoY (a:k<=6) (h:(l.length:Int)<=k\/6<=(k:Int)):(l.take k).map (fun z:ec=>(⟨z.bo,z.b.take 250⟩:ec))=(l.take 6).map (fun z:ec=>(⟨z.bo,z.b.take 250⟩:ec)):=by grind [List.take_of_length_le]
def agt:r9 (ij 0 3) []:=IV ⟨am,am,am,am⟩
abbrev sw1:H8:=bl (ij 0 3) 1
abbrev S3:=bN sw1.n
def amK:o8 sw1.n:=let ⟨_,h⟩:=HD (b:=1) agt; h.inv.ok
def aly:(decide (sw1.e=0) && decide (S3.e=0) && decide ((S3.l.length:Int)=2) && decide ((S3.l.getD 0 (c5 (.nm .letter))).kind=1) && decide ((S3.l.getD 1 (c5 (.nm .letter))).to=2) && decide ((S3.l.getD 0 (c5 (.nm .letter))).bo=1) && decide ((aE S3.n).j0=1))=true:=cm
def KK (x:eR):List (Nat × LI):=[(3,{ σ:=Nat,F:=fun k=>([(1,one (.ptr 0 0)),(2,one (.ptr 1 0)),(3,one (.own 2)),(4,one (.int k))],[.box 40 (cellsOf (.nm .letter) (x)),.box 40 (cellsOf (.nm .letter) (di)),.row 52 (.nm .entry) (((x.l.take k).map (fun z:ec=>(⟨z.bo,z.b.take 250⟩:ec))))]),J:=fun k=>k<=x.l.length/\k<=6,μ:=fun k=>6 - k })]
def vy:Kn:=aH (ae (kT (.nm .letter)) ao) au fun (x,_) _=>⟨[],[.agg (cellsOf (.nm .letter) (wi x))],none,false⟩
theorem EI:CK 23 vy:=ag fun (x,_) _ _=>by
 refine aq mh (KK x) func23 (?_:(fun (g:Nat)=>(fun (h:Nat)=>(fun (e:Int)=>bf x (∃ (j:Nat),(e=(j:Int)/\iG x x (e=di.kind/\e=di.n7/\e=di.to/\e=di.bo/\e=di.a/\e=di.b/\e=di.c/\e=di.bin/\false=di.ok/\di.l=[]/\List.map (fun (z:ec)=>ec.mk z.bo (take h z.b)) (take j x.l)=[]))/\(j<=x.l.length/\j<=g)/\∀ (s:Nat),(fun (o:Int)=>(fun (i:List (l5 (Sh.nm NT.entry)))=>s<=x.l.length/\s<=g->((s:Int)<(x.l.length:Int)/\(s:Int)<6->e<=(s:Int)/\(s:Int)<(x.l.length:Int)/\∀ (d:ec),x.l[s]? = some d->a7 d.bo->d.b.length*1<=140737488355328->(250<(d.b.length:Int)->e<=250/\250<=(d.b.length:Int)/\(i.length+[ec.mk d.bo (take h d.b)].length)*32<=140737488355328/\a7 o/\∃ (f:Nat),(o=(f:Int)/\iG x x (iG di di (i++[ec.mk d.bo (take h d.b)]=List.map (fun (z:ec)=>ec.mk z.bo (take h z.b)) (take f x.l))))/\(f <= x.l.length/\f <= g)/\g - f < g - s)/\((d.b.length:Int)<=250->(i.length+[d].length)*32<=140737488355328/\a7 o/\∃ (f:Nat),(o=(f:Int)/\iG x x (iG di di (i++[d]=List.map (fun (z:ec)=>ec.mk z.bo (take h z.b)) (take f x.l))))/\(f <= x.l.length/\f <= g)/\g - f < g - s))/\((x.l.length:Int)<=(s:Int)\/6<=(s:Int)->Ci (eR.mk x.kind x.n7 x.to x.bo x.a x.b x.c x.bin x.ok i) (wi x))) (List.map (fun (z:ec)=>ec.mk z.bo (take h z.b)) (take s x.l))) ((s:Int)+1))) 0) 250) 6);iterate 3 ((all_goals (repeat' with_reducible first|apply aT|refine aW ?_|intro)); (all_goals try (first | exact bR | exact (aif ab) | exact (anr ab ab) | exact (aoY az ab) | (simp only [J4,s9,y4,C1]; omega))); all_goals try first | refine ⟨‹Nat› + 1,?_⟩ | refine ⟨0,?_⟩)
def JV:Kn:=aH (ae (kT (.nm .command)) ao) au fun (c,_) _=>⟨[],[.agg (cellsOf (.nm .command) (nn c))],none,false⟩
def Wd:CK 32 JV:=ag fun (c,_) _ _=>by
 refine aq mh [] func32 (?_:(fun e=>(fun a=>(fun d=>bc c (((12:Int)<e->(0:Int)<=(12:Int)/\(12:Int)<=e/\(a<d->(0:Int)<=a/\a<=d/\aG (b5.mk c.kind c.a6 c.seq c.set c.id c.n (take (12:Nat) c.b9) (o3.mk (take (40:Nat) c.text.b))) (nn c))/\(d<=a->aG (b5.mk c.kind c.a6 c.seq c.set c.id c.n (take (12:Nat) c.b9) c.text) (nn c)))/\(e<=(12:Int)->(a<d->(0:Int)<=a/\a<=d/\aG (b5.mk c.kind c.a6 c.seq c.set c.id c.n c.b9 (o3.mk (take (40:Nat) c.text.b))) (nn c))/\(d<=a->aG c (nn c))))) (c.text.b.length:Int)) (40:Int)) (c.b9.length:Int));(repeat' with_reducible first|apply aT|refine aW ?_|intro)
 all_goals (first | exact bR | exact rfl | (dsimp only [nn]; first | exact (r6 az).symm | exact SB az))
def Ix:Kn:=aH (ae (kC (cL (.nm .nop))) ao) au fun (l,_) _=>⟨[],[.c (.fz (.nm .nop) ((l.take 40)))],none,false⟩
def Zl:CK 18 Ix:=ag fun (l,_) _ _=>by
 refine aq mh [] func18 (?_:l.length*(200:Nat)<=(140737488355328:Nat)->((40:Int)<(l.length:Int)->(0:Int)<=(40:Int)/\(40:Int)<=(l.length:Int)/\take (40:Nat) l=take (40:Nat) l)/\((l.length:Int)<=(40:Int)->l=take (40:Nat) l));(repeat' with_reducible first|apply aT|refine aW ?_|intro)
 all_goals (first | exact bR | exact (r6 az).symm)
def xF:Kn:=aH ao au fun _ _=>⟨[],[.c (.bool (.atom ((true))))],none,false⟩
theorem LO:CK 11 xF:=ag fun _ _ _=>by
 refine aq mh [] func11 (?_:(fun v=>(fun q=>(fun z=>(fun o=>(fun B=>(fun C=>(fun g=>(fun w=>(fun A=>(fun p=>(fun j=>(fun r=>(fun h=>(fun i=>(fun f=>(fun d=>(fun y=>(fun s=>(fun u=>(v<=v/\v<=5/\g<=g/\g<v)/\(a7 g->(false=true\/¬g=g->false=true)/\(false=false/\g=g->o8 (ij g v)/\(a7 w.e->o8 w.n/\(p.l.length*96<=q->a7 p.e->(r->g<=g/\g<j)/\((r->y)->(s->g<=o/\o<j)/\((s->a7 f.kind/\a7 f.n7/\a7 f.to/\a7 f.bo/\a7 f.a/\a7 f.b/\a7 f.c/\a7 f.bin/\f.l.length*32<=q)->(u->g<=g/\g<j)/\((u->y)->(u/\d.bo=o->a7 h.j0/\a7 h.binary/\a7 h.floor/\a7 h.bo/\a7 h.jc/\a7 h.c7/\a7 h.c3/\h.log.length*32<=q/\a7 i.a8/\a7 i.next/\a7 i.dm/\a7 i.ea/\i.b8.length*32<=q/\i.c6.length*16<=q/\i.b6.length*64<=q)->(decide (w.e=g) && decide (p.e=g) && decide (j=z) && decide (d.kind=o) && decide (f.to=z) && decide (d.bo=o) && decide (h.j0=o))=true)))))))) (s/\f.to=z)) (r/\d.kind=o)) (a7 d.kind/\a7 d.n7/\a7 d.to/\a7 d.bo/\a7 d.a/\a7 d.b/\a7 d.c/\a7 d.bin/\d.l.length*32<=q)) (p.l.getD C A)) (p.l.getD B A)) h.eS) (aE p.n)) ((w.e=g/\p.e=g)/\j=z)) (p.l.length:Int)) (bN w.n)) (c5 (Sh.nm NT.letter))) (bl (ij g v) o)) (0:Int)) (0:Nat)) (1:Nat)) (1:Int)) (2:Int)) (140737488355328:Nat)) (3:Int));(repeat' with_reducible first|apply aT|refine aW ?_|intro)
 all_goals (first | exact agt.ok | exact amK | exact aly | (simp_all; done))
def abO:ck:=(aI 11 xF (aI 18 Ix (aI 32 JV (aI 23 vy ZX))))
def Dp:ay prog (av l6) abO:=(ah LO (ah Zl (ah Wd (ah EI mh))))
section
variable {n:Nd} {o:C8} {k:UInt8}
def o7:(k &&& ofNat 7).toNat=k.toNat % 8:=by
 rw [UInt8.toNat_and]; exact Nat.and_two_pow_sub_one_eq_mod k.toNat 3
variable {i:Nat}
def FL (h:((k &&& ofNat 7).toNat:Int)=((ofNat i).toNat:Int)) (a:i<8):k.toNat % 8=i:=by
 rw [o7,show (ofNat i).toNat=i by rw [H6]; omega] at h; omega
theorem EL (h:¬((k &&& ofNat 7).toNat:Int)=((ofNat i).toNat:Int)) (a:i<8):¬k.toNat % 8=i:=by
 rw [o7,show (ofNat i).toNat=i by rw [H6]; omega] at h; omega
def ap4 (h:((o.kind &&& ofNat 7).toNat:Int)=((ofNat 0).toNat:Int)):dA n o=((bl n o.n).n,⟨[],0,0,(bl n o.n).e⟩):=by
 have e:=FL h am; simp [dA,e]
def am2 (h:((o.kind &&& ofNat 7).toNat:Int)=((ofNat 1).toNat:Int)):dA n o=((bN n).n,⟨(bN n).l,0,0,(bN n).e⟩):=by
 have e:=FL h am; simp [dA,e]
def apE (h:((o.kind &&& ofNat 7).toNat:Int)=((ofNat 2).toNat:Int)):dA n o=(n,⟨(cJ n).1,0,0,(cJ n).2⟩):=by
 have e:=FL h am; simp [dA,e]
def aoi (h:((o.kind &&& ofNat 7).toNat:Int)=((ofNat 3).toNat:Int)):dA n o=((bH n (wi o.x)).n,⟨(bH n (wi o.x)).l,0,0,(bH n (wi o.x)).e⟩):=by
 have e:=FL h am; simp [dA,e]
def aoc (h:((o.kind &&& ofNat 7).toNat:Int)=((ofNat 4).toNat:Int)):dA n o=((dG n (nn o.c)).n,⟨[],(dG n (nn o.c)).a,(dG n (nn o.c)).b,(dG n (nn o.c)).e⟩):=by
 have e:=FL h am; simp [dA,e]
def aoI (h:((o.kind &&& ofNat 7).toNat:Int)=((ofNat 5).toNat:Int)):dA n o=({ n with d:=⟨n.d.b,n.d.ee,n.d.down,true,o.n⟩ },⟨[],0,0,0⟩):=by
 have e:=FL h am; simp [dA,e]
def ao8 (h:((o.kind &&& ofNat 7).toNat:Int)=((ofNat 6).toNat:Int)):dA n o=({ n with d:=n.d.dr o.n },⟨[],0,0,0⟩):=by
 have e:=FL h am; simp [dA,e]
def an6 (a:¬((o.kind &&& ofNat 7).toNat:Int)=((ofNat 0).toNat:Int)) (c:¬((o.kind &&& ofNat 7).toNat:Int)=((ofNat 1).toNat:Int)) (d:¬((o.kind &&& ofNat 7).toNat:Int)=((ofNat 2).toNat:Int)) (e:¬((o.kind &&& ofNat 7).toNat:Int)=((ofNat 3).toNat:Int)) (f:¬((o.kind &&& ofNat 7).toNat:Int)=((ofNat 4).toNat:Int)) (g:¬((o.kind &&& ofNat 7).toNat:Int)=((ofNat 5).toNat:Int)) (h:¬((o.kind &&& ofNat 7).toNat:Int)=((ofNat 6).toNat:Int)):dA n o=(n,⟨[],0,0,0⟩):=by
 simp [dA,EL a am,EL c am,EL d am,EL e am,EL f am,EL g am,EL h am]
end
def Ca:Kn:=aH (ae (kC (bm 0 0)) (ae (kT (.nm .nop)) ao)) tW fun (_,o,_) n=>⟨[o8 n],[.agg ([.fz (.nm .letter) (((dA n o).2.l)),.int (((dA n o).2.a)),.int (((dA n o).2.b)),.int (((dA n o).2.e))])],some ((mK ((dA n o).1))),false⟩
def Pr:CK 19 Ca:=ag fun (_,o,_) n y=>by
 have w:=b_ y;refine bP Dp [] func19 (?_:(fun s=>(fun u=>(fun i=>(fun j=>(fun p=>(fun f=>(fun v=>(fun q=>(fun r=>(fun g=>abj o ((g=(↑(ofNat 0).toNat:Int)->o8 n/\(a7 (bl n o.n).e->v/\r/\q/\(bl n o.n).e=f.e/\cK (bl n o.n).n i))/\(¬g=(↑(ofNat 0).toNat:Int)->(g=(↑(ofNat 1).toNat:Int)->o8 n/\(s.l.length*96<=140737488355328->a7 s.e->s.l=f.l/\r/\q/\s.e=f.e/\cK s.n i))/\(¬g=(↑(ofNat 1).toNat:Int)->(g=(↑(ofNat 2).toNat:Int)->n.c.hY<=5/\(n.c.j0=p\/(n.nx.length:Int)=n.c.hY)/\((cJ n).fst.length*96<=140737488355328->a7 (cJ n).snd->(cJ n).fst=f.l/\r/\q/\(cJ n).snd=f.e/\cK n i))/\(¬g=(↑(ofNat 2).toNat:Int)->(g=(↑(ofNat 3).toNat:Int)->bf (wi o.x) (o8 n/\(u.l.length*96<=140737488355328->a7 u.e->u.l=f.l/\r/\q/\u.e=f.e/\cK u.n i)))/\(¬g=(↑(ofNat 3).toNat:Int)->(g=(↑(ofNat 4).toNat:Int)->bc (nn o.c) (o8 n/\(a7 j.a->a7 j.b->a7 j.e->v/\j.a=f.a/\j.b=f.b/\j.e=f.e/\cK j.n i)))/\(¬g=(↑(ofNat 4).toNat:Int)->(g=(↑(ofNat 5).toNat:Int)->v/\r/\q/\p=f.e/\cK (Nd.mk n.c (n9.mk n.d.b n.d.ee n.d.down true o.n) n.rp n.vs n.bn n.nx n.mt) i)/\(¬g=(↑(ofNat 5).toNat:Int)->(g=(↑(ofNat 6).toNat:Int)->(p<=n.d.ee/\n.d.ee<=(n.d.b.length:Int)/\n.d.b.length<=65536)/\v/\r/\q/\p=f.e/\cK (Nd.mk n.c (n.d.dr o.n) n.rp n.vs n.bn n.nx n.mt) i)/\(¬g=(↑(ofNat 6).toNat:Int)->v/\r/\q/\p=f.e/\cK n i))))))))) (↑(o.kind &&& ofNat 7).toNat:Int)) (p=f.a)) (p=f.b)) (f.l=[])) (dA n o).snd) (0:Int)) (dG n (nn o.c))) (dA n o).fst) (bH n (wi o.x))) (bN n));obtain ⟨z,A,B⟩:=id w.d;(repeat' with_reducible first|apply aT|refine aW ?_|intro)
 all_goals (first | exact bR | exact w.hY.2 | exact (w.len.imp_right fun h=>h.2.2.1) | (rw [ap4 (n:=n) (o:=o) ab] <;> rfl) | (rw [am2 (n:=n) (o:=o) ab] <;> rfl) | (rw [apE (n:=n) (o:=o) ab] <;> rfl) | (rw [aoi (n:=n) (o:=o) ab] <;> rfl) | (rw [aoc (n:=n) (o:=o) ab] <;> rfl) | (rw [aoI (n:=n) (o:=o) ab] <;> rfl) | (rw [ao8 (n:=n) (o:=o) ab] <;> rfl) | (rw [an6 (n:=n) (o:=o) ab ab ab ab ab ab ab] <;> rfl))
def aak:ck:=(aI 19 Ca abO)
def Bs:ay prog (av l6) aak:=(ah Pr Dp)
def agE {x y:ec} (h:x.bo=y.bo) (a:o3.mk x.b=o3.mk y.b):x=y:=by
 cases x; cases y; simp only [o3.mk.injEq] at *; subst h; subst a; rfl
section
variable {a b:List ec} {k:Nat} {d:ec}
def anL (h:a.take k=b.take k) (c:k<a.length) (g:a.length=b.length) (e:(a.getD k d).bo=(b.getD k d).bo) (f:o3.mk (a.getD k d).b=o3.mk (b.getD k d).b):a.take (k+1)=b.take (k+1):=DN h c az (agE e f)
def apg (e:¬(a.getD k d).bo=(b.getD k d).bo\/¬o3.mk (a.getD k d).b=o3.mk (b.getD k d).b):false=decide (a=b):=(D1 (by rintro rfl; simp at e)).symm
variable {α:Type}
def apm [DecidableEq α] {a b:List α} (h:a.take k=b.take k) (c:a.length<=k) (e:a.length=b.length):true=decide (a=b):=by
 rw [r6 c,r6 az] at h; exact (F0 h).symm
def ao1 [DecidableEq α] {a b:List α} (h:¬(a.length:Int)=b.length):false=decide (a=b):=(D1 (by rintro rfl; exact h rfl)).symm
end
def Rl (a:List ec) (b:List ec):List (Nat × LI):=[(4,{ σ:=Nat,F:=fun k=>([(0,one (.fz (.nm .entry) (a))),(1,one (.fz (.nm .entry) (b))),(5,one (.int k))],[]),J:=fun k=>k<=a.length/\a.length=b.length/\a.take k=b.take k,μ:=fun k=>a.length - k })]
def yc:Kn:=aH (ae (kC (cL (.nm .entry))) (ae (kC (cL (.nm .entry))) ao)) au fun (a,b,_) _=>⟨[],[.c (.bool (.atom ((decide (a=b)))))],none,false⟩
theorem KP:CK 22 yc:=ag fun (a,b,_) _ _=>by
 refine aq Bs (Rl a b) func22 (?_:(fun (p:Int)=>(fun (q:Nat)=>(fun (d:Nat)=>(fun (e:Int)=>(fun (v:l5 (Sh.nm NT.entry))=>a.length*32<=q->b.length*32<=q->(¬e=p->false=decide (a=b))/\(e=p->∃ (r:Nat),(a=a/\b=b/\0=(r:Int))/\(r<=d/\d=b.length/\take r a=take r b)/\∀ (s:Nat),(fun (c:Int)=>(fun (f:l5 (Sh.nm NT.entry))=>(fun (i:Prop)=>(fun (g:l5 (Sh.nm NT.entry))=>(fun (j:Prop)=>(fun (u:Prop)=>(fun (h:Prop)=>s<=d/\d=b.length/\take s a=take s b->(c<e->u/\c<e/\u/\c<p/\(h->u/\c<e)/\(h->u/\c<p)/\(a7 g.bo->j->a7 f.bo->i->(h->a7 g.bo/\j)->(h->a7 f.bo/\i)->(¬h\/¬o3.mk g.b=o3.mk f.b->false=decide (a=b))/\(h/\o3.mk g.b=o3.mk f.b->a7 (c+1)/\∃ (o:Nat),(a=a/\b=b/\c+1=(o:Int))/\(o <= d/\d=b.length/\take o a=take o b)/\d - o < d - s)))/\(e<=c->true=decide (a=b))) (g.bo=f.bo)) (0<=c)) (g.b.length*1<=q)) (a.getD s v)) (f.b.length*1<=q)) (b.getD s v)) (s:Int))) (c5 (Sh.nm NT.entry))) (a.length:Int)) a.length) 140737488355328) (b.length:Int));iterate 3 ((all_goals (repeat' with_reducible first|apply aT|refine aW ?_|intro)); (all_goals try (first | exact bR | exact (ao1 ab) | exact (anL ab az ab ab ab) | exact (apg ab) | exact (apm ab az ab))); all_goals try first | refine ⟨‹Nat› + 1,?_⟩ | refine ⟨0,?_⟩)
def abR:ck:=(aI 22 yc aak)
def Tl:ay prog (av l6) abR:=(ah KP Bs)
section
variable {a b:List eR} {k:Nat} {d:eR}
end
def abn:ck:=abR
def QK:ay prog (av l6) abn:=Tl
def ajT:ck:=abn
def RQ:ay prog (av l6) ajT:=QK
structure Inv (n:Nd):Prop where
 p:∃ L,r9 n L
section
variable {n:Nd} {o:C8} {x:eR}
def aph:Inv (ij 1 5):=⟨⟨[],IV am⟩⟩
theorem Inv.ok (h:Inv n):o8 n:=by obtain ⟨L,h⟩:=h.p; exact h.ok
def afk (h:Inv n):Inv (dA n o).1:=by
 obtain ⟨L,h⟩:=h.p;obtain ⟨L',k⟩:=Oq (o:=o) h;exact ⟨⟨L',k.inv⟩⟩
def anY (h:(true=false\/false=true)\/¬(0:Int)=0):false=true:=by simp at h
end
structure G3 where
 i:Nat
 n:Nd
structure H3 where
 q:G3
 n:Nd
 k:Nat
structure H7 (n m:Nd):Prop where
 x4:Inv n
 inv:Inv m
 mo:n.d.down=false->m.d.down=false->n.c.c7<=m.c.c7/\m.c.st.log.take n.c.c7.toNat=n.c.st.log.take n.c.c7.toNat
section
variable {n m:Nd} {o:C8} {k N:Nat} {d:lg} {s:H3} {q:G3}
def aqf (h:Inv n):H7 n (dA n o).1:=by
 obtain ⟨L,h⟩:=h.p;obtain ⟨L',r⟩:=Oq (o:=o) h;exact ⟨⟨⟨L,h⟩⟩,⟨⟨L',r.inv⟩⟩,fun a b=>⟨(r.mono a b).1,(r.mono a b).2.1⟩⟩
theorem tL (h:(aE n).up=true):n.d.down=false:=by grind [NX]
def afP (h:Inv n) (a:(aE n).up=true):0<=(aE n).c3/\(aE n).c3<=(aE n).c7/\(aE n).c7<=((aE n).log.length:Int):=by
 rw [mi (tL a)]; exact h.ok.y3
def ain (h:Inv n) (a:(aE n).up=true):u4 (aE n).binary ((aE n).log.take (aE n).c3.toNat)/\(aE n).eS=pS (aE n).binary u6 ((aE n).log.take (aE n).c3.toNat)/\n.rp=pR (aE n).binary u6 ((aE n).log.take (aE n).c3.toNat):=by
 obtain ⟨L,h⟩:=h.p;rw [mi (tL a)]; exact (h.up (tL a)).pl
abbrev lA (n:Nd):List ec:=(aE n).log.take (aE n).c3.toNat
def Y8 (h:Inv n) (e:(aE n).up=true):(aE n).eS=u7 (aE n).binary u6 (lA n)/\n.rp=y7 (aE n).binary u6 (lA n)/\0=pE (aE n).binary (lA n):=by
 obtain ⟨a,b,c⟩:=ain h e;obtain ⟨x,y,z⟩:=uj (s:=u6) (l:=lA n) (k:=(lA n).length) (by rw [I2]; exact a) (sh _);rw [I2] at x y;exact ⟨b.trans x,c.trans y,z⟩
def apa (c:((aE n).c3<0\/(aE n).c7<(aE n).c3)\/((aE n).log.length:Int)<(aE n).c7) (a:(aE n).up=true) (h:Inv n):false=true:=by
 have:=afP h a; omega
def alL (e:¬pE (aE n).binary (lA n)=0\/decide (u7 (aE n).binary u6 (lA n)=(aE n).eS)=false) (f:(aE n).up=true) (h:Inv n):false=true:=by
 obtain ⟨a,b,c⟩:=Y8 h f;rw [<- a,<- c] at e; simp at e
def aqk (h:Inv n) (a:(aE n).up=true):((y7 (aE n).binary u6 (lA n)).length:Int)=(aE n).c3:=by
 rw [<- (Y8 h a).2.1,mi (tL a)]; exact h.ok.rp
def Sj (a:(k:Int)<(aE n).c3) (f:(aE n).up=true) (h:H7 m n):a7 ((k:Int)+1)/\(k:Int)<((aE n).log.length:Int)/\n.c.c3<=(n.c.st.log.length:Int)/\n.c.c3<=(n.rp.length:Int)/\(k:Int)<((y7 (aE n).binary u6 (lA n)).length:Int):=by
 have e:=aqk h.inv f;have q:=h.inv.ok;have ⟨g,i,j⟩:=q.y3;have p:=q.rp;have r:=q.log;rw [mi (tL f)] at a e ⊢;dsimp only at a e ⊢;exact ⟨cY az az,az,az,az,az⟩
theorem anc {x:ec} (c:¬(gE n ((k:Int)+1) x.bo).2=0\/¬(gE n ((k:Int)+1) x.bo).1.code=((y7 (aE n).binary u6 (lA n)).getD k (c5 (Sh.nm NT.nd))).code\/¬(gE n ((k:Int)+1) x.bo).1.n=((y7 (aE n).binary u6 (lA n)).getD k (c5 (Sh.nm NT.nd))).n) (f:(aE n).log[k]? = some x) (g:(k:Int)<(aE n).c3) (a:(aE n).up=true) (h:H7 m n):false=true:=by
 have e:gE n ((k:Int)+1) x.bo=((y7 (aE n).binary u6 (lA n)).getD k (c5 (Sh.nm NT.nd)),0):=by
  rw [<- (Y8 h.inv a).2.1];rw [mi (tL a)] at g f;dsimp only at g f;have i:((k:Int)+1 - 1).toNat=k:=by omega
  rw [ajp (tL a) az az,i]
  ·rfl
  grind
 rw [e] at c; simp at c
def XT (h:H7 n m) (f:(aE n).up=true) (g:(aE m).up=true):(aE n).c7<=(aE m).c7/\(aE n).c7<=((aE m).log.length:Int)/\0<=(aE n).c7/\(aE n).c7<=((aE n).log.length:Int)/\(aE m).log.take (aE n).c7.toNat=(aE n).log.take (aE n).c7.toNat:=by
 obtain ⟨a,b⟩:=h.mo (tL f) (tL g);have c:=h.x4.ok.y3;have e:=h.inv.ok.y3;rw [mi (tL f),mi (tL g)];exact ⟨a,by dsimp only; omega,by dsimp only; omega,c.2.2,b⟩
def amN (a:decide ((aE m).log.take (aE n).c7.toNat=(aE n).log.take (aE n).c7.toNat)=false) (c:(aE n).up=true) (e:(aE m).up=true) (h:H7 n m):false=true:=by
 rw [(XT h c e).2.2.2.2] at a; simp at a
def aoO (e:(aE m).c7<(aE n).c7\/((aE m).log.length:Int)<(aE n).c7) (a:(aE n).up=true) (c:(aE m).up=true) (h:H7 n m):false=true:=by
 have:=XT h a c; omega
def apu (h:s.q=(H3.mk q n k).q) (a:q.i<N):N - (s.q.i+1)<N - q.i:=by rw [h]; dsimp only; omega
end
def adH (l:List C8):List (Nat × LI):=[(8,{ σ:=G3,F:=fun q=>([(0,one (.fz (.nm .nop) (l.take 40))),(4,one (.ptr 0 0)),(6,one (.ptr 8 0)),(7,one (.int q.i))],(mK (q.n)++[.box 48 (cellsOf (.nm .site) (aE q.n))])),J:=fun q=>q.i<=(l.take 40).length/\Inv q.n,μ:=fun q=>(l.take 40).length - q.i }),(21,{ σ:=H3,F:=fun q=>([(0,one (.fz (.nm .nop) (l.take 40))),(4,one (.ptr 0 0)),(6,one (.ptr 8 0)),(7,one (.int q.q.i)),(8,one (.ptr 9 0)),(10,one (.own 13)),(13,one (.int q.k))],(mK (q.n)++[.box 48 (cellsOf (.nm .site) (aE q.q.n)),.box 48 (cellsOf (.nm .site) (aE q.n)),.row 137 (.nm .b8) (((u7 (aE q.n).binary u6 (lA q.n)).b8)),.row 139 (.nm .opn) (((u7 (aE q.n).binary u6 (lA q.n)).c6)),.row 172 (.nm .snap) (((u7 (aE q.n).binary u6 (lA q.n)).b6)),.row 78 (.nm .nd) ((y7 (aE q.n).binary u6 (lA q.n)))])),J:=fun q=>q.q.i<(l.take 40).length/\H7 q.q.n q.n/\(aE q.n).up=true/\(q.k:Int)<=(aE q.n).c3,μ:=fun q=>(aE q.n).c3.toNat - q.k,R:=some fun a q=>q.q=a.q/\q.n=a.n })]
theorem VW (l:List C8):s6 prog (av l6) 7 [.c (.fz (.nm .nop) (l))] [] ⟨[],[.c (.bool (.atom ((true))))],none,false⟩:=by
 refine aq RQ (adH l) func7 (?_:(fun (W:Int)=>(fun (q8:l5 (Sh.nm NT.nd))=>(fun (P:Nat)=>(fun (X:Prop)=>(fun (q5:l5 (Sh.nm NT.nop))=>(fun (p:Int)=>(fun (D:Int)=>(fun (H:Nat)=>(fun (q1:b7)=>(fun (q0:List (l5 (Sh.nm NT.nop)))=>(fun (I:Prop)=>(fun (Q:Int)=>l.length*(200:Nat)<=P->((3:Int)<=W/\W<=W/\p<=D/\D<W)/\(a7 p->((true=false\/X)\/¬p=p->X)/\((true=true/\false=false)/\p=p->q0.length*(200:Nat)<=P->US (aE (ij D W)) (∃ (j:G3),(I/\p=(j.i:Int)/\vX (ij D W) j.n (za (aE (ij D W)) (aE j.n)))/\(j.i<=H/\Inv j.n)/\∀ (s:G3),(fun (A:Int)=>(fun (S:Nd)=>s.i<=H/\Inv S->(A<Q->p<=A/\A<Q/\∀ (x:C8),(fun (B:Nd × L3)=>(fun (f:Site)=>(fun (J:Int)=>(fun (Y:Int)=>(fun (C:Int)=>(fun (K:List (l5 (Sh.nm NT.entry)))=>(fun (v:b7)=>q0[s.i]? = some x->abj x (o8 S/\(B.snd.l.length*(96:Nat)<=P->a7 B.snd.a->a7 B.snd.b->a7 B.snd.e->US f ((f.up=false->a7 (A+D)/\∃ (h:G3),(I/\A+D=(h.i:Int)/\vX B.fst h.n (za f (aE h.n)))/\(h.i<=H/\Inv h.n)/\H - h.i<H - s.i)/\(f.up=true->((C<p\/f.c7<C)\/Y<f.c7->X)/\((p<=C/\C<=f.c7)/\f.c7<=Y->(p<=C/\C<=Y)/\(a7 D->a7 D->a7 p->a7 p->(0:Nat)*(32:Nat)<=P->(0:Nat)*(16:Nat)<=P->(0:Nat)*(64:Nat)<=P->a7 v.a8->a7 v.next->a7 v.dm->a7 v.ea->a7 (pE J K)->(¬pE J K=p\/decide (v=f.eS)=false->X)/\(pE J K=p/\decide (v=f.eS)=true->∃ (j:H3),(fun (N:Site)=>(fun (Z:b7)=>(I/\A=(j.q.i:Int)/\p=(j.k:Int)/\vX B.fst j.n (z_ (aE S) (aE j.q.n) (z_ f N (v.b8=Z.b8/\v.c6=Z.c6/\v.b6=Z.b6/\y7 J q1 K=y7 N.binary u6 (lA j.n)))))/\(j.q.i<H/\H7 j.q.n j.n/\N.up=true/\(j.k:Int)<=N.c3)/\(j.q=j.q/\j.n=j.n)/\∀ (r:H3),(fun (O:Int)=>(fun (o:Nd)=>(fun (w:Int)=>(fun (g:Site)=>(fun (m:List lg)=>(fun (t:b7)=>(fun (T:Int)=>(fun (y:Site)=>(fun (u:Int)=>(fun (q36:Bool)=>(fun (U:Int)=>(fun (q25:Prop)=>(fun (F:l5 (Sh.nm NT.nd))=>(fun (d:l5 (Sh.nm NT.nop))=>(fun (q37:Prop)=>r.q.i<H/\H7 r.q.n o/\g.up=true/\w<=g.c3->r.q=j.q/\o=j.n->(w<g.c3->a7 U/\p<=w/\w<T/\∀ (x:ec),(fun (z:lg × Int)=>(fun (V:Prop)=>g.log[r.k]? = some x->a7 x.bo->x.b.length*(1:Nat)<=P->o.c.c3<=(o.c.st.log.length:Int)/\o.c.c3<=(o.rp.length:Int)/\(a7 z.fst.code->a7 z.fst.n->a7 z.snd->(V->p<=w/\w<(m.length:Int))/\((V->a7 F.code/\a7 F.n)->(¬V\/¬z.fst.code=F.code\/¬z.fst.n=F.n->X)/\(V/\z.fst.code=F.code/\z.fst.n=F.n->a7 U/\∃ (h:H3),(fun (G:Site)=>(fun (L:b7)=>(I/\O=(h.q.i:Int)/\U=(h.k:Int)/\vX o h.n (z_ y (aE h.q.n) (z_ g G (t.b8=L.b8/\t.c6=L.c6/\t.b6=L.b6/\m=y7 G.binary u6 (lA h.n)))))/\(h.q.i<H/\H7 h.q.n h.n/\G.up=true/\(h.k:Int)<=G.c3)/\(h.q=j.q/\h.n=j.n)/\G.c3.toNat - h.k<g.c3.toNat - r.k) (u7 G.binary u6 (lA h.n))) (aE h.n))))) (z.snd=p)) (gE o U x.bo))/\(g.c3<=w->(y.up=true->p<=O/\O<Q)/\((y.up=true->a7 d.n/\a7 d.x.kind/\a7 d.x.n7/\a7 d.x.to/\a7 d.x.bo/\a7 d.x.a/\a7 d.x.b/\a7 d.x.c/\a7 d.x.bin/\d.x.l.length*(32:Nat)<=P/\a7 d.c.kind/\a7 d.c.a6/\a7 d.c.seq/\a7 d.c.set/\a7 d.c.id/\a7 d.c.n/\d.c.b9.length*(8:Nat)<=P/\d.c.text.b.length<=P)->(y.up=true/\¬q37->(g.c7<u\/T<u->X)/\(u<=g.c7/\u<=T->p<=u/\u<=T/\p<=u/\u<=(y.log.length:Int)/\(q36=false->X)/\(q36=true->q25)))/\(y.up=false\/q37->q25)))) ((↑(d.kind &&& ofNat (7:Nat)).toNat:Int)=(↑(ofNat (6:Nat)).toNat:Int))) (q0.getD r.q.i q5)) (m.getD r.k q8)) (a7 (O+D)/\∃ (h:G3),(I/\O+D=(h.i:Int)/\vX o h.n (za g (aE h.n)))/\(h.i<=H/\Inv h.n)/\H - h.i<H - s.i)) (w+D)) (decide (take u.toNat g.log=take u.toNat y.log))) y.c7) (aE r.q.n)) (g.log.length:Int)) (u7 g.binary u6 (lA o))) (y7 g.binary u6 (lA o))) (aE o)) (r.k:Int)) r.n) (r.q.i:Int)) (u7 N.binary u6 (lA j.n))) (aE j.n))))))))) (u7 J q1 K)) (take C.toNat f.log)) f.c3) (f.log.length:Int)) f.binary) (aE B.fst)) (dA S x))/\(Q<=A->true=true)) s.n) (s.i:Int))))) (q0.length:Int)) (q0=q0)) (take (40:Nat) l)) (b7.mk D D p p [] [] [])) (take (40:Nat) l).length) (1:Int)) (0:Int)) (c5 (Sh.nm NT.nop))) (false=true)) (140737488355328:Nat)) (c5 (Sh.nm NT.nd))) (5:Int))
 (repeat' with_reducible first|apply aT|refine aW ?_|intro)
 all_goals try (refine ⟨G3.mk 0 (ij 1 5),?_⟩; (repeat' with_reducible first|apply aT|refine aW ?_|intro))
 all_goals try (refine ⟨G3.mk (‹G3›.i+1) (dA ‹G3›.n ‹C8›).1,?_⟩; (repeat' with_reducible first|apply aT|refine aW ?_|intro))
 all_goals try (refine ⟨H3.mk ‹G3› (dA ‹G3›.n ‹C8›).1 0,?_⟩; (repeat' with_reducible first|apply aT|refine aW ?_|intro))
 all_goals try (refine ⟨H3.mk ‹H3›.q ‹H3›.n (‹H3›.k+1),?_⟩; (repeat' with_reducible first|apply aT|refine aW ?_|intro))
 all_goals try (refine ⟨G3.mk (‹H3›.q.i+1) ‹H3›.n,?_⟩; (repeat' with_reducible first|apply aT|refine aW ?_|intro))
 all_goals (first | exact bR | exact rfl | exact aph | exact (anY ab) | exact (Inv.ok ab) | exact (afk ab) | exact (aqf ab) | exact (H7.inv ab) | (exact apa ab ab (afk ab)) | (exact alL ab ab (afk ab)) | (exact anc ab ab ab ab ab ) | (exact aoO ab ab ab ab ) | (exact amN ab ab ab ab ) | exact (Sj ab ab ab).1 | exact (Sj ab ab ab).2.1 | exact (Sj ab ab ab).2.2.1 | exact (Sj ab ab ab).2.2.2.1 | exact (Sj ab ab ab).2.2.2.2 | exact (XT ab ab ab).2.2.1 | exact (XT ab ab ab).2.2.2.1 | exact (apu ab az) | (dsimp only; omega))
end Go.Proofs.YticbaadnibdbkaaGreat
namespace Go.Proofs.YticbaadnibdbkaaGreat
open Go.Proofs.Tryz
open Go.RowKit Go.ChangeShapes Go.WideShapes
def IW (shp:TypeId->Option Sh) (w:World):Cx:=cx ⟨shp,w.heap.size,fun _=>False⟩ [] w
def aeF {shp:TypeId->Option Sh} {w:World} {s:Sh} {b:Nat} (h:b<w.heap.size):(IW shp w).at s b:=⟨⟨h,fun ⟨_,_,h,_⟩=>by simp at h,fun h=>h⟩,.inl h⟩
def Tr (P:Program) (shp:TypeId->Option Sh) (t:TypeId) (s:Sh):Prop:=
 ∀ (H:Type) (b:TypeId × Value->H) (w:World) (a:Nat) (c:List Value) (x:DataW H × List MemPlace),
  trod b P w 0 (fun _=>true) true a t c=some x->(∀ n ∈ x.1.weights P t,n<=140737488351232)->(∀ q ∈ x.2,q.block<w.heap.size)->∃ y:l5 s,p0 (IW shp w) (cellsOf s y) c
def afp:List Sh->List AV->Prop
 | [],a=>a=[]
 | s :: r,a=>∃ (y:l5 s) (l:List AV),a=cellsOf s y++l/\afp r l
def U7:List Sh->Nat
 | []=>0
 | s :: r=>s.size+U7 r
def mZ (P:Program) (shp:TypeId->Option Sh) (d:List Go.Field) (o:Nat) (h:List Sh):Prop:=
 ∀ (H:Type) (e:TypeId × Value->H) (w:World) (a:Nat) (g:List Value) (c:List (DataW H × List MemPlace)),
  g.length=o+U7 h->c.length=d.length->(∀ (i:Nat) (f:Go.Field),d[i]? = some f->trod e P w 0 (fun _=>true) true a f.type ((g.drop f.offset).take (P.cellsOf f.type))=c[i]?) ->
  (∀ n ∈ weightsEach P (d.map (·.type)) (c.map (·.1)),n<=140737488351232)->(∀ q ∈ c.flatMap (·.2),q.block<w.heap.size)->∃ b,afp h b/\p0 (IW shp w) b (g.drop o)
section
variable {P:Program} {shp:TypeId->Option Sh} {t:TypeId}
theorem Tr.int (h:P.underlying t=some (.int .i64)):Tr P shp t .int:=fun _ b w a e x c _ _=>by
 obtain ⟨n,rfl,_,d⟩:=trod_int h c;have f:IntKind.i64.min = -9223372036854775808:=rfl;have g:IntKind.i64.max=9223372036854775807:=rfl;simp only [Lit.wf,pe,vo] at d;exact ⟨n,.cons (.int ⟨az,az⟩) .nil⟩
def Tr.bool (h:P.underlying t=some .bool):Tr P shp t .bool:=fun _ b w a d x c _ _=>by
 obtain ⟨n,rfl,_⟩:=DataW.trod_bool h c;exact ⟨n,.cons (Pd.bool (e:=.atom n)) .nil⟩
def Tr.u8 (h:P.underlying t=some (.int .u8)):Tr P shp t .u8:=fun _ c w a f x d _ _=>by
 obtain ⟨n,rfl,_,e⟩:=trod_int h d;have g:IntKind.u8.min=0:=rfl;have i:IntKind.u8.max=255:=rfl;simp only [Lit.wf,pe,vo] at e;refine ⟨ofNat n.toNat,?_⟩;have:n=((ofNat n.toNat).toNat:Int):=by
  rw [H6]; omega
 generalize j:ofNat n.toNat=b at this;subst this;exact .cons .u8 .nil
def Tr.u64 (h:P.underlying t=some (.int .u64)):Tr P shp t .u64:=fun _ c w a f x d _ _=>by
 obtain ⟨n,rfl,_,e⟩:=trod_int h d;have g:IntKind.u64.min=0:=rfl;have i:IntKind.u64.max=18446744073709551615:=rfl;simp only [Lit.wf,pe,vo] at e;refine ⟨⟨n.toNat⟩,?_⟩;have:n=(n.toNat:Int):=by omega
 generalize j:n.toNat=b at this;subst this;exact .cons (.u64 (by show b<_; omega)) .nil
def Tr.str (h:P.underlying t=some .string):Tr P shp t .str:=fun _ d w b g x a f _=>by
 obtain ⟨s,rfl,a,_⟩:=DataW.trod_string h a;refine ⟨⟨s.data.toList⟩,?_⟩;have:=f s.data.toList.length (by rw [a]; simp [weights]);have e:=Pd.str (c:=IW shp w) (s:=⟨s.data.toList⟩) (by show s.data.toList.length<=_; omega);have i:(⟨s.data.toList⟩:o3).val = .string s:=by simp [o3.val]
 exact .cons e .nil
theorem mI {H:Type} {e:TypeId}:∀ {a:List (DataW H)} {d:DataW H},d ∈ a->∀ n ∈ d.weights P e,n ∈ weightsAll P e a
 | d0 :: a,d,h,n,b=>by
  rw [weightsAll,y2];rcases u2.1 h with rfl | h
  ·grind
  exact .inr (mI h n b)
def Lw {s:Sh} {a:List (l5 s)} {y:l5 s}:(a++[y]).flatMap (cellsOf s)=a.flatMap (cellsOf s)++cellsOf s y:=by simp
theorem Tr.list {e:TypeId} {s:Sh} (u:P.underlying t=some (.slice e)) (O:P.cellsOf e=s.size) (hB:P.bytesOf e=s.bytes) (Q:Tr P shp e s):Tr P shp t (.G7 s):=fun H z w K A x S L i=>by
 have T:=size_pos s;rcases DataW.trod_slice u S with ⟨rfl,_⟩ | ⟨a,len,U,c,f,n,rfl,rfl,rfl,_,hl,V,W,l,B,_⟩
 ·exact ⟨([]:List (l5 s)),.cons (Pd.Ab (.em (a:=none) (b:=true) rfl)) .nil⟩
 rw [O] at *;have step:∀ m,m<=len->∃ (d:List Value) (h:List (l5 s)),p0 (IW shp w) (h.flatMap (cellsOf s)) d/\h.length=m/\ie w a d:=by
  intro m;induction m with
  | zero=>intro _; exact ⟨[],[],.nil,rfl,ie.nil⟩
  | succ m X=>
   intro hm;obtain ⟨d,h,p,r,C⟩:=X az;have N:=l m az;have D:c[m]? = some (c[m]' az):=p6 az;rw [D,Option.bind_eq_some_iff] at N;obtain ⟨A,F,G⟩:=N;have g:c[m]' az ∈ c:=I1 _;obtain ⟨y,Y⟩:=Q H z w n A _ G
    (fun k Z=>L k (by
     simp only [weights,u,u2,y2];exact .inr (.inl (mI (T4 g) k Z))))
    (fun q hq=>i q (by
     simp only [y2,List.mem_flatMap];exact .inr ⟨_,.inl g,hq⟩))
   obtain ⟨_,hcl,I⟩:=World.cells?_some F;refine ⟨d++A,h++[y],by rw [Lw]; exact p.append Y,by simp [r],fun j v o=>?_⟩;have J:d.length=m*s.size:=by rw [<- p.length,cz,r]
   by_cases hj:j<m*s.size
   ·rw [C9 az] at o;exact C j v o
   rw [N9 az,J] at o;have hj2:=nB o;have:=I (j - m*s.size) az;rw [o,add_add,show m*s.size+(j - m*s.size)=j by omega] at this;exact this
 obtain ⟨d,h,p,r,C⟩:=step len (sh _);have hwt:(c.length+f.length)*P.bytesOf e<=140737488351232:=L _ (by simp [weights,u]);refine ⟨h,.cons ?_ .nil⟩;subst r;refine .fz az V ?_ p ?_
 ·grind
 by_cases h0:h.length=0
 ·grind
 right;refine ⟨a,rfl,aeF ?_,C⟩;have:MemPlace.cell a.block (a.off+0) ∈ MemPlace.row a ((c.length+f.length)*s.size):=MemPlace.mem_row.2 ⟨0,Nat.mul_pos az T,rfl⟩;exact i _ (B9 _ this)
theorem mZ.nil {o:Nat}:mZ P shp [] o []:=fun H b w a d e c _ _ _ _=>⟨[],rfl,by rw [List.drop_eq_nil_of_le (by simp only [U7] at c; omega)]; exact .nil⟩
def mZ.cons {f:Go.Field} {p:List Go.Field} {o:Nat} {s:Sh} {d:List Sh} (h:Tr P shp f.type s) (B:f.offset=o) (C:P.cellsOf f.type=s.size) (D:mZ P shp p (o+s.size) d):mZ P shp (f :: p) o (s :: d):=fun H b w a r e F g u v c=>by
 match e,g with
 | x :: e,g=>
  have G:r.length=o+(s.size+U7 d):=F;have A:=u 0 f rfl;rw [B,C] at A;obtain ⟨y,I⟩:=h H b w a _ x A (fun n j=>v n (by simp [weightsEach,j])) (fun q k=>c q (by simp [k]));obtain ⟨z,l,m⟩:=D H b w a r e az (by simpa using g) (fun i J K=>by simpa using u (i+1) J (by simpa using K)) (fun n j=>v n (by simp only [O7,weightsEach,y2]; exact .inr j)) (fun q k=>c q (by simp only [H5,y2]; exact .inr k));refine ⟨cellsOf s y++z,⟨y,z,rfl,l⟩,?_⟩;have:=I.append m;rwa [<- I6,D5] at this
theorem Tr.struct {s:Sh} {ss:List Sh} {e:Array Go.Field} (g:P.underlying t=some (.struct e)) (v:P.cellsOf t=U7 ss) (z:∀ a,afp ss a->∃ y:l5 s,a=cellsOf s y) (h:mZ P shp e.toList 0 ss):Tr P shp t s:=fun H b w j l x m o c=>by
 obtain ⟨p,n,_,rfl,A,d,q⟩:=DataW.trod_struct g m;obtain ⟨a,B,C⟩:=h H b w n l p az (by simpa using d) (fun i f r=>q i f (by simpa using r)) (fun k u=>o k (by simpa [weights,g] using u)) c;grind
end
section
variable {H:Type} {enc:TypeId × Value->H} {P:Program} {shp:TypeId->Option Sh}
structure Ar (enc:TypeId × Value->H) (P:Program) (W:World) (t:TypeId) (v:Value):Prop where
 form:∃ base,Value.okWide P W .any base t v
 read:∃ d p fuel,trod enc P W 0 (fun _=>true) true fuel t v.cells.toList=some (d,p)/\(∀ n ∈ d.weights P t,n<=140737488351232)/\(∀ q ∈ p,q.block<W.heap.size)
variable {W:World} {t:TypeId} {v:Value}
def Ar.rp {s:Sh} (h:Ar enc P W t v) (b:Tr P shp t s):∃ y:l5 s,p0 (IW shp W) (cellsOf s y) v.cells.toList:=by
 obtain ⟨d,p,a,c,e,f⟩:=h.read;exact b H enc W a _ _ c e f
def Fo {a:AV} {u:Value} (h:p0 (IW shp W) [a] [u]):dJ (IW shp W) [] (.c a) u:=by cases h with | cons b _=>exact lV b
theorem Ar.int (h:Ar enc P W t v) (a:P.underlying t=some (.int .i64)):∃ y:Int,dJ (IW shp W) [] (.c (.int y)) v:=by
 obtain ⟨base,b⟩:=h.form;obtain ⟨n,rfl⟩:=okWide_int a b;obtain ⟨y,d⟩:=h.rp (shp:=shp) (Tr.int a);exact ⟨y,Fo (by simpa [Value.cells,cellsOf] using d)⟩
def Ar.u8 (h:Ar enc P W t v) (a:P.underlying t=some (.int .u8)):∃ y:UInt8,dJ (IW shp W) [] (.c (.u8 y)) v:=by
 obtain ⟨base,b⟩:=h.form;obtain ⟨n,rfl⟩:=okWide_int a b;obtain ⟨y,d⟩:=h.rp (shp:=shp) (Tr.u8 a);exact ⟨y,Fo (by simpa [Value.cells,cellsOf] using d)⟩
def Ar.bool (h:Ar enc P W t v) (a:P.underlying t=some .bool):∃ y:Bool,dJ (IW shp W) [] (.c (.bool (.atom y))) v:=by
 obtain ⟨base,d⟩:=h.form;obtain ⟨b,rfl⟩:=okWide_bool a d;exact ⟨b,Pd.bool (e:=.atom b)⟩
def Ar.list {e:TypeId} {s:Sh} (h:Ar enc P W t v) (b:P.underlying t=some (.slice e)) (d:Tr P shp t (.G7 s)):∃ f:List (l5 s),dJ (IW shp W) [] (.c (.fz s f)) v:=by
 obtain ⟨base,g⟩:=h.form;obtain ⟨a,len,i,rfl⟩:=okWide_slice b g;obtain ⟨y,j⟩:=h.rp d;exact ⟨y,Fo (by simpa [Value.cells,cellsOf] using j)⟩
def Ww {f:Nat} {args:List n8} {pre:List Prop} {e:BE} {b:List Value} (h:s6 P shp f args [] ⟨pre,[.c (.bool e)],none,false⟩) (a:e.val=true) (g:hQ (dJ (IW shp W) []) args b) (d:B3 (IW shp W):=by refine ⟨?_,?_⟩ <;> intro e a <;> first | simp [VV] at a | simp [ag0] at a):kI P f b.toArray W fun r i=>r = .bool true/\Kp [] W i:=by
 refine (h.2 ⟨shp,W.heap.size,fun _=>False⟩ [] W b rfl ⟨.nil,fun _ _ _ _ _ h=>by simp at h,fun _ _ _ h=>by simp at h,fun _ h=>h.elim,sh _,d⟩ g).mono fun v o ⟨p,j,k,l⟩=>⟨?_,k⟩;cases l with | cons m n=>
 cases n;cases m;rw [j,a]; rfl
variable {ds:List (DataW H)}
def YU {base:Nat} {a:List TypeId} {args:Array Value} {p:List MemPlace} (k:∀ (j:Nat) t v,a[j]? = some t->args[j]? = some v->Value.okWide P W .any base t v)
  (h:TrodAll enc P W 0 (fun _=>true) true a args.toList ds p) (i:∀ n ∈ weightsEach P a ds,n<=140737488351232) (c:∀ q ∈ p,q.block<W.heap.size) :
  args.size=a.length/\∀ (j:Nat) t v,a[j]? = some t->args[j]? = some v->Ar enc P W t v:=by
 have l:∀ (a:List TypeId) (e:List Value) (ds:List (DataW H)) (p:List MemPlace),TrodAll enc P W 0 (fun _=>true) true a e ds p->(∀ n ∈ weightsEach P a ds,n<=140737488351232)->(∀ q ∈ p,q.block<W.heap.size) ->
   e.length=a.length/\∀ (j:Nat) t v,a[j]? = some t->e[j]? = some v->∃ d p b,trod enc P W 0 (fun _=>true) true b t v.cells.toList=some (d,p)/\(∀ n ∈ d.weights P t,n<=140737488351232)/\(∀ q ∈ p,q.block<W.heap.size):=by
  intro a;induction a with
  | nil=>intro e ds p h _ _; obtain ⟨rfl,_,_⟩:=trodAll_nil h; exact ⟨rfl,fun j t v h=>by simp at h⟩
  | cons t a u=>
   intro e ds p h i c;obtain ⟨v,e,d,ds,w,x,rfl,rfl,rfl,y,z⟩:=trodAll_cons h;obtain ⟨m,o⟩:=u e ds x z (fun n r=>i n (by rw [weightsEach,y2]; exact .inr r)) (fun q s=>c q (C6 _ s));refine ⟨by simp [m],fun j A B f g=>?_⟩;cases j with
   | zero=>
    simp at f g;subst f; subst g;obtain ⟨b,k⟩:=y;exact ⟨d,w,b,k,fun n r=>i n (by rw [weightsEach,y2]; exact .inl r),fun q s=>c q (B9 _ s)⟩
   | succ j=>exact o j A B (by simpa using f) (by simpa using g)
 obtain ⟨m,o⟩:=l a args.toList ds p h i c;exact ⟨by simpa using m,fun j t v f g=>⟨⟨base,k j t v f g⟩,o j t v f (by simpa using g)⟩⟩
variable {W':World}
def MR (j:laidOutB P=true) (k:Below W.heap.size W W'):∀ (a:List TypeId) (c:List Value) (ds:List (DataW H)) (p:List MemPlace),a.all (fun t=>P.readableRec t && decide (t<P.types.size))=true->TrodAll enc P W 0 (fun _=>true) true a c ds p->(∀ q ∈ p,q.block<W.heap.size) ->
  TrodAll enc P W' 0 (fun b=>decide (b<W.heap.size)) true a c ds p:=by
 intro a;induction a with
 | nil=>intro c ds p _ h _; obtain ⟨rfl,rfl,rfl⟩:=trodAll_nil h; rfl
 | cons t a l=>
  intro c ds p f h e;obtain ⟨v,c,d,ds,m,i,rfl,rfl,rfl,n,o⟩:=trodAll_cons h;rw [K3,pe,pe,vo] at f;exact ⟨m,i,Below.trod j f.1.1 f.1.2 n k fun q g=>e q (B9 _ g),l c ds i f.2 o fun q g=>e q (C6 _ g),rfl⟩
variable {fn:Func} {tb:TypeId}
def Uo {s:ChangeSpec} {args:Array Value} {p:List MemPlace} (e:laidOutB P=true)
  (a:fn.params.toList.all (fun t=>P.readableRec t && decide (t<P.types.size))=true) (f:fn.resultTypes = #[tb]) (g:P.underlying tb=some .bool) (i:s.vars=[])
  (b:s.fn H (ds++[])={ results:=[.lit (.bool true)],args:=ds }) (j:DataW.Whole enc P fn.params.toList s.vars false W args.toList ds [] p) (k:TrodAll enc P W 0 (fun _=>true) true fn.params.toList args.toList ds p) (c:∀ q ∈ p,q.block<W.heap.size) (d:Kp [] W W') :
  s.post enc P fn false true false false W args (.bool true) W':=by
 refine ⟨ds,[],p,[],p,[],j,?_,?_,?_,d.below.frame _,fun h=>by cases h⟩
 ·rw [b,f];exact trodAll_mk1 ⟨1,by simp [trod,Value.cells,g]⟩
 ·rw [b];exact MR e d.below _ _ _ _ a k c
 rw [b,i]; rfl
theorem RZ {C:Checked} {os:Os} {f:FuncId} {s:ChangeSpec} {b:List PathCond} (I:ownKnob C.prog.godebug=none) (c:os.Started) (l:C.prog.inits.idxOf? f=none) (J:C.prog.funcs[f]? = some fn)
  (g:∃ (w:World) (a:Tape) (i:Input),w.os=os/\(w.forCall a i).Shaped C.prog/\i.vars=[]/\Input.okWide C.prog (w.forCall a i) .any w.heap.size f i /\
   s.pre6 enc C.prog fn b false (w.forCall a i).memory i.args/\({}:Assume).holds C.prog (lone (Frame.enter C.prog f i.args .normal) [] (w.forCall a i)))
  (Y:laidOutB C.prog=true) (u:fn.params.toList.all (fun t=>C.prog.readableRec t && decide (t<C.prog.types.size))=true) (Z:fn.resultTypes = #[tb]) (P:C.prog.underlying tb=some .bool) (F:s.vars=[])
  (hs:∀ ds:List (DataW H),ds.length=fn.params.size->s.fn H ds={ results:=[.lit (.bool true)],args:=ds })
  (K:∀ (W:World) (args:Array Value),args.size=fn.params.toList.length->(∀ (j:Nat) t v,fn.params.toList[j]? = some t->args[j]? = some v->Ar enc C.prog W t v)->kI C.prog f args W fun r W'=>r = .bool true/\Kp [] W W') :
  ReturnsInHanded {} C os f .any (s.pre6 enc C.prog fn b false) (s.post enc C.prog fn false true false false):=by
 refine returnsInHanded_of_change_sized I c l J g ?_;intro W base args ds gs G y U _ z _;have m:=U;obtain ⟨p,q,L,V,rfl,_,_⟩:=U;rw [F] at V;obtain ⟨rfl,rfl⟩:=trodVars_none V;simp only [A3] at m z;have A:∀ x ∈ p,x.block<W.heap.size:=fun x hx=>by simpa using m.lt x hx
 have N:∀ n ∈ weightsEach C.prog fn.params.toList ds,n<=140737488351232:=fun n hn=>by
  have B:n ∈ weightsEach C.prog (fn.params.toList++s.plain.varTypes C.prog) ds:=by
   have:∀ (k O:List TypeId) (ds:List (DataW H)),n ∈ weightsEach C.prog k ds->n ∈ weightsEach C.prog (k++O) ds:=by
    intro k;induction k with
    | nil=>intro O ds h; simp [weightsEach] at h
    | cons t k X=>
     intro O ds h;cases ds with
     | nil=>simp [weightsEach] at h
     | cons d ds=>
      rw [weightsEach,y2] at h;rw [D0,weightsEach,y2];grind
   grind
  exact zc (J5.1 z n B)
 obtain ⟨o,Q⟩:=YU (fun j t v ht F=>y j t v (by simpa using ht) F) L N A;have S:ds.length=fn.params.size:=by
  have:∀ (k:List TypeId) (D:List Value) (ds:List (DataW H)) (p:List MemPlace),TrodAll enc C.prog W 0 (fun _=>true) true k D ds p->ds.length=k.length:=by
   intro k;induction k with
   | nil=>intro D ds p h; obtain ⟨_,rfl,_⟩:=trodAll_nil h; rfl
   | cons t k X=>intro D ds p h; obtain ⟨v,D,d,ds,p1,p2,rfl,rfl,rfl,_,h2⟩:=trodAll_cons h; simp [X D ds p2 h2]
  simpa using this _ _ _ _ L
 refine M3 (K W args o Q) fun e W' ⟨v,he,T,hk⟩=>⟨v,he,?_⟩;subst T;exact Uo Y u Z P F (by rw [A3]; exact hs ds S) m L A hk
end
end Go.Proofs.YticbaadnibdbkaaGreat
namespace Go.Proofs.YticbaadnibdbkaaGreat
open Go.Proofs.Tryz
open Go.RowKit Go.ChangeShapes Go.WideShapes
def Re:ownKnob prog.godebug=none:=cm
def Qc:laidOutB prog=true:=cm
def aqd:Tr prog (av l6) 35 (.nm .command):=Tr.struct (ss:=[.int,.int,.int,.int,.int,.int,(.G7 .int),.str]) underlying35 cm (fun a h=>by
 obtain ⟨y0,j,rfl,b,k,rfl,c,l,rfl,d,m,rfl,e,n,rfl,f,o,rfl,g,p,rfl,i,q,rfl,rfl⟩:=h;exact ⟨⟨y0,b,c,d,e,f,g,i⟩,rfl⟩) (mZ.cons (Tr.int underlying3) rfl cm (mZ.cons (Tr.int underlying3) rfl cm (mZ.cons (Tr.int underlying3) rfl cm (mZ.cons (Tr.int underlying3) rfl cm (mZ.cons (Tr.int underlying3) rfl cm (mZ.cons (Tr.int underlying3) rfl cm (mZ.cons (Tr.list underlying33 cm cm (Tr.int underlying3)) rfl cm (mZ.cons (Tr.str underlying9) rfl cm (mZ.nil)))))))))
def aop:Tr prog (av l6) 52 (.nm .entry):=Tr.struct (ss:=[.int,(.G7 .u8)]) underlying52 cm (fun a h=>by
 obtain ⟨y0,c,rfl,b,d,rfl,rfl⟩:=h;exact ⟨⟨y0,b⟩,rfl⟩) (mZ.cons (Tr.int underlying3) rfl cm (mZ.cons (Tr.list underlying50 cm cm (Tr.u8 underlying5)) rfl cm (mZ.nil)))
def aoU:Tr prog (av l6) 40 (.nm .letter):=Tr.struct (ss:=[.int,.int,.int,.int,.int,.int,.int,.int,.bool,(.G7 (.nm .entry))]) underlying40 cm (fun a h=>by
 obtain ⟨y0,l,rfl,b,m,rfl,c,n,rfl,d,o,rfl,e,p,rfl,f,q,rfl,g,r,rfl,i,s,rfl,j,t,rfl,k,u,rfl,rfl⟩:=h;exact ⟨⟨y0,b,c,d,e,f,g,i,j,k⟩,rfl⟩) (mZ.cons (Tr.int underlying3) rfl cm (mZ.cons (Tr.int underlying3) rfl cm (mZ.cons (Tr.int underlying3) rfl cm (mZ.cons (Tr.int underlying3) rfl cm (mZ.cons (Tr.int underlying3) rfl cm (mZ.cons (Tr.int underlying3) rfl cm (mZ.cons (Tr.int underlying3) rfl cm (mZ.cons (Tr.int underlying3) rfl cm (mZ.cons (Tr.bool underlying4) rfl cm (mZ.cons (Tr.list underlying38 cm cm (aop)) rfl cm (mZ.nil)))))))))))
def apY:Tr prog (av l6) 60 (.nm .nop):=Tr.struct (ss:=[.u8,.int,(.nm .letter),(.nm .command)]) underlying60 cm (fun a h=>by
 obtain ⟨y0,e,rfl,b,f,rfl,c,g,rfl,d,i,rfl,rfl⟩:=h;exact ⟨⟨y0,b,c,d⟩,rfl⟩) (mZ.cons (Tr.u8 underlying5) rfl cm (mZ.cons (Tr.int underlying3) rfl cm (mZ.cons (aoU) rfl cm (mZ.cons (aqd) rfl cm (mZ.nil)))))
set_option maxRecDepth 100000 in
def uA (os:Os) (a:os.Started) (H:Type) (enc:TypeId × Value->H) :
  ReturnsInHanded {} checked os 7 .any (Rows.nodeStateSpec.pre6 enc prog f7 Rows.nodeStateRow.domain false) (Rows.nodeStateSpec.post enc prog f7 false true false false):=by
 refine RZ (C:=checked) Re a cm func7 (ChangeSpec.witness6 (enc:=enc) (C:=checked) false ⟨#[],#[.slice none 0 0],[]⟩ 8 cm cm cm cm) Qc cm cm underlying4 rfl (fun b h=>?_) ?_
 ·match b,h with
  | [g],_=>rfl
 intro W args c d;obtain ⟨l⟩:=args;match l,c with
 | [i],_=>
  obtain ⟨e,f⟩:=Ar.list (shp:=av l6) (d 0 54 _ rfl rfl) underlying54 (Tr.list underlying54 cm cm (apY));exact Ww (VW e) rfl (.cons f .nil)
set_option maxHeartbeats 40000000 in
def rQ:joinedFacts checked.prog 7 f7 Rows.nodeStateSpec Rows.nodeStateRow=true:=by
 unfold joinedFacts;repeat' with_reducible refine Bool.and_eq_true_iff.2 ⟨?_,?_⟩
 all_goals as_aux_lemma=>kernel_rfl
theorem nodeState_holds:Rows.NodeStateSaid:=
 OpenClaim.holds_of_wide 7 f7 rfl rfl rfl rfl rfl rfl rfl ⟨rfl,rfl,rfl,rfl,rfl⟩ rfl rfl rfl rfl rfl cm func7 rQ
  (zc cm) (by unfold Func.isWrapper; first | (rw [eg (by decide +kernel)]; kernel_rfl) | (rw [dc (by decide +kernel)]; exact ⟨rfl,rfl⟩))
  (fun os a H b _=>uA os a H b)
