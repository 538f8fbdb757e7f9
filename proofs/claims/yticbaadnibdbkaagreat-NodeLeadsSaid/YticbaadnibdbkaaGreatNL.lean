/- The law: for every input it returns true, and each argument reads behind the call as it read before; and what leads there. Conditions: each lemma's own. -/
import Derived.OpenShut
import Derived.ProofKit
import Derived.SizedLaws
import Derived.Test.YticbaadnibdbkaaGreatChecked
import Derived.Test.YticbaadnibdbkaaGreatRows
import Derived.Test.YticbaadnibdbkaaGreatNLM7
set_option linter.unusedVariables false
set_option linter.unusedSimpArgs false
set_option maxHeartbeats 2000000
namespace Go.Proofs.YticbaadnibdbkaaGreat
open Go.RowKit
variable {t:Int}
theorem Gc {s:Stable}:(stepsF s (aC s t)).1.log=s.log:=by
 unfold aC;split
 ·rfl
 rw [stepsF];split
 ·rw [stepsF];unfold aI;split
  ·rfl
  split
  ·rename_i u h;rw [fB,if_neg (show ¬ (2:Int)=1 by decide),if_pos rfl,fw] at h;grind
  rfl
 rfl
abbrev awA (n:Nd) (x:Letter):Nd:=⟨(n.save (aC n.c.st x.term)).c,(n.save (aC n.c.st x.term)).d,(n.save (aC n.c.st x.term)).rp,(n.save (aC n.c.st x.term)).vs,(n.save (aC n.c.st x.term)).bn.set x.frm.toNat x.bin,(n.save (aC n.c.st x.term)).nx,(n.save (aC n.c.st x.term)).mt⟩
abbrev TD (n:Nd) (x:Letter):Nd:=⟨(n.save (aC n.c.st x.term)).c,(n.save (aC n.c.st x.term)).d,(n.save (aC n.c.st x.term)).rp,(n.save (aC n.c.st x.term)).vs.set x.frm.toNat true,(n.save (aC n.c.st x.term)).bn.set x.frm.toNat x.bin,(n.save (aC n.c.st x.term)).nx,(n.save (aC n.c.st x.term)).mt⟩
theorem Ii {s:Stable}:(aC s t).length<=1000:=Nat.le_trans ld (by decide)
section
variable {n:Nd} {x:Letter}
theorem ae0 (h:¬ n.aN (aC n.c.st x.term)=0):br n x=⟨n.save (aC n.c.st x.term),[],n.aN (aC n.c.st x.term)⟩:=if_pos h
variable (h:n.aN (aC n.c.st x.term)=0)
include h
theorem afn (h1:¬ x.term=(n.save (aC n.c.st x.term)).c.st.term\/(n.save (aC n.c.st x.term)).c.role=0):br n x=⟨n.save (aC n.c.st x.term),[],0⟩:=(if_neg (adi.2 h)).trans (if_pos h1)
theorem Vc (h0:NdOK n):NdOK (n.save (aC n.c.st x.term)):=by
 have h2:(n.save (aC n.c.st x.term)).c.st=(stepsF n.c.st (aC n.c.st x.term)).1:=(Em h).1;have h3:=rJ (l:=aC n.c.st x.term) h0.log h0.term;rw [<- h2] at h3;refine ⟨qn h0.d,h0.many,h0.me,h3.1,h3.2,⟨h0.com.1,h0.com.2.1,?_⟩,h0.len,h0.rp⟩;rw [h2,Gc]; exact h0.com.2.2
theorem XT (h0:NdOK n):NdOK (awA n x):=by
 have k:=Vc h h0;exact ⟨k.d,k.many,k.me,k.log,k.term,k.com,k.len.imp id fun q=>⟨q.1,by rw [adn]; exact q.2.1,q.2.2⟩,k.rp⟩
theorem WW (h0:NdOK n):NdOK (TD n x):=by
 have k:=Vc h h0;exact ⟨k.d,k.many,k.me,k.log,k.term,k.com,k.len.imp id fun q=>⟨by rw [adn]; exact q.1,by rw [adn]; exact q.2.1,q.2.2⟩,k.rp⟩
omit h in
theorem abL (h0:NdOK n) (hx:x.frm<n.c.many) (hr:¬ (n.save (aC n.c.st x.term)).c.role=0):x.frm<((n.save (aC n.c.st x.term)).bn.length:Int)/\x.frm<((n.save (aC n.c.st x.term)).vs.length:Int):=by
 have q:=h0.len.resolve_left hr;exact ⟨by show x.frm<(n.bn.length:Int); omega,by show x.frm<(n.vs.length:Int); omega⟩
variable (h1:x.term=(n.save (aC n.c.st x.term)).c.st.term) (h2:¬ (n.save (aC n.c.st x.term)).c.role=0)
include h1 h2
theorem Td:br n x=if (x.kind=2/\x.ok=true)/\(n.save (aC n.c.st x.term)).c.role=1 then (if ph (TD n x).vs=true then gO (TD n x) else ⟨TD n x,[],0⟩) else if x.kind=4/\(n.save (aC n.c.st x.term)).c.role=2 then iq (awA n x) x else ⟨awA n x,[],0⟩:=
 (if_neg (adi.2 h)).trans (if_neg (by rintro (q | q); exact q h1; exact h2 q))
theorem ad2 (h3:x.kind=2) (h4:x.ok=true) (h5:(n.save (aC n.c.st x.term)).c.role=1) (h6:ph (TD n x).vs=true):br n x=gO (TD n x):=(Td h h1 h2).trans ((if_pos ⟨⟨h3,h4⟩,h5⟩).trans (if_pos h6))
theorem af9 (h3:x.kind=2) (h4:x.ok=true) (h5:(n.save (aC n.c.st x.term)).c.role=1) (h6:ph (TD n x).vs=false):br n x=⟨TD n x,[],0⟩:=(Td h h1 h2).trans ((if_pos ⟨⟨h3,h4⟩,h5⟩).trans (if_neg (lz h6)))
theorem agL (h3:(¬ x.kind=2\/x.ok=false)\/¬ (n.save (aC n.c.st x.term)).c.role=1) (h4:x.kind=4) (h5:(n.save (aC n.c.st x.term)).c.role=2):br n x=iq (awA n x) x:=
 (Td h h1 h2).trans ((if_neg (by rintro ⟨⟨a,b⟩,c⟩; rcases h3 with (q | q) | q; exact q a; exact lz q b; exact q c)).trans (if_pos ⟨h4,h5⟩))
theorem agD (h3:(¬ x.kind=2\/x.ok=false)\/¬ (n.save (aC n.c.st x.term)).c.role=1) (h4:¬ x.kind=4\/¬ (n.save (aC n.c.st x.term)).c.role=2):br n x=⟨awA n x,[],0⟩:=
 (Td h h1 h2).trans ((if_neg (by rintro ⟨⟨a,b⟩,c⟩; rcases h3 with (q | q) | q; exact q a; exact lz q b; exact q c)).trans (if_neg (by rintro ⟨a,b⟩; rcases h4 with q | q; exact q a; exact q b)))
end
noncomputable def oY:Kn:=aJ (ae (kC (aW 0 0)) (ae (kT (.nm .letter)) au)) wN fun (_,x,_) n=>⟨[NdOK n,0<=x.frm/\x.frm<n.c.many,0<=x.a/\x.a<=64],[.c (.fz (.nm .letter) (((br n x).l))),.c (.int (((br n x).e)))],some ((nq ((br n x).n))),false⟩
theorem zW:CK 58 oY:=ah fun (_,x,_) n hp=>by
 have h0:=bW hp;have h1:=bW (eH hp);have h2:=bW (eH (eH hp));refine bw yI [] Tryz.func58 (?_:(fun q5=>(fun q4=>(fun q3=>(fun q2=>(fun q1=>(fun q0=>(fun q8=>(fun q7=>(fun q9=>(fun q6=>aS x (((q4<=n.d.synced/\n.d.synced<=(↑n.d.b.length:Int)/\n.d.b.length<=65536)/\n.c.st.log.length<=10000/\q3.length<=1000)/\(I64 (n.aN q3)->(¬n.aN q3=q4->q2.l=[]/\n.aN q3=q2.e/\b_ q0 q2.n)/\(n.aN q3=q4->(¬x.term=q0.c.st.term\/q8=q4->q2.l=[]/\q4=q2.e/\b_ q0 q2.n)/\(x.term=q0.c.st.term/\¬q8=q4->q4<=x.frm/\x.frm<(↑q0.bn.length:Int)/\(I64 (q0.bn.getD q1 (ao Sh.int))->((x.kind=2/\x.ok=true)/\q8=1->q4<=x.frm/\x.frm<(↑q0.vs.length:Int)/\(ph (q0.vs.set q1 true)=true->NdOK q6/\q8=1/\((gO q6).l.length*96<=140737488355328->I64 (gO q6).e->(gO q6).l=q2.l/\(gO q6).e=q2.e/\b_ (gO q6).n q2.n))/\(ph (q0.vs.set q1 true)=false->q2.l=[]/\q4=q2.e/\b_ q6 q2.n))/\((¬x.kind=2\/x.ok=false)\/¬q8=1->(x.kind=4/\q8=2->NdOK q7/\(q4<=x.frm/\x.frm<q0.c.many)/\q8=2/\(q4<=x.a/\x.a<=64)/\(q9.l.length*96<=140737488355328->I64 q9.e->q9.l=q2.l/\q9.e=q2.e/\b_ q9.n q2.n))/\(¬x.kind=4\/¬q8=2->q2.l=[]/\q4=q2.e/\b_ q7 q2.n)))))))) (Nd.mk q0.c q0.d q0.rp (q0.vs.set q1 true) (q0.bn.set q1 q5) q0.nx q0.mt)) (iq q7 x)) (Nd.mk q0.c q0.d q0.rp q0.vs (q0.bn.set q1 q5) q0.nx q0.mt)) q0.c.role) (n.save q3)) x.frm.toNat) (br n x)) (aC n.c.st x.term)) (0:Int)) x.bin);obtain ⟨o1,o2,o3⟩:=id h0.d;have o4:=h0.log;(repeat' with_reducible first|apply bd|refine bf ?_|intro)
 all_goals (first | exact bq | exact Ii | exact (WW ab h0) | exact (XT ab h0) | exact (abL h0 h1.2 ab).1 | exact (abL h0 h1.2 ab).2 | exact h1.2 | (rw [ae0 (n:=n) (x:=x) ab] <;> rfl) | (rw [afn (n:=n) (x:=x) ab ab] <;> rfl) | (rw [ad2 (n:=n) (x:=x) ab ab ab ab ab ab ab] <;> rfl) | (rw [af9 (n:=n) (x:=x) ab ab ab ab ab ab ab] <;> rfl) | (rw [agL (n:=n) (x:=x) ab ab ab ab ab ab] <;> rfl) | (rw [agD (n:=n) (x:=x) ab ab ab ab ab] <;> rfl))
noncomputable def Uv:bD:=(aL 58 oY UO)
theorem AM:ay Tryz.prog (al tyT) Uv:=(ag zW yI)
section
variable {n:Nd} {x:Letter}
theorem HW (hm:db n.c x=true):0<=x.frm/\x.frm<n.c.many/\0<=x.a/\x.a<=64/\1<=x.kind/\x.kind<=4:=by
 have h:=(Oc hm).1;have:=jg h.may;have:=h.frm;omega
theorem aeP {p:Prop} (hm:db n.c x=true) (h1:¬ x.kind=1) (h2:¬ x.kind=2) (h3:¬ x.kind=3) (h4:¬ x.kind=4):p:=by
 have:=HW hm; omega
theorem Gq (h:NdOK n):NdOK n.follow:=⟨h.d,h.many,h.me,h.log,h.term,h.com,.inl rfl,h.rp⟩
theorem afw (hm:db n.c x=true):db n.follow.c x=true:=hm
theorem adt (h:n.d.down=true):receiveF n x=⟨n,[],30⟩:=if_pos h
variable (h:n.d.down=false)
include h
theorem agE (hm:db n.c x=false):receiveF n x=⟨n,[],1⟩:=(if_neg (lz h)).trans (if_pos hm)
variable (hm:db n.c x=true)
include hm
theorem QC (ht:n.c.st.term<x.term):receiveF n x=if x.kind=1 then df n.follow x else if x.kind=3 then bZ n.follow x else br n.follow x:=by
 rw [receiveF,if_neg (lz h),if_neg (by rw [hm]; decide),if_pos ht]
theorem Pj (ht:x.term<=n.c.st.term):receiveF n x=if x.kind=1 then df n x else if x.kind=3 then bZ n x else br n x:=by
 rw [receiveF,if_neg (lz h),if_neg (by rw [hm]; decide),if_neg (show ¬ n.c.st.term<x.term by omega)]
section
variable (ht:n.c.st.term<x.term)
include ht
theorem adR (hk:x.kind=1):receiveF n x=df n.follow x:=(QC h hm ht).trans (if_pos hk)
theorem adC (hk:x.kind=3):receiveF n x=bZ n.follow x:=(QC h hm ht).trans ((if_neg (by omega)).trans (if_pos hk))
theorem aea (hk:x.kind=2):receiveF n x=br n.follow x:=(QC h hm ht).trans ((if_neg (by omega)).trans (if_neg (by omega)))
theorem adE (hk:x.kind=4):receiveF n x=br n.follow x:=(QC h hm ht).trans ((if_neg (by omega)).trans (if_neg (by omega)))
end
section
variable (ht:x.term<=n.c.st.term)
include ht
theorem aha (hk:x.kind=1):receiveF n x=df n x:=(Pj h hm ht).trans (if_pos hk)
theorem adX (hk:x.kind=3):receiveF n x=bZ n x:=(Pj h hm ht).trans ((if_neg (by omega)).trans (if_pos hk))
theorem aff (hk:x.kind=2):receiveF n x=br n x:=(Pj h hm ht).trans ((if_neg (by omega)).trans (if_neg (by omega)))
theorem agb (hk:x.kind=4):receiveF n x=br n x:=(Pj h hm ht).trans ((if_neg (by omega)).trans (if_neg (by omega)))
end
end
noncomputable def ry:Kn:=aJ (ae (kC (aW 0 0)) (ae (kT (.nm .letter)) au)) wN fun (_,x,_) n=>⟨[NdOK n],[.c (.fz (.nm .letter) (((receiveF n x).l))),.c (.int (((receiveF n x).e)))],some ((nq ((receiveF n x).n))),false⟩
theorem Bp:CK 16 ry:=ah fun (_,x,_) n hp=>by
 have h0:=bW hp;refine bw AM [] Tryz.func16 (?_:(fun q13=>(fun q12=>(fun q11=>(fun q10=>(fun q9=>(fun q8=>(fun q7=>(fun q6=>(fun q5=>(fun q4=>(fun q3=>(fun q2=>(fun q1=>(fun q0=>(fun q17=>(fun q16=>(fun q15=>(fun q14=>aS x ((n.d.down=true->q2.l=[]/\30=q2.e/\b_ n q2.n)/\(n.d.down=false->(db n.c x=false->q2.l=[]/\1=q2.e/\b_ n q2.n)/\(db n.c x=true->(n.c.st.term<x.term->(q8->q14)/\(¬q8->(q7->q14)/\(¬q7->(q4->aS x (NdOK q0/\db q5 x=true/\q4)/\aS x (q16.l.length*q10<=q11->I64 q16.e->q16.l=q2.l/\q16.e=q2.e/\b_ q16.n q2.n))/\(¬q4->(q6->aS x (NdOK q0)/\aS x (q17.l.length*q10<=q11->I64 q17.e->q17.l=q2.l/\q17.e=q2.e/\b_ q17.n q2.n))/\(¬q6->False)))))/\(x.term<=n.c.st.term->(q8->q1)/\(¬q8->(q7->q1)/\(¬q7->(q4->aS x (NdOK n/\db n.c x=true/\q4)/\aS x (q12.l.length*q10<=q11->I64 q12.e->q12.l=q2.l/\q12.e=q2.e/\b_ q12.n q2.n))/\(¬q4->(q6->aS x (NdOK n)/\aS x (q13.l.length*q10<=q11->I64 q13.e->q13.l=q2.l/\q13.e=q2.e/\b_ q13.n q2.n))/\(¬q6->False))))))))) (aS x (NdOK q0/\q3)/\aS x (q15.l.length*q10<=q11->I64 q15.e->q15.l=q2.l/\q15.e=q2.e/\b_ q15.n q2.n))) (br q0 x)) (bZ q0 x)) (df q0 x)) (Nd.mk q5 n.d n.rp n.vs n.bn n.nx n.mt)) (aS x (NdOK n/\q3)/\aS x (q9.l.length*q10<=q11->I64 q9.e->q9.l=q2.l/\q9.e=q2.e/\b_ q9.n q2.n))) (receiveF n x)) ((0<=x.frm/\x.frm<n.c.many)/\0<=x.a/\x.a<=64)) (x.kind=3)) (NdC.mk n.c.me n.c.many n.c.bin n.c.st 0 n.c.commit n.c.applied n.c.s)) (x.kind=1)) (x.kind=2)) (x.kind=4)) (br n x)) (96:Nat)) (140737488355328:Nat)) (bZ n x)) (df n x));(repeat' with_reducible first|apply bd|refine bf ?_|intro)
 all_goals (first | exact bq | exact h0 | exact (Gq h0) | exact (afw (n:=n) ab) | exact (aeP (n:=n) ab ab ab ab ab) | exact (HW (n:=n) ab).1 | exact (HW (n:=n) ab).2.1 | exact (HW (n:=n) ab).2.2.1 | exact (HW (n:=n) ab).2.2.2.1 | (rw [adt (n:=n) (x:=x) ab] <;> rfl) | (rw [agE (n:=n) (x:=x) ab ab] <;> rfl) | (rw [adR (n:=n) (x:=x) ab ab ab ab] <;> rfl) | (rw [adC (n:=n) (x:=x) ab ab ab ab] <;> rfl) | (rw [aea (n:=n) (x:=x) ab ab ab ab] <;> rfl) | (rw [adE (n:=n) (x:=x) ab ab ab ab] <;> rfl) | (rw [aha (n:=n) (x:=x) ab ab ab ab] <;> rfl) | (rw [adX (n:=n) (x:=x) ab ab ab ab] <;> rfl) | (rw [aff (n:=n) (x:=x) ab ab ab ab] <;> rfl) | (rw [agb (n:=n) (x:=x) ab ab ab ab] <;> rfl))
noncomputable def UR:bD:=(aL 16 ry Uv)
theorem zO:ay Tryz.prog (al tyT) UR:=(ag Bp AM)
theorem DkI.dk {d:Dsk} {L:List Record} {k:Int} (h:DkI d L):DkI (d.dk k) L/\(d.dk k).b=d.b:=by
 have hy:=h.syn;have ea:d.at_ k=d.b.length:=by unfold Dsk.at_; omega
 have eb:(d.dk k).b=d.b:=by
  show d.b.take (d.at_ k).toNat=d.b;simp_all
 refine ⟨⟨h.st,by rw [eb]; exact h.rep,by rw [eb]; exact h.pre,?_,fun hd=>by cases hd⟩,eb⟩;rw [eb]; exact ea
variable {b:Int}
theorem GX {a:Int} (h:bS a b=0):1<=a/\a<=3/\1<=b/\b<=a:=by
 unfold bS at h;grind
theorem LO {s:Stable} (h1:1<=b) (h2:b<=3) (h:s.floor<b):stepsF s [⟨1,b,0,[]⟩]=({ s with floor:=b },0):=by
 have e:aI s ⟨1,b,0,[]⟩=({ s with floor:=b },0):=by
  refine mU (agf ⟨rfl,h1,h2,rfl,rfl⟩) ?_;rw [fB,if_pos rfl,dQ,if_neg (by dsimp only; omega)]
 rw [lQ (by rw [e]),e]
variable {n:Nd}
theorem OT {L:List Record} (h:NInv n L):∃ L',StepR n L (startF n b).n [] L':=by
 cases hd:n.d.down;case false=>rw [ZQ hd]; exact ⟨L,.refl h⟩
 by_cases hs:bS b (max (replayF n.d.b).1.floor 1)=0;case neg=>rw [abb hd hs]; exact ⟨L,.refl h⟩
 obtain ⟨b1,b2,b3,b4⟩:=GX hs;obtain ⟨c1,c2,c3⟩:=xg hd h.ok.d;have hrep:=h.d.rep;obtain ⟨t,ht⟩:=h.d.pre;have hrg:=lZ n.d.b
 -- its disk
 have hb:n.d.b.take (replayF n.d.b).2.toNat=encL L:=by
  rw [hrep,ht];dsimp only;rw [adm,List.take_left]
 have hfd:(n.fr b).d=⟨encL L,((encL L).length:Int),false,false,0⟩:=by
  show (if n.d.down=true then n.d.up else n.d).cut (replayF n.d.b).2=_;rw [c3,hb,hrep]
 have hdk:DkI (n.fr b).d L:=by rw [hfd]; exact DkI.enc h.d.st rfl rfl
 have hst:(n.fr b).c.st=(stepsF sta0 L).1:=by show (replayF n.d.b).1=_; rw [hrep]
 have hok:NdOK (n.fr b):=⟨c1,h.ok.many,h.ok.me,hrg.1.1,hrg.1.2,⟨aee 0,aee 0,Int.natCast_nonneg _⟩,.inl rfl,rfl⟩;have hlen:(n.fr b).d.b.length<=n.d.b.length:=by
  rw [hfd,ht];show (encL L).length<=_;rw [List.length_append]; omega
 have hpl:okPl b ((replayF n.d.b).1.log.take 0)/\fr0=pS b fr0 ((replayF n.d.b).1.log.take 0)/\([]:List Reply)=pR b fr0 ((replayF n.d.b).1.log.take 0):=⟨fun x hx=>(by cases hx),rfl,rfl⟩;by_cases hf:(replayF n.d.b).1.floor<b;case neg=>
  rw [Yu hd hs (by omega)];exact ⟨L,⟨hok,hdk,h.le,fun _=>⟨hst,⟨b1,b2,by show (replayF n.d.b).1.floor=b; omega⟩,⟨aee 0,(by decide:(0:Int)<=2)⟩,fun hr=>absurd rfl hr,fun hr=>absurd (show (0:Int)=2 from hr) (by decide),hpl⟩⟩,List.prefix_refl _,⟨rfl,rfl⟩,by show (n.fr b).d.b.length<=_; omega,fun _ hx=>(by cases hx),fun hu=>by rw [hd] at hu; cases hu⟩
 have hup:(n.fr b).d.down=false:=by rw [hfd]
 have hsr:=Zv (l:=[⟨1,b,0,[]⟩]) hdk hup hst;have hl:=Ic hsr (by simp);have hk3:∀ (i:Nat),∀ r ∈ L++[Record.mk 1 b 0 []].take i,r.kind=3->1<=r.b:=fun i r hr=>by
  rcases ac1.1 hr with hr | hr
  ·exact h.le r hr
  grind
 by_cases he:(n.fr b).aN [⟨1,b,0,[]⟩]=0
 ·rw [VH hd hs hf he];obtain ⟨k1,k2,k3,k4,k5,k6,k7,k8⟩:=hsr.ok he;have es:((n.fr b).save [⟨1,b,0,[]⟩]).c.st={ (n.fr b).c.st with floor:=b }:=by
   show (saveF _ _ _).2.1=_;rw [k3,LO b1 b2 hf]
  refine ⟨L++[⟨1,b,0,[]⟩],⟨⟨qn c1,h.ok.many,h.ok.me,by rw [es]; exact hrg.1.1,by rw [es]; exact hrg.1.2,⟨aee 0,aee 0,Int.natCast_nonneg _⟩,.inl rfl,rfl⟩,k2,fun r hr=>hk3 1 r hr,fun _=>⟨?_,⟨b1,b2,by rw [es]⟩,⟨aee 0,(by decide:(0:Int)<=2)⟩,fun hr=>absurd rfl hr,fun hr=>absurd (show (0:Int)=2 from hr) (by decide),?_⟩⟩,List.prefix_append _ _,⟨rfl,rfl⟩,by show (saveF (n.fr b).d (n.fr b).c.st _).1.b.length<=_; omega,fun _ hx=>(by cases hx),fun hu=>by rw [hd] at hu; cases hu⟩
  ·show (saveF _ _ _).2.1=_;rw [k3,ej h.d.st,<- hst]
  grind
 rw [WV hd hs hf he];obtain ⟨k1,k2,k3⟩:=hsr.no he;have ec:((n.fr b).save [⟨1,b,0,[]⟩]).c=(n.fr b).c:=by rw [Vu,k1]
 have hL:∃ i,DkI ((n.fr b).save [⟨1,b,0,[]⟩]).d (L++[Record.mk 1 b 0 []].take i):=by
  rcases k3 with ⟨k3,_⟩ | ⟨_,_,_,_,i,_,k3⟩
  ·exact ⟨0,by rw [ahG,ade,Zo,k3]; exact hdk⟩
  grind
 obtain ⟨i,hi⟩:=hL;obtain ⟨q1,q2⟩:=hi.dk (k:=0);refine ⟨_,⟨⟨AD (qn c1),h.ok.many,h.ok.me,by rw [ec]; exact hrg.1.1,by rw [ec]; exact hrg.1.2,⟨aee 0,aee 0,Int.natCast_nonneg _⟩,.inl rfl,rfl⟩,q1,hk3 i,fun hu=>by cases hu⟩,Oy,⟨rfl,rfl⟩,?_,fun _ hx=>(by cases hx),fun hu=>by rw [hd] at hu; cases hu⟩;show (((n.fr b).save [⟨1,b,0,[]⟩]).d.dk 0).b.length<=_;rw [q2];show (saveF (n.fr b).d (n.fr b).c.st _).1.b.length<=_;omega
structure ToldN where
 l:List Letter
 a:Int
 b:Int
 e:Int
theorem Rv {me many:Int} (h:3<=many/\many<=5/\0<=me/\me<many):NInv (newN me many) []:=
 ⟨⟨⟨aee 0,aee 0,afV _⟩,⟨h.1,h.2.1⟩,h.2.2,afV _,⟨aee 0,(by decide:(0:Int)<=1048576)⟩,⟨aee 0,aee 0,Int.natCast_nonneg _⟩,.inl rfl,rfl⟩,⟨rfl,rD (L:=[]) rfl,⟨[],rfl⟩,rfl,fun _=>rfl⟩,fun r hr=>(by cases hr),fun hu=>(by cases hu)⟩
theorem ab2:NInv (newN 0 3) []:=Rv ⟨by decide,by decide,by decide,by decide⟩
noncomputable abbrev sw1:NdR:=startF (newN 0 3) 1
noncomputable abbrev Zz:=timeoutF sw1.n
theorem afG:NdOK sw1.n:=let ⟨_,h⟩:=OT (b:=1) ab2; h.inv.ok
theorem adT:(decide (sw1.e=0) && decide (Zz.e=0) && decide ((Zz.l.length:Int)=2) && decide ((Zz.l.getD 0 (ao (.nm .letter))).kind=1) && decide ((Zz.l.getD 1 (ao (.nm .letter))).to=2) && decide ((Zz.l.getD 0 (ao (.nm .letter))).term=1) && decide ((siteF Zz.n).role=1))=true:=cd
noncomputable def vF:Kn:=aJ au aw fun _ _=>⟨[],[.c (.bool (.atom ((true))))],none,false⟩
theorem GF:CK 11 vF:=ah fun _ _ _=>by
 refine av zO [] Tryz.func11 (?_:(fun q9=>(fun q8=>(fun q7=>(fun q6=>(fun q5=>(fun q4=>(fun q3=>(fun q2=>(fun q1=>(fun q0=>(fun q15=>(fun q14=>(fun q13=>(fun q16=>(fun q12=>(fun q11=>(fun q17=>(fun q10=>(fun q18=>(q9<=q9/\q9<=5/\q3<=q3/\q3<q9)/\(I64 q3->(false=true\/¬q3=q3->false=true)/\(false=false/\q3=q3->NdOK (newN q3 q9)/\(I64 q2.e->NdOK q2.n/\(q0.l.length*96<=q8->I64 q0.e->(q14->q3<=q3/\q3<q15)/\((q14->q17)->(q10->q3<=q6/\q6<q15)/\((q10->I64 q12.kind/\I64 q12.frm/\I64 q12.to/\I64 q12.term/\I64 q12.a/\I64 q12.b/\I64 q12.c/\I64 q12.bin/\q12.l.length*32<=q8)->(q18->q3<=q3/\q3<q15)/\((q18->q17)->(q18/\q11.term=q6->I64 q13.role/\I64 q13.binary/\I64 q13.floor/\I64 q13.term/\I64 q13.vote/\I64 q13.commit/\I64 q13.applied/\q13.log.length*32<=q8/\I64 q16.version/\I64 q16.next/\I64 q16.keep/\I64 q16.quota/\q16.sess.length*32<=q8/\q16.opens.length*16<=q8/\q16.snaps.length*64<=q8)->(decide (q2.e=q3) && decide (q0.e=q3) && decide (q15=q7) && decide (q11.kind=q6) && decide (q12.to=q7) && decide (q11.term=q6) && decide (q13.role=q6))=true)))))))) (q10/\q12.to=q7)) (q14/\q11.kind=q6)) (I64 q11.kind/\I64 q11.frm/\I64 q11.to/\I64 q11.term/\I64 q11.a/\I64 q11.b/\I64 q11.c/\I64 q11.bin/\q11.l.length*32<=q8)) (q0.l.getD q4 q1)) (q0.l.getD q5 q1)) q13.state) (siteF q0.n)) ((q2.e=q3/\q0.e=q3)/\q15=q7)) (↑q0.l.length:Int)) (timeoutF q2.n)) (ao (Sh.nm NT.letter))) (startF (newN q3 q9) q6)) (0:Int)) (0:Nat)) (1:Nat)) (1:Int)) (2:Int)) (140737488355328:Nat)) (3:Int));(repeat' with_reducible first|apply bd|refine bf ?_|intro)
 all_goals (first | exact bq | exact rfl | exact ab2.ok | exact afG | exact adT | (simp_all; done))
noncomputable def TB:bD:=(aL 11 vF UR)
theorem Ia:ay Tryz.prog (al tyT) TB:=(ag GF zO)
section
variable {n:Nd} {o:NOp} {k:UInt8}
theorem o7:(k &&& UInt8.ofNat 7).toNat=k.toNat % 8:=by
 rw [UInt8.toNat_and]; exact Nat.and_two_pow_sub_one_eq_mod k.toNat 3
end
noncomputable def abc:bD:=TB
theorem IF:ay Tryz.prog (al tyT) abc:=Ia
structure ZLv where
 i:Nat
 n:Nd
 m:Int
 l:Int
def bnF (bs:List UInt8) (i:Nat):Int:=1+((bs.getD i 0).toNat:Int).tmod 3
def vtL (i:Nat) (b:Int) (v:Bool):Letter:=⟨2,i+1,0,1,0,0,0,b,v,[]⟩
abbrev rgC:Command:=⟨1,1,0,0,0,0,[],⟨[]⟩⟩
abbrev bmC:Command:=⟨8,0,0,0,0,2,[],⟨[]⟩⟩
noncomputable def nlG (n:Nd) (i:Nat) (b:Int) (v tw:Bool):Nd:=if tw=true then (receiveF (receiveF n (vtL i b v)).n (vtL i b v)).n else (receiveF n (vtL i b v)).n
noncomputable def nlS (vs:List Bool) (bs:List UInt8) (tw:Bool):Nat->ZLv
 | 0=>⟨0,(callF (timeoutF (startF (newN 0 3) (bnF bs 0)).n).n rgC).n,1,bnF bs 0⟩
 | i+1=>⟨i+1,nlG (nlS vs bs tw i).n i (bnF bs (i+1)) (vs.getD i false) tw,if vs.getD i false=true then (nlS vs bs tw i).m+1 else (nlS vs bs tw i).m,min (nlS vs bs tw i).l (bnF bs (i+1))⟩
def okB (n:Nd):Bool:=decide (0<=n.d.synced/\n.d.synced<=n.d.b.length/\n.d.b.length<=65536) && decide (3<=n.c.many/\n.c.many<=5) && decide (0<=n.c.me/\n.c.me<n.c.many) && decide (n.c.st.log.length<=64) && decide (0<=n.c.st.term/\n.c.st.term<=1048576)
 && decide (0<=n.c.applied/\n.c.applied<=n.c.commit/\n.c.commit<=n.c.st.log.length) && decide (n.c.role=0\/((n.vs.length:Int)=n.c.many/\(n.bn.length:Int)=n.c.many/\(n.nx.length:Int)=n.c.many/\(n.mt.length:Int)=n.c.many)) && decide ((n.rp.length:Int)=n.c.applied)
theorem jH (h:okB n=true):NdOK n:=by
 simp only [okB,Bool.and_eq_true,decide_eq_true_eq] at h;obtain ⟨⟨⟨⟨⟨⟨⟨a,b⟩,c⟩,d⟩,e⟩,f⟩,g⟩,k⟩:=h;exact ⟨a,b,c,d,e,f,g,k⟩
noncomputable def nlB (o b1 b2:Int) (v0 v1 tw:Bool):Bool:=
 let S:=startF (newN 0 3) o
 let T:=timeoutF S.n
 let c0:=callF T.n rgC
 let n1:=nlG c0.n 0 b1 v0 tw
 let n2:=nlG n1 1 b2 v1 tw
 let m1:Int:=if v0=true then 1+1 else 1
 let m:Int:=if v1=true then m1+1 else m1
 let q:=callF n2 rgC
 let r:=callF q.n bmC
 let s:=siteF r.n
 decide (S.e=0) && okB S.n && okB T.n && okB c0.n && okB (receiveF c0.n (vtL 0 b1 v0)).n && okB n1 && okB (receiveF n1 (vtL 1 b2 v1)).n && okB n2 && okB q.n && decide (c0.e=33)
 && decide (¬ (siteF n2).role=2->m<2/\q.e=33/\r.e=33)
 && decide ((siteF n2).role=2->2<=m/\q.e=0/\q.a=2/\q.b=1/\(2<=min (min o b1) b2->r.e=0)/\(min (min o b1) b2<2->r.e=34)/\2<=s.log.length/\(s.log.getD 1 ⟨0,[]⟩).term=1/\(s.log.getD 0 ⟨0,[]⟩).b.length=0/\s.commit=0)
theorem VR:([1,2,3].all fun o=>[1,2,3].all fun b1=>[1,2,3].all fun b2=>[true,false].all fun v0=>[true,false].all fun v1=>[true,false].all fun tw=>nlB o b1 b2 v0 v1 tw)=true:=cd
theorem in3 {x:Int} (h:1<=x/\x<=3):x ∈ ([1,2,3]:List Int):=by
 have:x=1\/x=2\/x=3:=by omega
 rcases this with rfl | rfl | rfl <;> simp
theorem Yp (b:Bool):b ∈ [true,false]:=by cases b <;> simp
theorem afF {o b1 b2:Int} (h:1<=o/\o<=3) (h1:1<=b1/\b1<=3) (h2:1<=b2/\b2<=3) (v0 v1 tw:Bool):nlB o b1 b2 v0 v1 tw=true:=by
 have q:=VR;simp only [afi] at q;exact q o (in3 h) b1 (in3 h1) b2 (in3 h2) v0 (Yp _) v1 (Yp _) tw (Yp _)
theorem RH (bs:List UInt8) (i:Nat):1<=bnF bs i/\bnF bs i<=3:=by
 unfold bnF;have h1:=Int.tmod_nonneg (3:Int) (Int.natCast_nonneg (bs.getD i 0).toNat);have h2:=Int.tmod_lt_of_pos ((bs.getD i 0).toNat:Int) (by decide:(0:Int)<3);omega
structure NLF (vs:List Bool) (bs:List UInt8) (tw:Bool):Prop where
 a:(startF (newN 0 3) (bnF bs 0)).e=0
 b:NdOK (startF (newN 0 3) (bnF bs 0)).n
 c:NdOK (timeoutF (startF (newN 0 3) (bnF bs 0)).n).n
 e:∀ i,i<2->NdOK (receiveF (nlS vs bs tw i).n (vtL i (bnF bs (i+1)) (vs.getD i false))).n
 f:∀ i,i<=2->NdOK (nlS vs bs tw i).n
 g:NdOK (callF (nlS vs bs tw 2).n rgC).n
 k:(callF (timeoutF (startF (newN 0 3) (bnF bs 0)).n).n rgC).e=33
 l:¬ (siteF (nlS vs bs tw 2).n).role=2->(nlS vs bs tw 2).m<2/\(callF (nlS vs bs tw 2).n rgC).e=33/\(callF (callF (nlS vs bs tw 2).n rgC).n bmC).e=33
 m:(siteF (nlS vs bs tw 2).n).role=2->2<=(nlS vs bs tw 2).m/\(callF (nlS vs bs tw 2).n rgC).e=0/\(callF (nlS vs bs tw 2).n rgC).a=2/\(callF (nlS vs bs tw 2).n rgC).b=1/\(2<=(nlS vs bs tw 2).l->(callF (callF (nlS vs bs tw 2).n rgC).n bmC).e=0)/\((nlS vs bs tw 2).l<2->(callF (callF (nlS vs bs tw 2).n rgC).n bmC).e=34)
  /\ 2<=(siteF (callF (callF (nlS vs bs tw 2).n rgC).n bmC).n).log.length/\((siteF (callF (callF (nlS vs bs tw 2).n rgC).n bmC).n).log.getD 1 ⟨0,[]⟩).term=1/\((siteF (callF (callF (nlS vs bs tw 2).n rgC).n bmC).n).log.getD 0 ⟨0,[]⟩).b.length=0/\(siteF (callF (callF (nlS vs bs tw 2).n rgC).n bmC).n).commit=0
 q:∀ i,(nlS vs bs tw i).i=i/\1<=(nlS vs bs tw i).m/\(nlS vs bs tw i).m<=1+i
theorem SD (vs:List Bool) (bs:List UInt8) (tw:Bool):NLF vs bs tw:=by
 have h:=afF (RH bs 0) (RH bs 1) (RH bs 2) (vs.getD 0 false) (vs.getD 1 false) tw;simp only [nlB,Bool.and_eq_true,decide_eq_true_eq] at h;obtain ⟨⟨⟨⟨⟨⟨⟨⟨⟨⟨⟨h1,h2⟩,h3⟩,h4⟩,h5⟩,h6⟩,h7⟩,h8⟩,h9⟩,h10⟩,h11⟩,h12⟩:=h;refine ⟨h1,jH h2,jH h3,fun i hi=>?_,fun i hi=>?_,jH h9,h10,h11,h12,fun i=>?_⟩
 ·have:i=0\/i=1:=by omega
  rcases this with rfl | rfl
  ·exact jH h5
  exact jH h7
 ·have:i=0\/i=1\/i=2:=by omega
  rcases this with rfl | rfl | rfl
  ·exact jH h4
  ·exact jH h6
  exact jH h8
 induction i with
 | zero=>simp [nlS]
 | succ i ih=>
  refine ⟨rfl,?_⟩;simp only [nlS];split <;> omega
section
variable {vs:List Bool} {bs:List UInt8} {tw:Bool} {s:ZLv}
theorem acA (h:s=nlS vs bs tw s.i) (hi:s.i<=2):NdOK s.n:=by rw [h]; exact (SD vs bs tw).f _ hi
theorem Xt:(Letter.mk 2 ((s.i:Int)+1) 0 1 0 0 0 (1+((bs.getD ((s.i:Int)+1).toNat (ao Sh.u8)).toNat:Int).tmod 3) (vs.getD s.i (ao Sh.bool)) [])=(vtL s.i (bnF bs (s.i+1)) (vs.getD s.i false)):=rfl
theorem agc (h:s=nlS vs bs tw s.i) (hi:s.i<2):NdOK (receiveF s.n (Letter.mk 2 ((s.i:Int)+1) 0 1 0 0 0 (1+((bs.getD ((s.i:Int)+1).toNat (ao Sh.u8)).toNat:Int).tmod 3) (vs.getD s.i (ao Sh.bool)) [])).n:=by rw [Xt]; have:=(SD vs bs tw).e _ hi; rwa [<- h] at this
theorem aeO (h:s=nlS vs bs tw s.i):1<=s.m/\s.m<=1+s.i:=by have:=((SD vs bs tw).q s.i).2; rwa [<- h] at this
theorem Xu (h:s=nlS vs bs tw s.i) (hi:s.i<=2) (h2:(2:Int)<=s.i):s=nlS vs bs tw 2:=by rw [h,show s.i=2 by omega]
theorem abM (h:s=nlS vs bs tw s.i) (hv:vs.getD s.i (ao Sh.bool)=true):s.m+1=(nlS vs bs tw (s.i+1)).m:=by rw [nlS,<- h]; dsimp only; exact (if_pos hv).symm
theorem ack (h:s=nlS vs bs tw s.i) (hv:vs.getD s.i (ao Sh.bool)=false):s.m=(nlS vs bs tw (s.i+1)).m:=by rw [nlS,<- h]; dsimp only; exact (if_neg (by show ¬ vs.getD s.i (ao Sh.bool)=true; rw [hv]; decide)).symm
theorem afx (h:s=nlS vs bs tw s.i):min s.l (bnF bs (s.i+1))=(nlS vs bs tw (s.i+1)).l:=by rw [nlS,<- h]
theorem ZW (h:s=nlS vs bs tw s.i) (ht:tw=true):(nlS vs bs tw (s.i+1)).n=(receiveF (receiveF s.n (Letter.mk 2 ((s.i:Int)+1) 0 1 0 0 0 (1+((bs.getD ((s.i:Int)+1).toNat (ao Sh.u8)).toNat:Int).tmod 3) (vs.getD s.i (ao Sh.bool)) [])).n (Letter.mk 2 ((s.i:Int)+1) 0 1 0 0 0 (1+((bs.getD ((s.i:Int)+1).toNat (ao Sh.u8)).toNat:Int).tmod 3) (vs.getD s.i (ao Sh.bool)) [])).n:=by rw [Xt,nlS,<- h]; dsimp only; rw [nlG,if_pos ht]
theorem aa5 (h:s=nlS vs bs tw s.i) (ht:tw=false):(nlS vs bs tw (s.i+1)).n=(receiveF s.n (Letter.mk 2 ((s.i:Int)+1) 0 1 0 0 0 (1+((bs.getD ((s.i:Int)+1).toNat (ao Sh.u8)).toNat:Int).tmod 3) (vs.getD s.i (ao Sh.bool)) [])).n:=by rw [Xt,nlS,<- h]; dsimp only; rw [nlG,if_neg (by rw [ht]; decide)]
theorem aeB (h:s=nlS vs bs tw s.i) (hi:s.i<=2) (h2:(2:Int)<=s.i):NdOK (callF s.n rgC).n:=by rw [Xu h hi h2]; exact (SD vs bs tw).g
theorem adQ (i:Nat):I64 (bnF bs i):=by have:=RH bs i; exact bK (by omega) (by omega)
theorem ads (h:(true=false\/false=true)\/¬(0:Int)=0):false=true:=by simp at h
theorem afv:NdOK (newN 0 3):=jH cd
theorem afu (h:s=nlS vs bs tw s.i) (hi:s.i<=2) (h2:(2:Int)<=s.i) (hr:¬(siteF s.n).role=2):(decide (s.m<2) && decide ((callF (timeoutF (startF (newN 0 3) (bnF bs 0)).n).n rgC).e=33) && decide ((callF s.n rgC).e=33) && decide ((callF (callF s.n rgC).n bmC).e=33))=true:=by
 rw [Xu h hi h2] at hr ⊢;obtain ⟨a,b,c⟩:=(SD vs bs tw).l hr;simp [a,b,c,(SD vs bs tw).k]
theorem abH (h:s=nlS vs bs tw s.i) (hi:s.i<=2) (h2:(2:Int)<=s.i) (hr:(siteF s.n).role=2):2<=s.m/\(callF (timeoutF (startF (newN 0 3) (bnF bs 0)).n).n rgC).e=33/\(callF s.n rgC).e=0/\(callF s.n rgC).a=2/\(callF s.n rgC).b=1/\(2<=s.l->(callF (callF s.n rgC).n (Command.mk 8 0 0 0 0 2 [] (Str.mk []))).e=0)/\(s.l<2->(callF (callF s.n rgC).n (Command.mk 8 0 0 0 0 2 [] (Str.mk []))).e=34)
  /\ 2<=(siteF (callF (callF s.n rgC).n (Command.mk 8 0 0 0 0 2 [] (Str.mk []))).n).log.length/\((siteF (callF (callF s.n rgC).n (Command.mk 8 0 0 0 0 2 [] (Str.mk []))).n).log.getD 1 (ao (Sh.nm NT.entry))).term=1/\((siteF (callF (callF s.n rgC).n (Command.mk 8 0 0 0 0 2 [] (Str.mk []))).n).log.getD 0 (ao (Sh.nm NT.entry))).b.length=0/\(siteF (callF (callF s.n rgC).n (Command.mk 8 0 0 0 0 2 [] (Str.mk []))).n).commit=0:=by
 rw [Xu h hi h2] at hr ⊢;obtain ⟨a,b⟩:=(SD vs bs tw).m hr;exact ⟨a,(SD vs bs tw).k,b⟩
theorem acF {v:List Bool} (h:v.length=2):[v.getD 0 false,v.getD 1 false]=v:=by
 match v,h with
 | [a,b],_=>rfl
end
def Yc (vs:List Bool) (tw:Bool) (bs:List UInt8):List (Nat × LI):=[(14,{ σ:=ZLv,F:=fun q=>([(1,one (.bool (.atom tw))),(3,one (.ptr 0 0)),(5,one (.ptr 1 0)),(8,one (.ptr 2 0)),(11,one (.ptr 10 0)),(14,one (.int (callF (timeoutF (startF (newN 0 3) (bnF bs 0)).n).n rgC).e)),(15,one (.int q.m)),(16,one (.int q.l)),(17,one (.int q.i))],([.arr 22 .bool 2 ((vs)),.arr 23 .u8 3 ((bs))]++ndO 2 ((q.n))++[.box 35 (cellsOf (.nm .command) (rgC))])),J:=fun q=>q.i<=2/\q=nlS vs bs tw q.i,μ:=fun q=>2 - q.i })]
theorem Qm (vs:List Bool) (tw:Bool) (bs:List UInt8) (h0:vs.length=2) (h1:bs.length=3):Sat Tryz.prog (al tyT) 3 [.agg (sG .bool (vs) 0 2),.c (.bool (.atom (tw))),.agg (sG .u8 (bs) 0 3)] [] ⟨[vs.length=2,bs.length=3],[.c (.bool (.atom ((true))))],none,false⟩:=by
 refine av IF (Yc vs tw bs) Tryz.func3 (?_:(fun (q17:Nat)=>(fun (q16:Nat)=>(fun (q15:Prop)=>(fun (q14:Nat)=>(fun (q13:Int)=>(fun (q12:den Sh.u8)=>(fun (q11:Nat)=>(fun (q10:den Sh.bool)=>(fun (q9:Nat)=>(fun (q8:den (Sh.nm NT.entry))=>(fun (q7:Int)=>(fun (q6:Int)=>(fun (q5:Int)=>(fun (q4:Int)=>(fun (q18:Int)=>(fun (q3:Int)=>(fun (q19:Command)=>(fun (q2:NdR)=>(fun (q21:NdR)=>(fun (q20:NdC3)=>(fun (q1:Int)=>(fun (q0:Command)=>(q6<=q6/\q6<=5/\q3<=q3/\q3<q6)/\(I64 q3->((true=false\/false=true)\/¬q3=q3->false=true)/\((true=true/\false=false)/\q3=q3->q3<=q3/\q3<(↑q17:Int)/\q14<q17/\q3<=q7/\q3<q6/\I64 q18/\NdOK (newN q3 q6)/\(I64 q2.e->(¬q2.e=q3->false=true)/\(q2.e=q3->NdOK q2.n/\(q21.l.length*96<=q16->I64 q21.e->NdOK q21.n/\(I64 q20.a->I64 q20.b->I64 q20.e->∃ (s0:ZLv),(tw=tw/\q20.e=q1/\q4=s0.m/\q18=s0.l/\q3=(↑s0.i:Int)/\[vs.getD q14 q10,vs.getD q11 q10]=vs/\xr Sh.u8 bs q14 q17=bs/\tH q20.n s0.n (q4=rgC.kind/\q4=rgC.client/\q3=rgC.seq/\q3=rgC.set/\q3=rgC.id/\q3=rgC.n/\rgC.chunks=[]/\Str.mk []=rgC.text))/\(s0.i<=q9/\s0=nlS vs bs tw s0.i)/\∀ (s:ZLv),(fun (q32:Nat)=>(fun (q31:Int)=>(fun (q30:Bool)=>(fun (q29:den Sh.bool)=>(fun (q28:Int)=>(fun (q27:NdC3)=>(fun (q33:Bool)=>(fun (q26:Int)=>(fun (q34:Int)=>(fun (q25:Int)=>(fun (q35:Int)=>(fun (q24:Prop)=>(fun (q23:NdC3)=>(fun (q38:Prop)=>(fun (q37:Prop)=>(fun (q36:List Entry)=>(fun (q43:Prop)=>(fun (q42:Nat)=>(fun (q41:Prop)=>(fun (q40:Int)=>(fun (q39:Int)=>(fun (q45:Prop)=>(fun (q44:Prop)=>(fun (q22:Letter)=>(fun (q46:NdR)=>(fun (q47:NdR)=>s.i<=q9/\s=nlS vs bs tw s.i->(q28<q5->I64 q26/\q3<=q26/\q26<(↑q17:Int)/\q26.toNat<q17/\q3<=q34/\q3<q6/\I64 q25/\I64 q26/\q3<=q28/\q28<(↑q9:Int)/\s.i<q9/\NdOK s.n/\(q46.l.length*96<=q16->I64 q46.e->(tw=true->NdOK q46.n/\(q47.l.length*96<=q16->I64 q47.e->q3<=q28/\q28<(↑q9:Int)/\s.i<q9/\(q29=true->I64 q31/\I64 q26/\∃ (s':ZLv),(tw=tw/\q1=q1/\q31=s'.m/\q35=s'.l/\q26=(↑s'.i:Int)/\vs=vs/\bs=bs/\tH q47.n s'.n q15)/\(s'.i<=q9/\s' = nlS vs bs tw s'.i)/\q9 - s'.i<q32)/\(q29=false->I64 q26/\∃ (s':ZLv),(tw=tw/\q1=q1/\s.m=s'.m/\q35=s'.l/\q26=(↑s'.i:Int)/\vs=vs/\bs=bs/\tH q47.n s'.n q15)/\(s'.i<=q9/\s' = nlS vs bs tw s'.i)/\q9 - s'.i<q32)))/\(tw=false->q3<=q28/\q28<(↑q9:Int)/\s.i<q9/\(q29=true->I64 q31/\I64 q26/\∃ (s':ZLv),(tw=tw/\q1=q1/\q31=s'.m/\q35=s'.l/\q26=(↑s'.i:Int)/\vs=vs/\bs=bs/\tH q46.n s'.n q15)/\(s'.i<=q9/\s' = nlS vs bs tw s'.i)/\q9 - s'.i<q32)/\(q29=false->I64 q26/\∃ (s':ZLv),(tw=tw/\q1=q1/\s.m=s'.m/\q35=s'.l/\q26=(↑s'.i:Int)/\vs=vs/\bs=bs/\tH q46.n s'.n q15)/\(s'.i<=q9/\s' = nlS vs bs tw s'.i)/\q9 - s'.i<q32))))/\(q5<=q28->Of (siteF s.n) (NdOK s.n/\(I64 q27.a->I64 q27.b->I64 q27.e->NdOK q27.n/\(I64 q23.a->I64 q23.b->I64 q23.e->(¬(siteF s.n).role=q5->(decide (s.m<q5) && decide (q1=q13) && decide (q27.e=q13) && decide (q23.e=q13))=true)/\((siteF s.n).role=q5->Of (siteF q23.n) ((q5<=s.l->(q44->q3<=q4/\q4<q39)/\((q44->I64 q40/\q43)->(q44/\q40=q4->q3<=q3/\q3<q39)/\((q44/\q40=q4->q41)->(q33 && decide (q23.e=q3) && decide (q5<=q39) && decide (q40=q4) && decide ((↑q42:Int)=q3) && decide ((siteF q23.n).commit=q3))=true)))/\(s.l<q5->(q45->q3<=q4/\q4<q39)/\((q45->I64 q40/\q43)->(q45/\q40=q4->q3<=q3/\q3<q39)/\((q45/\q40=q4->q41)->(q33 && decide (q23.e=34) && decide (q5<=q39) && decide (q40=q4) && decide ((↑q42:Int)=q3) && decide ((siteF q23.n).commit=q3))=true)))))))))) (receiveF q46.n q22)) (receiveF s.n q22)) (Letter.mk q5 q26 q3 q4 q3 q3 q3 q25 q29 [])) (q38/\q5<=q39)) (q37/\q5<=q39)) (↑q36.length:Int)) (q36.getD q11 q8).term) (I64 (q36.getD q14 q8).term/\q42*q11<=q16)) (q36.getD q14 q8).b.length) ((q36.getD q11 q8).b.length*q11<=q16)) (siteF q23.n).log) (q24/\q23.e=34)) (q24/\q23.e=q3)) (callF q27.n q0)) ((((q5<=s.m/\q1=q13)/\q27.e=q3)/\q27.a=q5)/\q27.b=q4)) (min s.l q25)) (q4+q34.tmod q6)) (↑(UInt8.toNat (bs.getD q26.toNat q12)):Int)) (q28+q4)) (q30 && decide (q27.e=q3) && decide (q27.a=q5) && decide (q27.b=q4))) (callF s.n rgC)) (↑s.i:Int)) (vs.getD s.i q10)) (decide (q5<=s.m) && decide (q1=q13))) (s.m+q4)) (q9 - s.i)))))))) (Command.mk 8 q3 q3 q3 q3 q5 [] (Str.mk []))) (callF (timeoutF (startF (newN q3 q6) (bnF bs q14)).n).n rgC).e) (callF q21.n q19)) (timeoutF q2.n)) (startF (newN q3 q6) q18)) (Command.mk q4 q4 q3 q3 q3 q3 [] (Str.mk []))) 0) (q4+q7.tmod q6)) 1) 2) 3) (↑(UInt8.toNat ((xr Sh.u8 bs q14 q17).getD q14 q12)):Int)) (ao (Sh.nm NT.entry))) 2) (ao Sh.bool)) 1) (ao Sh.u8)) 33) 0) (aT rgC rgC)) 140737488355328) 3)
 have hF:=SD vs bs tw;iterate 3 ((all_goals (repeat' with_reducible first|apply bd|refine bf ?_|intro)); (all_goals try (first | exact bq | exact rfl | exact afv | exact hF.b | exact hF.c | exact (hF.f 0 (by decide)) | (rename_i q; exact absurd hF.a q) | exact (adQ _) | exact (acF h0) | exact (iI h1) | exact (afV 2) | exact (acA ab ab) | exact (agc ab aK) | exact (abM ab ab) | exact (ack ab ab) | exact (afx ab) | exact (aeB ab ab aK) | exact (afu ab ab aK ab) | (rw [ZW ab ab] <;> rfl) | (rw [aa5 ab ab] <;> rfl) | (have q:=aeO ab; exact bK aK aK) | exact (ads ab) | (dsimp only [nlS]; omega) | (obtain ⟨a1,a2,a3,a4,a5,a6,a7,a8,a9,a10,a11⟩:=abH ab ab aK ab; have a6:=a6 ab; simp only [Bool.and_eq_true,decide_eq_true_eq]; omega) | (obtain ⟨a1,a2,a3,a4,a5,a6,a7,a8,a9,a10,a11⟩:=abH ab ab aK ab; have a7:=a7 ab; simp only [Bool.and_eq_true,decide_eq_true_eq]; omega))); all_goals try first | refine ⟨nlS vs bs tw (‹ZLv›.i+1),?_⟩ | refine ⟨nlS vs bs tw 0,?_⟩)
end Go.Proofs.YticbaadnibdbkaaGreat
namespace Go.Proofs.YticbaadnibdbkaaGreat
open Go.RowKit Go.ChangeShapes Go.WideShapes
def Lr (shp:TypeId->Option Sh) (w:World):Cx:=cx ⟨shp,w.heap.size,fun _=>False⟩ [] w
def Tr (P:Program) (shp:TypeId->Option Sh) (t:TypeId) (s:Sh):Prop:=
 ∀ (H:Type) (enc:TypeId × Value->H) (w:World) (fuel:Nat) (cs:List Value) (x:DataW H × List MemPlace),
  DataW.trod enc P w 0 (fun _=>true) true fuel t cs=some x->(∀ n ∈ x.1.weights P t,n<=140737488351232)->(∀ q ∈ x.2,q.block<w.heap.size)->∃ y:den s,Pds (Lr shp w) (cellsOf s y) cs
section
variable {P:Program} {shp:TypeId->Option Sh} {t:TypeId}
theorem Tr.int (h:P.underlying t=some (.int .i64)):Tr P shp t .int:=fun _ enc w fuel cs x hx _ _=>by
 obtain ⟨n,rfl,_,hw⟩:=DataW.trod_int h hx;have h1:IntKind.i64.min = -9223372036854775808:=rfl;have h2:IntKind.i64.max=9223372036854775807:=rfl;simp only [Lit.wf,Bool.and_eq_true,decide_eq_true_eq] at hw;exact ⟨n,.cons (.int ⟨by omega,by omega⟩) .nil⟩
theorem Tr.bool (h:P.underlying t=some .bool):Tr P shp t .bool:=fun _ enc w fuel cs x hx _ _=>by
 obtain ⟨n,rfl,_⟩:=DataW.trod_bool h hx;exact ⟨n,.cons (Pd.bool (e:=.atom n)) .nil⟩
theorem Tr.u8 (h:P.underlying t=some (.int .u8)):Tr P shp t .u8:=fun _ enc w fuel cs x hx _ _=>by
 obtain ⟨n,rfl,_,hw⟩:=DataW.trod_int h hx;have h1:IntKind.u8.min=0:=rfl;have h2:IntKind.u8.max=255:=rfl;simp only [Lit.wf,Bool.and_eq_true,decide_eq_true_eq] at hw;refine ⟨UInt8.ofNat n.toNat,?_⟩;have:n=((UInt8.ofNat n.toNat).toNat:Int):=by
  rw [UInt8.toNat_ofNat']; omega
 generalize hg:UInt8.ofNat n.toNat=b at this;subst this;exact .cons .u8 .nil
theorem Tr.u64 (h:P.underlying t=some (.int .u64)):Tr P shp t .u64:=fun _ enc w fuel cs x hx _ _=>by
 obtain ⟨n,rfl,_,hw⟩:=DataW.trod_int h hx;have h1:IntKind.u64.min=0:=rfl;have h2:IntKind.u64.max=18446744073709551615:=rfl;simp only [Lit.wf,Bool.and_eq_true,decide_eq_true_eq] at hw;refine ⟨⟨n.toNat⟩,?_⟩;have:n=(n.toNat:Int):=by omega
 generalize hg:n.toNat=b at this;subst this;exact .cons (.u64 (by show b<_; omega)) .nil
theorem kK {H:Type} {e:TypeId}:∀ {ds:List (DataW H)} {d:DataW H},d ∈ ds->∀ n ∈ d.weights P e,n ∈ DataW.weightsAll P e ds
 | d0 :: ds,d,h,n,hn=>by
  rw [DataW.weightsAll,ac1];rcases ac4.1 h with rfl | h
  ·grind
  exact .inr (kK h n hn)
theorem Hv {s:Sh} {xs:List (den s)} {y:den s}:(xs++[y]).flatMap (cellsOf s)=xs.flatMap (cellsOf s)++cellsOf s y:=by simp
end
section
variable {H:Type} {enc:TypeId × Value->H} {P:Program} {shp:TypeId->Option Sh}
structure Ar (enc:TypeId × Value->H) (P:Program) (W:World) (t:TypeId) (v:Value):Prop where
 form:∃ base,Value.okWide P W .any base t v
 read:∃ d p fuel,DataW.trod enc P W 0 (fun _=>true) true fuel t v.cells.toList=some (d,p)/\(∀ n ∈ d.weights P t,n<=140737488351232)/\(∀ q ∈ p,q.block<W.heap.size)
variable {W:World} {t:TypeId} {v:Value}
theorem Ar.rp {s:Sh} (h:Ar enc P W t v) (ht:Tr P shp t s):∃ y:den s,Pds (Lr shp W) (cellsOf s y) v.cells.toList:=by
 obtain ⟨d,p,fuel,h1,h2,h3⟩:=h.read;exact ht H enc W fuel _ _ h1 h2 h3
theorem Jx {a:AV} {u:Value} (h:Pds (Lr shp W) [a] [u]):cO (Lr shp W) [] (.c a) u:=by cases h with | cons h1 _=>exact kN h1
theorem Ar.int (h:Ar enc P W t v) (ht:P.underlying t=some (.int .i64)):∃ y:Int,cO (Lr shp W) [] (.c (.int y)) v:=by
 obtain ⟨base,hf⟩:=h.form;obtain ⟨n,rfl⟩:=okWide_int ht hf;obtain ⟨y,h1⟩:=h.rp (shp:=shp) (Tr.int ht);exact ⟨y,Jx (by simpa [Value.cells,cellsOf] using h1)⟩
theorem Ar.u8 (h:Ar enc P W t v) (ht:P.underlying t=some (.int .u8)):∃ y:UInt8,cO (Lr shp W) [] (.c (.u8 y)) v:=by
 obtain ⟨base,hf⟩:=h.form;obtain ⟨n,rfl⟩:=okWide_int ht hf;obtain ⟨y,h1⟩:=h.rp (shp:=shp) (Tr.u8 ht);exact ⟨y,Jx (by simpa [Value.cells,cellsOf] using h1)⟩
theorem Ar.bool (h:Ar enc P W t v) (ht:P.underlying t=some .bool):∃ y:Bool,cO (Lr shp W) [] (.c (.bool (.atom y))) v:=by
 obtain ⟨base,hf⟩:=h.form;obtain ⟨b,rfl⟩:=okWide_bool ht hf;exact ⟨b,Pd.bool (e:=.atom b)⟩
theorem Te {f:Nat} {args:List TV1} {pre:List Prop} {e:BE} {vs:List Value} (h:Sat P shp f args [] ⟨pre,[.c (.bool e)],none,false⟩) (he:e.val=true) (hv:All2 (cO (Lr shp W) []) args vs) (htb:TabsOK (Lr shp W):=by refine ⟨?_,?_⟩ <;> intro e he <;> first | simp [Qt] at he | simp [aaR] at he):jI P f vs.toArray W fun r W'=>r = .bool true/\Kp [] W W':=by
 refine (h.2 ⟨shp,W.heap.size,fun _=>False⟩ [] W vs rfl ⟨.nil,fun _ _ _ _ _ h=>by simp at h,fun _ _ _ h=>by simp at h,fun _ h=>h.elim,ac5 _,htb⟩ hv).mono fun v w' ⟨us,h1,h2,h3⟩=>⟨?_,h2⟩;cases h3 with | cons h4 h5=>
 cases h5;cases h4;rw [h1,he]; rfl
variable {args:Array Value} {ds:List (DataW H)}
theorem PW {base:Nat} {ts:List TypeId} {p:List MemPlace} (hf:∀ (j:Nat) t v,ts[j]? = some t->args[j]? = some v->Value.okWide P W .any base t v)
  (h:DataW.TrodAll enc P W 0 (fun _=>true) true ts args.toList ds p) (hw:∀ n ∈ DataW.weightsEach P ts ds,n<=140737488351232) (hlt:∀ q ∈ p,q.block<W.heap.size) :
  args.size=ts.length/\∀ (j:Nat) t v,ts[j]? = some t->args[j]? = some v->Ar enc P W t v:=by
 have key:∀ (ts:List TypeId) (vs:List Value) (ds:List (DataW H)) (p:List MemPlace),DataW.TrodAll enc P W 0 (fun _=>true) true ts vs ds p->(∀ n ∈ DataW.weightsEach P ts ds,n<=140737488351232)->(∀ q ∈ p,q.block<W.heap.size) ->
   vs.length=ts.length/\∀ (j:Nat) t v,ts[j]? = some t->vs[j]? = some v->∃ d p fuel,DataW.trod enc P W 0 (fun _=>true) true fuel t v.cells.toList=some (d,p)/\(∀ n ∈ d.weights P t,n<=140737488351232)/\(∀ q ∈ p,q.block<W.heap.size):=by
  intro ts;induction ts with
  | nil=>intro vs ds p h _ _; obtain ⟨rfl,_,_⟩:=trodAll_nil h; exact ⟨rfl,fun j t v h=>by simp at h⟩
  | cons t ts ih=>
   intro vs ds p h hw hlt;obtain ⟨v,vs,d,ds,p1,p2,rfl,rfl,rfl,h1,h2⟩:=trodAll_cons h;obtain ⟨k1,k2⟩:=ih vs ds p2 h2 (fun n hn=>hw n (by rw [DataW.weightsEach,ac1]; exact .inr hn)) (fun q hq=>hlt q (ac9 _ hq));refine ⟨by simp [k1],fun j t' v' ht hv=>?_⟩;cases j with
   | zero=>
    simp at ht hv;subst ht; subst hv;obtain ⟨fuel,hf⟩:=h1;exact ⟨d,p1,fuel,hf,fun n hn=>hw n (by rw [DataW.weightsEach,ac1]; exact .inl hn),fun q hq=>hlt q (ac8 _ hq)⟩
   | succ j=>exact k2 j t' v' (by simpa using ht) (by simpa using hv)
 obtain ⟨k1,k2⟩:=key ts args.toList ds p h hw hlt;exact ⟨by simpa using k1,fun j t v ht hv=>⟨⟨base,hf j t v ht hv⟩,k2 j t v ht (by simpa using hv)⟩⟩
variable {W':World}
theorem Hx (hl:laidOutB P=true) (hb:Below W.heap.size W W'):∀ (ts:List TypeId) (vs:List Value) (ds:List (DataW H)) (p:List MemPlace),ts.all (fun t=>P.readableRec t && decide (t<P.types.size))=true->DataW.TrodAll enc P W 0 (fun _=>true) true ts vs ds p->(∀ q ∈ p,q.block<W.heap.size) ->
  DataW.TrodAll enc P W' 0 (fun b=>decide (b<W.heap.size)) true ts vs ds p:=by
 intro ts;induction ts with
 | nil=>intro vs ds p _ h _; obtain ⟨rfl,rfl,rfl⟩:=trodAll_nil h; rfl
 | cons t ts ih=>
  intro vs ds p hr h hlt;obtain ⟨v,vs,d,ds,p1,p2,rfl,rfl,rfl,h1,h2⟩:=trodAll_cons h;rw [agy,Bool.and_eq_true,Bool.and_eq_true,decide_eq_true_eq] at hr;exact ⟨p1,p2,Below.trod hl hr.1.1 hr.1.2 h1 hb fun q hq=>hlt q (ac8 _ hq),ih vs ds p2 hr.2 h2 fun q hq=>hlt q (ac9 _ hq),rfl⟩
variable {tb:TypeId} {fn:Func}
theorem Kb {s:ChangeSpec} {p:List MemPlace} (hl:laidOutB P=true)
  (hrow:fn.params.toList.all (fun t=>P.readableRec t && decide (t<P.types.size))=true) (hr:fn.resultTypes = #[tb]) (hb:P.underlying tb=some .bool) (hv:s.vars=[])
  (hs:s.fn H (ds++[])={ results:=[.lit (.bool true)],args:=ds }) (hW:DataW.Whole enc P fn.params.toList s.vars false W args.toList ds [] p) (hA:DataW.TrodAll enc P W 0 (fun _=>true) true fn.params.toList args.toList ds p) (hlt:∀ q ∈ p,q.block<W.heap.size) (hk:Kp [] W W') :
  s.post enc P fn false true false false W args (.bool true) W':=by
 refine ⟨ds,[],p,[],p,[],hW,?_,?_,?_,hk.below.frame _,fun h=>by cases h⟩
 ·rw [hs,hr];exact trodAll_mk1 ⟨1,by simp [DataW.trod,Value.cells,hb]⟩
 ·rw [hs];exact Hx hl hk.below _ _ _ _ hrow hA hlt
 rw [hs,hv]; rfl
theorem KT {C:Checked} {os:Os} {f:FuncId} {s:ChangeSpec} {conds:List PathCond} (own:ownKnob C.prog.godebug=none) (started:os.Started) (noInit:C.prog.inits.idxOf? f=none) (hfn:C.prog.funcs[f]? = some fn)
  (witness:∃ (w:World) (tape:Tape) (i:Input),w.os=os/\(w.forCall tape i).Shaped C.prog/\i.vars=[]/\Input.okWide C.prog (w.forCall tape i) .any w.heap.size f i /\
   s.pre6 enc C.prog fn conds false (w.forCall tape i).memory i.args/\({}:Assume).holds C.prog (lone (Frame.enter C.prog f i.args .normal) [] (w.forCall tape i)))
  (hl:laidOutB C.prog=true) (hrow:fn.params.toList.all (fun t=>C.prog.readableRec t && decide (t<C.prog.types.size))=true) (hr:fn.resultTypes = #[tb]) (hb:C.prog.underlying tb=some .bool) (hv:s.vars=[])
  (hs:∀ ds:List (DataW H),ds.length=fn.params.size->s.fn H ds={ results:=[.lit (.bool true)],args:=ds })
  (law:∀ (W:World) (args:Array Value),args.size=fn.params.toList.length->(∀ (j:Nat) t v,fn.params.toList[j]? = some t->args[j]? = some v->Ar enc C.prog W t v)->jI C.prog f args W fun r W'=>r = .bool true/\Kp [] W W') :
  ReturnsInHanded {} C os f .any (s.pre6 enc C.prog fn conds false) (s.post enc C.prog fn false true false false):=by
 refine returnsInHanded_of_change_sized own started noInit hfn witness ?_;intro W base args ds gs before hval hW _ hsz _;have hW0:=hW;obtain ⟨p,q,hA,hV,rfl,_,_⟩:=hW;rw [hv] at hV;obtain ⟨rfl,rfl⟩:=trodVars_none hV;simp only [ade] at hW0 hsz;have hlt:∀ x ∈ p,x.block<W.heap.size:=fun x hx=>by simpa using hW0.lt x hx
 have hwt:∀ n ∈ DataW.weightsEach C.prog fn.params.toList ds,n<=140737488351232:=fun n hn=>by
  have hmem:n ∈ DataW.weightsEach C.prog (fn.params.toList++s.plain.varTypes C.prog) ds:=by
   have:∀ (ts us:List TypeId) (ds:List (DataW H)),n ∈ DataW.weightsEach C.prog ts ds->n ∈ DataW.weightsEach C.prog (ts++us) ds:=by
    intro ts;induction ts with
    | nil=>intro us ds h; simp [DataW.weightsEach] at h
    | cons t ts ih=>
     intro us ds h;cases ds with
     | nil=>simp [DataW.weightsEach] at h
     | cons d ds=>
      rw [DataW.weightsEach,ac1] at h;rw [List.cons_append,DataW.weightsEach,ac1];grind
   grind
  exact ac6 (afi.1 hsz n hmem)
 obtain ⟨hsize,har⟩:=PW (fun j t v ht hv=>hval j t v (by simpa using ht) hv) hA hwt hlt;have hdl:ds.length=fn.params.size:=by
  have:∀ (ts:List TypeId) (vs:List Value) (ds:List (DataW H)) (p:List MemPlace),DataW.TrodAll enc C.prog W 0 (fun _=>true) true ts vs ds p->ds.length=ts.length:=by
   intro ts;induction ts with
   | nil=>intro vs ds p h; obtain ⟨_,rfl,_⟩:=trodAll_nil h; rfl
   | cons t ts ih=>intro vs ds p h; obtain ⟨v,vs,d,ds,p1,p2,rfl,rfl,rfl,_,h2⟩:=trodAll_cons h; simp [ih vs ds p2 h2]
  simpa using this _ _ _ _ hA
 refine ahB (law W args hsize har) fun e W' ⟨v,he,hv',hk⟩=>⟨v,he,?_⟩;subst hv';exact Kb hl hrow hr hb hv (by rw [ade]; exact hs ds hdl) hW0 hA hlt hk
end
end Go.Proofs.YticbaadnibdbkaaGreat
namespace Go.Proofs.YticbaadnibdbkaaGreat
open Go.RowKit Go.ChangeShapes Go.WideShapes
theorem Ih:ownKnob Tryz.prog.godebug=none:=cd
theorem LJ:laidOutB Tryz.prog=true:=cd
theorem NX {H:Type} {enc:TypeId × Value->H} {P:Program} {shp:TypeId->Option Sh} {W:World} {t:TypeId} {v:Value} {n:Nat} {e:TypeId} {s:Sh} (h:Ar enc P W t v) (hu:P.underlying t=some (.array n e)) (hC:P.cellsOf e=s.size) (hz:P.cellsOf t=n*s.size) (he:Tr P shp e s):∃ xs:List (den s),xs.length=n/\cO (Lr shp W) [] (.agg (xs.flatMap (cellsOf s))) v:=by
 obtain ⟨base,hf⟩:=h.form;obtain ⟨cs,rfl⟩:∃ cs,v = .agg cs:=by
  simp only [Value.okWide,hu] at hf;obtain ⟨cs,h1,_⟩:=hf;exact ⟨cs,h1⟩
 obtain ⟨d,p,fuel,h1,h2,h3⟩:=h.read;obtain ⟨ys,m,_,hdp,hl,hyl,hg⟩:=DataW.trod_array hu h1;obtain ⟨rfl,rfl⟩:=Prod.mk.inj hdp;have step:∀ k,k<=n->∃ xs:List (den s),xs.length=k/\Pds (Lr shp W) (xs.flatMap (cellsOf s)) ((Value.cells (.agg cs)).toList.take (k*s.size)):=by
  intro k;induction k with
  | zero=>intro _; exact ⟨[],rfl,by simp; exact .nil⟩
  | succ k ih=>
   intro hk;obtain ⟨xs,hx,hp⟩:=ih (by omega);have hgk:=hg k (by omega);rw [hC,List.getElem?_eq_getElem (show k<ys.length by omega)] at hgk;obtain ⟨y,hy⟩:=he H enc W m _ _ hgk (fun q hq=>h2 q (by simp only [DataW.weights,hu]; exact kK (ahl (adV (show k<ys.length by omega))) q hq)) (fun q hq=>h3 q (List.mem_flatMap.2 ⟨_,adV (show k<ys.length by omega),hq⟩));refine ⟨xs++[y],by simp [hx],?_⟩;rw [Hv,Nat.succ_mul,List.take_add];exact hp.append hy
 obtain ⟨xs,hx,hp⟩:=step n (ac5 _);refine ⟨xs,hx,cs.toList,by simp,fU ?_⟩;rw [List.take_of_length_le (by rw [hl,hz]; exact ac5 _)] at hp;simpa [Value.cells] using hp
set_option maxRecDepth 100000 in
theorem sW (os:Os) (started:os.Started) (H:Type) (enc:TypeId × Value->H) :
  ReturnsInHanded {} Tryz.checked os 3 .any (Rows.nodeLeadsSpec.pre6 enc Tryz.prog Tryz.f3 Rows.nodeLeadsRow.domain false) (Rows.nodeLeadsSpec.post enc Tryz.prog Tryz.f3 false true false false):=by
 refine KT (C:=Tryz.checked) Ih started cd Tryz.func3 (ChangeSpec.witness6 (enc:=enc) (C:=Tryz.checked) false ⟨#[],#[.agg #[.bool false,.bool false],.bool false,.agg #[.int .u8 0,.int .u8 0,.int .u8 0]],[]⟩ 8 cd cd cd cd) LJ cd cd Tryz.underlying4 rfl (fun ds h=>?_) ?_
 ·match ds,h with
  | [d0,d1,d2],_=>rfl
 intro W args hs ha;obtain ⟨l⟩:=args;match l,hs with
 | [v0,v1,v2],_=>
  obtain ⟨xs0,hl0,h0⟩:=NX (shp:=al tyT) (s:=.bool) (ha 0 22 _ rfl rfl) Tryz.underlying22 cd cd (Tr.bool Tryz.underlying4);obtain ⟨y0_0,y0_1,rfl⟩:∃ y0_0 y0_1,xs0=[y0_0,y0_1]:=by match xs0,hl0 with | [y0_0,y0_1],_=>exact ⟨y0_0,y0_1,rfl⟩
  obtain ⟨x1,h1⟩:=Ar.bool (shp:=al tyT) (ha 1 4 _ rfl rfl) Tryz.underlying4;obtain ⟨xs2,hl2,h2⟩:=NX (shp:=al tyT) (s:=.u8) (ha 2 23 _ rfl rfl) Tryz.underlying23 cd cd (Tr.u8 Tryz.underlying5);obtain ⟨y2_0,y2_1,y2_2,rfl⟩:∃ y2_0 y2_1 y2_2,xs2=[y2_0,y2_1,y2_2]:=by match xs2,hl2 with | [y2_0,y2_1,y2_2],_=>exact ⟨y2_0,y2_1,y2_2,rfl⟩
  exact Te (Qm [y0_0,y0_1] x1 [y2_0,y2_1,y2_2] rfl rfl) rfl (.cons h0 (.cons h1 (.cons h2 .nil)))
set_option maxHeartbeats 40000000 in
theorem pL:joinedFacts Tryz.checked.prog 3 Tryz.f3 Rows.nodeLeadsSpec Rows.nodeLeadsRow=true:=by
 unfold joinedFacts;repeat' with_reducible refine Bool.and_eq_true_iff.2 ⟨?_,?_⟩
 all_goals as_aux_lemma=>kernel_rfl
theorem nodeLeads_holds:Rows.NodeLeadsSaid:=
 OpenClaim.holds_of_wide 3 Tryz.f3 rfl rfl rfl rfl rfl rfl rfl ⟨rfl,rfl,rfl,rfl,rfl⟩ rfl rfl rfl rfl rfl cd Tryz.func3 pL
  (ac6 cd) (by unfold Func.isWrapper; first | (rw [if_pos (by decide +kernel)]; kernel_rfl) | (rw [if_neg (by decide +kernel)]; exact ⟨rfl,rfl⟩))
  (fun os started H enc _=>sW os started H enc)
end Go.Proofs.YticbaadnibdbkaaGreat
