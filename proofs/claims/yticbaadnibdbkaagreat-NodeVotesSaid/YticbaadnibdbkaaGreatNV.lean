/- The law: for every input it returns true, and each argument reads behind the call as it read before; and what leads there. Conditions: each lemma's own. -/
import Derived.ProofKit
import Derived.SizedLaws
import Derived.Test.YticbaadnibdbkaaGreatChecked
import Derived.Test.YticbaadnibdbkaaGreatRows
import Derived.Test.YticbaadnibdbkaaGreatNVM7
set_option linter.unusedVariables false
set_option linter.unusedSimpArgs false
set_option maxHeartbeats 2000000
namespace Go.Proofs.YticbaadnibdbkaaGreat
open Go.RowKit
variable {m:Nd}
theorem afk (e1:m.rp=[]) (e2:m.vs=[]) (e3:m.bn=[]) (e4:m.nx=[]) (e5:m.mt=[]):kU m=kU ⟨m.c,m.d,[],[],[],[],[]⟩:=by
 cases m;dsimp only at e1 e2 e3 e4 e5;subst e1; subst e2; subst e3; subst e4; subst e5; rfl
theorem acN {p:Prop} {x:Bool} (h:x=true) (h2:x=false):p:=by rw [h] at h2; cases h2
variable {b:List UInt8}
theorem aep:(replayF b).1.log.length<=10000:=by have:=mR b; omega
variable {r:Record}
theorem abo:[r].length<=1000:=by simp
section
variable {n:Nd} {b:Int}
theorem YH (h0:NdOK n) (h:n.d.down=true):((if n.d.down=true then n.d.up else n.d).cut (replayF n.d.b).2).OK:=(xr h h0.d).1
theorem aaL (h0:NdOK n):(if n.d.down=true then n.d.up else n.d).OK:=by
 split
 ·exact Wf h0.d
 exact h0.d
theorem adb {p:Prop} (h0:NdOK n) (h:n.d.down=true) (he:¬ (if n.d.down=true then n.d.up else n.d).kv (replayF n.d.b).2=0):p:=absurd (xr h h0.d).2.1 he
theorem ab7 {p:Prop} (h:n.d.down=true) (he:¬ (if n.d.down=true then (0:Int) else 31)=0):p:=absurd (if_pos h) he
theorem aal (h0:NdOK n) (h:n.d.down=true):((n.fr b).save [⟨1,b,0,[]⟩]).d.OK:=qA (xr h h0.d).1
theorem acp {p:Prop} (h:n.d.down=false\/¬ bZ b (max (replayF n.d.b).1.floor 1)=0) (h1:n.d.down=true) (h2:bZ b (max (replayF n.d.b).1.floor 1)=0):p:=by
 rcases h with h | h
 ·exact acN h1 h
 exact absurd h2 h
end
noncomputable def uU:Kn:=aK (ae (kC (aX 0 0)) (ae (kC cI) ao)) tY fun (_,b,_) n=>⟨[NdOK n,n.d.down=true,bZ b (max (replayF n.d.b).1.floor 1)=0],[.c (.int (((aV n b).e)))],some ([.box 103 (noF 0 (((aV n b).n.c))++[.em true,.em true,.em true,.em true,.em true]),.box 147 ([.own 2,.int (((aV n b).n.d.synced)),.bool (.atom (((aV n b).n.d.down))),.bool (.atom (((aV n b).n.d.doomed))),.int (((aV n b).n.d.keep))]),.row 5 .u8 (((aV n b).n.d.b)),.row 78 (.nm .reply) ((n.rp)),.row 4 .bool ((n.vs)),.row 3 .int ((n.bn)),.row 3 .int ((n.nx)),.row 3 .int ((n.mt))]),false⟩
theorem uP:CK 13 uU:=ag fun (_,b,_) n hp=>by
 have h0:=cc hp;have h1:=cc (eQ hp);have h2:=cc (eQ (eQ hp));refine br tu [] Tryz.func13 (?_:(fun (q10:Bool)=>(fun (q9:NdC)=>(fun (q8:Int)=>(fun (q7:Int)=>(fun (q6:Int)=>(fun (q12:Int)=>(fun (q11:List (den (Sh.nm NT.record)))=>(fun (q5:Stable × Int)=>(fun (q14:Int)=>(fun (q13:Int)=>(fun (q4:NdC)=>(fun (q3:Prop)=>(fun (q2:Nd)=>(fun (q17:Dsk)=>(fun (q19:Bool)=>(fun (q18:Int)=>(fun (q16:NdC)=>(fun (q25:Prop)=>(fun (q24:Prop)=>(fun (q23:Prop)=>(fun (q22:Prop)=>(fun (q21:Prop)=>(fun (q20:Prop)=>(fun (q15:Prop)=>(fun (q1:Dsk)=>(fun (q28:Dsk)=>(fun (q27:Nd)=>(fun (q29:Int)=>(fun (q26:Prop)=>(fun (q0:Nd)=>(fun (q31:NdC)=>(fun (q30:Dsk)=>I64 b->(q10=false->(31:Int)=q8/\q15)/\(q10=true->(q6<=n.d.synced/\n.d.synced<=(↑n.d.b.length:Int)/\n.d.b.length<=(65536:Nat))/\n.d.b.length<=(1000000:Nat)/\cf q5.fst (I64 q13->I64 q14->(¬q14=q6->q14=q8/\q15)/\(q14=q6->I64 q12->(¬q12=q6->q12=q8/\q22/\q20/\q25/\aE q9.st q16.st (q24/\q23/\q21/\bD q9.s q16.s (False/\False/\False/\False/\False/\q1.synced=q18/\q1.down=q17.down/\q1.doomed=q19/\q1.keep=q17.keep/\q1.b=q17.b/\q3)))/\(q12=q6->(q6<=q1.synced/\q1.synced<=(↑q1.b.length:Int)/\q1.b.length<=(65536:Nat))/\(I64 (q1.kv q13)->(¬q1.kv q13=q6->q1.kv q13=q8/\q22/\q20/\q25/\aE q9.st q16.st (q24/\q23/\q21/\bD q9.s q16.s (False/\False/\False/\False/\False/\q26)))/\(q1.kv q13=q6->I64 q7->I64 q7->I64 q6->I64 q6->(0:Nat)*(32:Nat)<=(140737488355328:Nat)->(0:Nat)*(16:Nat)<=(140737488355328:Nat)->(0:Nat)*(64:Nat)<=(140737488355328:Nat)->(q5.fst.floor<b->(q6<=q28.synced/\q28.synced<=(↑q28.b.length:Int)/\q28.b.length<=(65536:Nat))/\q5.fst.log.length<=(10000:Nat)/\q11.length<=(1000:Nat)/\(I64 q29->(¬q29=q6->(q6<=q0.d.synced/\q0.d.synced<=(↑q0.d.b.length:Int)/\q0.d.b.length<=(65536:Nat))/\q29=q8/\q31.me=q16.me/\q31.many=q16.many/\q31.bin=q16.bin/\aE q31.st q16.st (q31.role=q16.role/\q31.commit=q16.commit/\q31.applied=q16.applied/\bD q31.s q16.s (q30.synced=q18/\q30.down=q17.down/\q30.doomed=q19/\q30.keep=q17.keep/\q30.b=q17.b/\q3)))/\(q29=q6->q6=q8/\q31.me=q16.me/\q31.many=q16.many/\q31.bin=q16.bin/\aE q31.st q16.st (q31.role=q16.role/\q31.commit=q16.commit/\q31.applied=q16.applied/\bD q31.s q16.s (q0.d.synced=q18/\q0.d.down=q17.down/\q0.d.doomed=q19/\q0.d.keep=q17.keep/\q0.d.b=q17.b/\q3)))))/\(b<=q5.fst.floor->q6=q8/\q22/\q20/\b=q16.bin/\aE q5.fst q16.st (q6=q16.role/\q6=q16.commit/\q6=q16.applied/\bD (State.mk q7 q7 q6 q6 [] [] []) q16.s q26))))))))) (q0.d.cD q6)) q0.c) (q27.save q11)) (q28.synced=q18/\q28.down=q17.down/\q28.doomed=q19/\q28.keep=q17.keep/\q28.b=q17.b/\q3)) (q27.aN q11)) (Nd.mk q4 q28 [] [] [] [] [])) (q1.cut q13)) (if q10=true then n.d.up else n.d)) (q22/\q20/\q25/\aE q9.st q16.st (q24/\q23/\q21/\bD q9.s q16.s (False/\False/\False/\False/\False/\n.d.synced=q18/\q10=q17.down/\n.d.doomed=q19/\n.d.keep=q17.keep/\n.d.b=q17.b/\q3)))) (q9.many=q16.many)) (q9.applied=q16.applied)) (q9.me=q16.me)) (q9.commit=q16.commit)) (q9.role=q16.role)) (q9.bin=q16.bin)) q2.c) q17.synced) q17.doomed) q2.d) (aV n b).n) (n.rp=n.rp/\n.vs=n.vs/\n.bn=n.bn/\n.nx=n.nx/\n.mt=n.mt)) (NdC.mk q9.me q9.many b q5.fst q6 q6 q6 (State.mk q7 q7 q6 q6 [] [] []))) q5.snd) (bZ b (max q5.fst.floor q7))) (replayF n.d.b)) [Record.mk q7 b q6 []]) (if q10=true then q6 else (31:Int))) (0:Int)) (1:Int)) (aV n b).e) n.c) n.d.down)
 obtain ⟨o1,o2,o3⟩:=id h0.d;have o4:=h0.log;(repeat' with_reducible first|apply aZ|refine aY ?_|intro)
 all_goals (first | exact bt | exact (acN h1 ab) | exact (absurd h2 ab) | exact (adb h0 h1 ab) | exact (ab7 h1 ab) | exact aep | exact abo | exact (YH h0 h1).1 | exact (YH h0 h1).2.1 | exact (YH h0 h1).2.2 | exact (aaL h0).1 | exact (aaL h0).2.1 | exact (aaL h0).2.2 | exact (aal h0 h1).1 | exact (aal h0 h1).2.1 | exact (aal h0 h1).2.2 | (rw [WT (n:=n) (b:=b) h1 h2 ab ab] <;> rfl) | (rw [aaD (n:=n) (b:=b) h1 h2 ab ab] <;> rfl) | (rw [aat (n:=n) (b:=b) h1 h2 ab] <;> rfl))
theorem IZ (b:Int) (n:Nd) (h0:NdOK n) (h1:n.d.down=true) (h2:bZ b (max (replayF n.d.b).1.floor 1)=0):Sat Tryz.prog (al tyT) 13 [.c (.ptr 0 0),.c (.int (b))] (kU n) ⟨[NdOK n,n.d.down=true,bZ b (max (replayF n.d.b).1.floor 1)=0],[.c (.int (((aV n b).e)))],some ([.box 103 (noF 0 (((aV n b).n.c))++[.em true,.em true,.em true,.em true,.em true]),.box 147 ([.own 2,.int (((aV n b).n.d.synced)),.bool (.atom (((aV n b).n.d.down))),.bool (.atom (((aV n b).n.d.doomed))),.int (((aV n b).n.d.keep))]),.row 5 .u8 (((aV n b).n.d.b)),.row 78 (.nm .reply) ((n.rp)),.row 4 .bool ((n.vs)),.row 3 .int ((n.bn)),.row 3 .int ((n.nx)),.row 3 .int ((n.mt))]),false⟩:=uP _ _ _ rfl (by intro p hp; simp only [aa_,ah1,or_false] at hp; rcases hp with rfl | rfl | rfl <;> assumption)
noncomputable def vj:Kn:=aK (ae (kC (aX 0 0)) (ae (kC cI) ao)) tY fun (_,b,_) n=>⟨[NdOK n,n.d.down=false\/¬ bZ b (max (replayF n.d.b).1.floor 1)=0],[.c (.int (((aV n b).e)))],some ((kU ((aV n b).n))),false⟩
theorem wq:CK 13 vj:=ag fun (_,b,_) n hp=>by
 have h0:=cc hp;have h1:=cc (eQ hp);refine br tu [] Tryz.func13 (?_:(fun (q8:Bool)=>(fun (q7:Int)=>(fun (q6:Int)=>(fun (q5:Int)=>(fun (q10:Int)=>(fun (q9:List (den (Sh.nm NT.record)))=>(fun (q4:Stable × Int)=>(fun (q12:Int)=>(fun (q11:Int)=>(fun (q3:Dsk)=>(fun (q13:Dsk)=>(fun (q2:Nd)=>(fun (q16:Dsk)=>(fun (q15:NdC)=>(fun (q14:Prop)=>(fun (q1:Nd)=>(fun (q0:Nd)=>(fun (q18:NdC)=>(fun (q17:Dsk)=>I64 b->(q8=false->(31:Int)=q7/\bY n q2)/\(q8=true->(q5<=n.d.synced/\n.d.synced<=(↑n.d.b.length:Int)/\n.d.b.length<=(65536:Nat))/\n.d.b.length<=(1000000:Nat)/\cf q4.fst (I64 q12->I64 q11->(¬q11=q5->q11=q7/\bY n q2)/\(q11=q5->I64 q10->(¬q10=q5->q10=q7/\bY (Nd.mk n.c q3 n.rp n.vs n.bn n.nx n.mt) q2)/\(q10=q5->(q5<=q3.synced/\q3.synced<=(↑q3.b.length:Int)/\q3.b.length<=(65536:Nat))/\(I64 (q3.kv q12)->(¬q3.kv q12=q5->q3.kv q12=q7/\bY (Nd.mk n.c q13 n.rp n.vs n.bn n.nx n.mt) q2)/\(q3.kv q12=q5->I64 q6->I64 q6->I64 q5->I64 q5->(0:Nat)*(32:Nat)<=(140737488355328:Nat)->(0:Nat)*(16:Nat)<=(140737488355328:Nat)->(0:Nat)*(64:Nat)<=(140737488355328:Nat)->(q4.fst.floor<b->(q5<=q13.synced/\q13.synced<=(↑q13.b.length:Int)/\q13.b.length<=(65536:Nat))/\q4.fst.log.length<=(10000:Nat)/\q9.length<=(1000:Nat)/\(I64 (q1.aN q9)->(¬q1.aN q9=q5->(q5<=q0.d.synced/\q0.d.synced<=(↑q0.d.b.length:Int)/\q0.d.b.length<=(65536:Nat))/\q1.aN q9=q7/\q18.me=q15.me/\q18.many=q15.many/\q18.bin=q15.bin/\aE q18.st q15.st (q18.role=q15.role/\q18.commit=q15.commit/\q18.applied=q15.applied/\bD q18.s q15.s (False/\False/\False/\False/\False/\q17.synced=q16.synced/\q17.down=q16.down/\q17.doomed=q16.doomed/\q17.keep=q16.keep/\q17.b=q16.b/\q14)))/\(q1.aN q9=q5->q5=q7/\q18.me=q15.me/\q18.many=q15.many/\q18.bin=q15.bin/\aE q18.st q15.st (q18.role=q15.role/\q18.commit=q15.commit/\q18.applied=q15.applied/\bD q18.s q15.s (False/\False/\False/\False/\False/\q0.d.synced=q16.synced/\q0.d.down=q16.down/\q0.d.doomed=q16.doomed/\q0.d.keep=q16.keep/\q0.d.b=q16.b/\q14)))))/\(b<=q4.fst.floor->q5=q7/\n.c.me=q15.me/\n.c.many=q15.many/\b=q15.bin/\aE q4.fst q15.st (q5=q15.role/\q5=q15.commit/\q5=q15.applied/\bD (State.mk q6 q6 q5 q5 [] [] []) q15.s (False/\False/\False/\False/\False/\q13.synced=q16.synced/\q13.down=q16.down/\q13.doomed=q16.doomed/\q13.keep=q16.keep/\q13.b=q16.b/\q14)))))))))) (q0.d.cD q5)) q0.c) (q1.save q9)) (Nd.mk (NdC.mk n.c.me n.c.many b q4.fst q5 q5 q5 (State.mk q6 q6 q5 q5 [] [] [])) q13 [] [] [] [] [])) (n.rp=q2.rp/\n.vs=q2.vs/\n.bn=q2.bn/\n.nx=q2.nx/\n.mt=q2.mt)) q2.c) q2.d) (aV n b).n) (q3.cut q12)) (if q8=true then n.d.up else n.d)) (bZ b (max q4.fst.floor q6))) q4.snd) (replayF n.d.b)) [Record.mk q6 b q5 []]) (if q8=true then q5 else (31:Int))) (0:Int)) (1:Int)) (aV n b).e) n.d.down);obtain ⟨o1,o2,o3⟩:=id h0.d;have o4:=h0.log;(repeat' with_reducible first|apply aZ|refine aY ?_|intro)
 all_goals (first | exact bt | exact (acp h1 ab ab) | (rw [ad8 (n:=n) (b:=b) ab] <;> rfl) | (rw [abk (n:=n) (b:=b) ab ab] <;> rfl))
theorem vS (b:Int) (n:Nd) (h0:NdOK n) (h1:n.d.down=false\/¬ bZ b (max (replayF n.d.b).1.floor 1)=0):Sat Tryz.prog (al tyT) 13 [.c (.ptr 0 0),.c (.int (b))] (kU n) ⟨[NdOK n,n.d.down=false\/¬ bZ b (max (replayF n.d.b).1.floor 1)=0],[.c (.int (((aV n b).e)))],some ((kU ((aV n b).n))),false⟩:=wq _ _ _ rfl (by intro p hp; simp only [aa_,ah1,or_false] at hp; rcases hp with rfl | rfl <;> assumption)
theorem Pq (b:Int) (n:Nd) (h0:NdOK n):Sat Tryz.prog (al tyT) 13 [.c (.ptr 0 0),.c (.int (b))] (kU n) ⟨[NdOK n],[.c (.int (((aV n b).e)))],some ((kU ((aV n b).n))),false⟩:=by
 by_cases hd:n.d.down=true
 ·by_cases hs:bZ b (max (replayF n.d.b).1.floor 1)=0
  ·have h:=Sat.LJ 0 22 3 .int bE rfl rfl (Sat.LJ 0 21 3 .int bE rfl rfl (Sat.LJ 0 20 3 .int bE rfl rfl (Sat.LJ 0 19 4 .bool bE rfl rfl (Sat.LJ 0 18 78 (.nm .reply) bE rfl rfl (Sat.ahK bE rfl WV (IZ b n h0 hd hs)) rfl) rfl) rfl) rfl) rfl;obtain ⟨e1,e2,e3,e4,e5⟩:=agU hd hs;rw [afk e1 e2 e3 e4 e5];exact ⟨h.1,h.2⟩
  have h:=vS b n h0 (.inr hs);exact ⟨h.1,h.2⟩
 have h:=vS b n h0 (.inl (by simpa using hd));exact ⟨h.1,h.2⟩
noncomputable def AY:Kn:=aK (ae (kC (aX 0 0)) (ae (kC cI) ao)) tY fun (_,b,_) n=>⟨[NdOK n],[.c (.int (((aV n b).e)))],some ((kU ((aV n b).n))),false⟩
theorem Pm:CK 13 AY:=ag fun (_,b,_) n hp=>Pq b n (cc hp)
noncomputable def Vq:bN:=(aO 13 AY (aO 13 vj (aO 13 uU VS)))
theorem AM:ay Tryz.prog (al tyT) Vq:=(ah Pm (ah wq (ah uP tu)))
def afX (n:Nd):AH:=.box 25 [.ptr 1 0] :: ndO 1 n
def Xw:PH Nd:=PH.YV (aC (dH 25 (ax (aX 1 0) dv)) (acB 1 aw)) (·.2.1) (fun n=>(((),()),n,()))
def gq (n:Nd) (r:Record):Bool:=decide (r.kind=4) && decide (r.a<=n.c.commit)
def LB (n:Nd) (l:List Record):Int:=if l.any (gq n)=true then (l.findIdx (gq n):Int) else -1
section
variable {n:Nd} {l:List Record} {k:Nat} {r:Record}
theorem agv (h:(l.take k).any (gq n)=false) (hr:l[k]? = some r) (h2:gq n r=false):(l.take (k+1)).any (gq n)=false:=by
 rw [ai hr,List.any_append,h]; simp [h2]
theorem ae0 (h:(l.take k).any (gq n)=false) (hr:l[k]? = some r) (h2:gq n r=true):(k:Int)=LB n l:=by
 have hk:=aaj.1 hr;have h1:l.any (gq n)=true:=List.any_eq_true.2 ⟨r,acQ hr,h2⟩;rw [LB,if_pos h1];have e:l.findIdx (gq n)=k:=by
  rw [List.findIdx_eq hk.1];refine ⟨by rw [hk.2]; exact h2,fun j hj=>?_⟩;have:=List.any_eq_false.1 h (l[j]'(by have:=hk.1; omega)) (aiN.2 ⟨j,by rw [aiX hj,List.getElem?_eq_getElem]⟩);simpa using this
 rw [e]
theorem aiy (h:(l.take k).any (gq n)=false) (hk:(l.length:Int)<=k):-1=LB n l:=by
 rw [List.take_of_length_le (by omega)] at h;rw [LB,if_neg (by rw [h]; decide)]
theorem agj:decide (0<=LB n l)=l.any (gq n):=by
 unfold LB;cases h:l.any (gq n) <;> simp
end
noncomputable def FR:Kn:=aK (ae (kT (.nm .record)) (ae (kC (aX 0 0)) ao)) Xw fun (r,_,_) n=>⟨[],[.c (.bool (.atom ((gq n r))))],none,false⟩
theorem Sd:CK 97 FR:=ag fun (r,_,_) n _=>by
 refine av AM [] Tryz.func97 (?_:dR r ((r.kind=4->decide (r.a<=n.c.commit)=gq n r)/\(¬r.kind=4->false=gq n r)));(repeat' with_reducible first|apply aZ|refine aY ?_|intro)
 all_goals (first | exact bt | (simp only [gq]; simp_all; done) | exact rfl)
noncomputable def Wm:bN:=(aO 97 FR Vq)
theorem zg:ay Tryz.prog (al tyT) Wm:=(ah Sd AM)
def agC (l:List Record) (n:Nd):List (Nat × LI):=[(2,{ σ:=Nat,F:=fun k=>([(0,one (.fz (.nm .record) (l))),(1,one (.fn 97 [] [(0,0)])),(7,one (.int (l).length)),(8,one (.int k))],(afX (n))),J:=fun k=>k<=l.length/\(l.take k).any (gq n)=false,μ:=fun k=>(l).length - k })]
noncomputable def UN:Kn:=aK (ae (kC (cL (.nm .record))) (ae (kC (qN 97 [] [(0,0)])) ao)) Xw fun (l,_,_) n=>⟨[],[.c (.int ((LB n l)))],none,false⟩
theorem adv:CK 168 UN:=ag fun (l,_,_) n _=>by
 refine av zg (agC l n) Tryz.func168 (?_:(fun (q0:Nat)=>l.length*48<=140737488355328->∃ (s0:Nat),(l=l/\(↑l.length:Int)=(↑q0:Int)/\0=(↑s0:Int)/\bY n n)/\(s0<=q0/\(List.take s0 l).any (gq n)=false)/\∀ (s:Nat),s<=q0/\(List.take s l).any (gq n)=false->((↑s:Int)<(↑q0:Int)->0<=(↑s:Int)/\(↑s:Int)<(↑l.length:Int)/\∀ (x:Record),l[s]? = some x->dR x ((gq n x=true->(↑s:Int)=LB n l)/\(gq n x=false->I64 ((↑s:Int)+1)/\∃ (s':Nat),(l=l/\(↑q0:Int)=(↑q0:Int)/\(↑s:Int)+1=(↑s':Int)/\bY n n)/\(s' <= q0/\(List.take s' l).any (gq n)=false)/\q0 - s' < q0 - s)))/\((↑q0:Int)<=(↑s:Int) -> -1=LB n l)) l.length);iterate 3 ((all_goals (repeat' with_reducible first|apply aZ|refine aY ?_|intro)); (all_goals try (first | exact bt | exact rfl | exact (agv ab ab ab) | exact (ae0 ab ab ab) | exact (aiy ab ab))); all_goals try first | refine ⟨‹Nat› + 1,?_⟩ | refine ⟨0,?_⟩)
noncomputable def Vp:bN:=(aO 168 UN Wm)
theorem yI:ay Tryz.prog (al tyT) Vp:=(ah adv zg)
noncomputable def Vi:Kn:=aK (ae (kC (cL (.nm .record))) (ae (kC (qN 97 [] [(0,0)])) ao)) Xw fun (l,_,_) n=>⟨[],[.c (.bool (.atom ((l.any (gq n)))))],none,false⟩
theorem ado:CK 96 Vi:=ag fun (l,_,_) n _=>by
 refine av yI [] Tryz.func96 (?_:l.length*48<=140737488355328->I64 (LB n l)->decide (0<=LB n l)=l.any (gq n));(repeat' with_reducible first|apply aZ|refine aY ?_|intro)
 all_goals (first | exact bt | exact agj)
noncomputable def WI:bN:=(aO 96 Vi Vp)
theorem yQ:ay Tryz.prog (al tyT) WI:=(ah ado yI)
variable {x:Letter} {n:NdC}
theorem ab4 (h:(¬ mayL x=0\/¬ x.to=n.me)\/n.many<=x.frm):db n x=false:=if_pos h
theorem adP (h:mayL x=0) (h1:x.to=n.me) (h2:x.frm<n.many) (h3:¬ x.kind=3):db n x=true:=by rw [db,if_neg (by omega),if_pos h3]
theorem aem (h:mayL x=0) (h1:x.to=n.me) (h2:x.frm<n.many) (h3:x.kind=3) (h4:¬ (aB n.st x).2.2.2=0):db n x=false:=by rw [db,if_neg (by omega),if_neg (by omega),if_pos h4]
variable {n:Nd}
theorem ac4 (h:mayL x=0) (h1:x.to=n.c.me) (h2:x.frm<n.c.many) (h3:x.kind=3) (h4:(aB n.c.st x).2.2.2=0):(!(aB n.c.st x).1.any (gq n))=db n.c x:=by rw [db,if_neg (by omega),if_neg (by omega),if_neg (by omega)]; rfl
noncomputable def JR:Kn:=aK (ae (kC (aX 0 0)) (ae (kT (.nm .letter)) ao)) tY fun (_,x,_) n=>⟨[],[.c (.bool (.atom ((db n.c x))))],none,false⟩
theorem Xs:CK 55 JR:=ag fun (_,x,_) n _=>by
 refine av yQ [] Tryz.func55 (?_:(fun q0=>aJ x (I64 (mayL x)->((¬mayL x=0\/¬x.to=n.c.me)\/n.c.many<=x.frm->false=db n.c x)/\((mayL x=0/\x.to=n.c.me)/\x.frm<n.c.many->(¬x.kind=3->true=db n.c x)/\(x.kind=3->(aB n.c.st x).fst.length*48<=140737488355328->I64 q0.fst->I64 q0.snd->(¬q0.snd=0->false=db n.c x)/\(q0.snd=0->(!(aB n.c.st x).fst.any (gq n))=db n.c x))))) (aB n.c.st x).snd.snd);(repeat' with_reducible first|apply aZ|refine aY ?_|intro)
 all_goals (first | exact bt | exact (ac4 ab ab ab ab ab) | exact (ab4 ab).symm | exact (adP ab ab ab ab).symm | exact (aem ab ab ab ab ab).symm)
noncomputable def Wb:bN:=(aO 55 JR WI)
theorem rU:ay Tryz.prog (al tyT) Wb:=(ah Xs yQ)
theorem aeh:∀ {k:Nat} {n:Nd},(n.dg k).nx=n.nx/\(n.dg k).d=n.d/\(n.dg k).c.me=n.c.me/\(n.dg k).c.st=n.c.st
 | 0,_=>⟨rfl,rfl,rfl,rfl⟩
 | k+1,n=>by
  unfold Nd.dg;split
  ·split
   ·exact aeh
   exact ⟨rfl,rfl,rfl,rfl⟩
  exact ⟨rfl,rfl,rfl,rfl⟩
theorem Wg:n.apply.nx=n.nx:=aeh.1
variable {k:Int}
theorem Ns {s:Stable} {l:List Int} (h:k<=(s.log.length:Int)):mf s l k<=(s.log.length:Int):=by
 unfold mf;split
 ·omega
 exact h
noncomputable abbrev JI (n:Nd) (x:Letter):Nd:=⟨⟨n.c.me,n.c.many,n.c.bin,n.c.st,n.c.role,mf n.c.st ((n.mt.set x.frm.toNat (max (n.mt.getD x.frm.toNat (au Sh.int)) (min x.a (n.c.st.log.length:Int)))).set n.c.me.toNat (n.c.st.log.length:Int)) n.c.commit,n.c.applied,n.c.s⟩,n.d,n.rp,n.vs,n.bn,n.nx.set x.frm.toNat (min (jv (n.nx.getD x.frm.toNat (au Sh.int)) x) ((n.c.st.log.length:Int)+1)),n.mt.set x.frm.toNat (max (n.mt.getD x.frm.toNat (au Sh.int)) (min x.a (n.c.st.log.length:Int)))⟩
noncomputable abbrev JV (n:Nd) (x:Letter):Nd:=⟨⟨n.c.me,n.c.many,n.c.bin,n.c.st,n.c.role,mf n.c.st (n.mt.set n.c.me.toNat (n.c.st.log.length:Int)) n.c.commit,n.c.applied,n.c.s⟩,n.d,n.rp,n.vs,n.bn,n.nx.set x.frm.toNat (min (jv (n.nx.getD x.frm.toNat (au Sh.int)) x) ((n.c.st.log.length:Int)+1)),n.mt⟩
section
variable {n:Nd} {x:Letter}
theorem On (h:x.ok=true):n.Qi x=JI n x:=by
 unfold Nd.Qi; dsimp only; rw [if_pos h]; rfl
theorem KA (h:x.ok=false):n.Qi x=JV n x:=by
 unfold Nd.Qi; dsimp only; rw [if_neg (mh h)]; rfl
theorem ZG:(JI n x).apply.nx.length=n.nx.length:=by rw [Wg]; exact aet
theorem Zr:(JV n x).apply.nx.length=n.nx.length:=by rw [Wg]; exact aet
variable {G:Nd}
theorem ad5 (hG:n.Qi x=G) (h:(n.c.st.log.length:Int)<G.apply.nx.getD x.frm.toNat (au Sh.int)):fP n x=⟨G.apply,[],0⟩:=by
 rw [fP,hG]; exact if_pos h
theorem acJ (hG:n.Qi x=G) (h:G.apply.nx.getD x.frm.toNat (au Sh.int)<=(n.c.st.log.length:Int)) (h1:¬ (je G.apply x.frm).2=0):fP n x=⟨G.apply,[],(je G.apply x.frm).2⟩:=by
 rw [fP,hG]; exact (if_neg (Int.not_lt.2 h)).trans (if_neg h1)
theorem ac2 (hG:n.Qi x=G) (h:G.apply.nx.getD x.frm.toNat (au Sh.int)<=(n.c.st.log.length:Int)) (h1:(je G.apply x.frm).2=0):fP n x=⟨G.apply,[(je G.apply x.frm).1],0⟩:=by
 rw [fP,hG]; exact (if_neg (Int.not_lt.2 h)).trans (if_pos h1)
end
def cV (n:Nd) (k:Nat):Nd:={ n with c:={ n.c with role:=2 },nx:=List.replicate k ((n.c.st.log.length:Int)+1)++n.nx.drop k,mt:=List.replicate k (0:Int)++n.mt.drop k }
theorem xd {α:Type} {a:α}:∀ {l:List α} {k:Nat},k<l.length->(List.replicate k a++l.drop k).set k a=List.replicate (k+1) a++l.drop (k+1)
 | [],_,h=>by simp at h
 | x :: l,0,_=>by simp
 | x :: l,k+1,h=>by
  rw [List.replicate_succ,List.drop_succ_cons,List.cons_append,List.set_cons_succ,xd (by simpa using h),List.replicate_succ (n:=k+1),List.cons_append,List.drop_succ_cons]
section
variable {n:Nd} {k:Nat}
theorem acy (h:(k:Int)<(n.nx.length:Int)):(cV n k).nx.set k ((n.c.st.log.length:Int)+1)=(cV n (k+1)).nx:=xd (by omega)
theorem adq (h:(k:Int)<(n.mt.length:Int)):(cV n k).mt.set k 0=(cV n (k+1)).mt:=xd (by omega)
theorem Vr (h:k<=n.nx.length):(cV n k).nx.length=n.nx.length:=by
 simp only [cV,List.length_append,aeC,List.length_drop]; omega
theorem acX (h:k<=n.mt.length):(cV n k).mt.length=n.mt.length:=by
 simp only [cV,List.length_append,aeC,List.length_drop]; omega
variable (h1:(n.nx.length:Int)=n.c.many) (h2:(n.mt.length:Int)=n.c.many) (hk:k<=n.c.many.toNat) (hm:n.c.many<=k)
include h1 h2 hk hm
theorem aaA:cV n k={ n with c:={ n.c with role:=2 },nx:=List.replicate n.nx.length ((n.c.st.log.length:Int)+1),mt:=List.replicate n.mt.length 0 }:=by
 have e1:k=n.nx.length:=by omega
 have e2:k=n.mt.length:=by omega
 unfold cV;congr 1
 ·rw [e1,aiW,adI]
 rw [e2,aiW,adI]
theorem ain (h:(n.c.st.log.length:Int)+1<=64) (hs:(cV n k).aN [⟨3,(n.c.st.log.length:Int)+1,(cV n k).c.st.term,[]⟩]=0):fF n=⟨(cV n k).save [⟨3,(n.c.st.log.length:Int)+1,(cV n k).c.st.term,[]⟩],(bJ ((cV n k).save [⟨3,(n.c.st.log.length:Int)+1,(cV n k).c.st.term,[]⟩])).1,(bJ ((cV n k).save [⟨3,(n.c.st.log.length:Int)+1,(cV n k).c.st.term,[]⟩])).2⟩:=by
 rw [aaA h1 h2 hk hm] at hs ⊢;exact (if_pos h).trans (if_pos hs)
theorem aeT (h:(n.c.st.log.length:Int)+1<=64) (hs:¬ (cV n k).aN [⟨3,(n.c.st.log.length:Int)+1,(cV n k).c.st.term,[]⟩]=0):fF n=⟨(cV n k).save [⟨3,(n.c.st.log.length:Int)+1,(cV n k).c.st.term,[]⟩],[],(cV n k).aN [⟨3,(n.c.st.log.length:Int)+1,(cV n k).c.st.term,[]⟩]⟩:=by
 rw [aaA h1 h2 hk hm] at hs ⊢;exact (if_pos h).trans (if_neg hs)
theorem ahk (h:64<(n.c.st.log.length:Int)+1):fF n=⟨cV n k,(bJ (cV n k)).1,(bJ (cV n k)).2⟩:=by
 rw [aaA h1 h2 hk hm];exact if_neg aL
end
def Yu (n:Nd):List (Nat × LI):=[(4,{ σ:=Nat,F:=fun k=>([(0,one (.ptr 0 0)),(4,one (.int (n.c.st.log.length+1))),(22,one (.int n.c.many)),(23,one (.int k))],(kU ((cV n k)))),J:=fun k=>k<=n.c.many.toNat,μ:=fun k=>n.c.many.toNat - k })]
noncomputable def Gd:Kn:=aK (ae (kC (aX 0 0)) (ae (kT (.nm .letter)) ao)) tY fun (_,x,_) n=>⟨[NdOK n,0<=x.frm/\x.frm<n.c.many,n.c.role=2,0<=x.a/\x.a<=64],[.c (.fz (.nm .letter) (((fP n x).l))),.c (.int (((fP n x).e)))],some ((kU ((fP n x).n))),false⟩
theorem QL:CK 103 Gd:=ag fun (_,x,_) n hp=>by
 have h0:=cc hp;have h1:=cc (eQ hp);have h2:=cc (eQ (eQ hp));have h3:=cc (eQ (eQ (eQ hp)));refine br rU [] Tryz.func103 (?_:(fun q10=>(fun q13=>(fun q12=>(fun q11=>(fun q9=>(fun q8=>(fun q7=>(fun q6=>(fun q5=>(fun q4=>(fun q15=>(fun q14=>(fun q16=>(fun q3=>(fun q18=>(fun q17=>(fun q2=>(fun q19=>(fun q1=>(fun q20=>(fun q0=>(fun q21=>aJ x (q15/\q4<(↑n.nx.length:Int)/\(q5<=x.a/\x.a<=64)/\I64 (q3+1)/\q15/\q4<(↑n.nx.length:Int)/\(I64 q16->I64 (jv q16 x)->I64 q16->(x.ok=true->q15/\q4<(↑n.mt.length:Int)/\q15/\q4<(↑n.mt.length:Int)/\(I64 (n.mt.getD q14 q8)->I64 (n.mt.getD q14 q8)->q5<=q10.me/\q10.me<(↑q2.length:Int)/\(I64 (q2.getD q7 q8)->(q2.set q7 q3).length<=12/\(I64 q19->((q5<=q13/\q19<=(↑q11.log.length:Int))/\q9)/\q15/\q4<(↑q0.nx.length:Int)/\(I64 (q0.nx.getD q14 q8)->(q3<q0.nx.getD q14 q8->q6.l=[]/\q5=q6.e/\bY q0 q6.n)/\(q0.nx.getD q14 q8<=q3->(q15/\q4<(↑q0.nx.length:Int))/\aJ (je q0 q4).fst (I64 q21->(¬q21=q5->q6.l=[]/\q21=q6.e/\bY q0 q6.n)/\(q21=q5->[(je q0 q4).fst]=q6.l/\q5=q6.e/\bY q0 q6.n))))))))/\(x.ok=false->q5<=q10.me/\q10.me<(↑n.mt.length:Int)/\(I64 (n.mt.getD q7 q8)->(n.mt.set q7 q3).length<=12/\(I64 q17->((q5<=q13/\q17<=(↑q11.log.length:Int))/\q9)/\q15/\q4<(↑q1.nx.length:Int)/\(I64 (q1.nx.getD q14 q8)->(q3<q1.nx.getD q14 q8->q6.l=[]/\q5=q6.e/\bY q1 q6.n)/\(q1.nx.getD q14 q8<=q3->(q15/\q4<(↑q1.nx.length:Int))/\aJ (je q1 q4).fst (I64 q20->(¬q20=q5->q6.l=[]/\q20=q6.e/\bY q1 q6.n)/\(q20=q5->[(je q1 q4).fst]=q6.l/\q5=q6.e/\bY q1 q6.n)))))))))) (je q0 q4).snd) (Nd.mk (NdC.mk q10.me q10.many q10.bin q11 q10.role q19 q13 q10.s) n.d n.rp n.vs n.bn q18 q2).apply) (je q1 q4).snd) (Nd.mk (NdC.mk q10.me q10.many q10.bin q11 q10.role q17 q13 q10.s) n.d n.rp n.vs n.bn q18 n.mt).apply) (mf q11 (q2.set q7 q3) q12)) (n.mt.set q14 (max (n.mt.getD q14 q8) (min x.a q3)))) (mf q11 (n.mt.set q7 q3) q12)) (n.nx.set q14 (min (jv q16 x) (q3+1)))) (↑q11.log.length:Int)) (n.nx.getD q14 q8)) q4.toNat) (q5<=q4)) x.frm) (0:Int)) (fP n x)) q10.me.toNat) (au Sh.int)) ((↑n.rp.length:Int)<=q13/\q11.log.length<=10000)) q10.st) q10.commit) q10.applied) n.c);obtain ⟨o1,o2,o3⟩:=id h0.d;have o4:=h0.log;have o5:=h0.many;have o6:=h0.me;have o7:=h0.com;have o8:=h0.term;have o9:=h0.rp;obtain ⟨l1,l2,l3,l4⟩:=h0.len.resolve_left (by omega);(repeat' with_reducible first|apply aZ|refine aY ?_|intro)
 all_goals (first | exact bt | exact (Ns o7.2.2) | (rw [ZG]; omega) | (rw [Zr]; omega) | (rw [aet]; omega) | (rw [aet,aet]; omega) | (rw [ad5 (n:=n) (x:=x) (G:=JI n x) (On ab) ab] <;> rfl) | (rw [acJ (n:=n) (x:=x) (G:=JI n x) (On ab) ab ab] <;> rfl) | (rw [ac2 (n:=n) (x:=x) (G:=JI n x) (On ab) ab ab] <;> rfl) | (rw [ad5 (n:=n) (x:=x) (G:=JV n x) (KA ab) ab] <;> rfl) | (rw [acJ (n:=n) (x:=x) (G:=JV n x) (KA ab) ab ab] <;> rfl) | (rw [ac2 (n:=n) (x:=x) (G:=JV n x) (KA ab) ab ab] <;> rfl))
noncomputable def Ei:Kn:=aK (ae (kC (aX 0 0)) ao) tY fun _ n=>⟨[NdOK n,n.c.role=1],[.c (.fz (.nm .letter) (((fF n).l))),.c (.int (((fF n).e)))],some ((kU ((fF n).n))),false⟩
theorem SF:CK 102 Ei:=ag fun _ n hp=>by
 have h0:=cc hp;have h1:=cc (eQ hp);refine br rU (Yu n) Tryz.func102 (?_:(fun (q5:Int)=>(fun (q4:NdR)=>(fun (q3:Int)=>(fun (q2:Int)=>(fun (q1:Int)=>(fun (q0:Int)=>I64 q5/\∃ (s0:Nat),(q5=q0/\q2=q2/\q3=(↑s0:Int)/\bY (Nd.mk (NdC.mk n.c.me q2 n.c.bin n.c.st 2 n.c.commit n.c.applied n.c.s) n.d n.rp n.vs n.bn n.nx n.mt) (cV n s0))/\s0<=q2.toNat/\∀ (s:Nat),(fun (q7:Nd)=>(fun (q6:List (den (Sh.nm NT.record)))=>(fun (q8:Nd)=>s<=q2.toNat->((↑s:Int)<q2->(q3<=(↑s:Int)/\(↑s:Int)<(↑q7.nx.length:Int))/\(I64 (q7.nx.getD s (au Sh.int))->q3<=(↑s:Int)/\(↑s:Int)<(↑q7.mt.length:Int))/\(I64 (q7.nx.getD s (au Sh.int))->I64 (q7.mt.getD s (au Sh.int))->I64 ((↑s:Int)+1)/\∃ (s':Nat),(q0=q0/\q2=q2/\(↑s:Int)+1=(↑s':Int)/\bY (Nd.mk q7.c q7.d q7.rp q7.vs q7.bn (q7.nx.set s q0) (q7.mt.set s q3)) (cV n s'))/\s' <= q2.toNat/\q2.toNat - s' < q2.toNat - s))/\(q2<=(↑s:Int)->(q0<=64->(q3<=q7.d.synced/\q7.d.synced<=(↑q7.d.b.length:Int)/\q7.d.b.length<=65536)/\q7.c.st.log.length<=10000/\q6.length<=1000/\(I64 (q7.aN q6)->(¬q7.aN q6=q3->q4.l=[]/\q7.aN q6=q4.e/\bY q8 q4.n)/\(q7.aN q6=q3->q8.c.many<=5/\(q8.c.role=q3\/(↑q8.nx.length:Int)=q8.c.many)/\((bJ q8).fst.length*96<=140737488355328->I64 (bJ q8).snd->(bJ q8).fst=q4.l/\(bJ q8).snd=q4.e/\bY q8 q4.n))))/\(64<q0->q7.c.many<=5/\(q7.c.role=q3\/(↑q7.nx.length:Int)=q7.c.many)/\((bJ q7).fst.length*96<=140737488355328->I64 (bJ q7).snd->(bJ q7).fst=q4.l/\(bJ q7).snd=q4.e/\bY q7 q4.n)))) (q7.save q6)) [Record.mk q1 q0 q7.c.st.term []]) (cV n s)) ((↑n.c.st.log.length:Int)+1)) 3) n.c.many) 0) (fF n)) ((↑n.c.st.log.length:Int)+1));obtain ⟨o1,o2,o3⟩:=id h0.d;have o4:=h0.log;have o5:=h0.many;have o6:=h0.me;have o7:=h0.com;have o8:=h0.term;have o9:=h0.rp;obtain ⟨l1,l2,l3,l4⟩:=h0.len.resolve_left (by omega);iterate 3 ((all_goals (repeat' with_reducible first|apply aZ|refine aY ?_|intro)); (all_goals try (first | exact bt | exact rfl | exact (acy aL) | exact (adq aL) | (rw [Vr aL]; omega) | (rw [acX aL]; omega) | exact (.inr ((congrArg Int.ofNat (Vr aL)).trans l3)) | exact abo | exact o5.2 | exact o1 | exact o2 | exact o3 | exact (Nat.le_trans o4 (by decide)) | (rw [ain (n:=n) (k:=‹Nat›) l3 l4 ab ab ab ab] <;> rfl) | (rw [aeT (n:=n) (k:=‹Nat›) l3 l4 ab ab ab ab] <;> rfl) | (rw [ahk (n:=n) (k:=‹Nat›) l3 l4 ab ab ab] <;> rfl))); all_goals try first | refine ⟨‹Nat› + 1,?_⟩ | refine ⟨0,?_⟩)
noncomputable def WH:bN:=(aO 102 Ei (aO 103 Gd Wb))
theorem Ag:ay Tryz.prog (al tyT) WH:=(ah SF (ah QL rU))
variable {t:Int}
theorem Ie {s:Stable}:(stepsF s (aA s t)).1.log=s.log:=by
 unfold aA;split
 ·rfl
 rw [stepsF];split
 ·rw [stepsF];unfold aM;split
  ·rfl
  split
  ·rename_i u h;rw [eL,if_neg (show ¬ (2:Int)=1 by decide),if_pos rfl,fy] at h;split at h
   ·cases h
   cases h; rfl
  rfl
 rfl
abbrev awA (n:Nd) (x:Letter):Nd:=⟨(n.save (aA n.c.st x.term)).c,(n.save (aA n.c.st x.term)).d,(n.save (aA n.c.st x.term)).rp,(n.save (aA n.c.st x.term)).vs,(n.save (aA n.c.st x.term)).bn.set x.frm.toNat x.bin,(n.save (aA n.c.st x.term)).nx,(n.save (aA n.c.st x.term)).mt⟩
abbrev Tf (n:Nd) (x:Letter):Nd:=⟨(n.save (aA n.c.st x.term)).c,(n.save (aA n.c.st x.term)).d,(n.save (aA n.c.st x.term)).rp,(n.save (aA n.c.st x.term)).vs.set x.frm.toNat true,(n.save (aA n.c.st x.term)).bn.set x.frm.toNat x.bin,(n.save (aA n.c.st x.term)).nx,(n.save (aA n.c.st x.term)).mt⟩
theorem Ls {s:Stable}:(aA s t).length<=1000:=Nat.le_trans fV (by decide)
section
variable {n:Nd} {x:Letter}
theorem acd (h:¬ n.aN (aA n.c.st x.term)=0):bk n x=⟨n.save (aA n.c.st x.term),[],n.aN (aA n.c.st x.term)⟩:=if_pos h
variable (h:n.aN (aA n.c.st x.term)=0)
include h
theorem acY (h1:¬ x.term=(n.save (aA n.c.st x.term)).c.st.term\/(n.save (aA n.c.st x.term)).c.role=0):bk n x=⟨n.save (aA n.c.st x.term),[],0⟩:=(if_neg (acs.2 h)).trans (if_pos h1)
theorem Wo (h0:NdOK n):NdOK (n.save (aA n.c.st x.term)):=by
 have h2:(n.save (aA n.c.st x.term)).c.st=(stepsF n.c.st (aA n.c.st x.term)).1:=(wG h).1;have h3:=ni (l:=aA n.c.st x.term) h0.log h0.term;rw [<- h2] at h3;refine ⟨qA h0.d,h0.many,h0.me,h3.1,h3.2,⟨h0.com.1,h0.com.2.1,?_⟩,h0.len,h0.rp⟩;rw [h2,Ie]; exact h0.com.2.2
theorem Ze (h0:NdOK n):NdOK (awA n x):=by
 have k:=Wo h h0;exact ⟨k.d,k.many,k.me,k.log,k.term,k.com,k.len.imp id fun q=>⟨q.1,by rw [aet]; exact q.2.1,q.2.2⟩,k.rp⟩
theorem Yj (h0:NdOK n):NdOK (Tf n x):=by
 have k:=Wo h h0;exact ⟨k.d,k.many,k.me,k.log,k.term,k.com,k.len.imp id fun q=>⟨by rw [aet]; exact q.1,by rw [aet]; exact q.2.1,q.2.2⟩,k.rp⟩
omit h in
theorem abr (h0:NdOK n) (hx:x.frm<n.c.many) (hr:¬ (n.save (aA n.c.st x.term)).c.role=0):x.frm<((n.save (aA n.c.st x.term)).bn.length:Int)/\x.frm<((n.save (aA n.c.st x.term)).vs.length:Int):=by
 have q:=h0.len.resolve_left hr;exact ⟨by show x.frm<(n.bn.length:Int); omega,by show x.frm<(n.vs.length:Int); omega⟩
variable (h1:x.term=(n.save (aA n.c.st x.term)).c.st.term) (h2:¬ (n.save (aA n.c.st x.term)).c.role=0)
include h1 h2
theorem Jw:bk n x=if (x.kind=2/\x.ok=true)/\(n.save (aA n.c.st x.term)).c.role=1 then (if qm (Tf n x).vs=true then fF (Tf n x) else ⟨Tf n x,[],0⟩) else if x.kind=4/\(n.save (aA n.c.st x.term)).c.role=2 then fP (awA n x) x else ⟨awA n x,[],0⟩:=
 (if_neg (acs.2 h)).trans (if_neg (by rintro (q | q); exact q h1; exact h2 q))
theorem ag0 (h3:x.kind=2) (h4:x.ok=true) (h5:(n.save (aA n.c.st x.term)).c.role=1) (h6:qm (Tf n x).vs=true):bk n x=fF (Tf n x):=(Jw h h1 h2).trans ((if_pos ⟨⟨h3,h4⟩,h5⟩).trans (if_pos h6))
theorem aeQ (h3:x.kind=2) (h4:x.ok=true) (h5:(n.save (aA n.c.st x.term)).c.role=1) (h6:qm (Tf n x).vs=false):bk n x=⟨Tf n x,[],0⟩:=(Jw h h1 h2).trans ((if_pos ⟨⟨h3,h4⟩,h5⟩).trans (if_neg (mh h6)))
theorem agm (h3:(¬ x.kind=2\/x.ok=false)\/¬ (n.save (aA n.c.st x.term)).c.role=1) (h4:x.kind=4) (h5:(n.save (aA n.c.st x.term)).c.role=2):bk n x=fP (awA n x) x:=
 (Jw h h1 h2).trans ((if_neg (by rintro ⟨⟨a,b⟩,c⟩; rcases h3 with (q | q) | q; exact q a; exact mh q b; exact q c)).trans (if_pos ⟨h4,h5⟩))
theorem ahL (h3:(¬ x.kind=2\/x.ok=false)\/¬ (n.save (aA n.c.st x.term)).c.role=1) (h4:¬ x.kind=4\/¬ (n.save (aA n.c.st x.term)).c.role=2):bk n x=⟨awA n x,[],0⟩:=
 (Jw h h1 h2).trans ((if_neg (by rintro ⟨⟨a,b⟩,c⟩; rcases h3 with (q | q) | q; exact q a; exact mh q b; exact q c)).trans (if_neg (by rintro ⟨a,b⟩; rcases h4 with q | q; exact q a; exact q b)))
end
noncomputable def p_:Kn:=aK (ae (kC (aX 0 0)) (ae (kT (.nm .letter)) ao)) tY fun (_,x,_) n=>⟨[NdOK n,0<=x.frm/\x.frm<n.c.many,0<=x.a/\x.a<=64],[.c (.fz (.nm .letter) (((bk n x).l))),.c (.int (((bk n x).e)))],some ((kU ((bk n x).n))),false⟩
theorem zt:CK 58 p_:=ag fun (_,x,_) n hp=>by
 have h0:=cc hp;have h1:=cc (eQ hp);have h2:=cc (eQ (eQ hp));refine br Ag [] Tryz.func58 (?_:(fun q5=>(fun q4=>(fun q3=>(fun q2=>(fun q1=>(fun q0=>(fun q8=>(fun q7=>(fun q9=>(fun q6=>aJ x (((q4<=n.d.synced/\n.d.synced<=(↑n.d.b.length:Int)/\n.d.b.length<=65536)/\n.c.st.log.length<=10000/\q3.length<=1000)/\(I64 (n.aN q3)->(¬n.aN q3=q4->q2.l=[]/\n.aN q3=q2.e/\bY q0 q2.n)/\(n.aN q3=q4->(¬x.term=q0.c.st.term\/q8=q4->q2.l=[]/\q4=q2.e/\bY q0 q2.n)/\(x.term=q0.c.st.term/\¬q8=q4->q4<=x.frm/\x.frm<(↑q0.bn.length:Int)/\(I64 (q0.bn.getD q1 (au Sh.int))->((x.kind=2/\x.ok=true)/\q8=1->q4<=x.frm/\x.frm<(↑q0.vs.length:Int)/\(qm (q0.vs.set q1 true)=true->NdOK q6/\q8=1/\((fF q6).l.length*96<=140737488355328->I64 (fF q6).e->(fF q6).l=q2.l/\(fF q6).e=q2.e/\bY (fF q6).n q2.n))/\(qm (q0.vs.set q1 true)=false->q2.l=[]/\q4=q2.e/\bY q6 q2.n))/\((¬x.kind=2\/x.ok=false)\/¬q8=1->(x.kind=4/\q8=2->NdOK q7/\(q4<=x.frm/\x.frm<q0.c.many)/\q8=2/\(q4<=x.a/\x.a<=64)/\(q9.l.length*96<=140737488355328->I64 q9.e->q9.l=q2.l/\q9.e=q2.e/\bY q9.n q2.n))/\(¬x.kind=4\/¬q8=2->q2.l=[]/\q4=q2.e/\bY q7 q2.n)))))))) (Nd.mk q0.c q0.d q0.rp (q0.vs.set q1 true) (q0.bn.set q1 q5) q0.nx q0.mt)) (fP q7 x)) (Nd.mk q0.c q0.d q0.rp q0.vs (q0.bn.set q1 q5) q0.nx q0.mt)) q0.c.role) (n.save q3)) x.frm.toNat) (bk n x)) (aA n.c.st x.term)) (0:Int)) x.bin);obtain ⟨o1,o2,o3⟩:=id h0.d;have o4:=h0.log;(repeat' with_reducible first|apply aZ|refine aY ?_|intro)
 all_goals (first | exact bt | exact Ls | exact (Yj ab h0) | exact (Ze ab h0) | exact (abr h0 h1.2 ab).1 | exact (abr h0 h1.2 ab).2 | exact h1.2 | (rw [acd (n:=n) (x:=x) ab] <;> rfl) | (rw [acY (n:=n) (x:=x) ab ab] <;> rfl) | (rw [ag0 (n:=n) (x:=x) ab ab ab ab ab ab ab] <;> rfl) | (rw [aeQ (n:=n) (x:=x) ab ab ab ab ab ab ab] <;> rfl) | (rw [agm (n:=n) (x:=x) ab ab ab ab ab ab] <;> rfl) | (rw [ahL (n:=n) (x:=x) ab ab ab ab ab] <;> rfl))
noncomputable def WB:bN:=(aO 58 p_ WH)
theorem BH:ay Tryz.prog (al tyT) WB:=(ah zt Ag)
section
variable {n:Nd} {x:Letter}
theorem JC (hm:db n.c x=true):0<=x.frm/\x.frm<n.c.many/\0<=x.a/\x.a<=64/\1<=x.kind/\x.kind<=4:=by
 have h:=(xT hm).1;have:=fI h.may;have:=h.frm;omega
theorem aiA {p:Prop} (hm:db n.c x=true) (h1:¬ x.kind=1) (h2:¬ x.kind=2) (h3:¬ x.kind=3) (h4:¬ x.kind=4):p:=by
 have:=JC hm; omega
theorem HV (h:NdOK n):NdOK n.follow:=⟨h.d,h.many,h.me,h.log,h.term,h.com,.inl rfl,h.rp⟩
theorem abC (hm:db n.c x=true):db n.follow.c x=true:=hm
theorem abS (h:n.d.down=true):bg n x=⟨n,[],30⟩:=if_pos h
variable (h:n.d.down=false)
include h
theorem adX (hm:db n.c x=false):bg n x=⟨n,[],1⟩:=(if_neg (mh h)).trans (if_pos hm)
variable (hm:db n.c x=true)
include hm
theorem Nk (ht:n.c.st.term<x.term):bg n x=if x.kind=1 then cE n.follow x else if x.kind=3 then bO n.follow x else bk n.follow x:=by
 rw [bg,if_neg (mh h),if_neg (by rw [hm]; decide),if_pos ht]
theorem LR (ht:x.term<=n.c.st.term):bg n x=if x.kind=1 then cE n x else if x.kind=3 then bO n x else bk n x:=by
 rw [bg,if_neg (mh h),if_neg (by rw [hm]; decide),if_neg (show ¬ n.c.st.term<x.term by omega)]
section
variable (ht:n.c.st.term<x.term)
include ht
theorem ae_ (hk:x.kind=1):bg n x=cE n.follow x:=(Nk h hm ht).trans (if_pos hk)
theorem afq (hk:x.kind=3):bg n x=bO n.follow x:=(Nk h hm ht).trans ((if_neg (by omega)).trans (if_pos hk))
theorem ahc (hk:x.kind=2):bg n x=bk n.follow x:=(Nk h hm ht).trans ((if_neg (by omega)).trans (if_neg (by omega)))
theorem afV (hk:x.kind=4):bg n x=bk n.follow x:=(Nk h hm ht).trans ((if_neg (by omega)).trans (if_neg (by omega)))
end
section
variable (ht:x.term<=n.c.st.term)
include ht
theorem aid (hk:x.kind=1):bg n x=cE n x:=(LR h hm ht).trans (if_pos hk)
theorem afz (hk:x.kind=3):bg n x=bO n x:=(LR h hm ht).trans ((if_neg (by omega)).trans (if_pos hk))
theorem agN (hk:x.kind=2):bg n x=bk n x:=(LR h hm ht).trans ((if_neg (by omega)).trans (if_neg (by omega)))
theorem ahM (hk:x.kind=4):bg n x=bk n x:=(LR h hm ht).trans ((if_neg (by omega)).trans (if_neg (by omega)))
end
end
noncomputable def tK:Kn:=aK (ae (kC (aX 0 0)) (ae (kT (.nm .letter)) ao)) tY fun (_,x,_) n=>⟨[NdOK n],[.c (.fz (.nm .letter) (((bg n x).l))),.c (.int (((bg n x).e)))],some ((kU ((bg n x).n))),false⟩
theorem CY:CK 16 tK:=ag fun (_,x,_) n hp=>by
 have h0:=cc hp;refine br BH [] Tryz.func16 (?_:(fun q13=>(fun q12=>(fun q11=>(fun q10=>(fun q9=>(fun q8=>(fun q7=>(fun q6=>(fun q5=>(fun q4=>(fun q3=>(fun q2=>(fun q1=>(fun q0=>(fun q17=>(fun q16=>(fun q15=>(fun q14=>aJ x ((n.d.down=true->q2.l=[]/\30=q2.e/\bY n q2.n)/\(n.d.down=false->(db n.c x=false->q2.l=[]/\1=q2.e/\bY n q2.n)/\(db n.c x=true->(n.c.st.term<x.term->(q8->q14)/\(¬q8->(q7->q14)/\(¬q7->(q4->aJ x (NdOK q0/\db q5 x=true/\q4)/\aJ x (q16.l.length*q10<=q11->I64 q16.e->q16.l=q2.l/\q16.e=q2.e/\bY q16.n q2.n))/\(¬q4->(q6->aJ x (NdOK q0)/\aJ x (q17.l.length*q10<=q11->I64 q17.e->q17.l=q2.l/\q17.e=q2.e/\bY q17.n q2.n))/\(¬q6->False)))))/\(x.term<=n.c.st.term->(q8->q1)/\(¬q8->(q7->q1)/\(¬q7->(q4->aJ x (NdOK n/\db n.c x=true/\q4)/\aJ x (q12.l.length*q10<=q11->I64 q12.e->q12.l=q2.l/\q12.e=q2.e/\bY q12.n q2.n))/\(¬q4->(q6->aJ x (NdOK n)/\aJ x (q13.l.length*q10<=q11->I64 q13.e->q13.l=q2.l/\q13.e=q2.e/\bY q13.n q2.n))/\(¬q6->False))))))))) (aJ x (NdOK q0/\q3)/\aJ x (q15.l.length*q10<=q11->I64 q15.e->q15.l=q2.l/\q15.e=q2.e/\bY q15.n q2.n))) (bk q0 x)) (bO q0 x)) (cE q0 x)) (Nd.mk q5 n.d n.rp n.vs n.bn n.nx n.mt)) (aJ x (NdOK n/\q3)/\aJ x (q9.l.length*q10<=q11->I64 q9.e->q9.l=q2.l/\q9.e=q2.e/\bY q9.n q2.n))) (bg n x)) ((0<=x.frm/\x.frm<n.c.many)/\0<=x.a/\x.a<=64)) (x.kind=3)) (NdC.mk n.c.me n.c.many n.c.bin n.c.st 0 n.c.commit n.c.applied n.c.s)) (x.kind=1)) (x.kind=2)) (x.kind=4)) (bk n x)) (96:Nat)) (140737488355328:Nat)) (bO n x)) (cE n x));(repeat' with_reducible first|apply aZ|refine aY ?_|intro)
 all_goals (first | exact bt | exact h0 | exact (HV h0) | exact (abC (n:=n) ab) | exact (aiA (n:=n) ab ab ab ab ab) | exact (JC (n:=n) ab).1 | exact (JC (n:=n) ab).2.1 | exact (JC (n:=n) ab).2.2.1 | exact (JC (n:=n) ab).2.2.2.1 | (rw [abS (n:=n) (x:=x) ab] <;> rfl) | (rw [adX (n:=n) (x:=x) ab ab] <;> rfl) | (rw [ae_ (n:=n) (x:=x) ab ab ab ab] <;> rfl) | (rw [afq (n:=n) (x:=x) ab ab ab ab] <;> rfl) | (rw [ahc (n:=n) (x:=x) ab ab ab ab] <;> rfl) | (rw [afV (n:=n) (x:=x) ab ab ab ab] <;> rfl) | (rw [aid (n:=n) (x:=x) ab ab ab ab] <;> rfl) | (rw [afz (n:=n) (x:=x) ab ab ab ab] <;> rfl) | (rw [agN (n:=n) (x:=x) ab ab ab ab] <;> rfl) | (rw [ahM (n:=n) (x:=x) ab ab ab ab] <;> rfl))
noncomputable def Vx:bN:=(aO 16 tK WB)
theorem kR:ay Tryz.prog (al tyT) Vx:=(ah CY BH)
theorem NM {s:Stable} (h:(stepsF s [⟨3,(s.log.length:Int)+1,t,b⟩]).2=0):(stepsF s [⟨3,(s.log.length:Int)+1,t,b⟩]).1={ s with log:=s.log++[⟨t,b⟩] }:=by
 have h1:(aM s ⟨3,(s.log.length:Int)+1,t,b⟩).2=0:=by
  rw [stepsF] at h;split at h
  ·assumption
  exact h
 obtain ⟨_,h2⟩:=lS h1;rw [eL,if_neg (show ¬ (3:Int)=1 by decide),if_neg (show ¬ (3:Int)=2 by decide),if_pos rfl,dC,if_neg (by dsimp only; omega)] at h2;rw [jI h1];exact (adt h2).symm
theorem Hs {d:Dsk} {s:Stable} {l:List Record} (h:(saveF d s l).2.2=0):(stepsF s l).2=0:=(wG h).2
variable {L' L:List Record} {l:List Letter}
theorem StepR.of_eq {n':Nd} (h:StepR m L n' l L') (hd:m.d=n.d) (hm:m.c.me=n.c.me/\m.c.many=n.c.many/\m.c.commit=n.c.commit/\m.c.st=n.c.st/\m.c.bin=n.c.bin):StepR n L n' l L':=by
 obtain ⟨e1,e2,e3,e4,e5⟩:=hm;exact ⟨h.inv,h.pre,by rw [<- e1,<- e2]; exact h.me,by rw [<- hd]; exact h.len,h.lets,fun h1 h2=>by rw [<- e3,<- e4,<- e5]; exact h.mono (by rw [hd]; exact h1) h2⟩
theorem Gv (h:NInv n L) (hu:n.d.down=false) (ht:1<=t):∃ L',StepR n L (n.save [⟨3,(n.c.st.log.length:Int)+1,t,b⟩]) [] L':=by
 have hk:∀ r ∈ [Record.mk 3 ((n.c.st.log.length:Int)+1) t b],r.kind=3->1<=r.b:=fun r hr _=>by rw [aa6.1 hr]; exact ht
 by_cases hs:n.aN [⟨3,(n.c.st.log.length:Int)+1,t,b⟩]=0
 ·have y:=oB h hu (by simp) hk hs;have hi:=h.up hu;have es:=y.st;rw [NM (Hs hs)] at es;have hc:=h.ok.com;refine ⟨_,lW h hu y (fun hr=>by rw [es]; exact hi.vote hr) (by rw [es]) ?_ ?_ fun _=>?_⟩
  ·rw [es]; exact aez (by omega)
  ·rw [es]; dsimp only; rw [List.length_append]; omega
  rw [es]; dsimp only; rw [List.length_append]; omega
 exact kI h hu (by simp) hk hs
theorem Pc {α:Type} {a d:α}:∀ {k i:Nat},i<k->(List.replicate k a).getD i d=a:=fun h=>by
 rw [List.getD_eq_getElem?_getD,af_,if_pos h]; rfl
theorem aaZ (h:NInv n L) (hu:n.d.down=false) (hr:n.c.role=1):∃ L',StepR n L (fF n).n (fF n).l L':=by
 have hi:=h.up hu;have hv:=hi.vote (by omega);have hl:=h.ok.len.resolve_left (by omega);have hm:NInv { n with c:={ n.c with role:=2 },nx:=List.replicate n.nx.length ((n.c.st.log.length:Int)+1),mt:=List.replicate n.mt.length 0 } L:=
  ⟨⟨h.ok.d,h.ok.many,h.ok.me,h.ok.log,h.ok.term,h.ok.com,.inr ⟨hl.1,hl.2.1,by dsimp only; rw [aeC]; exact hl.2.2.1,by dsimp only; rw [aeC]; exact hl.2.2.2⟩,h.ok.rp⟩,h.d,h.le,fun _=>
   ⟨hi.st,hi.bin,⟨(by decide:(0:Int)<=2),(by decide:(2:Int)<=2)⟩,fun _=>hv,fun _ i hlt=>by
    dsimp only at hlt ⊢;rw [Pc (by omega)]; omega,hi.pl⟩⟩
 unfold fF;dsimp only;split
 ·obtain ⟨L',hs⟩:=Gv (t:=n.c.st.term) (b:=[]) hm hu hv.2;split
  ·exact ⟨L',(hs.of_eq (n:=n) rfl ⟨rfl,rfl,rfl,rfl,rfl⟩).tell fun x hx=>oP hx⟩
  exact ⟨L',hs.of_eq (n:=n) rfl ⟨rfl,rfl,rfl,rfl,rfl⟩⟩
 exact ⟨L,((StepR.refl hm).of_eq (n:=n) rfl ⟨rfl,rfl,rfl,rfl,rfl⟩).tell fun x hx=>oP hx⟩
theorem ZD {s:Stable} {l:List Int}:k<=mf s l k:=by
 unfold mf;split <;> omega
theorem XN (ha:0<=x.a):1<=jv k x:=by
 unfold jv;split
 ·omega
 split <;> omega
theorem XQ (h:NInv n L) (hu:n.d.down=false) (hr:n.c.role=2) (ha:0<=x.a) (hx:x.frm≠n.c.me/\0<=x.frm/\x.frm<n.c.many):∃ L',StepR n L (fP n x).n (fP n x).l L':=by
 have hi:=h.up hu;have hl:=h.ok.len.resolve_left (by omega);generalize hnx:n.nx.set x.frm.toNat (min (jv (n.nx.getD x.frm.toNat 0) x) ((n.c.st.log.length:Int)+1))=nx;generalize hmt:(if x.ok=true then n.mt.set x.frm.toNat (max (n.mt.getD x.frm.toNat 0) (min x.a (n.c.st.log.length:Int))) else n.mt)=mt;have lx:nx.length=n.nx.length:=by rw [<- hnx,aet]
 have lm:mt.length=n.mt.length:=by
  rw [<- hmt];split
  ·rw [aet]
  rfl
 have hn:NInv { n with nx:=nx,mt:=mt } L:=⟨⟨h.ok.d,h.ok.many,h.ok.me,h.ok.log,h.ok.term,h.ok.com,.inr ⟨hl.1,hl.2.1,by dsimp only; rw [lx]; exact hl.2.2.1,by dsimp only; rw [lm]; exact hl.2.2.2⟩,h.ok.rp⟩,h.d,h.le,fun _=>
   ⟨hi.st,hi.bin,hi.role,hi.vote,fun hr i hlt=>by
    dsimp only;rw [<- hnx];by_cases e:x.frm.toNat=i
    ·subst e;rw [List.getD_eq_getElem?_getD,ab3 (by omega)];have:=XN (k:=n.nx.getD x.frm.toNat 0) ha;show 1<=min _ _/\min _ _<=_;omega
    rw [List.getD_eq_getElem?_getD,List.getElem?_set_ne e,<- List.getD_eq_getElem?_getD];exact hi.nx hr i hlt,hi.pl⟩⟩
 have eg:n.Qi x={ ({ n with nx:=nx,mt:=mt }:Nd) with c:={ n.c with commit:=mf n.c.st (mt.set n.c.me.toNat (n.c.st.log.length:Int)) n.c.commit } }:=by
  unfold Nd.Qi;dsimp only;rw [hnx,hmt]
 obtain ⟨k1,k2⟩:=((StepR.refl hn).of_eq (n:=n) rfl ⟨rfl,rfl,rfl,rfl,rfl⟩).commit hu (c:=mf n.c.st (mt.set n.c.me.toNat (n.c.st.log.length:Int)) n.c.commit) ZD (Ns h.ok.com.2.2);dsimp only at k1 k2;rw [<- eg] at k1 k2;obtain ⟨e1,e2,e3,e4,e5,e6⟩:=k2;unfold fP;dsimp only;split
 ·exact ⟨L,k1⟩
 split
 ·rename_i hc;refine ⟨L,k1.tell fun z hz=>?_⟩;rw [aa6.1 hz];exact EB (by rw [e1]; exact hu) (by rw [e6]; exact hr) hc (by rw [e2,e3]; exact hx)
 exact ⟨L,k1⟩
theorem sN (h:NInv n L) (hu:n.d.down=false) (hx:ForMe n x) (hr:n.c.role≠0->x.term<=n.c.st.term):∃ L',StepR n L (bk n x).n (bk n x).l L':=by
 have hb:=fI hx.may;have hne:=pt hx.may;have hto:x.frm≠n.c.me/\0<=x.frm/\x.frm<n.c.many:=⟨by have:=hx.to; omega,by omega,hx.frm⟩;have hi:=h.up hu;have hlen:(aA n.c.st x.term).length<=6:=Nat.le_trans fV (by decide);by_cases hs:n.aN (aA n.c.st x.term)=0;case neg=>
  rw [acd hs];exact kI h hu hlen kM hs
 have y:=oB h hu hlen kM hs;have es:=y.st;rw [(ow (s:=n.c.st) (t:=x.term) (by omega) (by omega)).1] at es;have hq:n.c.role≠0->n.save (aA n.c.st x.term)=n:=fun hr0=>y.no (by unfold aA; rw [if_pos (hr hr0)]);have hsv:StepR n L (n.save (aA n.c.st x.term)) [] (L++aA n.c.st x.term):=lW h hu y (fun hr0=>by rw [hq hr0]; exact hi.vote hr0) (by rw [es]) (by rw [es]) (by rw [es]; exact h.ok.com.2.2) (fun _=>by rw [es]; exact Nat.le_refl _);by_cases h1:¬ x.term=(n.save (aA n.c.st x.term)).c.st.term\/(n.save (aA n.c.st x.term)).c.role=0
 ·rw [acY hs h1]; exact ⟨_,hsv⟩
 rw [not_or] at h1;have h2:n.c.role≠0:=h1.2;have e:=hq h2;rw [Jw hs (acs.1 h1.1) h1.2];unfold awA Tf;rw [e];have hl:=h.ok.len.resolve_left h2;have hA:∀ {vs:List Bool},vs.length=n.vs.length->NInv ⟨n.c,n.d,n.rp,vs,n.bn.set x.frm.toNat x.bin,n.nx,n.mt⟩ L:=fun {vs} hv=>
  ⟨⟨h.ok.d,h.ok.many,h.ok.me,h.ok.log,h.ok.term,h.ok.com,.inr ⟨by dsimp only; rw [hv]; exact hl.1,by dsimp only; rw [aet]; exact hl.2.1,hl.2.2⟩,h.ok.rp⟩,h.d,h.le,fun _=>⟨hi.st,hi.bin,hi.role,hi.vote,hi.nx,hi.pl⟩⟩
 split
 ·rename_i h3;split
  ·obtain ⟨L',k⟩:=aaZ (hA (vs:=n.vs.set x.frm.toNat true) aet) hu h3.2;exact ⟨L',k.of_eq (n:=n) rfl ⟨rfl,rfl,rfl,rfl,rfl⟩⟩
  exact ⟨L,(StepR.refl (hA (vs:=n.vs.set x.frm.toNat true) aet)).of_eq (n:=n) rfl ⟨rfl,rfl,rfl,rfl,rfl⟩⟩
 split
 ·rename_i h4;obtain ⟨L',k⟩:=XQ (x:=x) (hA (vs:=n.vs) rfl) hu h4.2 (by omega) hto;exact ⟨L',k.of_eq (n:=n) rfl ⟨rfl,rfl,rfl,rfl,rfl⟩⟩
 exact ⟨L,(StepR.refl (hA (vs:=n.vs) rfl)).of_eq (n:=n) rfl ⟨rfl,rfl,rfl,rfl,rfl⟩⟩
theorem HG (h:NInv n L):∃ L',StepR n L (bg n x).n (bg n x).l L':=by
 cases hd:n.d.down;case true=>rw [abS hd]; exact ⟨L,.refl h⟩
 cases hm:db n.c x
 ·rw [adX hd hm]; exact ⟨L,.refl h⟩
 have hx:=(xT hm).1;by_cases ht:n.c.st.term<x.term
 ·rw [Nk hd hm ht];have hr:n.follow.c.role≠0->x.term<=n.follow.c.st.term:=fun hr=>absurd rfl hr;have hx':ForMe n.follow x:=⟨hx.may,hx.to,hx.frm⟩;split
  ·obtain ⟨L',k⟩:=FH h.follow hd hx' hr;exact ⟨L',k.lM⟩
  split
  ·rename_i hk;obtain ⟨L',k⟩:=Bq h.follow hd (abC hm) hk;exact ⟨L',k.lM⟩
  obtain ⟨L',k⟩:=sN h.follow hd hx' hr;exact ⟨L',k.lM⟩
 rw [LR hd hm (by omega)];have hr:n.c.role≠0->x.term<=n.c.st.term:=fun _=>by omega
 split
 ·exact FH h hd hx hr
 split
 ·rename_i hk;exact Bq h hd hm hk
 exact sN h hd hx hr
theorem Yx {c:Command} (h:NInv n L):∃ L',StepR n L (cR n c).n [] L':=by
 unfold cR;split
 ·exact ⟨L,.refl h⟩
 rename_i hd;have hu:n.d.down=false:=by simpa using hd
 split
 ·exact ⟨L,.refl h⟩
 rename_i hr;split
 ·exact ⟨L,.refl h⟩
 split
 ·exact ⟨L,.refl h⟩
 split
 ·exact ⟨L,.refl h⟩
 split
 ·exact ⟨L,.refl h⟩
 split
 ·exact ⟨L,.refl h⟩
 rename_i he;have ht:(ei c n.c.st.term n.c.s.version).1.term=n.c.st.term:=by
  unfold ei at he ⊢;split at he
  ·rename_i h1;rw [if_pos h1];split at he
   ·rename_i h2; rw [if_pos h2]
   rename_i h2; exact absurd h2 he
  rename_i h1; exact absurd h1 he
 have h1:=((h.up hu).vote (by omega)).2;obtain ⟨L',k⟩:=Gv (t:=(ei c n.c.st.term n.c.s.version).1.term) (b:=(ei c n.c.st.term n.c.s.version).1.b) h hu (by rw [ht]; exact h1);dsimp only;split
 ·exact ⟨L',k⟩
 exact ⟨L',k⟩
theorem DkI.cD {d:Dsk} {L:List Record} {k:Int} (h:DkI d L):DkI (d.cD k) L/\(d.cD k).b=d.b:=by
 have hy:=h.syn;have ea:d.at_ k=d.b.length:=by unfold Dsk.at_; omega
 have eb:(d.cD k).b=d.b:=by
  show d.b.take (d.at_ k).toNat=d.b;rw [ea,List.take_of_length_le (by omega)]
 refine ⟨⟨h.st,by rw [eb]; exact h.rep,by rw [eb]; exact h.pre,?_,fun hd=>by cases hd⟩,eb⟩;rw [eb]; exact ea
theorem NInv.dead (h:NInv n L) (hc:m.c=n.c/\m.rp=n.rp/\m.vs=n.vs/\m.bn=n.bn/\m.nx=n.nx/\m.mt=n.mt) (hd:m.d.OK) (hk:DkI m.d L') (hl:∀ r ∈ L',r.kind=3->1<=r.b) (hdn:m.d.down=true):NInv m L':=by
 obtain ⟨e1,e2,e3,e4,e5,e6⟩:=hc;exact ⟨⟨hd,by rw [e1]; exact h.ok.many,by rw [e1]; exact h.ok.me,by rw [e1]; exact h.ok.log,by rw [e1]; exact h.ok.term,by rw [e1]; exact h.ok.com,by rw [e1,e3,e4,e5,e6]; exact h.ok.len,by rw [e1,e2]; exact h.ok.rp⟩,hk,hl,fun hu=>by rw [hdn] at hu; cases hu⟩
theorem Uc (h:NInv n L):StepR n L { n with d:=n.d.cD k } [] L:=by
 obtain ⟨h1,h2⟩:=h.d.cD (k:=k);exact ⟨h.dead ⟨rfl,rfl,rfl,rfl,rfl,rfl⟩ (tO h.ok.d) h1 h.le rfl,List.prefix_refl _,⟨rfl,rfl⟩,by dsimp only; rw [h2]; omega,fun _ hx=>(by cases hx),fun _ hd=>by cases hd⟩
theorem Xp (h:NInv n L):StepR n L { n with d:=⟨n.d.b,n.d.synced,n.d.down,true,k⟩ } [] L:=by
 have hd:DkI ⟨n.d.b,n.d.synced,n.d.down,true,k⟩ L:=⟨h.d.st,h.d.rep,h.d.pre,h.d.syn,h.d.up⟩;exact ⟨⟨⟨h.ok.d,h.ok.many,h.ok.me,h.ok.log,h.ok.term,h.ok.com,h.ok.len,h.ok.rp⟩,hd,h.le,fun hu=>⟨(h.up hu).st,(h.up hu).bin,(h.up hu).role,(h.up hu).vote,(h.up hu).nx,(h.up hu).pl⟩⟩,List.prefix_refl _,⟨rfl,rfl⟩,by dsimp only; omega,fun _ hx=>(by cases hx),fun _ _=>⟨aev _,rfl,rfl⟩⟩
theorem XH (h:NInv n L):StepR n L n (bJ n).1 L:=(StepR.refl h).tell fun _ hx=>oP hx
variable {b:Int}
theorem Hx {a:Int} (h:bZ a b=0):1<=a/\a<=3/\1<=b/\b<=a:=by
 unfold bZ at h;split at h
 ·split at h
  ·cases h
  omega
 cases h
theorem JX {s:Stable} (h1:1<=b) (h2:b<=3) (h:s.floor<b):stepsF s [⟨1,b,0,[]⟩]=({ s with floor:=b },0):=by
 have e:aM s ⟨1,b,0,[]⟩=({ s with floor:=b },0):=by
  refine nq (afI ⟨rfl,h1,h2,rfl,rfl⟩) ?_;rw [eL,if_pos rfl,dP,if_neg (by dsimp only; omega)]
 rw [jI (by rw [e]),e]
theorem FJ (h:NInv n L):∃ L',StepR n L (aV n b).n [] L':=by
 cases hd:n.d.down;case false=>rw [ad8 hd]; exact ⟨L,.refl h⟩
 by_cases hs:bZ b (max (replayF n.d.b).1.floor 1)=0;case neg=>rw [abk hd hs]; exact ⟨L,.refl h⟩
 obtain ⟨b1,b2,b3,b4⟩:=Hx hs;obtain ⟨c1,c2,c3⟩:=xr hd h.ok.d;have hrep:=h.d.rep;obtain ⟨t,ht⟩:=h.d.pre;have hrg:=mR n.d.b
 -- its disk
 have hb:n.d.b.take (replayF n.d.b).2.toNat=encL L:=by
  rw [hrep,ht];dsimp only;rw [aef,List.take_left]
 have hfd:(n.fr b).d=⟨encL L,((encL L).length:Int),false,false,0⟩:=by
  show (if n.d.down=true then n.d.up else n.d).cut (replayF n.d.b).2=_;rw [c3,hb,hrep]
 have hdk:DkI (n.fr b).d L:=by rw [hfd]; exact DkI.enc h.d.st rfl rfl
 have hst:(n.fr b).c.st=(stepsF sta0 L).1:=by show (replayF n.d.b).1=_; rw [hrep]
 have hok:NdOK (n.fr b):=⟨c1,h.ok.many,h.ok.me,hrg.1.1,hrg.1.2,⟨aev 0,aev 0,Int.natCast_nonneg _⟩,.inl rfl,rfl⟩;have hlen:(n.fr b).d.b.length<=n.d.b.length:=by
  rw [hfd,ht];show (encL L).length<=_;rw [List.length_append]; omega
 have hpl:okPl b ((replayF n.d.b).1.log.take 0)/\fr0=pS b fr0 ((replayF n.d.b).1.log.take 0)/\([]:List Reply)=pR b fr0 ((replayF n.d.b).1.log.take 0):=⟨fun x hx=>(by cases hx),rfl,rfl⟩;by_cases hf:(replayF n.d.b).1.floor<b;case neg=>
  rw [aat hd hs (by omega)];exact ⟨L,⟨hok,hdk,h.le,fun _=>⟨hst,⟨b1,b2,by show (replayF n.d.b).1.floor=b; omega⟩,⟨aev 0,(by decide:(0:Int)<=2)⟩,fun hr=>absurd rfl hr,fun hr=>absurd (show (0:Int)=2 from hr) (by decide),hpl⟩⟩,List.prefix_refl _,⟨rfl,rfl⟩,by show (n.fr b).d.b.length<=_; omega,fun _ hx=>(by cases hx),fun hu=>by rw [hd] at hu; cases hu⟩
 have hup:(n.fr b).d.down=false:=by rw [hfd]
 have hsr:=Dz (l:=[⟨1,b,0,[]⟩]) hdk hup hst;have hl:=sG hsr (by simp);have hk3:∀ (i:Nat),∀ r ∈ L++[Record.mk 1 b 0 []].take i,r.kind=3->1<=r.b:=fun i r hr=>by
  rcases List.mem_append.1 hr with hr | hr
  ·exact h.le r hr
  exact IK (by decide) r (aiR hr)
 by_cases he:(n.fr b).aN [⟨1,b,0,[]⟩]=0
 ·rw [WT hd hs hf he];obtain ⟨k1,k2,k3,k4,k5,k6,k7,k8⟩:=hsr.ok he;have es:((n.fr b).save [⟨1,b,0,[]⟩]).c.st={ (n.fr b).c.st with floor:=b }:=by
   show (saveF _ _ _).2.1=_;rw [k3,JX b1 b2 hf]
  refine ⟨L++[⟨1,b,0,[]⟩],⟨⟨qA c1,h.ok.many,h.ok.me,by rw [es]; exact hrg.1.1,by rw [es]; exact hrg.1.2,⟨aev 0,aev 0,Int.natCast_nonneg _⟩,.inl rfl,rfl⟩,k2,fun r hr=>hk3 1 r hr,fun _=>⟨?_,⟨b1,b2,by rw [es]⟩,⟨aev 0,(by decide:(0:Int)<=2)⟩,fun hr=>absurd rfl hr,fun hr=>absurd (show (0:Int)=2 from hr) (by decide),?_⟩⟩,List.prefix_append _ _,⟨rfl,rfl⟩,by show (saveF (n.fr b).d (n.fr b).c.st _).1.b.length<=_; omega,fun _ hx=>(by cases hx),fun hu=>by rw [hd] at hu; cases hu⟩
  ·show (saveF _ _ _).2.1=_;rw [k3,dr h.d.st,<- hst]
  show okPl b (((n.fr b).save [⟨1,b,0,[]⟩]).c.st.log.take 0)/\fr0=pS b fr0 (((n.fr b).save [⟨1,b,0,[]⟩]).c.st.log.take 0)/\([]:List Reply)=pR b fr0 (((n.fr b).save [⟨1,b,0,[]⟩]).c.st.log.take 0);rw [es]; exact hpl
 rw [aaD hd hs hf he];obtain ⟨k1,k2,k3⟩:=hsr.no he;have ec:((n.fr b).save [⟨1,b,0,[]⟩]).c=(n.fr b).c:=by rw [Qb,k1]
 have hL:∃ i,DkI ((n.fr b).save [⟨1,b,0,[]⟩]).d (L++[Record.mk 1 b 0 []].take i):=by
  rcases k3 with ⟨k3,_⟩ | ⟨_,_,_,_,i,_,k3⟩
  ·exact ⟨0,by rw [ai7,adI,Cs,k3]; exact hdk⟩
  exact ⟨i,k3⟩
 obtain ⟨i,hi⟩:=hL;obtain ⟨q1,q2⟩:=hi.cD (k:=0);refine ⟨_,⟨⟨tO (qA c1),h.ok.many,h.ok.me,by rw [ec]; exact hrg.1.1,by rw [ec]; exact hrg.1.2,⟨aev 0,aev 0,Int.natCast_nonneg _⟩,.inl rfl,rfl⟩,q1,hk3 i,fun hu=>by cases hu⟩,yT,⟨rfl,rfl⟩,?_,fun _ hx=>(by cases hx),fun hu=>by rw [hd] at hu; cases hu⟩;show (((n.fr b).save [⟨1,b,0,[]⟩]).d.cD 0).b.length<=_;rw [q2];show (saveF (n.fr b).d (n.fr b).c.st _).1.b.length<=_;omega
structure ToldN where
 l:List Letter
 a:Int
 b:Int
 e:Int
def ug (x:Letter):Letter:={ x with l:=(x.l.take 6).map fun y=>⟨y.term,y.b.take 250⟩ }
def mc (c:Command):Command:={ c with chunks:=c.chunks.take 12,text:=⟨c.text.b.take 40⟩ }
noncomputable def cu (n:Nd) (o:NOp):Nd × ToldN:=
 if o.kind.toNat % 8=0 then ((aV n o.n).n,⟨[],0,0,(aV n o.n).e⟩)
 else if o.kind.toNat % 8=1 then ((bj n).n,⟨(bj n).l,0,0,(bj n).e⟩)
 else if o.kind.toNat % 8=2 then (n,⟨(bJ n).1,0,0,(bJ n).2⟩)
 else if o.kind.toNat % 8=3 then ((bg n (ug o.x)).n,⟨(bg n (ug o.x)).l,0,0,(bg n (ug o.x)).e⟩)
 else if o.kind.toNat % 8=4 then ((cR n (mc o.c)).n,⟨[],(cR n (mc o.c)).a,(cR n (mc o.c)).b,(cR n (mc o.c)).e⟩)
 else if o.kind.toNat % 8=5 then ({ n with d:=⟨n.d.b,n.d.synced,n.d.down,true,o.n⟩ },⟨[],0,0,0⟩)
 else if o.kind.toNat % 8=6 then ({ n with d:=n.d.cD o.n },⟨[],0,0,0⟩)
 else (n,⟨[],0,0,0⟩)
variable {o:NOp}
theorem ZX (h:NInv n L):∃ L',StepR n L (cu n o).1 (cu n o).2.l L':=by
 unfold cu;split
 ·exact FJ h
 split
 ·exact HC h
 split
 ·exact ⟨L,XH h⟩
 split
 ·exact HG h
 split
 ·exact Yx h
 split
 ·exact ⟨L,Xp h⟩
 split
 ·exact ⟨L,Uc h⟩
 exact ⟨L,.refl h⟩
theorem Fv {me many:Int} (h:3<=many/\many<=5/\0<=me/\me<many):NInv (gW me many) []:=
 ⟨⟨⟨aev 0,aev 0,Nat.zero_le _⟩,⟨h.1,h.2.1⟩,h.2.2,Nat.zero_le _,⟨aev 0,(by decide:(0:Int)<=1048576)⟩,⟨aev 0,aev 0,Int.natCast_nonneg _⟩,.inl rfl,rfl⟩,⟨rfl,sR (L:=[]) rfl,⟨[],rfl⟩,rfl,fun _=>rfl⟩,fun r hr=>(by cases hr),fun hu=>(by cases hu)⟩
abbrev tmL (L:List Record):Int:=(stepsF sta0 L).1.term
abbrev voL (L:List Record):Int:=(stepsF sta0 L).1.vote
structure SMono (s t:Stable):Prop where
 term:s.term<=t.term
 floor:s.floor<=t.floor
 vote:s.term=t.term->s.vote≠0->t.vote=s.vote
theorem SMono.refl (s:Stable):SMono s s:=⟨aev _,aev _,fun _ _=>rfl⟩
variable {t:Stable}
theorem SMono.trans {s u:Stable} (h:SMono s t) (k:SMono t u):SMono s u:=⟨agu h.term k.term,agu h.floor k.floor,fun e hv=>by
 have h1:=h.term;have h2:=k.term;have h3:=h.vote (by omega) hv;rw [k.vote (by omega) (by rw [h3]; exact hv),h3]⟩
theorem CX {s:Stable} (h:eL s r=some t):SMono s t:=by
 unfold eL dP fy dC fM at h;split at h
 ·split at h <;> cases h;exact ⟨aev _,by dsimp only; omega,fun _ _=>rfl⟩
 split at h
 ·split at h <;> cases h;rename_i h1;rw [not_or] at h1;exact ⟨by dsimp only; omega,aev _,fun e hv=>by
   dsimp only at e ⊢;by_cases q:s.vote=r.b
   ·exact q.symm
   exact absurd ⟨⟨e.symm,hv⟩,q⟩ h1.2⟩
 split at h
 ·split at h <;> cases h;exact ⟨aev _,aev _,fun _ _=>rfl⟩
 split at h <;> cases h;exact ⟨aev _,aev _,fun _ _=>rfl⟩
theorem rF:∀ {l:List Record} {s:Stable},SMono s (stepsF s l).1
 | [],s=>.refl s
 | r :: l,s=>by
  rw [stepsF];split
  ·rename_i h;exact (CX (lS h).2).trans rF
  exact .refl s
theorem Kv (h:L <+: L') (hL:(stepsF sta0 L).2=0):SMono (stepsF sta0 L).1 (stepsF sta0 L').1:=by
 obtain ⟨l,rfl⟩:=h;rw [dr hL]; exact rF
def voteOf (x:Letter):Int:=if x.kind=1 then 2 else x.to+1
structure Gave (L:List Record) (x:Letter):Prop where
 kind:x.kind=1\/(x.kind=2/\x.ok=true)
 to:x.to≠1/\0<=x.to
 at_:x.term<=tmL L/\(x.term=tmL L->voL L=voteOf x)
theorem Gave.vote (h:x.to≠1/\0<=x.to):voteOf x≠0:=by
 unfold voteOf;split <;> omega
theorem Gave.mono (h:Gave L x) (hp:L <+: L') (hL:(stepsF sta0 L).2=0):Gave L' x:=by
 have m:=Kv hp hL;refine ⟨h.kind,h.to,agu h.at_.1 m.term,fun e=>?_⟩;have h1:=h.at_.1;have h2:tmL L<=tmL L':=m.term;have h3:=h.at_.2 (by omega);have h4:=m.vote (show tmL L=tmL L' by omega) (by show voL L≠0; rw [h3]; exact Gave.vote h.to);rw [<- h3]; exact h4
structure VI (n:Nd) (g:List Letter):Prop where
 ex:∃ L,NInv n L/\∀ x ∈ g,Gave L x
 me:n.c.me=1/\n.c.many=5
structure VT (n:Nd) (g l:List Letter):Prop where
 vi:VI n g
 l:∀ x ∈ l,LetI n x
theorem VI.ok {n:Nd} {g:List Letter} (h:VI n g):NdOK n:=by
 obtain ⟨L,h1,_⟩:=h.ex;exact h1.ok
theorem aie:VI (gW 1 5) []:=⟨⟨[],Fv ⟨by decide,by decide,by decide,by decide⟩,fun _ hx=>by cases hx⟩,rfl,rfl⟩
theorem Qn {g:List Letter} (h:VI n g):VT (cu n o).1 g (cu n o).2.l:=by
 obtain ⟨L,h1,h2⟩:=h.ex;obtain ⟨L',k⟩:=ZX (o:=o) h1;exact ⟨⟨⟨L',k.inv,fun x hx=>(h2 x hx).mono k.pre h1.d.st⟩,by rw [k.me.1,k.me.2]; exact h.me⟩,k.lets⟩
variable {k:Nat}
theorem Dy {g:List Letter} (h:VT n g l) (hx:l[k]? = some x):LetI n x:=h.l x (acQ hx)
theorem Ft {g:List Letter} (h:VT n g l) (hx:l[k]? = some x) (hk:x.kind=1\/(x.kind=2/\x.ok=true)):VT n (g++[x]) l:=by
 obtain ⟨L,h1,h2⟩:=h.vi.ex;have hl:=Dy h hx;have hi:=h1.up hl.up;refine ⟨⟨⟨L,h1,fun y hy=>?_⟩,h.vi.me⟩,h.l⟩;rcases List.mem_append.1 hy with hy | hy
 ·exact h2 y hy
 rw [aa6.1 hy];have ht:=hl.term;rw [hi.st] at ht;refine ⟨hk,⟨by have:=hl.to.1; rw [h.vi.me.1] at this; exact this,hl.to.2.1⟩,Int.le_of_eq ht,fun _=>?_⟩;show (stepsF sta0 L).1.vote=_;rw [<- hi.st];unfold voteOf;rcases hk with hk | ⟨hk,ho⟩
 ·rw [if_pos hk,hl.ask hk,h.vi.me.1]; rfl
 rw [if_neg (by omega),hl.vote hk ho]
theorem TL {g:List Letter} {j:Nat} {y:Letter} (h:VT n g l) (hx:l[k]? = some x) (hk:x.kind=1\/(x.kind=2/\x.ok=true)) (hy:g[j]? = some y) (ht:y.term=x.term):(decide (x.kind=1)=decide (y.kind=1))/\(¬ x.kind=1->y.to=x.to):=by
 obtain ⟨L,h1,h2⟩:=(Ft h hx hk).vi.ex;have gx:=h2 x (by simp);have gy:=h2 y (abc _ (acQ hy));have hl:=Dy h hx;have e:x.term=tmL L:=by
  have ht:=hl.term;rw [(h1.up hl.up).st] at ht; exact ht
 have e1:=gx.at_.2 e;have e2:=gy.at_.2 (by omega);have e3:voteOf x=voteOf y:=by rw [<- e1,<- e2]
 unfold voteOf at e3;have tx:=gx.to;have ty:=gy.to;by_cases q1:x.kind=1 <;> by_cases q2:y.kind=1
 ·simp [q1,q2]
 ·rw [if_pos q1,if_neg q2] at e3; omega
 ·rw [if_neg q1,if_pos q2] at e3; omega
 rw [if_neg q1,if_neg q2] at e3;refine ⟨by simp [q1,q2],fun _=>by omega⟩
variable {l:List Entry}
theorem acm {y:Entry} (hy:l[k]? = some y):(l.take k).map (fun z:Entry=>(⟨z.term,z.b.take 250⟩:Entry))++[Entry.mk y.term (y.b.take 250)]=(l.take (k+1)).map (fun z:Entry=>(⟨z.term,z.b.take 250⟩:Entry)):=by
 rw [ai hy,List.map_append]; rfl
theorem aij {y:Entry} (hy:l[k]? = some y) (h:(y.b.length:Int)<=250):(l.take k).map (fun z:Entry=>(⟨z.term,z.b.take 250⟩:Entry))++[y]=(l.take (k+1)).map (fun z:Entry=>(⟨z.term,z.b.take 250⟩:Entry)):=by
 rw [<- acm hy,List.take_of_length_le (l:=y.b) (by omega)]
theorem agL (h1:k<=6) (h:(l.length:Int)<=k\/6<=(k:Int)):(l.take k).map (fun z:Entry=>(⟨z.term,z.b.take 250⟩:Entry))=(l.take 6).map (fun z:Entry=>(⟨z.term,z.b.take 250⟩:Entry)):=by
 by_cases e:k=6
 ·rw [e]
 rw [List.take_of_length_le (by omega),List.take_of_length_le (by omega)]
theorem adg:NInv (gW 0 3) []:=Fv ⟨by decide,by decide,by decide,by decide⟩
noncomputable abbrev sw1:NdR:=aV (gW 0 3) 1
noncomputable abbrev sw2:=bj sw1.n
theorem ahr:NdOK sw1.n:=let ⟨_,h⟩:=FJ (b:=1) adg; h.inv.ok
theorem ait:(decide (sw1.e=0) && decide (sw2.e=0) && decide ((sw2.l.length:Int)=2) && decide ((sw2.l.getD 0 (au (.nm .letter))).kind=1) && decide ((sw2.l.getD 1 (au (.nm .letter))).to=2) && decide ((sw2.l.getD 0 (au (.nm .letter))).term=1) && decide ((lC sw2.n).role=1))=true:=bE
def Im (x:Letter):List (Nat × LI):=[(3,{ σ:=Nat,F:=fun k=>([(1,one (.ptr 0 0)),(2,one (.ptr 1 0)),(3,one (.own 2)),(4,one (.int k))],[.box 40 (cellsOf (.nm .letter) (x)),.box 40 (cellsOf (.nm .letter) (cF)),.row 52 (.nm .entry) (((x.l.take k).map (fun z:Entry=>(⟨z.term,z.b.take 250⟩:Entry))))]),J:=fun k=>k<=x.l.length/\k<=6,μ:=fun k=>6 - k })]
noncomputable def r_:Kn:=aK (ae (kT (.nm .letter)) ao) aw fun (x,_) _=>⟨[],[.agg (cellsOf (.nm .letter) (ug x))],none,false⟩
theorem Dv:CK 23 r_:=ag fun (x,_) _ _=>by
 refine av kR (Im x) Tryz.func23 (?_:(fun (q2:Nat)=>(fun (q1:Nat)=>(fun (q0:Int)=>aJ x (∃ (s0:Nat),(q0=(↑s0:Int)/\gV x x (q0=cF.kind/\q0=cF.frm/\q0=cF.to/\q0=cF.term/\q0=cF.a/\q0=cF.b/\q0=cF.c/\q0=cF.bin/\false=cF.ok/\cF.l=[]/\List.map (fun (z:Entry)=>Entry.mk z.term (List.take q1 z.b)) (List.take s0 x.l)=[]))/\(s0<=x.l.length/\s0<=q2)/\∀ (s:Nat),(fun (q4:Int)=>(fun (q3:List (den (Sh.nm NT.entry)))=>s<=x.l.length/\s<=q2->((↑s:Int)<(↑x.l.length:Int)/\(↑s:Int)<6->q0<=(↑s:Int)/\(↑s:Int)<(↑x.l.length:Int)/\∀ (x_1:Entry),x.l[s]? = some x_1->I64 x_1.term->x_1.b.length*1<=140737488355328->(250<(↑x_1.b.length:Int)->q0<=250/\250<=(↑x_1.b.length:Int)/\(q3.length+[Entry.mk x_1.term (List.take q1 x_1.b)].length)*32<=140737488355328/\I64 q4/\∃ (s':Nat),(q4=(↑s':Int)/\gV x x (gV cF cF (q3++[Entry.mk x_1.term (List.take q1 x_1.b)]=List.map (fun (z:Entry)=>Entry.mk z.term (List.take q1 z.b)) (List.take s' x.l))))/\(s' <= x.l.length/\s' <= q2)/\q2 - s' < q2 - s)/\((↑x_1.b.length:Int)<=250->(q3.length+[x_1].length)*32<=140737488355328/\I64 q4/\∃ (s':Nat),(q4=(↑s':Int)/\gV x x (gV cF cF (q3++[x_1]=List.map (fun (z:Entry)=>Entry.mk z.term (List.take q1 z.b)) (List.take s' x.l))))/\(s' <= x.l.length/\s' <= q2)/\q2 - s' < q2 - s))/\((↑x.l.length:Int)<=(↑s:Int)\/6<=(↑s:Int)->nN (Letter.mk x.kind x.frm x.to x.term x.a x.b x.c x.bin x.ok q3) (ug x))) (List.map (fun (z:Entry)=>Entry.mk z.term (List.take q1 z.b)) (List.take s x.l))) ((↑s:Int)+1))) 0) 250) 6);iterate 3 ((all_goals (repeat' with_reducible first|apply aZ|refine aY ?_|intro)); (all_goals try (first | exact bt | exact rfl | exact (acm ab) | exact (aij ab ab) | exact (agL aL ab) | (simp only [List.length_map,List.length_take,List.length_cons,List.length_nil]; omega))); all_goals try first | refine ⟨‹Nat› + 1,?_⟩ | refine ⟨0,?_⟩)
noncomputable def Fk:Kn:=aK (ae (kT (.nm .command)) ao) aw fun (c,_) _=>⟨[],[.agg (cellsOf (.nm .command) (mc c))],none,false⟩
theorem QJ:CK 32 Fk:=ag fun (c,_) _ _=>by
 refine av kR [] Tryz.func32 (?_:(fun q2=>(fun q1=>(fun q0=>bB c (((12:Int)<q2->(0:Int)<=(12:Int)/\(12:Int)<=q2/\(q1<q0->(0:Int)<=q1/\q1<=q0/\aP (Command.mk c.kind c.client c.seq c.set c.id c.n (List.take (12:Nat) c.chunks) (Str.mk (List.take (40:Nat) c.text.b))) (mc c))/\(q0<=q1->aP (Command.mk c.kind c.client c.seq c.set c.id c.n (List.take (12:Nat) c.chunks) c.text) (mc c)))/\(q2<=(12:Int)->(q1<q0->(0:Int)<=q1/\q1<=q0/\aP (Command.mk c.kind c.client c.seq c.set c.id c.n c.chunks (Str.mk (List.take (40:Nat) c.text.b))) (mc c))/\(q0<=q1->aP c (mc c))))) (↑c.text.b.length:Int)) (40:Int)) (↑c.chunks.length:Int));(repeat' with_reducible first|apply aZ|refine aY ?_|intro)
 all_goals (first | exact bt | exact rfl | (dsimp only [mc]; first | exact (List.take_of_length_le aL).symm | exact Lb aL))
noncomputable def Gi:Kn:=aK (ae (kC (cL (.nm .nop))) ao) aw fun (l,_) _=>⟨[],[.c (.fz (.nm .nop) ((l.take 40)))],none,false⟩
theorem TA:CK 18 Gi:=ag fun (l,_) _ _=>by
 refine av kR [] Tryz.func18 (?_:l.length*(200:Nat)<=(140737488355328:Nat)->((40:Int)<(↑l.length:Int)->(0:Int)<=(40:Int)/\(40:Int)<=(↑l.length:Int)/\List.take (40:Nat) l=List.take (40:Nat) l)/\((↑l.length:Int)<=(40:Int)->l=List.take (40:Nat) l));(repeat' with_reducible first|apply aZ|refine aY ?_|intro)
 all_goals (first | exact bt | exact rfl | exact (List.take_of_length_le aL).symm)
noncomputable def vn:Kn:=aK ao aw fun _ _=>⟨[],[.c (.bool (.atom ((true))))],none,false⟩
theorem HO:CK 11 vn:=ag fun _ _ _=>by
 refine av kR [] Tryz.func11 (?_:(fun q9=>(fun q8=>(fun q7=>(fun q6=>(fun q5=>(fun q4=>(fun q3=>(fun q2=>(fun q1=>(fun q0=>(fun q15=>(fun q14=>(fun q13=>(fun q16=>(fun q12=>(fun q11=>(fun q17=>(fun q10=>(fun q18=>(q9<=q9/\q9<=5/\q3<=q3/\q3<q9)/\(I64 q3->(false=true\/¬q3=q3->false=true)/\(false=false/\q3=q3->NdOK (gW q3 q9)/\(I64 q2.e->NdOK q2.n/\(q0.l.length*96<=q8->I64 q0.e->(q14->q3<=q3/\q3<q15)/\((q14->q17)->(q10->q3<=q6/\q6<q15)/\((q10->I64 q12.kind/\I64 q12.frm/\I64 q12.to/\I64 q12.term/\I64 q12.a/\I64 q12.b/\I64 q12.c/\I64 q12.bin/\q12.l.length*32<=q8)->(q18->q3<=q3/\q3<q15)/\((q18->q17)->(q18/\q11.term=q6->I64 q13.role/\I64 q13.binary/\I64 q13.floor/\I64 q13.term/\I64 q13.vote/\I64 q13.commit/\I64 q13.applied/\q13.log.length*32<=q8/\I64 q16.version/\I64 q16.next/\I64 q16.keep/\I64 q16.quota/\q16.sess.length*32<=q8/\q16.opens.length*16<=q8/\q16.snaps.length*64<=q8)->(decide (q2.e=q3) && decide (q0.e=q3) && decide (q15=q7) && decide (q11.kind=q6) && decide (q12.to=q7) && decide (q11.term=q6) && decide (q13.role=q6))=true)))))))) (q10/\q12.to=q7)) (q14/\q11.kind=q6)) (I64 q11.kind/\I64 q11.frm/\I64 q11.to/\I64 q11.term/\I64 q11.a/\I64 q11.b/\I64 q11.c/\I64 q11.bin/\q11.l.length*32<=q8)) (q0.l.getD q4 q1)) (q0.l.getD q5 q1)) q13.state) (lC q0.n)) ((q2.e=q3/\q0.e=q3)/\q15=q7)) (↑q0.l.length:Int)) (bj q2.n)) (au (Sh.nm NT.letter))) (aV (gW q3 q9) q6)) (0:Int)) (0:Nat)) (1:Nat)) (1:Int)) (2:Int)) (140737488355328:Nat)) (3:Int));(repeat' with_reducible first|apply aZ|refine aY ?_|intro)
 all_goals (first | exact bt | exact rfl | exact adg.ok | exact ahr | exact ait | (simp_all; done))
noncomputable def UO:bN:=(aO 11 vn (aO 18 Gi (aO 32 Fk (aO 23 r_ Vx))))
theorem BF:ay Tryz.prog (al tyT) UO:=(ah HO (ah TA (ah QJ (ah Dv kR))))
section
variable {n:Nd} {o:NOp} {k:UInt8}
theorem o7:(k &&& UInt8.ofNat 7).toNat=k.toNat % 8:=by
 rw [UInt8.toNat_and]; exact Nat.and_two_pow_sub_one_eq_mod k.toNat 3
variable {i:Nat}
theorem Cq (h:((k &&& UInt8.ofNat 7).toNat:Int)=((UInt8.ofNat i).toNat:Int)) (hi:i<8):k.toNat % 8=i:=by
 rw [o7,show (UInt8.ofNat i).toNat=i by rw [UInt8.toNat_ofNat']; omega] at h; omega
theorem Cd (h:¬((k &&& UInt8.ofNat 7).toNat:Int)=((UInt8.ofNat i).toNat:Int)) (hi:i<8):¬k.toNat % 8=i:=by
 rw [o7,show (UInt8.ofNat i).toNat=i by rw [UInt8.toNat_ofNat']; omega] at h; omega
theorem ahO (h:((o.kind &&& UInt8.ofNat 7).toNat:Int)=((UInt8.ofNat 0).toNat:Int)):cu n o=((aV n o.n).n,⟨[],0,0,(aV n o.n).e⟩):=by
 have e:=Cq h (by decide); simp [cu,e]
theorem agl (h:((o.kind &&& UInt8.ofNat 7).toNat:Int)=((UInt8.ofNat 1).toNat:Int)):cu n o=((bj n).n,⟨(bj n).l,0,0,(bj n).e⟩):=by
 have e:=Cq h (by decide); simp [cu,e]
theorem agV (h:((o.kind &&& UInt8.ofNat 7).toNat:Int)=((UInt8.ofNat 2).toNat:Int)):cu n o=(n,⟨(bJ n).1,0,0,(bJ n).2⟩):=by
 have e:=Cq h (by decide); simp [cu,e]
theorem agO (h:((o.kind &&& UInt8.ofNat 7).toNat:Int)=((UInt8.ofNat 3).toNat:Int)):cu n o=((bg n (ug o.x)).n,⟨(bg n (ug o.x)).l,0,0,(bg n (ug o.x)).e⟩):=by
 have e:=Cq h (by decide); simp [cu,e]
theorem ahI (h:((o.kind &&& UInt8.ofNat 7).toNat:Int)=((UInt8.ofNat 4).toNat:Int)):cu n o=((cR n (mc o.c)).n,⟨[],(cR n (mc o.c)).a,(cR n (mc o.c)).b,(cR n (mc o.c)).e⟩):=by
 have e:=Cq h (by decide); simp [cu,e]
theorem aiq (h:((o.kind &&& UInt8.ofNat 7).toNat:Int)=((UInt8.ofNat 5).toNat:Int)):cu n o=({ n with d:=⟨n.d.b,n.d.synced,n.d.down,true,o.n⟩ },⟨[],0,0,0⟩):=by
 have e:=Cq h (by decide); simp [cu,e]
theorem ahp (h:((o.kind &&& UInt8.ofNat 7).toNat:Int)=((UInt8.ofNat 6).toNat:Int)):cu n o=({ n with d:=n.d.cD o.n },⟨[],0,0,0⟩):=by
 have e:=Cq h (by decide); simp [cu,e]
theorem afj (h0:¬((o.kind &&& UInt8.ofNat 7).toNat:Int)=((UInt8.ofNat 0).toNat:Int)) (h1:¬((o.kind &&& UInt8.ofNat 7).toNat:Int)=((UInt8.ofNat 1).toNat:Int)) (h2:¬((o.kind &&& UInt8.ofNat 7).toNat:Int)=((UInt8.ofNat 2).toNat:Int)) (h3:¬((o.kind &&& UInt8.ofNat 7).toNat:Int)=((UInt8.ofNat 3).toNat:Int)) (h4:¬((o.kind &&& UInt8.ofNat 7).toNat:Int)=((UInt8.ofNat 4).toNat:Int)) (h5:¬((o.kind &&& UInt8.ofNat 7).toNat:Int)=((UInt8.ofNat 5).toNat:Int)) (h6:¬((o.kind &&& UInt8.ofNat 7).toNat:Int)=((UInt8.ofNat 6).toNat:Int)):cu n o=(n,⟨[],0,0,0⟩):=by
 simp [cu,Cd h0 (by decide),Cd h1 (by decide),Cd h2 (by decide),Cd h3 (by decide),Cd h4 (by decide),Cd h5 (by decide),Cd h6 (by decide)]
end
noncomputable def BB:Kn:=aK (ae (kC (aX 0 0)) (ae (kT (.nm .nop)) ao)) tY fun (_,o,_) n=>⟨[NdOK n],[.agg ([.fz (.nm .letter) (((cu n o).2.l)),.int (((cu n o).2.a)),.int (((cu n o).2.b)),.int (((cu n o).2.e))])],some ((kU ((cu n o).1))),false⟩
theorem NG:CK 19 BB:=ag fun (_,o,_) n hp=>by
 have h0:=cc hp;refine br BF [] Tryz.func19 (?_:(fun q6=>(fun q5=>(fun q4=>(fun q3=>(fun q2=>(fun q1=>(fun q9=>(fun q8=>(fun q7=>(fun q0=>VW o ((q0=(↑(UInt8.ofNat 0).toNat:Int)->NdOK n/\(I64 (aV n o.n).e->q9/\q7/\q8/\(aV n o.n).e=q1.e/\bY (aV n o.n).n q4))/\(¬q0=(↑(UInt8.ofNat 0).toNat:Int)->(q0=(↑(UInt8.ofNat 1).toNat:Int)->NdOK n/\(q6.l.length*96<=140737488355328->I64 q6.e->q6.l=q1.l/\q7/\q8/\q6.e=q1.e/\bY q6.n q4))/\(¬q0=(↑(UInt8.ofNat 1).toNat:Int)->(q0=(↑(UInt8.ofNat 2).toNat:Int)->n.c.many<=5/\(n.c.role=q2\/(↑n.nx.length:Int)=n.c.many)/\((bJ n).fst.length*96<=140737488355328->I64 (bJ n).snd->(bJ n).fst=q1.l/\q7/\q8/\(bJ n).snd=q1.e/\bY n q4))/\(¬q0=(↑(UInt8.ofNat 2).toNat:Int)->(q0=(↑(UInt8.ofNat 3).toNat:Int)->aJ (ug o.x) (NdOK n/\(q5.l.length*96<=140737488355328->I64 q5.e->q5.l=q1.l/\q7/\q8/\q5.e=q1.e/\bY q5.n q4)))/\(¬q0=(↑(UInt8.ofNat 3).toNat:Int)->(q0=(↑(UInt8.ofNat 4).toNat:Int)->bB (mc o.c) (NdOK n/\(I64 q3.a->I64 q3.b->I64 q3.e->q9/\q3.a=q1.a/\q3.b=q1.b/\q3.e=q1.e/\bY q3.n q4)))/\(¬q0=(↑(UInt8.ofNat 4).toNat:Int)->(q0=(↑(UInt8.ofNat 5).toNat:Int)->q9/\q7/\q8/\q2=q1.e/\bY (Nd.mk n.c (Dsk.mk n.d.b n.d.synced n.d.down true o.n) n.rp n.vs n.bn n.nx n.mt) q4)/\(¬q0=(↑(UInt8.ofNat 5).toNat:Int)->(q0=(↑(UInt8.ofNat 6).toNat:Int)->(q2<=n.d.synced/\n.d.synced<=(↑n.d.b.length:Int)/\n.d.b.length<=65536)/\q9/\q7/\q8/\q2=q1.e/\bY (Nd.mk n.c (n.d.cD o.n) n.rp n.vs n.bn n.nx n.mt) q4)/\(¬q0=(↑(UInt8.ofNat 6).toNat:Int)->q9/\q7/\q8/\q2=q1.e/\bY n q4))))))))) (↑(o.kind &&& UInt8.ofNat 7).toNat:Int)) (q2=q1.a)) (q2=q1.b)) (q1.l=[])) (cu n o).snd) (0:Int)) (cR n (mc o.c))) (cu n o).fst) (bg n (ug o.x))) (bj n));obtain ⟨o1,o2,o3⟩:=id h0.d;(repeat' with_reducible first|apply aZ|refine aY ?_|intro)
 all_goals (first | exact bt | exact h0 | exact h0.many.2 | exact (h0.len.imp_right fun h=>h.2.2.1) | (rw [ahO (n:=n) (o:=o) ab] <;> rfl) | (rw [agl (n:=n) (o:=o) ab] <;> rfl) | (rw [agV (n:=n) (o:=o) ab] <;> rfl) | (rw [agO (n:=n) (o:=o) ab] <;> rfl) | (rw [ahI (n:=n) (o:=o) ab] <;> rfl) | (rw [aiq (n:=n) (o:=o) ab] <;> rfl) | (rw [ahp (n:=n) (o:=o) ab] <;> rfl) | (rw [afj (n:=n) (o:=o) ab ab ab ab ab ab ab] <;> rfl))
noncomputable def aby:bN:=(aO 19 BB UO)
theorem MT:ay Tryz.prog (al tyT) aby:=(ah NG BF)
structure ZOv where
 i:Nat
 n:Nd
 g:List Letter
structure ZMv where
 o:ZOv
 n:Nd
 t:ToldN
 k:Nat
 g:List Letter
structure ZNv where
 m:ZMv
 x:Letter
 j:Nat
section
variable {n:Nd} {g l:List Letter} {k j:Nat} {x d:Letter} {o:NOp}
theorem Wr:(bJ n).1.length<=n.c.many.toNat:=by
 unfold bJ;split
 ·exact Nat.zero_le _
 split
 ·exact Nat.le_trans Cc lJ
 exact Nat.zero_le _
theorem aa3 {c:NdC}:(fp c).length<=c.many.toNat:=by
 unfold fp; rw [List.length_map]; exact lJ
theorem acC (h:n.c.many<=5):(bg n x).l.length<=5:=by
 unfold bg;split
 ·exact Nat.zero_le _
 split
 ·exact Nat.zero_le _
 have hm:(if n.c.st.term<x.term then n.follow else n).c.many<=5:=by split <;> exact h
 dsimp only;generalize (if n.c.st.term<x.term then n.follow else n)=m at hm ⊢;have hb:∀ q:Nd,q.c.many=m.c.many->(bJ q).1.length<=5:=fun q e=>Nat.le_trans Wr (by omega);split
 ·unfold cE;repeat' split
  all_goals simp
 split
 ·unfold bO;dsimp only;repeat' split
  all_goals simp
 unfold bk;dsimp only;split
 ·exact Nat.zero_le _
 split
 ·exact Nat.zero_le _
 split
 ·split
  ·unfold fF;dsimp only;split
   ·split
    ·exact hb _ rfl
    exact Nat.zero_le _
   exact hb _ rfl
  exact Nat.zero_le _
 split
 ·unfold fP;dsimp only;repeat' split
  all_goals simp
 exact Nat.zero_le _
theorem aau (h:n.c.many<=5):(cu n o).2.l.length<=5:=by
 unfold cu;split
 ·exact Nat.zero_le _
 split
 ·show (bj n).l.length<=5;unfold bj;repeat' split
  all_goals first | exact Nat.zero_le _ | (exact Nat.le_trans aa3 (by show n.c.many.toNat<=5; omega))
 split
 ·exact Nat.le_trans Wr aL
 split
 ·exact acC h
 repeat' split
 all_goals exact Nat.zero_le _
theorem Yh (h:VI n g):(cu n o).2.l.length<=5:=aau (by rw [h.me.2]; decide)
theorem TF (h:VT n g l) (hx:l[k]? = some x):x.frm=1/\¬x.to=1/\x.term=(lC n).term/\x.bin=(lC n).binary:=by
 have q:=Dy h hx;have e:=q.to.1;rw [h.vi.me.1] at e;refine ⟨q.frm.trans h.vi.me.1,e,?_,?_⟩
 ·rw [q.term,lC,if_neg (by rw [q.up]; decide)]
 rw [q.bin,lC,if_neg (by rw [q.up]; decide)]
theorem ada (h:x.kind=2\/x.kind=1) (h2:¬x.kind=2\/x.ok=true):x.kind=1\/x.kind=2/\x.ok=true:=by
 rcases h with h | h
 ·exact .inr ⟨h,h2.resolve_left (fun f=>f h)⟩
 exact .inl h
theorem NP (h:VT n g l) (hx:l[k]? = some x) (hk:x.kind=1\/x.kind=2/\x.ok=true) (hj:(j:Int)<g.length) (ht:(g.getD j d).term=x.term):¬((decide (x.kind=1) == decide ((g.getD j d).kind=1))=false\/decide (x.kind=1)=false/\¬(g.getD j d).to=x.to):=by
 have hg:g[j]? = some (g.getD j d):=by rw [List.getD_eq_getElem?_getD,List.getElem?_eq_getElem (by omega)]; rfl
 obtain ⟨a,b⟩:=TL h hx hk hg ht;rw [<- a];rintro (h | ⟨h,h2⟩)
 ·simp at h
 exact h2 (b (by simpa using h))
end
section
variable {s:ZNv} {m:ZMv} {q:ZOv} {x:Letter} {j N:Nat}
theorem af0 {o:ZOv} (h:s.m=(ZNv.mk m x j).m) (h2:m.o=o):s.m.o=o:=by rw [h]; exact h2
theorem afc {o:Nd} (h:s.m=(ZNv.mk m x j).m) (h2:m.n=o):s.m.n=o:=by rw [h]; exact h2
theorem afo {o:ToldN} (h:s.m=(ZNv.mk m x j).m) (h2:m.t=o):s.m.t=o:=by rw [h]; exact h2
theorem afE (h:s.m=(ZNv.mk m x j).m) (h2:m.k<m.t.l.length):s.m.t.l.length - (s.m.k+1)<m.t.l.length - m.k:=by rw [h]; dsimp only; omega
theorem agR {t:ToldN} {g:List Letter} (h:m.o=(ZMv.mk q n t 0 g).o) (hi:q.i<N):N - (m.o.i+1)<N - q.i:=by rw [h]; dsimp only; omega
theorem aih (h:(true=false\/false=true)\/¬(0:Int)=0):false=true:=by simp at h
end
def Yd (l:List NOp):List (Nat × LI):=[(8,{ σ:=ZOv,F:=fun q=>([(0,one (.fz (.nm .nop) (l.take 40))),(4,one (.ptr 0 0)),(6,one (.own 8)),(7,one (.int q.i))],(kU (q.n)++[.row 40 (.nm .letter) ((q.g))])),J:=fun q=>q.i<=(l.take 40).length/\VI q.n q.g/\q.g.length<=5*q.i,μ:=fun q=>(l.take 40).length - q.i }),(12,{ σ:=ZMv,F:=fun q=>([(0,one (.fz (.nm .nop) (l.take 40))),(4,one (.ptr 0 0)),(6,one (.own 8)),(7,one (.int q.o.i)),(8,one (.ptr 9 0)),(9,one (.int q.k))],(kU (q.n)++[.row 40 (.nm .letter) ((q.g)),.box 57 ([.fz (.nm .letter) ((q.t.l)),.int ((q.t.a)),.int ((q.t.b)),.int ((q.t.e))])])),J:=fun q=>q.o.i<(l.take 40).length/\VT q.n q.g q.t.l/\q.k<=q.t.l.length/\q.t.l.length<=5/\q.g.length<=5*q.o.i+q.k,μ:=fun q=>q.t.l.length - q.k,R:=some fun q0 q=>q.o=q0.o/\q.n=q0.n/\q.t=q0.t }),(20,{ σ:=ZNv,F:=fun q=>([(0,one (.fz (.nm .nop) (l.take 40))),(4,one (.ptr 0 0)),(6,one (.own 8)),(7,one (.int q.m.o.i)),(8,one (.ptr 9 0)),(9,one (.int q.m.k)),(10,one (.ptr 10 0)),(11,one (.bool (.atom (decide (q.x.kind=1))))),(12,one (.int q.j))],(kU (q.m.n)++[.row 40 (.nm .letter) ((q.m.g)),.box 57 ([.fz (.nm .letter) ((q.m.t.l)),.int ((q.m.t.a)),.int ((q.m.t.b)),.int ((q.m.t.e))]),.box 40 (cellsOf (.nm .letter) (q.x))])),J:=fun q=>q.m.o.i<(l.take 40).length/\VT q.m.n q.m.g q.m.t.l/\q.m.t.l[q.m.k]? = some q.x/\(q.x.kind=1\/q.x.kind=2/\q.x.ok=true)/\q.j<=q.m.g.length/\q.m.t.l.length<=5/\q.m.g.length<=5*q.m.o.i+q.m.k/\q.m.k<q.m.t.l.length,μ:=fun q=>q.m.g.length - q.j,R:=some fun q0 q=>q.m=q0.m/\q.x=q0.x })]
noncomputable def Uk:Kn:=aK (ae (kC (cL (.nm .nop))) ao) aw fun (l,_) _=>⟨[],[.c (.bool (.atom ((true))))],none,false⟩
theorem Uu:CK 4 Uk:=ag fun (l,_) _ _=>by
 refine av MT (Yd l) Tryz.func4 (?_:(fun (q8:Prop)=>(fun (q7:Int)=>(fun (q6:Nat)=>(fun (q5:Int)=>(fun (q4:Nat)=>(fun (q3:den (Sh.nm NT.letter))=>(fun (q2:Nat)=>(fun (q1:List (den (Sh.nm NT.nop)))=>(fun (q9:Prop)=>(fun (q0:Int)=>l.length*(200:Nat)<=q6->((3:Int)<=(5:Int)/\(5:Int)<=(5:Int)/\q5<=q0/\q0<(5:Int))/\(I64 q5->((true=false\/q8)\/¬q5=q5->q8)/\((true=true/\false=false)/\q5=q5->q1.length*(200:Nat)<=q6->∃ (s0:ZOv),(q9/\q5=(↑s0.i:Int)/\qu (gW q0 (5:Int)) s0.n (s0.g=[]))/\(s0.i<=q2/\VI s0.n s0.g/\s0.g.length<=q4*s0.i)/\∀ (s:ZOv),s.i<=q2/\VI s.n s.g/\s.g.length<=q4*s.i->((↑s.i:Int)<(↑q1.length:Int)->q5<=(↑s.i:Int)/\(↑s.i:Int)<(↑q1.length:Int)/\∀ (x:NOp),(fun (q10:ToldN)=>q1[s.i]? = some x->VW x (NdOK s.n/\(q10.l.length*(96:Nat)<=q6->I64 q10.a->I64 q10.b->I64 q10.e->∃ (s0:ZMv),(q9/\(↑s.i:Int)=(↑s0.o.i:Int)/\q5=(↑s0.k:Int)/\qu (cu s.n x).fst s0.n (s.g=s0.g/\q10.l=s0.t.l/\q10.a=s0.t.a/\q10.b=s0.t.b/\q10.e=s0.t.e))/\(s0.o.i<q2/\VT s0.n s0.g s0.t.l/\s0.k<=s0.t.l.length/\s0.t.l.length<=q4/\s0.g.length<=q4*s0.o.i+s0.k)/\(s0.o=s0.o/\s0.n=s0.n/\s0.t=s0.t)/\∀ (s_1:ZMv),(fun (q14:List Letter)=>(fun (q13:Int)=>(fun (q12:Site)=>(fun (q15:State)=>(fun (q11:Prop)=>s_1.o.i<q2/\VT s_1.n s_1.g q14/\s_1.k<=q14.length/\q14.length<=q4/\s_1.g.length<=q4*s_1.o.i+s_1.k->s_1.o=s0.o/\s_1.n=s0.n/\s_1.t=s0.t->(q13<(↑q14.length:Int)->q5<=q13/\q13<(↑q14.length:Int)/\∀ (x:Letter),(fun (q18:Prop)=>(fun (q17:Prop)=>(fun (q16:Prop)=>q14[s_1.k]? = some x->aJ x ((q16->q11)->(q16/\q17->q11)->(((¬x.frm=q0\/x.to=q0)\/¬q17)\/¬x.bin=q12.binary->q8)/\((q16/\q17)/\x.bin=q12.binary->(¬q18/\¬x.kind=q0\/q18/\x.ok=false->I64 (q13+q0)/\∃ (s':ZMv),(q9/\(↑s_1.o.i:Int)=(↑s'.o.i:Int)/\q13+q0=(↑s'.k:Int)/\qu s_1.n s'.n (s_1.g=s'.g/\q14=s'.t.l/\s_1.t.a=s'.t.a/\s_1.t.b=s'.t.b/\s_1.t.e=s'.t.e))/\(s'.o.i<q2/\VT s'.n s'.g s'.t.l/\s'.k<=s'.t.l.length/\s'.t.l.length<=q4/\s'.g.length<=q4*s'.o.i+s'.k)/\(s'.o=s0.o/\s'.n=s0.n/\s'.t=s0.t)/\s'.t.l.length - s'.k<q14.length - s_1.k)/\((q18\/x.kind=q0)/\(¬q18\/x.ok=true)->∃ (s0_1:ZNv),(fun (q19:ZMv)=>(q9/\(↑s_1.o.i:Int)=(↑q19.o.i:Int)/\q13=(↑q19.k:Int)/\decide (x.kind=q0)=decide (s0_1.x.kind=q0)/\q5=(↑s0_1.j:Int)/\qu s_1.n q19.n (s_1.g=q19.g/\q14=q19.t.l/\s_1.t.a=q19.t.a/\s_1.t.b=q19.t.b/\s_1.t.e=q19.t.e/\nN x s0_1.x))/\(q19.o.i<q2/\VT q19.n q19.g q19.t.l/\q19.t.l[q19.k]? = some s0_1.x/\(s0_1.x.kind=q0\/s0_1.x.kind=q7/\s0_1.x.ok=true)/\s0_1.j<=q19.g.length/\q19.t.l.length<=q4/\q19.g.length<=q4*q19.o.i+q19.k/\q19.k<q19.t.l.length)/\(q19=q19/\s0_1.x=s0_1.x)/\∀ (s:ZNv),(fun (q24:Int)=>(fun (q23:ZMv)=>(fun (q25:ToldN)=>(fun (q22:Prop)=>(fun (q21:Bool)=>(fun (q20:den (Sh.nm NT.letter))=>(fun (q27:Prop)=>(fun (q26:Bool)=>(fun (q28:Prop)=>q23.o.i<q2/\VT q23.n q23.g q25.l/\q25.l[q23.k]? = some s.x/\(s.x.kind=q0\/s.x.kind=q7/\s.x.ok=true)/\s.j<=q23.g.length/\q25.l.length<=q4/\q23.g.length<=q4*q23.o.i+q23.k/\q23.k<q25.l.length->q23=q19/\s.x=s0_1.x->(q22->q5<=q24/\q22/\aJ q20 (q5<=q24/\q22/\(q28->q5<=q24/\q22)/\aJ q20 ((q28->I64 q20.kind/\I64 q20.frm/\I64 q20.to/\I64 q20.term/\I64 q20.a/\I64 q20.b/\I64 q20.c/\I64 q20.bin/\q20.l.length*(32:Nat)<=q6)->(q27/\(q26=false\/q21=false/\¬q20.to=s.x.to)->q8)/\(¬q27\/q26=true/\(q21=true\/q20.to=s.x.to)->I64 (q24+q0)/\∃ (s':ZNv),(fun (q29:ZMv)=>(q9/\(↑q23.o.i:Int)=(↑q29.o.i:Int)/\(↑q23.k:Int)=(↑q29.k:Int)/\q21=decide (s'.x.kind=q0)/\q24+q0=(↑s'.j:Int)/\qu q23.n q29.n (q23.g=q29.g/\q25.l=q29.t.l/\q25.a=q29.t.a/\q25.b=q29.t.b/\q25.e=q29.t.e/\nN s.x s'.x))/\(q29.o.i<q2/\VT q29.n q29.g q29.t.l/\q29.t.l[q29.k]? = some s'.x/\(s'.x.kind=q0\/s'.x.kind=q7/\s'.x.ok=true)/\s'.j<=q29.g.length/\q29.t.l.length<=q4/\q29.g.length<=q4*q29.o.i+q29.k/\q29.k<q29.t.l.length)/\(q29=q19/\s'.x=s0_1.x)/\q29.g.length - s'.j<q23.g.length - s.j) s'.m))))/\((↑q23.g.length:Int)<=q24->(q23.g.length+[s.x].length)*(96:Nat)<=q6/\I64 ((↑q23.k:Int)+q0)/\∃ (s':ZMv),(q9/\(↑q23.o.i:Int)=(↑s'.o.i:Int)/\(↑q23.k:Int)+q0=(↑s'.k:Int)/\qu q23.n s'.n (q23.g++[s.x]=s'.g/\q25.l=s'.t.l/\q25.a=s'.t.a/\q25.b=s'.t.b/\q25.e=s'.t.e))/\(s'.o.i<q2/\VT s'.n s'.g s'.t.l/\s'.k<=s'.t.l.length/\s'.t.l.length<=q4/\s'.g.length<=q4*s'.o.i+s'.k)/\(s'.o=s0.o/\s'.n=s0.n/\s'.t=s0.t)/\s'.t.l.length - s'.k<q14.length - s_1.k)) (q27/\q26=true/\q21=false)) (q21 == decide (q20.kind=q0))) (q20.term=s.x.term)) (q23.g.getD s.j q3)) (decide (s.x.kind=q0))) (q24<(↑q23.g.length:Int))) q23.t) s.m) (↑s.j:Int)) s0_1.m)))) (x.frm=q0/\¬x.to=q0)) (x.term=q12.term)) (x.kind=q7))/\((↑q14.length:Int)<=q13->I64 ((↑s_1.o.i:Int)+q0)/\∃ (s':ZOv),(q9/\(↑s_1.o.i:Int)+q0=(↑s'.i:Int)/\qu s_1.n s'.n (s_1.g=s'.g))/\(s'.i<=q2/\VI s'.n s'.g/\s'.g.length<=q4*s'.i)/\q2 - s'.i<q2 - s.i)) (I64 q12.role/\I64 q12.binary/\I64 q12.floor/\I64 q12.term/\I64 q12.vote/\I64 q12.commit/\I64 q12.applied/\q12.log.length*(32:Nat)<=q6/\I64 q15.version/\I64 q15.next/\I64 q15.keep/\I64 q15.quota/\q15.sess.length*(32:Nat)<=q6/\q15.opens.length*(16:Nat)<=q6/\q15.snaps.length*(64:Nat)<=q6)) q12.state) (lC s_1.n)) (↑s_1.k:Int)) s_1.t.l))) (cu s.n x).snd)/\((↑q1.length:Int)<=(↑s.i:Int)->true=true)))) (1:Int)) (q1=q1)) (List.take (40:Nat) l)) (List.take (40:Nat) l).length) (au (Sh.nm NT.letter))) (5:Nat)) (0:Int)) (140737488355328:Nat)) (2:Int)) (false=true))
 (repeat' with_reducible first|apply aZ|refine aY ?_|intro)
 all_goals try (refine ⟨ZOv.mk 0 (gW 1 5) [],?_⟩; (repeat' with_reducible first|apply aZ|refine aY ?_|intro))
 all_goals try (refine ⟨ZMv.mk ‹ZOv› (cu ‹ZOv›.n ‹NOp›).1 (cu ‹ZOv›.n ‹NOp›).2 0 ‹ZOv›.g,?_⟩; (repeat' with_reducible first|apply aZ|refine aY ?_|intro))
 all_goals try (refine ⟨ZOv.mk (‹ZMv›.o.i+1) ‹ZMv›.n ‹ZMv›.g,?_⟩; (repeat' with_reducible first|apply aZ|refine aY ?_|intro))
 all_goals try (refine ⟨ZMv.mk ‹ZMv›.o ‹ZMv›.n ‹ZMv›.t (‹ZMv›.k+1) ‹ZMv›.g,?_⟩; (repeat' with_reducible first|apply aZ|refine aY ?_|intro))
 all_goals try (refine ⟨ZNv.mk ‹ZMv› ‹Letter› 0,?_⟩; (repeat' with_reducible first|apply aZ|refine aY ?_|intro))
 all_goals try (refine ⟨ZNv.mk ‹ZNv›.m ‹ZNv›.x (‹ZNv›.j+1),?_⟩; (repeat' with_reducible first|apply aZ|refine aY ?_|intro))
 all_goals try (refine ⟨ZMv.mk ‹ZNv›.m.o ‹ZNv›.m.n ‹ZNv›.m.t (‹ZNv›.m.k+1) (‹ZNv›.m.g++[‹ZNv›.x]),?_⟩; (repeat' with_reducible first|apply aZ|refine aY ?_|intro))
 all_goals (first | exact bt | exact rfl | exact aie | exact (VI.ok ab) | exact (Qn ab) | exact (Yh ab) | exact (VT.vi ab) | (have q:=TF ab ab; omega) | exact (ada ab ab) | exact (absurd (by assumption) (NP ab ab ab ab ab)) | exact (absurd (.inl (by assumption)) (NP ab ab ab ab ab)) | exact (absurd (.inr (.intro (by assumption) (by assumption))) (NP ab ab ab ab ab)) | exact (Ft ab ab ab) | exact (aih ab) | exact (af0 ab ab) | exact (afc ab ab) | exact (afo ab ab) | exact (afE ab aL) | exact (agR ab aL) | (simp only [List.length_take,List.length_append,List.length_cons,List.length_nil] at *; omega))
theorem RH (l:List NOp):Sat Tryz.prog (al tyT) 4 [.c (.fz (.nm .nop) (l))] [] ⟨[],[.c (.bool (.atom ((true))))],none,false⟩:=Uu _ _ _ rfl (by simp)
end Go.Proofs.YticbaadnibdbkaaGreat
namespace Go.Proofs.YticbaadnibdbkaaGreat
open Go.RowKit Go.ChangeShapes Go.WideShapes
def EY (shp:TypeId->Option Sh) (w:World):Cx:=cx ⟨shp,w.heap.size,fun _=>False⟩ [] w
theorem Xv {shp:TypeId->Option Sh} {w:World} {s:Sh} {b:Nat} (h:b<w.heap.size):(EY shp w).at s b:=⟨⟨h,fun ⟨_,_,h,_⟩=>by simp at h,fun h=>h⟩,.inl h⟩
def Tr (P:Program) (shp:TypeId->Option Sh) (t:TypeId) (s:Sh):Prop:=
 ∀ (H:Type) (enc:TypeId × Value->H) (w:World) (fuel:Nat) (cs:List Value) (x:DataW H × List MemPlace),
  DataW.trod enc P w 0 (fun _=>true) true fuel t cs=some x->(∀ n ∈ x.1.weights P t,n<=140737488351232)->(∀ q ∈ x.2,q.block<w.heap.size)->∃ y:den s,Pds (EY shp w) (cellsOf s y) cs
def Zh:List Sh->List AV->Prop
 | [],asx=>asx=[]
 | s :: r,asx=>∃ (y:den s) (l:List AV),asx=cellsOf s y++l/\Zh r l
def szL:List Sh->Nat
 | []=>0
 | s :: r=>s.size+szL r
def lL (P:Program) (shp:TypeId->Option Sh) (fs:List Go.Field) (o:Nat) (ss:List Sh):Prop:=
 ∀ (H:Type) (enc:TypeId × Value->H) (w:World) (fuel:Nat) (cs:List Value) (xs:List (DataW H × List MemPlace)),
  cs.length=o+szL ss->xs.length=fs.length->(∀ (i:Nat) (f:Go.Field),fs[i]? = some f->DataW.trod enc P w 0 (fun _=>true) true fuel f.type ((cs.drop f.offset).take (P.cellsOf f.type))=xs[i]?) ->
  (∀ n ∈ DataW.weightsEach P (fs.map (·.type)) (xs.map (·.1)),n<=140737488351232)->(∀ q ∈ xs.flatMap (·.2),q.block<w.heap.size)->∃ asx,Zh ss asx/\Pds (EY shp w) asx (cs.drop o)
section
variable {P:Program} {shp:TypeId->Option Sh} {t:TypeId}
theorem Tr.int (h:P.underlying t=some (.int .i64)):Tr P shp t .int:=fun _ enc w fuel cs x hx _ _=>by
 obtain ⟨n,rfl,_,hw⟩:=DataW.trod_int h hx;have h1:IntKind.i64.min = -9223372036854775808:=rfl;have h2:IntKind.i64.max=9223372036854775807:=rfl;simp only [Lit.wf,Bool.and_eq_true,decide_eq_true_eq] at hw;exact ⟨n,.cons (.int ⟨by omega,by omega⟩) .nil⟩
theorem Tr.bool (h:P.underlying t=some .bool):Tr P shp t .bool:=fun _ enc w fuel cs x hx _ _=>by
 obtain ⟨n,rfl,_⟩:=DataW.trod_bool h hx;exact ⟨n,.cons (Pd.bool (e:=.atom n)) .nil⟩
theorem Tr.u8 (h:P.underlying t=some (.int .u8)):Tr P shp t .u8:=fun _ enc w fuel cs x hx _ _=>by
 obtain ⟨n,rfl,_,hw⟩:=DataW.trod_int h hx;have h1:IntKind.u8.min=0:=rfl;have h2:IntKind.u8.max=255:=rfl;simp only [Lit.wf,Bool.and_eq_true,decide_eq_true_eq] at hw;refine ⟨UInt8.ofNat n.toNat,?_⟩;have:n=((UInt8.ofNat n.toNat).toNat:Int):=by
  rw [UInt8.toNat_ofNat']; omega
 generalize hg:UInt8.ofNat n.toNat=b at this;subst this;exact .cons .u8 .nil
theorem Tr.u64 (h:P.underlying t=some (.int .u64)):Tr P shp t .u64:=fun _ enc w fuel cs x hx _ _=>by
 obtain ⟨n,rfl,_,hw⟩:=DataW.trod_int h hx;have h1:IntKind.u64.min=0:=rfl;have h2:IntKind.u64.max=18446744073709551615:=rfl;simp only [Lit.wf,Bool.and_eq_true,decide_eq_true_eq] at hw;refine ⟨⟨n.toNat⟩,?_⟩;have:n=(n.toNat:Int):=by omega
 generalize hg:n.toNat=b at this;subst this;exact .cons (.u64 (by show b<_; omega)) .nil
theorem Tr.str (h:P.underlying t=some .string):Tr P shp t .str:=fun _ enc w fuel cs x hx hw _=>by
 obtain ⟨s,rfl,hx,_⟩:=DataW.trod_string h hx;refine ⟨⟨s.data.toList⟩,?_⟩;have:=hw s.data.toList.length (by rw [hx]; simp [DataW.weights]);have e:=Pd.str (c:=EY shp w) (s:=⟨s.data.toList⟩) (by show s.data.toList.length<=_; omega);have e2:(⟨s.data.toList⟩:Str).val = .string s:=by simp [Str.val]
 rw [e2] at e;exact .cons e .nil
theorem kB {H:Type} {e:TypeId}:∀ {ds:List (DataW H)} {d:DataW H},d ∈ ds->∀ n ∈ d.weights P e,n ∈ DataW.weightsAll P e ds
 | [],_,h,_,_=>by cases h
 | d0 :: ds,d,h,n,hn=>by
  rw [DataW.weightsAll,List.mem_append];rcases aa_.1 h with rfl | h
  ·exact .inl hn
  exact .inr (kB h n hn)
theorem IT {s:Sh} {xs:List (den s)} {y:den s}:(xs++[y]).flatMap (cellsOf s)=xs.flatMap (cellsOf s)++cellsOf s y:=by simp
theorem Tr.list {e:TypeId} {s:Sh} (ht:P.underlying t=some (.slice e)) (hC:P.cellsOf e=s.size) (hB:P.bytesOf e=s.bytes) (he:Tr P shp e s):Tr P shp t (.lst s):=fun H enc w fuel cs x hx hw hlt=>by
 have hp:=size_pos s;rcases DataW.trod_slice ht hx with ⟨rfl,_⟩ | ⟨a,len,cap,elems,rest,n,rfl,rfl,rfl,_,hl,hc,hel,hget,hrest,_⟩
 ·exact ⟨([]:List (den s)),.cons (Pd.wO (.em (a:=none) (b:=true) rfl)) .nil⟩
 rw [hC] at *;have step:∀ m,m<=len->∃ (cells:List Value) (xs:List (den s)),Pds (EY shp w) (xs.flatMap (cellsOf s)) cells/\xs.length=m/\CellsAt w a cells:=by
  intro m;induction m with
  | zero=>intro _; exact ⟨[],[],.nil,rfl,CellsAt.nil⟩
  | succ m ih=>
   intro hm;obtain ⟨cells,xs,h1,h2,h3⟩:=ih (by omega);have hg:=hget m (by omega);have hem:elems[m]? = some (elems[m]'(by omega)):=List.getElem?_eq_getElem (by omega);rw [hem,Option.bind_eq_some_iff] at hg;obtain ⟨cs,hcs,htr⟩:=hg;have hmem:elems[m]'(by omega) ∈ elems:=aeG _;obtain ⟨y,hy⟩:=he H enc w n cs _ htr
    (fun k hk=>hw k (by
     simp only [DataW.weights,ht,aa_,List.mem_append];exact .inr (.inl (kB (aiE hmem) k hk))))
    (fun q hq=>hlt q (by
     simp only [List.mem_append,List.mem_flatMap];exact .inr ⟨_,.inl hmem,hq⟩))
   obtain ⟨_,hcl,hat⟩:=World.cells?_some hcs;refine ⟨cells++cs,xs++[y],by rw [IT]; exact h1.append hy,by simp [h2],fun j v hv=>?_⟩;have hfl:cells.length=m*s.size:=by rw [<- h1.length,bQ,h2]
   by_cases hj:j<m*s.size
   ·rw [List.getElem?_append_left (by omega)] at hv;exact h3 j v hv
   rw [List.getElem?_append_right (by omega),hfl] at hv;have hj2:=xB hv;have:=hat (j - m*s.size) (by omega);rw [hv,add_add,show m*s.size+(j - m*s.size)=j by omega] at this;exact this
 obtain ⟨cells,xs,h1,h2,h3⟩:=step len (Nat.le_refl _);have hwt:(elems.length+rest.length)*P.bytesOf e<=140737488351232:=hw _ (by simp [DataW.weights,ht]);refine ⟨xs,.cons ?_ .nil⟩;subst h2;refine .fz (by omega) hc ?_ h1 ?_
 ·rw [hB] at hwt;have:xs.length*s.bytes<=(elems.length+rest.length)*s.bytes:=aeu _ (by omega);omega
 by_cases h0:xs.length=0
 ·left; exact aa9 h0
 right;refine ⟨a,rfl,Xv ?_,h3⟩;have:MemPlace.cell a.block (a.off+0) ∈ MemPlace.row a ((elems.length+rest.length)*s.size):=MemPlace.mem_row.2 ⟨0,Nat.mul_pos (by omega) hp,rfl⟩;exact hlt _ (abc _ this)
theorem lL.nil {o:Nat}:lL P shp [] o []:=fun H enc w fuel cs xs hl _ _ _ _=>⟨[],rfl,by rw [List.drop_eq_nil_of_le (by simp only [szL] at hl; omega)]; exact .nil⟩
theorem lL.cons {f:Go.Field} {fs:List Go.Field} {o:Nat} {s:Sh} {ss:List Sh} (h:Tr P shp f.type s) (ho:f.offset=o) (hC:P.cellsOf f.type=s.size) (hr:lL P shp fs (o+s.size) ss):lL P shp (f :: fs) o (s :: ss):=fun H enc w fuel cs xs hl hx hf hw hlt=>by
 match xs,hx with
 | x :: xs,hx=>
  have hl':cs.length=o+(s.size+szL ss):=hl;have h1:=hf 0 f rfl;rw [ho,hC] at h1;obtain ⟨y,hy⟩:=h H enc w fuel _ x h1 (fun n hn=>hw n (by simp [DataW.weightsEach,hn])) (fun q hq=>hlt q (by simp [hq]));obtain ⟨z,hz1,hz2⟩:=hr H enc w fuel cs xs (by omega) (by simpa using hx) (fun i f' hi=>by simpa using hf (i+1) f' (by simpa using hi)) (fun n hn=>hw n (by simp only [aeV,DataW.weightsEach,List.mem_append]; exact .inr hn)) (fun q hq=>hlt q (by simp only [List.flatMap_cons,List.mem_append]; exact .inr hq));refine ⟨cellsOf s y++z,⟨y,z,rfl,hz1⟩,?_⟩;have:=hy.append hz2;rwa [<- afB,List.take_append_drop] at this
theorem Tr.struct {s:Sh} {ss:List Sh} {fs:Array Go.Field} (ht:P.underlying t=some (.struct fs)) (hC:P.cellsOf t=szL ss) (hs:∀ asx,Zh ss asx->∃ y:den s,asx=cellsOf s y) (h:lL P shp fs.toList 0 ss):Tr P shp t s:=fun H enc w fuel cs x hx hw hlt=>by
 obtain ⟨xs,n,_,rfl,hl,hxl,hf⟩:=DataW.trod_struct ht hx;obtain ⟨asx,h1,h2⟩:=h H enc w n cs xs (by omega) (by simpa using hxl) (fun i f hi=>hf i f (by simpa using hi)) (fun k hk=>hw k (by simpa [DataW.weights,ht] using hk)) hlt;obtain ⟨y,rfl⟩:=hs asx h1;exact ⟨y,by simpa using h2⟩
end
section
variable {H:Type} {enc:TypeId × Value->H} {P:Program} {shp:TypeId->Option Sh}
structure Ar (enc:TypeId × Value->H) (P:Program) (W:World) (t:TypeId) (v:Value):Prop where
 form:∃ base,Value.okWide P W .any base t v
 read:∃ d p fuel,DataW.trod enc P W 0 (fun _=>true) true fuel t v.cells.toList=some (d,p)/\(∀ n ∈ d.weights P t,n<=140737488351232)/\(∀ q ∈ p,q.block<W.heap.size)
variable {W:World} {t:TypeId} {v:Value}
theorem Ar.rp {s:Sh} (h:Ar enc P W t v) (ht:Tr P shp t s):∃ y:den s,Pds (EY shp W) (cellsOf s y) v.cells.toList:=by
 obtain ⟨d,p,fuel,h1,h2,h3⟩:=h.read;exact ht H enc W fuel _ _ h1 h2 h3
theorem De {a:AV} {u:Value} (h:Pds (EY shp W) [a] [u]):cZ (EY shp W) [] (.c a) u:=by cases h with | cons h1 _=>exact lz h1
theorem Ar.int (h:Ar enc P W t v) (ht:P.underlying t=some (.int .i64)):∃ y:Int,cZ (EY shp W) [] (.c (.int y)) v:=by
 obtain ⟨base,hf⟩:=h.form;obtain ⟨n,rfl⟩:=okWide_int ht hf;obtain ⟨y,h1⟩:=h.rp (shp:=shp) (Tr.int ht);exact ⟨y,De (by simpa [Value.cells,cellsOf] using h1)⟩
theorem Ar.u8 (h:Ar enc P W t v) (ht:P.underlying t=some (.int .u8)):∃ y:UInt8,cZ (EY shp W) [] (.c (.u8 y)) v:=by
 obtain ⟨base,hf⟩:=h.form;obtain ⟨n,rfl⟩:=okWide_int ht hf;obtain ⟨y,h1⟩:=h.rp (shp:=shp) (Tr.u8 ht);exact ⟨y,De (by simpa [Value.cells,cellsOf] using h1)⟩
theorem Ar.bool (h:Ar enc P W t v) (ht:P.underlying t=some .bool):∃ y:Bool,cZ (EY shp W) [] (.c (.bool (.atom y))) v:=by
 obtain ⟨base,hf⟩:=h.form;obtain ⟨b,rfl⟩:=okWide_bool ht hf;exact ⟨b,Pd.bool (e:=.atom b)⟩
theorem Ar.list {e:TypeId} {s:Sh} (h:Ar enc P W t v) (hu:P.underlying t=some (.slice e)) (ht:Tr P shp t (.lst s)):∃ xs:List (den s),cZ (EY shp W) [] (.c (.fz s xs)) v:=by
 obtain ⟨base,hf⟩:=h.form;obtain ⟨a,len,cap,rfl⟩:=okWide_slice hu hf;obtain ⟨y,h1⟩:=h.rp ht;exact ⟨y,De (by simpa [Value.cells,cellsOf] using h1)⟩
theorem RV {f:Nat} {args:List TV1} {pre:List Prop} {e:BE} {vs:List Value} (h:Sat P shp f args [] ⟨pre,[.c (.bool e)],none,false⟩) (he:e.val=true) (hv:All2 (cZ (EY shp W) []) args vs) (htb:TabsOK (EY shp W):=by refine ⟨?_,?_⟩ <;> intro e he <;> first | simp [Rl] at he | simp [abZ] at he):jE P f vs.toArray W fun r W'=>r = .bool true/\Kp [] W W':=by
 refine (h.2 ⟨shp,W.heap.size,fun _=>False⟩ [] W vs rfl ⟨.nil,fun _ _ _ _ _ h=>by simp at h,fun _ _ _ h=>by simp at h,fun _ h=>h.elim,Nat.le_refl _,htb⟩ hv).mono fun v w' ⟨us,h1,h2,h3⟩=>⟨?_,h2⟩;cases h3 with | cons h4 h5=>
 cases h5;have h4:Pd _ (.bool e) _:=h4;cases h4;rw [h1,he]; rfl
variable {ds:List (DataW H)} {args:Array Value}
theorem Se {base:Nat} {ts:List TypeId} {p:List MemPlace} (hf:∀ (j:Nat) t v,ts[j]? = some t->args[j]? = some v->Value.okWide P W .any base t v)
  (h:DataW.TrodAll enc P W 0 (fun _=>true) true ts args.toList ds p) (hw:∀ n ∈ DataW.weightsEach P ts ds,n<=140737488351232) (hlt:∀ q ∈ p,q.block<W.heap.size) :
  args.size=ts.length/\∀ (j:Nat) t v,ts[j]? = some t->args[j]? = some v->Ar enc P W t v:=by
 have key:∀ (ts:List TypeId) (vs:List Value) (ds:List (DataW H)) (p:List MemPlace),DataW.TrodAll enc P W 0 (fun _=>true) true ts vs ds p->(∀ n ∈ DataW.weightsEach P ts ds,n<=140737488351232)->(∀ q ∈ p,q.block<W.heap.size) ->
   vs.length=ts.length/\∀ (j:Nat) t v,ts[j]? = some t->vs[j]? = some v->∃ d p fuel,DataW.trod enc P W 0 (fun _=>true) true fuel t v.cells.toList=some (d,p)/\(∀ n ∈ d.weights P t,n<=140737488351232)/\(∀ q ∈ p,q.block<W.heap.size):=by
  intro ts;induction ts with
  | nil=>intro vs ds p h _ _; obtain ⟨rfl,_,_⟩:=trodAll_nil h; exact ⟨rfl,fun j t v h=>by simp at h⟩
  | cons t ts ih=>
   intro vs ds p h hw hlt;obtain ⟨v,vs,d,ds,p1,p2,rfl,rfl,rfl,h1,h2⟩:=trodAll_cons h;obtain ⟨k1,k2⟩:=ih vs ds p2 h2 (fun n hn=>hw n (by rw [DataW.weightsEach,List.mem_append]; exact .inr hn)) (fun q hq=>hlt q (acV _ hq));refine ⟨by simp [k1],fun j t' v' ht hv=>?_⟩;cases j with
   | zero=>
    simp at ht hv;subst ht; subst hv;obtain ⟨fuel,hf⟩:=h1;exact ⟨d,p1,fuel,hf,fun n hn=>hw n (by rw [DataW.weightsEach,List.mem_append]; exact .inl hn),fun q hq=>hlt q (abc _ hq)⟩
   | succ j=>exact k2 j t' v' (by simpa using ht) (by simpa using hv)
 obtain ⟨k1,k2⟩:=key ts args.toList ds p h hw hlt;exact ⟨by simpa using k1,fun j t v ht hv=>⟨⟨base,hf j t v ht hv⟩,k2 j t v ht (by simpa using hv)⟩⟩
variable {W':World}
theorem IC (hl:laidOutB P=true) (hb:Below W.heap.size W W'):∀ (ts:List TypeId) (vs:List Value) (ds:List (DataW H)) (p:List MemPlace),ts.all (fun t=>P.readableRec t && decide (t<P.types.size))=true->DataW.TrodAll enc P W 0 (fun _=>true) true ts vs ds p->(∀ q ∈ p,q.block<W.heap.size) ->
  DataW.TrodAll enc P W' 0 (fun b=>decide (b<W.heap.size)) true ts vs ds p:=by
 intro ts;induction ts with
 | nil=>intro vs ds p _ h _; obtain ⟨rfl,rfl,rfl⟩:=trodAll_nil h; rfl
 | cons t ts ih=>
  intro vs ds p hr h hlt;obtain ⟨v,vs,d,ds,p1,p2,rfl,rfl,rfl,h1,h2⟩:=trodAll_cons h;rw [agr,Bool.and_eq_true,Bool.and_eq_true,decide_eq_true_eq] at hr;exact ⟨p1,p2,Below.trod hl hr.1.1 hr.1.2 h1 hb fun q hq=>hlt q (abc _ hq),ih vs ds p2 hr.2 h2 fun q hq=>hlt q (acV _ hq),rfl⟩
variable {fn:Func} {tb:TypeId}
theorem Mi {s:ChangeSpec} {p:List MemPlace} (hl:laidOutB P=true)
  (hrow:fn.params.toList.all (fun t=>P.readableRec t && decide (t<P.types.size))=true) (hr:fn.resultTypes = #[tb]) (hb:P.underlying tb=some .bool) (hv:s.vars=[])
  (hs:s.fn H (ds++[])={ results:=[.lit (.bool true)],args:=ds }) (hW:DataW.Whole enc P fn.params.toList s.vars false W args.toList ds [] p) (hA:DataW.TrodAll enc P W 0 (fun _=>true) true fn.params.toList args.toList ds p) (hlt:∀ q ∈ p,q.block<W.heap.size) (hk:Kp [] W W') :
  s.post enc P fn false true false false W args (.bool true) W':=by
 refine ⟨ds,[],p,[],p,[],hW,?_,?_,?_,hk.below.frame _,fun h=>by cases h⟩
 ·rw [hs,hr];exact trodAll_mk1 ⟨1,by simp [DataW.trod,Value.cells,hb]⟩
 ·rw [hs];exact IC hl hk.below _ _ _ _ hrow hA hlt
 rw [hs,hv]; rfl
theorem Od {C:Checked} {os:Os} {f:FuncId} {s:ChangeSpec} {conds:List PathCond} (own:ownKnob C.prog.godebug=none) (started:os.Started) (noInit:C.prog.inits.idxOf? f=none) (hfn:C.prog.funcs[f]? = some fn)
  (witness:∃ (w:World) (tape:Tape) (i:Input),w.os=os/\(w.forCall tape i).Shaped C.prog/\i.vars=[]/\Input.okWide C.prog (w.forCall tape i) .any w.heap.size f i /\
   s.pre6 enc C.prog fn conds false (w.forCall tape i).memory i.args/\({}:Assume).holds C.prog (lone (Frame.enter C.prog f i.args .normal) [] (w.forCall tape i)))
  (hl:laidOutB C.prog=true) (hrow:fn.params.toList.all (fun t=>C.prog.readableRec t && decide (t<C.prog.types.size))=true) (hr:fn.resultTypes = #[tb]) (hb:C.prog.underlying tb=some .bool) (hv:s.vars=[])
  (hs:∀ ds:List (DataW H),ds.length=fn.params.size->s.fn H ds={ results:=[.lit (.bool true)],args:=ds })
  (law:∀ (W:World) (args:Array Value),args.size=fn.params.toList.length->(∀ (j:Nat) t v,fn.params.toList[j]? = some t->args[j]? = some v->Ar enc C.prog W t v)->jE C.prog f args W fun r W'=>r = .bool true/\Kp [] W W') :
  ReturnsInHanded {} C os f .any (s.pre6 enc C.prog fn conds false) (s.post enc C.prog fn false true false false):=by
 refine returnsInHanded_of_change_sized own started noInit hfn witness ?_;intro W base args ds gs before hval hW _ hsz _;have hW0:=hW;obtain ⟨p,q,hA,hV,rfl,_,_⟩:=hW;rw [hv] at hV;obtain ⟨rfl,rfl⟩:=trodVars_none hV;simp only [adI] at hW0 hsz;have hlt:∀ x ∈ p,x.block<W.heap.size:=fun x hx=>by simpa using hW0.lt x hx
 have hwt:∀ n ∈ DataW.weightsEach C.prog fn.params.toList ds,n<=140737488351232:=fun n hn=>by
  have hmem:n ∈ DataW.weightsEach C.prog (fn.params.toList++s.plain.varTypes C.prog) ds:=by
   have:∀ (ts us:List TypeId) (ds:List (DataW H)),n ∈ DataW.weightsEach C.prog ts ds->n ∈ DataW.weightsEach C.prog (ts++us) ds:=by
    intro ts;induction ts with
    | nil=>intro us ds h; simp [DataW.weightsEach] at h
    | cons t ts ih=>
     intro us ds h;cases ds with
     | nil=>simp [DataW.weightsEach] at h
     | cons d ds=>
      rw [DataW.weightsEach,List.mem_append] at h;rw [List.cons_append,DataW.weightsEach,List.mem_append];exact h.imp id (ih us ds)
   exact this _ _ _ hn
  exact of_decide_eq_true (aeF.1 hsz n hmem)
 obtain ⟨hsize,har⟩:=Se (fun j t v ht hv=>hval j t v (by simpa using ht) hv) hA hwt hlt;have hdl:ds.length=fn.params.size:=by
  have:∀ (ts:List TypeId) (vs:List Value) (ds:List (DataW H)) (p:List MemPlace),DataW.TrodAll enc C.prog W 0 (fun _=>true) true ts vs ds p->ds.length=ts.length:=by
   intro ts;induction ts with
   | nil=>intro vs ds p h; obtain ⟨_,rfl,_⟩:=trodAll_nil h; rfl
   | cons t ts ih=>intro vs ds p h; obtain ⟨v,vs,d,ds,p1,p2,rfl,rfl,rfl,_,h2⟩:=trodAll_cons h; simp [ih vs ds p2 h2]
  simpa using this _ _ _ _ hA
 refine ai0 (law W args hsize har) fun e W' ⟨v,he,hv',hk⟩=>⟨v,he,?_⟩;subst hv';exact Mi hl hrow hr hb hv (by rw [adI]; exact hs ds hdl) hW0 hA hlt hk
end
end Go.Proofs.YticbaadnibdbkaaGreat
namespace Go.Proofs.YticbaadnibdbkaaGreat
open Go.RowKit Go.ChangeShapes Go.WideShapes
theorem JS:ownKnob Tryz.prog.godebug=none:=bE
theorem Mm:laidOutB Tryz.prog=true:=bE
theorem ahb:Tr Tryz.prog (al tyT) 35 (.nm .command):=Tr.struct (ss:=[.int,.int,.int,.int,.int,.int,(.lst .int),.str]) Tryz.underlying35 bE (fun cells h=>by
 obtain ⟨y0,l0,rfl,y1,l1,rfl,y2,l2,rfl,y3,l3,rfl,y4,l4,rfl,y5,l5,rfl,y6,l6,rfl,y7,l7,rfl,rfl⟩:=h;exact ⟨⟨y0,y1,y2,y3,y4,y5,y6,y7⟩,rfl⟩) (lL.cons (Tr.int Tryz.underlying3) rfl bE (lL.cons (Tr.int Tryz.underlying3) rfl bE (lL.cons (Tr.int Tryz.underlying3) rfl bE (lL.cons (Tr.int Tryz.underlying3) rfl bE (lL.cons (Tr.int Tryz.underlying3) rfl bE (lL.cons (Tr.int Tryz.underlying3) rfl bE (lL.cons (Tr.list Tryz.underlying33 bE bE (Tr.int Tryz.underlying3)) rfl bE (lL.cons (Tr.str Tryz.underlying9) rfl bE (lL.nil)))))))))
theorem ahY:Tr Tryz.prog (al tyT) 52 (.nm .entry):=Tr.struct (ss:=[.int,(.lst .u8)]) Tryz.underlying52 bE (fun cells h=>by
 obtain ⟨y0,l0,rfl,y1,l1,rfl,rfl⟩:=h;exact ⟨⟨y0,y1⟩,rfl⟩) (lL.cons (Tr.int Tryz.underlying3) rfl bE (lL.cons (Tr.list Tryz.underlying50 bE bE (Tr.u8 Tryz.underlying5)) rfl bE (lL.nil)))
theorem agW:Tr Tryz.prog (al tyT) 40 (.nm .letter):=Tr.struct (ss:=[.int,.int,.int,.int,.int,.int,.int,.int,.bool,(.lst (.nm .entry))]) Tryz.underlying40 bE (fun cells h=>by
 obtain ⟨y0,l0,rfl,y1,l1,rfl,y2,l2,rfl,y3,l3,rfl,y4,l4,rfl,y5,l5,rfl,y6,l6,rfl,y7,l7,rfl,y8,l8,rfl,y9,l9,rfl,rfl⟩:=h;exact ⟨⟨y0,y1,y2,y3,y4,y5,y6,y7,y8,y9⟩,rfl⟩) (lL.cons (Tr.int Tryz.underlying3) rfl bE (lL.cons (Tr.int Tryz.underlying3) rfl bE (lL.cons (Tr.int Tryz.underlying3) rfl bE (lL.cons (Tr.int Tryz.underlying3) rfl bE (lL.cons (Tr.int Tryz.underlying3) rfl bE (lL.cons (Tr.int Tryz.underlying3) rfl bE (lL.cons (Tr.int Tryz.underlying3) rfl bE (lL.cons (Tr.int Tryz.underlying3) rfl bE (lL.cons (Tr.bool Tryz.underlying4) rfl bE (lL.cons (Tr.list Tryz.underlying38 bE bE (ahY)) rfl bE (lL.nil)))))))))))
theorem agz:Tr Tryz.prog (al tyT) 60 (.nm .nop):=Tr.struct (ss:=[.u8,.int,(.nm .letter),(.nm .command)]) Tryz.underlying60 bE (fun cells h=>by
 obtain ⟨y0,l0,rfl,y1,l1,rfl,y2,l2,rfl,y3,l3,rfl,rfl⟩:=h;exact ⟨⟨y0,y1,y2,y3⟩,rfl⟩) (lL.cons (Tr.u8 Tryz.underlying5) rfl bE (lL.cons (Tr.int Tryz.underlying3) rfl bE (lL.cons (agW) rfl bE (lL.cons (ahb) rfl bE (lL.nil)))))
set_option maxRecDepth 100000 in
theorem tJ (os:Os) (started:os.Started) (H:Type) (enc:TypeId × Value->H) :
  ReturnsInHanded {} Tryz.checked os 4 .any (Rows.nodeVotesSpec.pre6 enc Tryz.prog Tryz.f4 Rows.nodeVotesRow.domain false) (Rows.nodeVotesSpec.post enc Tryz.prog Tryz.f4 false true false false):=by
 refine Od (C:=Tryz.checked) JS started bE Tryz.func4 (ChangeSpec.witness6 (enc:=enc) (C:=Tryz.checked) false ⟨#[],#[.slice none 0 0],[]⟩ 8 bE bE bE bE) Mm bE bE Tryz.underlying4 rfl (fun ds h=>?_) ?_
 ·match ds,h with
  | [d0],_=>rfl
 intro W args hs ha;obtain ⟨l⟩:=args;match l,hs with
 | [v0],_=>
  obtain ⟨x0,h0⟩:=Ar.list (shp:=al tyT) (ha 0 54 _ rfl rfl) Tryz.underlying54 (Tr.list Tryz.underlying54 bE bE (agz));exact RV (RH x0) rfl (.cons h0 .nil)
set_option maxHeartbeats 40000000 in
theorem qo:joinedFacts Tryz.checked.prog 4 Tryz.f4 Rows.nodeVotesSpec Rows.nodeVotesRow=true:=by
 unfold joinedFacts;repeat' with_reducible refine Bool.and_eq_true_iff.2 ⟨?_,?_⟩
 all_goals as_aux_lemma=>kernel_rfl
theorem nodeVotes_holds:Rows.NodeVotesSaid:=
 OpenClaim.holds_of_wide 4 Tryz.f4 rfl rfl rfl rfl rfl rfl rfl ⟨rfl,rfl,rfl,rfl,rfl⟩ rfl rfl rfl rfl rfl bE Tryz.func4 qo
  (of_decide_eq_true bE) (by unfold Func.isWrapper; first | (rw [if_pos (by decide +kernel)]; kernel_rfl) | (rw [if_neg (by decide +kernel)]; exact ⟨rfl,rfl⟩))
  (fun os started H enc _=>tJ os started H enc)
end Go.Proofs.YticbaadnibdbkaaGreat
