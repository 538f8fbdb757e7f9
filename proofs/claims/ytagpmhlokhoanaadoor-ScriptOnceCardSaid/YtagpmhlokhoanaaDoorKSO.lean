/- The law: for every input it returns true, and each argument reads behind the call as it read before; and what leads there. Conditions: each lemma's own. -/
import Derived.LaidLaws
import Derived.LaidMore
import Derived.Lib.ItoaMem
import Derived.Lib.LaidTab
import Derived.MakeChecks
import Derived.OpenShut
import Derived.ProofKit
import Derived.SevenTiedAt
import Derived.SizedLaws
import Derived.Stop.Joined
import Derived.Test.YtagpmhlokhoanaaDoorCards
import Derived.Test.YtagpmhlokhoanaaDoorChecked
import Derived.Test.YtagpmhlokhoanaaDoorRows
import Derived.Test.YtagpmhlokhoanaaDoorTie
import Derived.Test.YtagpmhlokhoanaaDoorKSOM3
set_option linter.unusedVariables false
set_option linter.unusedSimpArgs false
namespace Go.Proofs.YtagpmhlokhoanaaDoor
open Go.RowKit
theorem bD {e:Event}:aZ e=true↔1<=e.kind/\e.kind<10/\k_ e.a=true/\(gS e.kind=true->k_ e.b=true)/\(gS e.kind=false->e.b=0)/\(e.kind=6->(e.c.text.b.length:Int)<=16/\(e.c.chunks.length:Int)<=16/\(fI e.c).all k_=true/\e.c.chunks.all k_=true)/\(¬ e.kind=6->db e.c=true):=by
 unfold aZ
 rw [Bool.and_eq_true,Bool.and_eq_true,Bool.and_eq_true,Bool.and_eq_true,decide_eq_true_eq,decide_eq_true_eq]
 cases hs:gS e.kind <;> by_cases h6:e.kind=6 <;> (first | rw [if_pos h6] | rw [if_neg h6]) <;> simp only [Bool.and_eq_true,decide_eq_true_eq,if_true,if_false,Bool.false_eq_true] <;> constructor <;> intro h <;> simp_all <;> omega
section
variable {e:Event}
theorem wK (h:¬ aZ e=true):Str.mk []=al e:=by rw [al,if_neg h]
theorem vu (h:¬ aZ e=true):(1:Int)=aH e:=by rw [aH,if_neg h]
theorem vJ {ws:List Str} (h:aZ e=true) (hw:aW e=ws):Str.mk (Lib.join (ws.map fun (x:den Sh.str)=>x.b) [32])=al e:=by rw [al,if_pos h,<- hw]; rfl
theorem sx (h:aZ e=true):(0:Int)=aH e:=by rw [aH,if_pos h]
theorem lU:∀ {l:List (List UInt8)} {m:Nat},(∀ x ∈ l,x.length<=m)->(Lib.joinTail [32] l).length<=(m+1)*l.length
 | [],_,_=>Nat.le_refl _
 | x :: l,m,h=>by
  have h1:=h x (by simp)
  have h2:=lU (l:=l) (m:=m) fun y hy=>h y (by simp [hy])
  rw [tail_cons,List.length_cons,List.length_append,List.length_cons,Nat.mul_succ]; omega
theorem uJ {l:List (List UInt8)} {m:Nat} (h:∀ x ∈ l,x.length<=m):(Lib.join l [32]).length<=(m+1)*l.length:=by
 cases l with
 | nil=>exact Nat.zero_le _
 | cons x l=>
  have h1:=h x (by simp)
  have h2:=lU (l:=l) (m:=m) fun y hy=>h y (by simp [hy])
  rw [Lib.join_cons,List.length_append,List.length_cons,Nat.mul_succ]; omega
theorem qL:∀ k:Fin 10,(fj.getD k.1 ⟨[]⟩).b.length<=40:=by decide
theorem pM {l:List UInt8} (h:l.length<=16):(bO l).length<=40:=by
 unfold bO
 split
 ·decide
 ·rw [kb]; omega
theorem kH {n:Int} (h:k_ n=true):(ae n).b.length<=40:=by
 simp only [k_,Bool.and_eq_true,decide_eq_true_eq] at h
 have:=Lib.itoa_length_le n (by omega) (by omega)
 show (Lib.itoa n).length<=40; omega
theorem uS {ws:List Str} (h:aZ e=true) (hw:aW e=ws):(Lib.join (ws.map fun (x:den Sh.str)=>x.b) [32]).length<=140737488355328:=by
 subst hw
 obtain ⟨h1,h2,h3,h4,h5,h6,h7⟩:=bD.1 h
 have hl:(aW e).length<=40:=by
  unfold aW
  by_cases hk:e.kind=6
  ·have:=(h6 hk).2.1
   rw [if_pos hk]; simp only [List.length_append,List.length_map,fI]; split <;> simp <;> omega
  ·rw [if_neg hk]; split <;> simp
 have hx:∀ x ∈ (aW e).map (fun (x:den Sh.str)=>x.b),x.length<=40:=by
  intro x hx
  rw [List.mem_map] at hx
  obtain ⟨s,hs,rfl⟩:=hx
  simp only [aW,List.mem_append,List.mem_cons,List.not_mem_nil,or_false] at hs
  rcases hs with ((rfl | rfl) | hs) | hs
  ·exact qL ⟨e.kind.toNat,by omega⟩
  ·exact kH h3
  ·split at hs
   ·rw [List.mem_singleton] at hs; subst hs; exact kH (h4 (by assumption))
   ·cases hs
  ·split at hs
   ·obtain ⟨k1,k2,k3,k4⟩:=h6 (by assumption)
    simp only [List.mem_append,List.mem_map,List.mem_singleton] at hs
    rcases hs with (⟨n,hn,rfl⟩ | rfl) | ⟨n,hn,rfl⟩
    ·exact kH (List.all_eq_true.1 k3 n hn)
    ·exact pM bK
    ·exact kH (List.all_eq_true.1 k4 n hn)
   ·cases hs
 have:=uJ hx
 rw [List.length_map] at this
 have:(40+1)*(aW e).length<=(40+1)*40:=Nat.mul_le_mul_left _ hl
 omega
end
theorem sw (a:Command) (b:Command) (r0:Bool):oW bH tO [] Tryd.f28 [.agg (cellsOf (.nm .command) a),.agg (cellsOf (.nm .command) b)] [] [.c (.bool (.atom (r0)))]=(I64 a.kind->I64 a.client->I64 a.seq->I64 a.set->I64 a.id->I64 a.n->a.chunks.length*(8:Nat)<=(140737488355328:Nat)->a.text.b.length<=(140737488355328:Nat)->I64 b.kind->I64 b.client->I64 b.seq->I64 b.set->I64 b.id->I64 b.n->b.chunks.length*(8:Nat)<=(140737488355328:Nat)->b.text.b.length<=(140737488355328:Nat)->(decide (a.chunks=b.chunks) && decide (a.kind=b.kind) && decide (a.client=b.client) && decide (a.seq=b.seq) && decide (a.set=b.set) && decide (a.id=b.id) && decide (a.n=b.n) && decide (a.text=b.text))=r0):=by kernel_rfl
theorem tD (a:Command) (b:Command):Sat Tryd.prog (aq bH) 28 [.agg (cellsOf (.nm .command) a),.agg (cellsOf (.nm .command) b)] [] ⟨[],[.c (.bool (.atom ((decide (a=b)))))],none,false⟩:=by
 refine d_ jW [] Tryd.func28 (by decide) (by kernel_rfl) ?_
 rw [sw]
 intros; cases a; cases b; simp only [Command.mk.injEq]; grind
theorem uM (e:Event) (r0:Str) (r1:Int):oW bH tO [] Tryd.f10 [.agg (cellsOf (.nm .event) e)] [] [.c (.str (r0)),.c (.int (r1))]=((fun (q18:Bool)=>(fun (q17:Int)=>(fun (q16:List (den Sh.int))=>(fun (q15:den Sh.str)=>(fun (q14:Prop)=>(fun (q13:Nat)=>(fun (q12:Int)=>(fun (q11:Prop)=>(fun (q10:Nat)=>(fun (q9:Nat)=>(fun (q8:Bool)=>(fun (q7:List Str)=>(fun (q6:Prop)=>(fun (q5:List Int)=>(fun (q4:List UInt8)=>(fun (q3:Prop)=>(fun (q2:List (den Sh.str))=>(fun (q1:List (den Sh.str))=>(fun (q0:List (den Sh.int))=>I64 q17->I64 e.a->I64 e.b->I64 e.c.kind->I64 e.c.client->I64 e.c.seq->I64 e.c.set->I64 e.c.id->I64 e.c.n->q5.length*(8:Nat)<=q10->q9<=q10->(q17<(1:Int)\/(10:Int)<=q17->q3)/\((1:Int)<=q17/\q17<(10:Int)->(0:Int)<=q17/\q17<(↑(10:Nat):Int)/\(q15.b.length<=q10->[q15].length+[e.a].length<=q13/\(gS q17=true->q1.length+q16.length<=q13/\(¬q11->(aV q16 q8=false\/q18=false->q3)/\(aV q16 q8=true/\q18=true->(Lib.join (List.map (fun (x:den Sh.str)=>x.b) (q1++q7)) q4).length<=q10/\((Lib.join (List.map (fun (x:den Sh.str)=>x.b) (q1++q7)) q4).length<=q10->Str.mk (Lib.join (List.map (fun (x:den Sh.str)=>x.b) (q1++q7)) q4)=r0/\q14)))/\(q11->(q12<(↑q9:Int)\/q12<(↑q5.length:Int)->q3)/\((↑q9:Int)<=q12/\(↑q5.length:Int)<=q12->(q1++q7).length+q0.length<=q13/\q9<=q13/\(q6->((q1++q7++List.map ae q0).length+q2.length)*(16:Nat)<=q10)/\(q6->(q1++q7++List.map ae q0++q2).length+q5.length<=q13/\(aV q5 (aV q0 (aV q16 q8))=false->q3)/\(aV q5 (aV q0 (aV q16 q8))=true->(Lib.join (List.map (fun (x:den Sh.str)=>x.b) (q1++q7++List.map ae q0++q2++List.map ae q5)) q4).length<=q10/\((Lib.join (List.map (fun (x:den Sh.str)=>x.b) (q1++q7++List.map ae q0++q2++List.map ae q5)) q4).length<=q10->Str.mk (Lib.join (List.map (fun (x:den Sh.str)=>x.b) (q1++q7++List.map ae q0++q2++List.map ae q5)) q4)=r0/\q14))))))/\(gS q17=false->(¬e.b=(0:Int)->(¬q11->(false=false\/q18=false->q3)/\(false=true/\q18=true->(Lib.join (List.map (fun (x:den Sh.str)=>x.b) q1) q4).length<=q10/\((Lib.join (List.map (fun (x:den Sh.str)=>x.b) q1) q4).length<=q10->Str.mk (Lib.join (List.map (fun (x:den Sh.str)=>x.b) q1) q4)=r0/\q14)))/\(q11->(q12<(↑q9:Int)\/q12<(↑q5.length:Int)->q3)/\((↑q9:Int)<=q12/\(↑q5.length:Int)<=q12->q1.length+q0.length<=q13/\q9<=q13/\(q6->((q1++List.map ae q0).length+q2.length)*(16:Nat)<=q10)/\(q6->(q1++List.map ae q0++q2).length+q5.length<=q13/\(aV q5 (aV q0 false)=false->q3)/\(aV q5 (aV q0 false)=true->(Lib.join (List.map (fun (x:den Sh.str)=>x.b) (q1++List.map ae q0++q2++List.map ae q5)) q4).length<=q10/\((Lib.join (List.map (fun (x:den Sh.str)=>x.b) (q1++List.map ae q0++q2++List.map ae q5)) q4).length<=q10->Str.mk (Lib.join (List.map (fun (x:den Sh.str)=>x.b) (q1++List.map ae q0++q2++List.map ae q5)) q4)=r0/\q14))))))/\(e.b=(0:Int)->(¬q11->(q8=false\/q18=false->q3)/\(q8=true/\q18=true->(Lib.join (List.map (fun (x:den Sh.str)=>x.b) q1) q4).length<=q10/\((Lib.join (List.map (fun (x:den Sh.str)=>x.b) q1) q4).length<=q10->Str.mk (Lib.join (List.map (fun (x:den Sh.str)=>x.b) q1) q4)=r0/\q14)))/\(q11->(q12<(↑q9:Int)\/q12<(↑q5.length:Int)->q3)/\((↑q9:Int)<=q12/\(↑q5.length:Int)<=q12->q1.length+q0.length<=q13/\q9<=q13/\(q6->((q1++List.map ae q0).length+q2.length)*(16:Nat)<=q10)/\(q6->(q1++List.map ae q0++q2).length+q5.length<=q13/\(aV q5 (aV q0 q8)=false->q3)/\(aV q5 (aV q0 q8)=true->(Lib.join (List.map (fun (x:den Sh.str)=>x.b) (q1++List.map ae q0++q2++List.map ae q5)) q4).length<=q10/\((Lib.join (List.map (fun (x:den Sh.str)=>x.b) (q1++List.map ae q0++q2++List.map ae q5)) q4).length<=q10->Str.mk (Lib.join (List.map (fun (x:den Sh.str)=>x.b) (q1++List.map ae q0++q2++List.map ae q5)) q4)=r0/\q14)))))))))) [e.c.kind,e.c.client,e.c.seq,e.c.set,e.c.id,e.c.n]) ([q15]++List.map ae [e.a])) [Str.mk (bO e.c.text.b)]) (Str.mk []=r0/\(1:Int)=r1)) [(32:UInt8)]) e.c.chunks) ((bO e.c.text.b).length<=q10)) (List.map ae q16)) (aV [e.a] true)) e.c.text.b.length) (140737488355328:Nat)) (q17=(6:Int))) (16:Int)) (1000:Nat)) ((0:Int)=r1)) (fj.getD q17.toNat (aJ Sh.str))) [e.b]) e.kind) (db e.c)):=by kernel_rfl
theorem vN (e:Event):Sat Tryd.prog (aq bH) 10 [.agg (cellsOf (.nm .event) e)] [] ⟨[],[.c (.str ((al e))),.c (.int ((aH e)))],none,false⟩:=by
 refine d_ jW [] Tryd.func10 (by decide) (by kernel_rfl) ?_
 rw [uM]
 (repeat' (first | with_reducible apply ub | with_reducible refine uz ?_ | intro))
 all_goals (first | exact uQ | (simp only [List.length_append,List.length_map,List.length_cons,List.length_nil]; omega) | exact (wK (fun hl=>by have hl:=bD.1 hl; simp_all [aV,fI,List.all_cons,List.all_nil] <;> omega)) | exact (vu (fun hl=>by have hl:=bD.1 hl; simp_all [aV,fI,List.all_cons,List.all_nil] <;> omega)) | exact (sx (bD.2 (by simp_all [aV,fI,List.all_cons,List.all_nil]))) | exact (vJ (bD.2 (by simp_all [aV,fI,List.all_cons,List.all_nil])) (by simp_all [aW,iv,fI])) | exact (uS (e:=e) (bD.2 (by simp_all [aV,fI,List.all_cons,List.all_nil])) (by simp_all [aW,iv,fI])))
def tK:cZ:=(nw 10 (kK (bp (kT (.nm .event)) eI) eZ fun (e,_) (_)=>⟨[],[.c (.str ((al e))),.c (.int ((aH e)))],none,false⟩) (nw 28 (kK (bp (kT (.nm .command)) (bp (kT (.nm .command)) eI)) eZ fun (a,b,_) (_)=>⟨[],[.c (.bool (.atom ((decide (a=b)))))],none,false⟩) tO))
theorem kJ:aS Tryd.prog (aq bH) tK:=(bL (bM (aB iO bh) bg fun (e,_) (_) _=>vN e ) (bL (bM (aB iO (aB iO bh)) bg fun (a,b,_) (_) _=>tD a b ) jW))
theorem wQ {n:Nat} (h:n<10):ae (n:Int)=⟨[UInt8.ofNat (48+n)]⟩:=by
 show Str.mk (Lib.itoa n)=_
 rw [Lib.itoa_nonneg,Lib.decDigits,dif_pos h]
theorem xL:al (Event.mk 9 1 3 (Command.mk 0 0 0 0 0 0 [] ⟨[]⟩))=⟨[115,116,97,114,116,32,49,32,51]⟩:=by
 have h:aW (Event.mk 9 1 3 (Command.mk 0 0 0 0 0 0 [] ⟨[]⟩))=[⟨[115,116,97,114,116]⟩,⟨[49]⟩,⟨[51]⟩]:=by
  show [iv 9,ae ((1:Nat):Int)]++[ae ((3:Nat):Int)]++[]=_
  rw [wQ (by decide),wQ (by decide)]; rfl
 rw [al,if_pos (by decide),h]; rfl
theorem xR:al (Event.mk 6 0 0 (Command.mk 1 2 0 0 0 0 [] ⟨[]⟩))=⟨[99,97,108,108,32,48,32,49,32,50,32,48,32,48,32,48,32,48,32,45]⟩:=by
 have h:aW (Event.mk 6 0 0 (Command.mk 1 2 0 0 0 0 [] ⟨[]⟩))=[⟨[99,97,108,108]⟩,⟨[48]⟩,⟨[49]⟩,⟨[50]⟩,⟨[48]⟩,⟨[48]⟩,⟨[48]⟩,⟨[48]⟩,⟨[45]⟩]:=by
  show [iv 6,ae ((0:Nat):Int)]++[]++([ae ((1:Nat):Int),ae ((2:Nat):Int),ae ((0:Nat):Int),ae ((0:Nat):Int),ae ((0:Nat):Int),ae ((0:Nat):Int)]++[⟨bO []⟩]++[])=_
  rw [wQ (by decide),wQ (by decide),wQ (by decide)]; rfl
 rw [al,if_pos (by decide),h]; rfl
theorem xk:aH (Event.mk 9 1 3 (Command.mk 0 0 0 0 0 0 [] ⟨[]⟩))=0:=by decide
theorem xo:aH (Event.mk 6 0 0 (Command.mk 1 2 0 0 0 0 [] ⟨[]⟩))=0:=by decide
section
variable {a b:Event} {k:Nat}
theorem xm (h:¬ aH a=0\/¬ aH b=0):(true && (decide (aH a=0) || decide (al a=⟨[]⟩)) && (decide (aH b=0) || decide (al b=⟨[]⟩)))=true:=by
 have h1:∀ e:Event,(decide (aH e=0) || decide (al e=⟨[]⟩))=true:=fun e=>by
  cases hk:aZ e
  ·rw [al,if_neg (by rw [hk]; decide)]; simp
  ·rw [aH,if_pos hk]; rfl
 rw [h1,h1]; rfl
theorem xJ (ha:aH a=0) (hb:aH b=0):(true && (decide (al a=al b) == decide (a=b)))=true:=by
 have h:∀ e:Event,aH e=0->aZ e=true:=fun e h=>by
  cases hk:aZ e
  ·rw [aH,if_neg (by rw [hk]; decide)] at h; cases h
  ·rfl
 rw [show decide (al a=al b)=decide (a=b) from decide_eq_decide.2 (qG (h a ha) (h b hb))]; simp
theorem xv (h:(k:Int)<((al a).b.length:Int)) (h2:((((al a).b.getD k 0).toNat:Nat):Int)=(((UInt8.ofNat 10).toNat:Nat):Int)):False:=by
 have h3:=List.mem_of_getElem? (dU (d:=(0:UInt8)) (show k<(al a).b.length by omega))
 exact tg _ h3 (UInt8.toNat_inj.1 (show ((al a).b.getD k 0).toNat=(UInt8.ofNat 10).toNat by omega))
end
theorem qn (a:Event) (b:Event) (r0:Bool):oW bH tK [] Tryd.f11 [.agg (cellsOf (.nm .event) a),.agg (cellsOf (.nm .event) b)] [] [.c (.bool (.atom (r0)))]=(I64 a.kind->I64 a.a->I64 a.b->I64 a.c.kind->I64 a.c.client->I64 a.c.seq->I64 a.c.set->I64 a.c.id->I64 a.c.n->a.c.chunks.length*(8:Nat)<=(140737488355328:Nat)->a.c.text.b.length<=(140737488355328:Nat)->I64 b.kind->I64 b.a->I64 b.b->I64 b.c.kind->I64 b.c.client->I64 b.c.seq->I64 b.c.set->I64 b.c.id->I64 b.c.n->b.c.chunks.length*(8:Nat)<=(140737488355328:Nat)->b.c.text.b.length<=(140737488355328:Nat)->(decide (a.c=b.c) && decide (a.kind=b.kind) && decide (a.a=b.a) && decide (a.b=b.b))=r0):=by kernel_rfl
theorem rG (a:Event) (b:Event):Sat Tryd.prog (aq bH) 11 [.agg (cellsOf (.nm .event) a),.agg (cellsOf (.nm .event) b)] [] ⟨[],[.c (.bool (.atom ((decide (a=b)))))],none,false⟩:=by
 refine d_ kJ [] Tryd.func11 (by decide) (by kernel_rfl) ?_
 rw [qn]
 intros; cases a; cases b; simp only [Event.mk.injEq]; grind
theorem s_  (r0:Bool):oW bH tK [] Tryd.f8 [] [] [.c (.bool (.atom (r0)))]=((fun (q2:Int)=>(fun (q1:UInt8)=>(fun (q0:Int)=>(al (Event.mk (9:Int) q2 (3:Int) (Command.mk q0 q0 q0 q0 q0 q0 [] (Str.mk [])))).b.length<=(140737488355328:Nat)->I64 (aH (Event.mk (9:Int) q2 (3:Int) (Command.mk q0 q0 q0 q0 q0 q0 [] (Str.mk []))))->(al (Event.mk (6:Int) q0 q0 (Command.mk q2 (2:Int) q0 q0 q0 q0 [] (Str.mk [])))).b.length<=(140737488355328:Nat)->I64 (aH (Event.mk (6:Int) q0 q0 (Command.mk q2 (2:Int) q0 q0 q0 q0 [] (Str.mk []))))->(decide (al (Event.mk (9:Int) q2 (3:Int) (Command.mk q0 q0 q0 q0 q0 q0 [] (Str.mk [])))=Str.mk [(115:UInt8),(116:UInt8),(97:UInt8),(114:UInt8),(116:UInt8),q1,(49:UInt8),q1,(51:UInt8)]) && decide (aH (Event.mk (9:Int) q2 (3:Int) (Command.mk q0 q0 q0 q0 q0 q0 [] (Str.mk [])))=q0) && decide (al (Event.mk (6:Int) q0 q0 (Command.mk q2 (2:Int) q0 q0 q0 q0 [] (Str.mk [])))=Str.mk [(99:UInt8),(97:UInt8),(108:UInt8),(108:UInt8),q1,(48:UInt8),q1,(49:UInt8),q1,(50:UInt8),q1,(48:UInt8),q1,(48:UInt8),q1,(48:UInt8),q1,(48:UInt8),q1,(45:UInt8)]) && decide (aH (Event.mk (6:Int) q0 q0 (Command.mk q2 (2:Int) q0 q0 q0 q0 [] (Str.mk [])))=q0))=r0) (0:Int)) (32:UInt8)) (1:Int)):=by kernel_rfl
theorem sA :Sat Tryd.prog (aq bH) 8 [] [] ⟨[],[.c (.bool (.atom ((true))))],none,false⟩:=by
 refine d_ kJ [] Tryd.func8 (by decide) (by kernel_rfl) ?_
 rw [s_]
 (repeat' (first | with_reducible apply ub | with_reducible refine uz ?_ | intro))
 rw [xL,xR,xk,xo]; rfl
def v_:cZ:=(nw 8 (kK eI eZ fun (_) (_)=>⟨[],[.c (.bool (.atom ((true))))],none,false⟩) (nw 11 (kK (bp (kT (.nm .event)) (bp (kT (.nm .event)) eI)) eZ fun (a,b,_) (_)=>⟨[],[.c (.bool (.atom ((decide (a=b)))))],none,false⟩) tK))
theorem tN:aS Tryd.prog (aq bH) v_:=(bL (bM bh bg fun (_) (_) _=>sA  ) (bL (bM (aB iO (aB iO bh)) bg fun (a,b,_) (_) _=>rG a b ) kJ))
def pD (a:Event) (b:Event):List (Nat × LI):=[(10,{ σ:=Nat,F:=fun k=>([(5,one (.bool (.atom true))),(6,one (.str (al (cG a)))),(8,one (.str (al (cG b)))),(10,one (.bool (.atom (decide (cG a=cG b))))),(11,one (.int k))],[]),J:=fun k=>k<=(al (cG a)).b.length,μ:=fun k=>(al (cG a)).b.length - k })]
theorem sH (a:Event) (b:Event) (r0:Bool):oW bH v_ (pD a b) Tryd.f3 [.agg (cellsOf (.nm .event) a),.agg (cellsOf (.nm .event) b)] [] [.c (.bool (.atom (r0)))]=((fun (q3:Int)=>(fun (q2:Nat)=>(fun (q1:Event)=>(fun (q0:Event)=>I64 a.kind->I64 a.a->I64 a.b->I64 a.c.kind->I64 a.c.client->I64 a.c.seq->I64 a.c.set->I64 a.c.id->I64 a.c.n->a.c.chunks.length*(8:Nat)<=q2->a.c.text.b.length<=q2->I64 b.kind->I64 b.a->I64 b.b->I64 b.c.kind->I64 b.c.client->I64 b.c.seq->I64 b.c.set->I64 b.c.id->I64 b.c.n->b.c.chunks.length*(8:Nat)<=q2->b.c.text.b.length<=q2->I64 q0.kind->I64 q0.a->I64 q0.b->I64 q0.c.kind->I64 q0.c.client->I64 q0.c.seq->I64 q0.c.set->I64 q0.c.id->I64 q0.c.n->q0.c.chunks.length*(8:Nat)<=q2->q0.c.text.b.length<=q2->I64 q1.kind->I64 q1.a->I64 q1.b->I64 q1.c.kind->I64 q1.c.client->I64 q1.c.seq->I64 q1.c.set->I64 q1.c.id->I64 q1.c.n->q1.c.chunks.length*(8:Nat)<=q2->q1.c.text.b.length<=q2->(al q0).b.length<=q2->I64 (aH q0)->(al q1).b.length<=q2->I64 (aH q1)->(¬aH q0=q3\/¬aH q1=q3->(true && (decide (aH q0=q3) || decide (al q0=Str.mk [])) && (decide (aH q1=q3) || decide (al q1=Str.mk [])))=r0)/\(aH q0=q3/\aH q1=q3->∃ (s0:Nat),(fun (q6:Bool)=>(fun (q5:Str)=>(fun (q4:Nat)=>(true=true/\q5=q5/\al q1=al q1/\decide (q0=q1)=q6/\q3=(↑s0:Int))/\s0<=q4/\∀ (s:Nat),(fun (q7:Prop)=>s<=q4->((↑s:Int)<(↑q4:Int)->q3<=(↑s:Int)/\(↑s:Int)<(↑q4:Int)/\(q7->false=r0)/\(¬q7->I64 ((↑s:Int)+(1:Int))/\∃ (s':Nat),(true=true/\q5=q5/\al q1=al q1/\q6=q6/\(↑s:Int)+(1:Int)=(↑s':Int))/\s' <= q4/\q4 - s' < q4 - s))/\((↑q4:Int)<=(↑s:Int)->(true && decide (q5=al q1) == q6)=r0)) ((↑(q5.b.getD s (0:UInt8)).toNat:Int)=(↑(UInt8.ofNat (10:Nat)).toNat:Int))) q5.b.length) (al q0)) (decide (q0=q1)))) (cG a)) (cG b)) (140737488355328:Nat)) (0:Int)):=by kernel_rfl
theorem sE (a:Event) (b:Event):Sat Tryd.prog (aq bH) 3 [.agg (cellsOf (.nm .event) a),.agg (cellsOf (.nm .event) b)] [] ⟨[],[.c (.bool (.atom ((true))))],none,false⟩:=by
 refine d_ tN (pD a b) Tryd.func3 (by decide) (by kernel_rfl) ?_
 rw [sH]
 iterate 3 ((all_goals (repeat' (first | with_reducible apply ub | with_reducible refine uz ?_ | intro))); (all_goals try (first | exact uQ | exact (xm gw) | exact (xJ gw gw) | exact (xv gw gw).elim)); all_goals try first | refine ⟨‹Nat› + 1,?_⟩ | refine ⟨0,?_⟩)
end Go.Proofs.YtagpmhlokhoanaaDoor
namespace Go.Proofs.YtagpmhlokhoanaaDoor
open Go.RowKit Go.ChangeShapes Go.WideShapes
def gr (shp:TypeId->Option Sh) (w:World):Cx:=cx ⟨shp,w.heap.size,fun _=>False⟩ [] w
theorem vx {shp:TypeId->Option Sh} {w:World} {s:Sh} {b:Nat} (h:b<w.heap.size):(gr shp w).at s b:=⟨⟨h,fun ⟨_,_,h,_⟩=>by simp at h,fun h=>h⟩,.inl h⟩
def Tr (P:Program) (shp:TypeId->Option Sh) (t:TypeId) (s:Sh):Prop:=
 ∀ (H:Type) (enc:TypeId × Value->H) (w:World) (fuel:Nat) (cs:List Value) (x:DataW H × List MemPlace),
  DataW.trod enc P w 0 (fun _=>true) true fuel t cs=some x->(∀ n ∈ x.1.weights P t,n<=140737488351232)->(∀ q ∈ x.2,q.block<w.heap.size)->∃ y:den s,Pds (gr shp w) (cellsOf s y) cs
def uR:List Sh->List AV->Prop
 | [],asx=>asx=[]
 | s :: r,asx=>∃ (y:den s) (l:List AV),asx=cellsOf s y++l/\uR r l
def wR:List Sh->Nat
 | []=>0
 | s :: r=>s.size+wR r
def jO (P:Program) (shp:TypeId->Option Sh) (fs:List Go.Field) (o:Nat) (ss:List Sh):Prop:=
 ∀ (H:Type) (enc:TypeId × Value->H) (w:World) (fuel:Nat) (cs:List Value) (xs:List (DataW H × List MemPlace)),
  cs.length=o+wR ss->xs.length=fs.length->(∀ (i:Nat) (f:Go.Field),fs[i]? = some f->DataW.trod enc P w 0 (fun _=>true) true fuel f.type ((cs.drop f.offset).take (P.cellsOf f.type))=xs[i]?) ->
  (∀ n ∈ DataW.weightsEach P (fs.map (·.type)) (xs.map (·.1)),n<=140737488351232)->(∀ q ∈ xs.flatMap (·.2),q.block<w.heap.size)->∃ asx,uR ss asx/\Pds (gr shp w) asx (cs.drop o)
section
variable {P:Program} {shp:TypeId->Option Sh} {t:TypeId}
theorem Tr.int (h:P.underlying t=some (.int .i64)):Tr P shp t .int:=fun _ enc w fuel cs x hx _ _=>by
 obtain ⟨n,rfl,_,hw⟩:=DataW.trod_int h hx
 have h1:IntKind.i64.min = -9223372036854775808:=rfl
 have h2:IntKind.i64.max=9223372036854775807:=rfl
 simp only [Lit.wf,Bool.and_eq_true,decide_eq_true_eq] at hw
 exact ⟨n,.cons (.int ⟨by omega,by omega⟩) .nil⟩
theorem Tr.bool (h:P.underlying t=some .bool):Tr P shp t .bool:=fun _ enc w fuel cs x hx _ _=>by
 obtain ⟨n,rfl,_⟩:=DataW.trod_bool h hx
 exact ⟨n,.cons (Pd.bool (e:=.atom n)) .nil⟩
theorem Tr.u8 (h:P.underlying t=some (.int .u8)):Tr P shp t .u8:=fun _ enc w fuel cs x hx _ _=>by
 obtain ⟨n,rfl,_,hw⟩:=DataW.trod_int h hx
 have h1:IntKind.u8.min=0:=rfl
 have h2:IntKind.u8.max=255:=rfl
 simp only [Lit.wf,Bool.and_eq_true,decide_eq_true_eq] at hw
 refine ⟨UInt8.ofNat n.toNat,?_⟩
 have:n=((UInt8.ofNat n.toNat).toNat:Int):=by
  rw [UInt8.toNat_ofNat']; omega
 generalize hg:UInt8.ofNat n.toNat=b at this
 subst this
 exact .cons .u8 .nil
theorem Tr.u64 (h:P.underlying t=some (.int .u64)):Tr P shp t .u64:=fun _ enc w fuel cs x hx _ _=>by
 obtain ⟨n,rfl,_,hw⟩:=DataW.trod_int h hx
 have h1:IntKind.u64.min=0:=rfl
 have h2:IntKind.u64.max=18446744073709551615:=rfl
 simp only [Lit.wf,Bool.and_eq_true,decide_eq_true_eq] at hw
 refine ⟨⟨n.toNat⟩,?_⟩
 have:n=(n.toNat:Int):=by omega
 generalize hg:n.toNat=b at this
 subst this
 exact .cons (.u64 (by show b<_; omega)) .nil
theorem Tr.str (h:P.underlying t=some .string):Tr P shp t .str:=fun _ enc w fuel cs x hx hw _=>by
 obtain ⟨s,rfl,hx,_⟩:=DataW.trod_string h hx
 refine ⟨⟨s.data.toList⟩,?_⟩
 have:=hw s.data.toList.length (by rw [hx]; simp [DataW.weights])
 have e:=Pd.str (c:=gr shp w) (s:=⟨s.data.toList⟩) (by show s.data.toList.length<=_; omega)
 have e2:(⟨s.data.toList⟩:Str).val = .string s:=by simp [Str.val]
 rw [e2] at e
 exact .cons e .nil
theorem dH {H:Type} {e:TypeId}:∀ {ds:List (DataW H)} {d:DataW H},d ∈ ds->∀ n ∈ d.weights P e,n ∈ DataW.weightsAll P e ds
 | [],_,h,_,_=>by cases h
 | d0 :: ds,d,h,n,hn=>by
  rw [DataW.weightsAll,List.mem_append]
  rcases List.mem_cons.1 h with rfl | h
  ·exact .inl hn
  ·exact .inr (dH h n hn)
theorem oQ {s:Sh} {xs:List (den s)} {y:den s}:(xs++[y]).flatMap (cellsOf s)=xs.flatMap (cellsOf s)++cellsOf s y:=by simp
theorem Tr.list {e:TypeId} {s:Sh} (ht:P.underlying t=some (.slice e)) (hC:P.cellsOf e=s.size) (hB:P.bytesOf e=s.bytes) (he:Tr P shp e s):Tr P shp t (.lst s):=fun H enc w fuel cs x hx hw hlt=>by
 have hp:=size_pos s
 rcases DataW.trod_slice ht hx with ⟨rfl,_⟩ | ⟨a,len,cap,elems,rest,n,rfl,rfl,rfl,_,hl,hc,hel,hget,hrest,_⟩
 ·exact ⟨([]:List (den s)),.cons (Pd.kX (.em (a:=none) (b:=true) rfl)) .nil⟩
 ·rw [hC] at *
  have step:∀ m,m<=len->∃ (cells:List Value) (xs:List (den s)),Pds (gr shp w) (xs.flatMap (cellsOf s)) cells/\xs.length=m/\CellsAt w a cells:=by
   intro m
   induction m with
   | zero=>intro _; exact ⟨[],[],.nil,rfl,CellsAt.nil⟩
   | succ m ih=>
    intro hm
    obtain ⟨cells,xs,h1,h2,h3⟩:=ih (by omega)
    have hg:=hget m (by omega)
    have hem:elems[m]? = some (elems[m]'(by omega)):=List.getElem?_eq_getElem (by omega)
    rw [hem,Option.bind_eq_some_iff] at hg
    obtain ⟨cs,hcs,htr⟩:=hg
    have hmem:elems[m]'(by omega) ∈ elems:=List.getElem_mem _
    obtain ⟨y,hy⟩:=he H enc w n cs _ htr
     (fun k hk=>hw k (by
      simp only [DataW.weights,ht,List.mem_cons,List.mem_append]
      exact .inr (.inl (dH (List.mem_map_of_mem hmem) k hk))))
     (fun q hq=>hlt q (by
      simp only [List.mem_append,List.mem_flatMap]
      exact .inr ⟨_,.inl hmem,hq⟩))
    obtain ⟨_,hcl,hat⟩:=World.cells?_some hcs
    refine ⟨cells++cs,xs++[y],by rw [oQ]; exact h1.append hy,by simp [h2],fun j v hv=>?_⟩
    have hfl:cells.length=m*s.size:=by rw [<- h1.length,aD,h2]
    by_cases hj:j<m*s.size
    ·rw [List.getElem?_append_left (by omega)] at hv
     exact h3 j v hv
    ·rw [List.getElem?_append_right (by omega),hfl] at hv
     have hj2:=vA hv
     have:=hat (j - m*s.size) (by omega)
     rw [hv,add_add,show m*s.size+(j - m*s.size)=j by omega] at this
     exact this
  obtain ⟨cells,xs,h1,h2,h3⟩:=step len (Nat.le_refl _)
  have hwt:(elems.length+rest.length)*P.bytesOf e<=140737488351232:=hw _ (by simp [DataW.weights,ht])
  refine ⟨xs,.cons ?_ .nil⟩
  subst h2
  refine .fz (by omega) hc ?_ h1 ?_
  ·rw [hB] at hwt
   have:xs.length*s.bytes<=(elems.length+rest.length)*s.bytes:=Nat.mul_le_mul_right _ (by omega)
   omega
  ·by_cases h0:xs.length=0
   ·left; exact List.eq_nil_of_length_eq_zero h0
   ·right
    refine ⟨a,rfl,vx ?_,h3⟩
    have:MemPlace.cell a.block (a.off+0) ∈ MemPlace.row a ((elems.length+rest.length)*s.size):=MemPlace.mem_row.2 ⟨0,Nat.mul_pos (by omega) hp,rfl⟩
    exact hlt _ (List.mem_append_left _ this)
theorem jO.nil {o:Nat}:jO P shp [] o []:=fun H enc w fuel cs xs hl _ _ _ _=>⟨[],rfl,by rw [List.drop_eq_nil_of_le (by simp only [wR] at hl; omega)]; exact .nil⟩
theorem jO.cons {f:Go.Field} {fs:List Go.Field} {o:Nat} {s:Sh} {ss:List Sh} (h:Tr P shp f.type s) (ho:f.offset=o) (hC:P.cellsOf f.type=s.size) (hr:jO P shp fs (o+s.size) ss):jO P shp (f :: fs) o (s :: ss):=fun H enc w fuel cs xs hl hx hf hw hlt=>by
 match xs,hx with
 | x :: xs,hx=>
  have hl':cs.length=o+(s.size+wR ss):=hl
  have h1:=hf 0 f rfl
  rw [ho,hC] at h1
  obtain ⟨y,hy⟩:=h H enc w fuel _ x h1 (fun n hn=>hw n (by simp [DataW.weightsEach,hn])) (fun q hq=>hlt q (by simp [hq]))
  obtain ⟨z,hz1,hz2⟩:=hr H enc w fuel cs xs (by omega) (by simpa using hx) (fun i f' hi=>by simpa using hf (i+1) f' (by simpa using hi)) (fun n hn=>hw n (by simp only [List.map_cons,DataW.weightsEach,List.mem_append]; exact .inr hn)) (fun q hq=>hlt q (by simp only [List.flatMap_cons,List.mem_append]; exact .inr hq))
  refine ⟨cellsOf s y++z,⟨y,z,rfl,hz1⟩,?_⟩
  have:=hy.append hz2
  rwa [<- List.drop_drop,List.take_append_drop] at this
theorem Tr.struct {s:Sh} {ss:List Sh} {fs:Array Go.Field} (ht:P.underlying t=some (.struct fs)) (hC:P.cellsOf t=wR ss) (hs:∀ asx,uR ss asx->∃ y:den s,asx=cellsOf s y) (h:jO P shp fs.toList 0 ss):Tr P shp t s:=fun H enc w fuel cs x hx hw hlt=>by
 obtain ⟨xs,n,_,rfl,hl,hxl,hf⟩:=DataW.trod_struct ht hx
 obtain ⟨asx,h1,h2⟩:=h H enc w n cs xs (by omega) (by simpa using hxl) (fun i f hi=>hf i f (by simpa using hi)) (fun k hk=>hw k (by simpa [DataW.weights,ht] using hk)) hlt
 obtain ⟨y,rfl⟩:=hs asx h1
 exact ⟨y,by simpa using h2⟩
end
section
variable {H:Type} {enc:TypeId × Value->H} {P:Program} {shp:TypeId->Option Sh}
structure Ar (enc:TypeId × Value->H) (P:Program) (W:World) (t:TypeId) (v:Value):Prop where
 form:∃ base,Value.okWide P W .any base t v
 read:∃ d p fuel,DataW.trod enc P W 0 (fun _=>true) true fuel t v.cells.toList=some (d,p)/\(∀ n ∈ d.weights P t,n<=140737488351232)/\(∀ q ∈ p,q.block<W.heap.size)
variable {W:World} {t:TypeId} {v:Value}
theorem Ar.rp {s:Sh} (h:Ar enc P W t v) (ht:Tr P shp t s):∃ y:den s,Pds (gr shp W) (cellsOf s y) v.cells.toList:=by
 obtain ⟨d,p,fuel,h1,h2,h3⟩:=h.read
 exact ht H enc W fuel _ _ h1 h2 h3
theorem ru {a:AV} {u:Value} (h:Pds (gr shp W) [a] [u]):aO (gr shp W) [] (.c a) u:=by cases h with | cons h1 _=>exact dy h1
theorem Ar.int (h:Ar enc P W t v) (ht:P.underlying t=some (.int .i64)):∃ y:Int,aO (gr shp W) [] (.c (.int y)) v:=by
 obtain ⟨base,hf⟩:=h.form
 obtain ⟨n,rfl⟩:=okWide_int ht hf
 obtain ⟨y,h1⟩:=h.rp (shp:=shp) (Tr.int ht)
 exact ⟨y,ru (by simpa [Value.cells,cellsOf] using h1)⟩
theorem Ar.u8 (h:Ar enc P W t v) (ht:P.underlying t=some (.int .u8)):∃ y:UInt8,aO (gr shp W) [] (.c (.u8 y)) v:=by
 obtain ⟨base,hf⟩:=h.form
 obtain ⟨n,rfl⟩:=okWide_int ht hf
 obtain ⟨y,h1⟩:=h.rp (shp:=shp) (Tr.u8 ht)
 exact ⟨y,ru (by simpa [Value.cells,cellsOf] using h1)⟩
theorem Ar.bool (h:Ar enc P W t v) (ht:P.underlying t=some .bool):∃ y:Bool,aO (gr shp W) [] (.c (.bool (.atom y))) v:=by
 obtain ⟨base,hf⟩:=h.form
 obtain ⟨b,rfl⟩:=okWide_bool ht hf
 exact ⟨b,Pd.bool (e:=.atom b)⟩
theorem Ar.struct {s:Sh} {fs:Array Go.Field} (h:Ar enc P W t v) (hu:P.underlying t=some (.struct fs)) (ht:Tr P shp t s):∃ x:den s,aO (gr shp W) [] (.agg (cellsOf s x)) v:=by
 obtain ⟨base,hf⟩:=h.form
 obtain ⟨cs,rfl,_⟩:=okWide_struct hu hf
 obtain ⟨y,h1⟩:=h.rp ht
 exact ⟨y,cs.toList,by simp,ct (by simpa [Value.cells] using h1)⟩
theorem te {f:Nat} {args:List TV1} {pre:List Prop} {e:BE} {vs:List Value} (h:Sat P shp f args [] ⟨pre,[.c (.bool e)],none,false⟩) (he:e.val=true) (hv:All2 (aO (gr shp W) []) args vs) (htb:TabsOK (gr shp W):=by intro e he; simp [oC] at he):mg P f vs.toArray W fun r W'=>r = .bool true/\Kp [] W W':=by
 refine (h.2 ⟨shp,W.heap.size,fun _=>False⟩ [] W vs rfl ⟨.nil,fun _ _ _ _ _ h=>by simp at h,fun _ _ _ h=>by simp at h,fun _ h=>h.elim,Nat.le_refl _,htb⟩ hv).mono fun v w' ⟨us,h1,h2,h3⟩=>⟨?_,h2⟩
 cases h3 with | cons h4 h5=>
 cases h5
 have h4:Pd _ (.bool e) _:=h4
 cases h4
 rw [h1,he]; rfl
theorem sO {base:Nat} {ts:List TypeId} {args:Array Value} {ds:List (DataW H)} {p:List MemPlace} (hf:∀ (j:Nat) t v,ts[j]? = some t->args[j]? = some v->Value.okWide P W .any base t v)
  (h:DataW.TrodAll enc P W 0 (fun _=>true) true ts args.toList ds p) (hw:∀ n ∈ DataW.weightsEach P ts ds,n<=140737488351232) (hlt:∀ q ∈ p,q.block<W.heap.size) :
  args.size=ts.length/\∀ (j:Nat) t v,ts[j]? = some t->args[j]? = some v->Ar enc P W t v:=by
 have key:∀ (ts:List TypeId) (vs:List Value) (ds:List (DataW H)) (p:List MemPlace),DataW.TrodAll enc P W 0 (fun _=>true) true ts vs ds p->(∀ n ∈ DataW.weightsEach P ts ds,n<=140737488351232)->(∀ q ∈ p,q.block<W.heap.size) ->
   vs.length=ts.length/\∀ (j:Nat) t v,ts[j]? = some t->vs[j]? = some v->∃ d p fuel,DataW.trod enc P W 0 (fun _=>true) true fuel t v.cells.toList=some (d,p)/\(∀ n ∈ d.weights P t,n<=140737488351232)/\(∀ q ∈ p,q.block<W.heap.size):=by
  intro ts
  induction ts with
  | nil=>intro vs ds p h _ _; obtain ⟨rfl,_,_⟩:=trodAll_nil h; exact ⟨rfl,fun j t v h=>by simp at h⟩
  | cons t ts ih=>
   intro vs ds p h hw hlt
   obtain ⟨v,vs,d,ds,p1,p2,rfl,rfl,rfl,h1,h2⟩:=trodAll_cons h
   obtain ⟨k1,k2⟩:=ih vs ds p2 h2 (fun n hn=>hw n (by rw [DataW.weightsEach,List.mem_append]; exact .inr hn)) (fun q hq=>hlt q (List.mem_append_right _ hq))
   refine ⟨by simp [k1],fun j t' v' ht hv=>?_⟩
   cases j with
   | zero=>
    simp at ht hv
    subst ht; subst hv
    obtain ⟨fuel,hf⟩:=h1
    exact ⟨d,p1,fuel,hf,fun n hn=>hw n (by rw [DataW.weightsEach,List.mem_append]; exact .inl hn),fun q hq=>hlt q (List.mem_append_left _ hq)⟩
   | succ j=>exact k2 j t' v' (by simpa using ht) (by simpa using hv)
 obtain ⟨k1,k2⟩:=key ts args.toList ds p h hw hlt
 exact ⟨by simpa using k1,fun j t v ht hv=>⟨⟨base,hf j t v ht hv⟩,k2 j t v ht (by simpa using hv)⟩⟩
theorem oM (hl:laidOutB P=true) {W':World} (hb:Below W.heap.size W W'):∀ (ts:List TypeId) (vs:List Value) (ds:List (DataW H)) (p:List MemPlace),ts.all (fun t=>P.readableRec t && decide (t<P.types.size))=true->DataW.TrodAll enc P W 0 (fun _=>true) true ts vs ds p->(∀ q ∈ p,q.block<W.heap.size) ->
  DataW.TrodAll enc P W' 0 (fun b=>decide (b<W.heap.size)) true ts vs ds p:=by
 intro ts
 induction ts with
 | nil=>intro vs ds p _ h _; obtain ⟨rfl,rfl,rfl⟩:=trodAll_nil h; rfl
 | cons t ts ih=>
  intro vs ds p hr h hlt
  obtain ⟨v,vs,d,ds,p1,p2,rfl,rfl,rfl,h1,h2⟩:=trodAll_cons h
  rw [List.all_cons,Bool.and_eq_true,Bool.and_eq_true,decide_eq_true_eq] at hr
  exact ⟨p1,p2,Below.trod hl hr.1.1 hr.1.2 h1 hb fun q hq=>hlt q (List.mem_append_left _ hq),ih vs ds p2 hr.2 h2 fun q hq=>hlt q (List.mem_append_right _ hq),rfl⟩
theorem rk {fn:Func} {s:ChangeSpec} {tb:TypeId} {W':World} {args:Array Value} {ds:List (DataW H)} {p:List MemPlace} (hl:laidOutB P=true)
  (hrow:fn.params.toList.all (fun t=>P.readableRec t && decide (t<P.types.size))=true) (hr:fn.resultTypes = #[tb]) (hb:P.underlying tb=some .bool) (hv:s.vars=[])
  (hs:s.fn H (ds++[])={ results:=[.lit (.bool true)],args:=ds }) (hW:DataW.Whole enc P fn.params.toList s.vars false W args.toList ds [] p) (hA:DataW.TrodAll enc P W 0 (fun _=>true) true fn.params.toList args.toList ds p) (hlt:∀ q ∈ p,q.block<W.heap.size) (hk:Kp [] W W') :
  s.post enc P fn false true false false W args (.bool true) W':=by
 refine ⟨ds,[],p,[],p,[],hW,?_,?_,?_,hk.below.frame _,fun h=>by cases h⟩
 ·rw [hs,hr]
  exact trodAll_mk1 ⟨1,by simp [DataW.trod,Value.cells,hb]⟩
 ·rw [hs]
  exact oM hl hk.below _ _ _ _ hrow hA hlt
 ·rw [hs,hv]; rfl
end
end Go.Proofs.YtagpmhlokhoanaaDoor
namespace Go.Proofs.YtagpmhlokhoanaaDoor
open Go.RowKit Go.ChangeShapes Go.WideShapes
theorem lJ {H:Type} {enc:TypeId × Value->H} {P:Program} {w:World} {base:Nat} {sp:Nat->Bool} {held:Bool} {fuel:Nat} {t e:TypeId} {n:Nat} {cs:List Value} {ls:List (List UInt8)} {p:List MemPlace}
  (ht:P.underlying t=some (.array n e)) (he:P.underlying e=some .string) (hce:P.cellsOf e=1) (hct:P.cellsOf t=n)
  (h:DataW.trod enc P w base sp held fuel t cs=some (.agg (ls.map fun b=>.lit (.string b)),p)):cs=ls.map fun b=>Value.string ⟨b.toArray⟩:=by
 obtain ⟨xs,m,rfl,hx,hl,hn,hel⟩:=DataW.trod_array ht h
 simp only [Prod.mk.injEq,DataW.agg.injEq] at hx
 have hxs:=hx.1
 have hzl:ls.length=n:=by
  have:=congrArg List.length hxs
  simp at this; omega
 rw [hct] at hl
 apply List.ext_getElem?
 intro i
 by_cases hi:i<n
 ·have h1:=hel i hi
  rw [hce,Nat.mul_one] at h1
  have hxi:xs[i]? = some (xs[i]'(by omega)):=List.getElem?_eq_getElem (by omega)
  rw [hxi] at h1
  obtain ⟨s,hc,hq,_⟩:=DataW.trod_string he h1
  have h2:cs[i]? = some (.string s):=by
   have:=congrArg (·[0]?) hc
   simpa [List.getElem?_take,List.getElem?_drop] using this
  have h3:=congrArg (·[i]?) hxs
  simp only [List.getElem?_map,hxi,Option.map_some,hq] at h3
  cases hq2:ls[i]? with
  | none=>rw [hq2] at h3; cases h3
  | some b=>
   rw [hq2] at h3
   simp only [Option.map_some,Option.some.injEq,DataW.lit.injEq,Lit.string.injEq] at h3
   rw [h2,List.getElem?_map,hq2,h3]
   simp
 ·rw [List.getElem?_eq_none (by omega),List.getElem?_eq_none (by simp; omega)]
theorem gu {P:Program} {w:World} {name:String} {g:Nat} {cs:List Value} (hg:P.globalNamed name=some g) (h:w.var? P name=some cs.toArray):∃ t fr,w.heap[g]? = some (.cells (List.toArray cs) t fr):=by
 unfold World.var? at h
 rw [hg] at h
 have h':(match w.heap[g]? with
  | some (.cells cs _ _)=>some cs
  | _=>none)=some cs.toArray:=h
 split at h'
 ·rename_i c t fr hq
  cases h'
  exact ⟨t,fr,hq⟩
 ·cases h'
theorem my {c:Cx}:∀ {l:List Str},(∀ s ∈ l,s.b.length<=140737488355328)->Pds c (l.flatMap (cellsOf .str)) (l.map Str.val)
 | [],_=>.nil
 | s :: l,h=>.cons (.str (h s (by simp))) (my fun x hx=>h x (by simp [hx]))
theorem mu {c:Cx}:∀ {l:List U64},(∀ s ∈ l,s.n<18446744073709551616)->Pds c (l.flatMap (cellsOf .u64)) (l.map fun x=>.int .u64 (x.n:Int))
 | [],_=>.nil
 | s :: l,h=>.cons (.u64 (h s (by simp))) (mu fun x hx=>h x (by simp [hx]))
section
variable {H:Type} {enc:TypeId × Value->H}
theorem jg {C:Checked} {os:Os} {f:FuncId} {fn:Func} {s:ChangeSpec} {conds:List PathCond} {tb:TypeId} {L:List (String × DataW Unit)} (own:ownKnob C.prog.godebug=none) (started:os.Started) (noInit:C.prog.inits.idxOf? f=none) (hfn:C.prog.funcs[f]? = some fn)
  (witness:∃ (w:World) (tape:Tape) (i:Input),w.os=os/\(w.forCall tape i).Shaped C.prog/\i.vars=[]/\Input.okWide C.prog (w.forCall tape i) .any w.heap.size f i /\
   ((s.pre enc C.prog fn conds false (w.forCall tape i).memory i.args/\laidMetH C.prog L (w.forCall tape i).memory)/\sizedMet enc C.prog fn (OpenSpec.ofChange s) false (w.forCall tape i).memory i.args)/\({}:Assume).holds C.prog (lone (Frame.enter C.prog f i.args .normal) [] (w.forCall tape i)))
  (hl:laidOutB C.prog=true) (hrow:fn.params.toList.all (fun t=>C.prog.readableRec t && decide (t<C.prog.types.size))=true) (hr:fn.resultTypes = #[tb]) (hb:C.prog.underlying tb=some .bool) (hv:s.vars=[])
  (hs:∀ ds:List (DataW H),ds.length=fn.params.size->s.fn H ds={ results:=[.lit (.bool true)],args:=ds })
  (law:∀ (W:World) (args:Array Value),laidMetH C.prog L W->args.size=fn.params.toList.length->(∀ (j:Nat) t v,fn.params.toList[j]? = some t->args[j]? = some v->Ar enc C.prog W t v)->mg C.prog f args W fun r W'=>r = .bool true/\Kp [] W W') :
  ReturnsInHanded {} C os f .any (fun w args=>(s.pre enc C.prog fn conds false w args/\laidMetH C.prog L w)/\sizedMet enc C.prog fn (OpenSpec.ofChange s) false w args) (s.post enc C.prog fn false true false false):=by
 refine returnsInHanded_of_change_and (X:=fun w _=>laidMetH C.prog L w) (fun _ _ _ hh h=>h.of_heap hh) own started noInit hfn witness ?_
 intro W base args ds gs before hval hW _ hsz hL _
 have hW0:=hW
 obtain ⟨p,q,hA,hV,rfl,_,_⟩:=hW
 rw [hv] at hV
 obtain ⟨rfl,rfl⟩:=trodVars_none hV
 simp only [List.append_nil] at hW0 hsz
 have hlt:∀ x ∈ p,x.block<W.heap.size:=fun x hx=>by simpa using hW0.lt x hx
 have hwt:∀ n ∈ DataW.weightsEach C.prog fn.params.toList ds,n<=140737488351232:=fun n hn=>by
  have hmem:n ∈ DataW.weightsEach C.prog (fn.params.toList++s.plain.varTypes C.prog) ds:=by
   have:∀ (ts us:List TypeId) (ds:List (DataW H)),n ∈ DataW.weightsEach C.prog ts ds->n ∈ DataW.weightsEach C.prog (ts++us) ds:=by
    intro ts
    induction ts with
    | nil=>intro us ds h; simp [DataW.weightsEach] at h
    | cons t ts ih=>
     intro us ds h
     cases ds with
     | nil=>simp [DataW.weightsEach] at h
     | cons d ds=>
      rw [DataW.weightsEach,List.mem_append] at h
      rw [List.cons_append,DataW.weightsEach,List.mem_append]
      exact h.imp id (ih us ds)
   exact this _ _ _ hn
  exact of_decide_eq_true (List.all_eq_true.1 hsz n hmem)
 obtain ⟨hsize,har⟩:=sO (fun j t v ht hv=>hval j t v (by simpa using ht) hv) hA hwt hlt
 have hdl:ds.length=fn.params.size:=by
  have:∀ (ts:List TypeId) (vs:List Value) (ds:List (DataW H)) (p:List MemPlace),DataW.TrodAll enc C.prog W 0 (fun _=>true) true ts vs ds p->ds.length=ts.length:=by
   intro ts
   induction ts with
   | nil=>intro vs ds p h; obtain ⟨_,rfl,_⟩:=trodAll_nil h; rfl
   | cons t ts ih=>intro vs ds p h; obtain ⟨v,vs,d,ds,p1,p2,rfl,rfl,rfl,_,h2⟩:=trodAll_cons h; simp [ih vs ds p2 h2]
  simpa using this _ _ _ _ hA
 refine Calls.mono (law W args hL hsize har) fun e W' ⟨v,he,hv',hk⟩=>⟨v,he,?_⟩
 subst hv'
 exact rk hl hrow hr hb hv (by rw [List.append_nil]; exact hs ds hdl) hW0 hA hlt hk
end
end Go.Proofs.YtagpmhlokhoanaaDoor
namespace Go.Proofs.YtagpmhlokhoanaaDoor
open Go.RowKit Go.ChangeShapes Go.WideShapes
theorem qa {c:Array Value} {l:List Value} (h:c.toList=l):c=l.toArray:=by rw [<- h]
theorem kV {W:World} {g:Nat} {o:Obj} (h:W.heap[g]? = some o):(gr (aq bH) W).S g/\g<(gr (aq bH) W).B0:=by
 have h1:=(Array.getElem?_eq_some_iff.1 h).1
 refine ⟨⟨h1,?_,fun h=>h⟩,h1⟩
 rintro ⟨i,r,h2,_⟩
 simp at h2
theorem tJ {W:World} {g:Nat} {xs:List Str} {t:TypeId} {fr:Nat × Nat} (h:W.heap[g]? = some (.cells (List.toArray (xs.map Str.val)) t fr)) (h1:xs.length<=1000) (h2:∀ s ∈ xs,s.b.length<=140737488355328):(gr (aq bH) W).S g/\g<(gr (aq bH) W).B0/\xs.length<=maxLen/\xs.length*Sh.bytes .str<=140737488355328/\∃ cells t fr,(gr (aq bH) W).w.heap[g]? = some (.cells (List.toArray cells) t fr)/\Pds (gr (aq bH) W) (xs.flatMap (cellsOf .str)) cells:=
 ⟨(kV h).1,(kV h).2,by simp only [maxLen]; omega,by simp only [Sh.bytes]; omega,_,t,fr,h,my h2⟩
theorem tn {W:World} {g:Nat} {xs:List U64} {t:TypeId} {fr:Nat × Nat} (h:W.heap[g]? = some (.cells (List.toArray (xs.map fun x=>Value.int .u64 (x.n:Int))) t fr)) (h1:xs.length<=1000) (h2:∀ s ∈ xs,s.n<18446744073709551616):(gr (aq bH) W).S g/\g<(gr (aq bH) W).B0/\xs.length<=maxLen/\xs.length*Sh.bytes .u64<=140737488355328/\∃ cells t fr,(gr (aq bH) W).w.heap[g]? = some (.cells (List.toArray cells) t fr)/\Pds (gr (aq bH) W) (xs.flatMap (cellsOf .u64)) cells:=
 ⟨(kV h).1,(kV h).2,by simp only [maxLen]; omega,by simp only [Sh.bytes]; omega,_,t,fr,h,mu h2⟩
theorem sF {W:World} (h0:∃ t fr,W.heap[0]? = some (.cells (List.toArray (fj.map Str.val)) t fr)) (h1:∃ t fr,W.heap[1]? = some (.cells (List.toArray (mO.map fun x=>Value.int .u64 (x.n:Int))) t fr)):TabsOK (gr (aq bH) W):=by
 obtain ⟨t0,f0,h0⟩:=h0
 obtain ⟨t1,f1,h1⟩:=h1
 intro e he
 simp only [oC,List.mem_cons,List.not_mem_nil,or_false] at he
 rcases he with rfl | rfl
 ·exact tJ h0 (by decide) (by decide)
 ·exact tn h1 (by decide) (by decide)
theorem pn {W:World} (h:laidMetH Tryd.prog Rows.scriptOnceRow.laid W):TabsOK (gr (aq bH) W):=by
 rw [MakeChecks.laidMetH_plain _ _ _ (by kernel_rfl)] at h
 obtain ⟨_,⟨_,_,_,_,_,_,_,_,_,_,⟨_,_,_,_,_,_,_,_,_,_,⟨g2,t2,c2,_,_,_,hg2,ht2,hv2,hd2,⟨g3,t3,c3,_,_,_,hg3,ht3,hv3,hd3,_,_⟩,_⟩,_⟩,_⟩,_,_⟩:=h
 obtain rfl:1=g2:=Option.some.inj ((show some 1=Tryd.prog.globalNamed _ by kernel_rfl).trans hg2)
 obtain rfl:0=g3:=Option.some.inj ((show some 0=Tryd.prog.globalNamed _ by kernel_rfl).trans hg3)
 obtain rfl:106=t2:=Option.some.inj ((show some 106=(Tryd.prog.globals[1]?).map (·.type) by kernel_rfl).trans ht2)
 obtain rfl:45=t3:=Option.some.inj ((show some 45=(Tryd.prog.globals[0]?).map (·.type) by kernel_rfl).trans ht3)
 have e2:=Lib.cells_of_tab (k:=.u64) (zs:=Lib.pow10Tab) Tryd.underlying106 Tryd.underlying90 (by kernel_rfl) (by kernel_rfl) hd2
 have e3:=lJ (ls:=fj.map (·.b)) Tryd.underlying45 Tryd.underlying9 (by kernel_rfl) (by kernel_rfl) hd3
 refine sF ?_ ?_
 ·exact gu hg3 (hv3.trans (congrArg some (qa (e3.trans rfl))))
 ·exact gu hg2 (hv2.trans (congrArg some (qa (e2.trans rfl))))
end Go.Proofs.YtagpmhlokhoanaaDoor
namespace Go.Proofs.YtagpmhlokhoanaaDoor
open Go.RowKit Go.ChangeShapes Go.WideShapes
theorem rQ:ownKnob Tryd.prog.godebug=none:=by kernel_rfl
theorem qC:laidOutB Tryd.prog=true:=by kernel_rfl
theorem yb:Tr Tryd.prog (aq bH) 24 (.nm .command):=Tr.struct (ss:=[.int,.int,.int,.int,.int,.int,(.lst .int),.str]) Tryd.underlying24 (by kernel_rfl) (fun cells h=>by
 obtain ⟨y0,l0,rfl,y1,l1,rfl,y2,l2,rfl,y3,l3,rfl,y4,l4,rfl,y5,l5,rfl,y6,l6,rfl,y7,l7,rfl,rfl⟩:=h
 exact ⟨⟨y0,y1,y2,y3,y4,y5,y6,y7⟩,rfl⟩) (jO.cons (Tr.int Tryd.underlying3) rfl (by kernel_rfl) (jO.cons (Tr.int Tryd.underlying3) rfl (by kernel_rfl) (jO.cons (Tr.int Tryd.underlying3) rfl (by kernel_rfl) (jO.cons (Tr.int Tryd.underlying3) rfl (by kernel_rfl) (jO.cons (Tr.int Tryd.underlying3) rfl (by kernel_rfl) (jO.cons (Tr.int Tryd.underlying3) rfl (by kernel_rfl) (jO.cons (Tr.list Tryd.underlying22 (by kernel_rfl) (by kernel_rfl) (Tr.int Tryd.underlying3)) rfl (by kernel_rfl) (jO.cons (Tr.str Tryd.underlying9) rfl (by kernel_rfl) (jO.nil)))))))))
theorem vX:Tr Tryd.prog (aq bH) 26 (.nm .event):=Tr.struct (ss:=[.int,.int,.int,(.nm .command)]) Tryd.underlying26 (by kernel_rfl) (fun cells h=>by
 obtain ⟨y0,l0,rfl,y1,l1,rfl,y2,l2,rfl,y3,l3,rfl,rfl⟩:=h
 exact ⟨⟨y0,y1,y2,y3⟩,rfl⟩) (jO.cons (Tr.int Tryd.underlying3) rfl (by kernel_rfl) (jO.cons (Tr.int Tryd.underlying3) rfl (by kernel_rfl) (jO.cons (Tr.int Tryd.underlying3) rfl (by kernel_rfl) (jO.cons (yb) rfl (by kernel_rfl) (jO.nil)))))
set_option maxRecDepth 100000 in
theorem qI (os:Os) (args:Array Value):laidMetH Tryd.prog Rows.scriptOnceRow.laid ((World.doorLaid Tryd.prog 400 os).forCall (fun _ _=>0) ⟨#[],args,[]⟩).memory:=
 laidMetH_of_parts3 (fuel:=8) (laidMet_of_run' 8 (by kernel_rfl) (by kernel_rfl)) (by kernel_rfl) (by kernel_rfl)
set_option maxRecDepth 100000 in
theorem gD (os:Os) (started:os.Started) (H:Type) (enc:TypeId × Value->H) :
  ReturnsInHanded {} Tryd.checked os 3 .any (fun w args=>(Rows.scriptOnceSpec.pre enc Tryd.prog Tryd.f3 Rows.scriptOnceRow.domain false w args/\laidMetH Tryd.prog Rows.scriptOnceRow.laid w)/\sizedMet enc Tryd.prog Tryd.f3 (OpenSpec.ofChange Rows.scriptOnceSpec) false w args) (Rows.scriptOnceSpec.post enc Tryd.prog Tryd.f3 false true false false):=by
 refine jg (C:=Tryd.checked) (L:=Rows.scriptOnceRow.laid) rQ started (by kernel_rfl) Tryd.func3
  (ChangeSpec.witness_shaped (enc:=enc) (C:=Tryd.checked) (os:=os) (X:=fun w _=>laidMetH Tryd.prog Rows.scriptOnceRow.laid w) false (World.doorLaid Tryd.prog 400 os) #[.agg #[.int .i64 0,.int .i64 0,.int .i64 0,.int .i64 0,.int .i64 0,.int .i64 0,.int .i64 0,.int .i64 0,.int .i64 0,.slice none 0 0,.string ⟨#[]⟩],.agg #[.int .i64 0,.int .i64 0,.int .i64 0,.int .i64 0,.int .i64 0,.int .i64 0,.int .i64 0,.int .i64 0,.int .i64 0,.slice none 0 0,.string ⟨#[]⟩]] 8 rfl (World.shaped_of_RefB (by kernel_rfl) (by kernel_rfl)) (by kernel_rfl) (by kernel_rfl) (by kernel_rfl) (qI os _)) qC (by kernel_rfl) (by kernel_rfl) Tryd.underlying4 rfl (fun ds h=>?_) ?_
 ·match ds,h with
  | [d0,d1],_=>rfl
 ·intro W args hL hs ha
  obtain ⟨l⟩:=args
  match l,hs with
  | [v0,v1],_=>
   obtain ⟨x0,h0⟩:=Ar.struct (shp:=aq bH) (ha 0 26 _ rfl rfl) Tryd.underlying26 vX
   obtain ⟨x1,h1⟩:=Ar.struct (shp:=aq bH) (ha 1 26 _ rfl rfl) Tryd.underlying26 vX
   exact te (sE x0 x1) rfl (.cons h0 (.cons h1 .nil)) (pn hL)
theorem scriptOnce_holds:Rows.ScriptOnceSaid:=
 OpenClaim.holds_of_wide 3 Tryd.f3 rfl rfl rfl rfl rfl rfl rfl ⟨rfl,rfl,rfl,rfl,rfl⟩ rfl rfl rfl rfl rfl (by kernel_rfl) Tryd.func3 (by kernel_rfl)
  (of_decide_eq_true (by kernel_rfl)) (by unfold Func.isWrapper; first | (rw [if_pos (by decide +kernel)]; kernel_rfl) | (rw [if_neg (by decide +kernel)]; exact ⟨rfl,rfl⟩))
  (fun os started H enc _=>gD os started H enc)
theorem scriptOnceCard_holds:Rows.ScriptOnceCardSaid:=
 Claim7.holds_tied_plain_at .later [] Rows.scriptOnceCard.laidKinds true Rows.scriptOnceCard.stood.harness true
  scriptOnce_holds (fun _ h=>by cases h) (by kernel_rfl) (fun _ h=>by cases h) scriptOnce_row_tie rfl ⟨rfl,rfl⟩ (by kernel_rfl) rfl
  (fun f fn hf hfn=>by
   obtain rfl:3=f:=Option.some.inj ((show some 3=Tryd.prog.funcNamed Rows.scriptOnceRow.func by kernel_rfl).trans hf)
   obtain rfl:fn=Tryd.f3:=(Option.some.inj (Tryd.func3.symm.trans hfn)).symm
   exact ⟨by kernel_rfl,fun j t ht=>by
    rw [Tryd.params3] at ht
    have hm:t ∈ [26]:=by simpa using Array.mem_of_getElem? ht
    have hall:([26].all fun u=>!Tryd.prog.wantsStandIn u)=true:=by kernel_rfl
    exact (show Tryd.prog.wantsStandIn t=false by simpa using List.all_eq_true.1 hall t hm)⟩)
  (by kernel_rfl)
end Go.Proofs.YtagpmhlokhoanaaDoor
