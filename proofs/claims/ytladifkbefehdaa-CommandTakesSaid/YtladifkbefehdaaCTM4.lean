/- What leads to the law, part 4. Conditions: each lemma's own. -/
import Derived.Test.YtladifkbefehdaaCTM3
set_option linter.unusedVariables false
set_option linter.unusedSimpArgs false
namespace Go.Proofs.Ytladifkbefehdaa
open Go.RowKit
def eF (n:Int) (used:Bool) (lo hi:Int):Bool:=if used then bt n lo hi else decide (n=0)
def nch (l:List Snap):Nat:=(l.flatMap Snap.chunks).length
theorem gd {α:Type} {l:List α} {k:Nat} {d:α} (h:(k:Int)<l.length):l[k]? = some (l.getD k d):=by
 have hk:k<l.length:=by omega
 rw [List.getD_eq_getElem?_getD,List.getElem?_eq_getElem hk]; rfl
theorem n_ {l:List Int} {k:Nat} (h:aD id 64 0 (l.take k)=true) (hk:(k:Int)<l.length) (hb:bt (l.getD k (dflt .int)) 1 64=true/\((k:Int)<=0\/l.getD ((k:Int) - 1).toNat (dflt .int)<l.getD k (dflt .int))):aD id 64 0 (l.take (k+1))=true:=by
 have h1:=CQ hb.1
 refine kA (key:=id) h (gd hk) ?_ h1.2
 by_cases h0:k=0
 ·subst h0; show (0:Int)<l.getD 0 (dflt .int); omega
 ·rw [lF (by omega) (gd (d:=dflt .int) (by omega))]
  have:=hb.2.resolve_left (by omega)
  rwa [show ((k:Int) - 1).toNat=k - 1 by omega] at this
theorem oB {l:List Int} {k:Nat} (hk:(k:Int)<l.length) (hb:bt (l.getD k (dflt .int)) 1 64=false\/0<(k:Int)/\l.getD k (dflt .int)<=l.getD ((k:Int) - 1).toNat (dflt .int)) (h:aD id 64 0 (l.take k)=true):false=rowF l:=by
 refine gp (gd (d:=dflt .int) hk) fun h2=>?_
 rcases hb with hb | ⟨h3,h4⟩
 ·have h5:=Kb hb
  have:=vx h
  omega
 ·rw [lF (by omega) (gd (d:=dflt .int) (by omega))] at h2
  rw [show ((k:Int) - 1).toNat=k - 1 by omega] at h4
  have:=h2.1
  dsimp only [id] at this
  omega
def CN (l:List Int):List (Nat × LI):=[(2,{ σ:=Nat,F:=fun k=>([(0,one (.fz .int (l))),(3,one (.int k))],[]),J:=fun k=>k<=l.length/\aD id 64 0 (l.take k)=true,μ:=fun k=>l.length - k })]
theorem FM (l:List Int) (r0:Bool):cD aF yR (CN l) Try.f72 [.c (.fz .int (l))] [] [.c (.bool (.atom (r0)))]=((fun (q4:Int)=>(fun (q3:Int)=>(fun (q2:den Sh.int)=>(fun (q1:Int)=>(fun (q0:Int)=>l.length*(8:Nat)<=(140737488355328:Nat)->∃ (s0:Nat),(l=l/\q1=(↑s0:Int))/\(s0<=l.length/\aD id q4 q1 (List.take s0 l)=true)/\∀ (s:Nat),(fun (q7:den Sh.int)=>(fun (q6:Int)=>(fun (q5:Prop)=>s<=l.length/\aD id q4 q1 (List.take s l)=true->(q6<q3->q1<=q6/\q6<q3/\(q5->q1<=q6/\q6<q3)/\(q5->I64 (q6 - q0))/\(q5->q1<=q6 - q0/\q6 - q0<q3)/\(I64 q7->(q5->I64 q7)->(q5->I64 (l.getD (q6 - q0).toNat q2))->(bt q7 q0 q4=false\/q1<q6/\q7<=l.getD (q6 - q0).toNat q2->false=r0)/\(bt q7 q0 q4=true/\(q6<=q1\/l.getD (q6 - q0).toNat q2<q7)->I64 (q6+q0)/\∃ (s':Nat),(l=l/\q6+q0=(↑s':Int))/\(s' <= l.length/\aD id q4 q1 (List.take s' l)=true)/\l.length - s' < l.length - s)))/\(q3<=q6->(decide (q0<=q3) && decide (q3<=(8:Int)))=r0)) (bt q7 q0 q4=true/\q1<q6)) (↑s:Int)) (l.getD s q2)) (1:Int)) (0:Int)) (dflt Sh.int)) (↑l.length:Int)) (64:Int)):=by kernel_rfl
theorem F_ (l:List Int):Sat Try.prog (al aF) 72 [.c (.fz .int (l))] [] ⟨[],[.c (.bool (.atom ((rowF l))))],none,false⟩:=by
 refine aI kY (CN l) Try.func72 (by decide) (by kernel_rfl) ?_
 rw [FM]
 (repeat' (first | with_reducible refine And.intro ?_ ?_ | with_reducible refine and_imp.2 ?_ | intro))
 all_goals try (first | (first | with_reducible rfl | with_reducible assumption | omega | (refine ag ?_ ?_ <;> omega)) | exact rfl | exact (n_ (by with_reducible assumption) (by omega) (And.intro (by with_reducible assumption) (by assumption))) | exact (oB (by omega) (by assumption) (by with_reducible assumption)) | exact (jA (by with_reducible assumption) (by omega)))
 all_goals try (refine ⟨0,?_⟩; (repeat' (first | with_reducible refine And.intro ?_ ?_ | with_reducible refine and_imp.2 ?_ | intro)))
 all_goals try (first | (first | with_reducible rfl | with_reducible assumption | omega | (refine ag ?_ ?_ <;> omega)) | exact rfl | exact (n_ (by with_reducible assumption) (by omega) (And.intro (by with_reducible assumption) (by assumption))) | exact (oB (by omega) (by assumption) (by with_reducible assumption)) | exact (jA (by with_reducible assumption) (by omega)))
 all_goals try (refine ⟨‹Nat› + 1,?_⟩; (repeat' (first | with_reducible refine And.intro ?_ ?_ | with_reducible refine and_imp.2 ?_ | intro)))
 all_goals (first | (first | with_reducible rfl | with_reducible assumption | omega | (refine ag ?_ ?_ <;> omega)) | exact rfl | exact (n_ (by with_reducible assumption) (by omega) (And.intro (by with_reducible assumption) (by assumption))) | exact (oB (by omega) (by assumption) (by with_reducible assumption)) | exact (jA (by with_reducible assumption) (by omega)))
theorem AF (x:Int) (r0:Int):cD aF yR [] Try.f73 [.c (.int (x))] [] [.c (.int (r0))]=(I64 x->(bt x (1:Int) (8:Int)=true->(1:Int)=r0)/\(bt x (1:Int) (8:Int)=false->(bt x (9:Int) (10:Int)=true->(2:Int)=r0)/\(bt x (9:Int) (10:Int)=false->(bt x (11:Int) (12:Int)=true->(3:Int)=r0)/\(bt x (11:Int) (12:Int)=false->(0:Int)=r0)))):=by kernel_rfl
theorem Ce (x:Int):Sat Try.prog (al aF) 73 [.c (.int (x))] [] ⟨[],[.c (.int ((aL x)))],none,false⟩:=by
 refine aI kY [] Try.func73 (by decide) (by kernel_rfl) ?_
 rw [AF]
 intro _
 by_cases h:1<=x/\x<=12
 ·rw [Af h]; simp only [bt,Bool.and_eq_true,Bool.and_eq_false_iff,decide_eq_true_eq,decide_eq_false_iff_not]; (repeat' (first | with_reducible refine And.intro ?_ ?_ | with_reducible refine and_imp.2 ?_ | intro)) <;> (repeat split) <;> omega
 ·rw [tI h]; exact ⟨fun h1=>absurd (CQ h1) (by omega),fun _=>⟨fun h1=>absurd (CQ h1) (by omega),fun _=>⟨fun h1=>absurd (CQ h1) (by omega),fun _=>rfl⟩⟩⟩
theorem wR (n:Int) (used:Bool) (lo:Int) (hi:Int) (r0:Bool):cD aF yR [] Try.f74 [.c (.int (n)),.c (.bool (.atom (used))),.c (.int (lo)),.c (.int (hi))] [] [.c (.bool (.atom (r0)))]=(I64 n->I64 lo->I64 hi->(used=false->decide (n=(0:Int))=r0)/\(used=true->bt n lo hi=r0)):=by kernel_rfl
theorem yF (n:Int) (used:Bool) (lo:Int) (hi:Int):Sat Try.prog (al aF) 74 [.c (.int (n)),.c (.bool (.atom (used))),.c (.int (lo)),.c (.int (hi))] [] ⟨[],[.c (.bool (.atom ((eF n used lo hi))))],none,false⟩:=by
 refine aI kY [] Try.func74 (by decide) (by kernel_rfl) ?_
 rw [wR]
 grind [eF]
def Ey:cH:=(bT 74 (bM (ai (kC cI) (ai (kC cB) (ai (kC cI) (ai (kC cI) aO)))) aP fun (n,used,lo,hi,_) (_)=>⟨[],[.c (.bool (.atom ((eF n used lo hi))))],none,false⟩) (bT 73 (bM (ai (kC cI) aO) aP fun (x,_) (_)=>⟨[],[.c (.int ((aL x)))],none,false⟩) (bT 72 (bM (ai (kC (cL .int)) aO) aP fun (l,_) (_)=>⟨[],[.c (.bool (.atom ((rowF l))))],none,false⟩) yR)))
theorem tQ:aT Try.prog (al aF) Ey:=(av (au (ab (aq aK) (ab (aq p_) (ab (aq aK) (ab (aq aK) aj)))) ak fun (n,used,lo,hi,_) (_) _=>yF n used lo hi ) (av (au (ab (aq aK) aj) ak fun (x,_) (_) _=>Ce x ) (av (au (ab (aq bf) aj) ak fun (l,_) (_) _=>F_ l ) kY)))
end Go.Proofs.Ytladifkbefehdaa
namespace Go.Proofs.Ytladifkbefehdaa
open Go.RowKit
theorem BU (c:Command) (v:Int) (r0:Int):cD aF Ey [] Try.f33 [.agg (cellsOf (.nm .command) c),.c (.int (v))] [] [.c (.int (r0))]=((fun (q0:Int)=>I64 c.kind->I64 c.client->I64 c.seq->I64 c.set->I64 c.id->I64 c.n->c.chunks.length*(8:Nat)<=(140737488355328:Nat)->c.text.b.length<=(140737488355328:Nat)->I64 v->I64 q0->(br v=false\/q0=(0:Int)->(1:Int)=r0)/\(br v=true/\¬q0=(0:Int)->(v<q0->(10:Int)=r0)/\(q0<=v->(dE c=false->(1:Int)=r0)/\(dE c=true->(0:Int)=r0)))) (aL c.kind)):=by kernel_rfl
theorem Ca (c:Command) (v:Int):Sat Try.prog (al aF) 33 [.agg (cellsOf (.nm .command) c),.c (.int (v))] [] ⟨[],[.c (.int ((bJ c v)))],none,false⟩:=by
 refine aI tQ [] Try.func33 (by decide) (by kernel_rfl) ?_
 rw [BU]
 rw [show br v=bt v 1 3 from rfl]
 (repeat' (first | with_reducible refine And.intro ?_ ?_ | with_reducible refine and_imp.2 ?_ | intro))
 all_goals (first | (first | with_reducible rfl | with_reducible assumption | omega | (refine ag ?_ ?_ <;> omega)) | (simp only [bJ]; grind))
def CJ:cH:=(bT 33 (bM (ai (kT (.nm .command)) (ai (kC cI) aO)) aP fun (c,v,_) (_)=>⟨[],[.c (.int ((bJ c v)))],none,false⟩) Ey)
theorem xw:aT Try.prog (al aF) CJ:=(av (au (ab ck (ab (aq aK) aj)) ak fun (c,v,_) (_) _=>Ca c v ) tQ)
end Go.Proofs.Ytladifkbefehdaa
namespace Go.Proofs.Ytladifkbefehdaa
open Go.RowKit
def CH:cH:=CJ
theorem wq:aT Try.prog (al aF) CH:=xw
end Go.Proofs.Ytladifkbefehdaa
namespace Go.Proofs.Ytladifkbefehdaa
open Go.RowKit
section
variable {B:Bool} {k:Nat}
variable {st:State} {v:Int}
end
def wQ:cH:=CH
theorem qA:aT Try.prog (al aF) wQ:=wq
end Go.Proofs.Ytladifkbefehdaa
namespace Go.Proofs.Ytladifkbefehdaa
open Go.RowKit
theorem wc {c:Command} {lo hi:Int} (hlo:lo=(iR c.kind).1) (hhi:hi=(iR c.kind).2):((((((eF c.client (!decide (c.kind=8)) 1 8 && eF c.seq (!decide (c.kind=8) && !decide (c.kind=1)) 1 1048576) && eF c.set (bt c.kind 2 4) 1 8) && eF c.id (decide (c.kind=5) || decide (c.kind=7) || bt c.kind 9 11) 1 1048576) && eF c.n (decide (c.kind=6) || decide (c.kind=8) || decide (c.kind=12)) lo hi) && sR c) && (decide (((c.text.b.length:Nat):Int)=0) || (decide (c.kind=11) && decide (((c.text.b.length:Nat):Int)<=16))))=dE c:=by
 subst hlo; subst hhi; exact vW
theorem Jl {c:Command} {v:Int} (h:bt v 1 3=false\/aL c.kind=0):1=bJ c v:=by
 refine HW ?_
 rcases h with h | h
 ·rw [h]; rfl
 ·rw [decide_eq_true h,Bool.or_true]
theorem EX {c:Command} {v:Int} (h1:bt v 1 3=true) (h2:¬ aL c.kind=0):(!(bt v 1 3) || decide (aL c.kind=0))=false:=by rw [h1,decide_eq_false h2]; rfl
theorem HT {c:Command} {v:Int} (h1:bt v 1 3=true) (h2:¬ aL c.kind=0) (h3:v<aL c.kind):10=bJ c v:=EK (EX h1 h2) h3
theorem Ji {c:Command} {v lo hi:Int} {p:Prop} (h1:bt v 1 3=true) (h2:¬ aL c.kind=0) (h3:aL c.kind<=v) (h:((((((eF c.client (!decide (c.kind=8)) 1 8=false\/eF c.seq (!decide (c.kind=8) && !decide (c.kind=1)) 1 1048576=false)\/eF c.set (bt c.kind 2 4) 1 8=false)\/eF c.id (decide (c.kind=5) || decide (c.kind=7) || bt c.kind 9 11) 1 1048576=false)\/eF c.n (decide (c.kind=6) || decide (c.kind=8) || decide (c.kind=12)) lo hi=false)\/p)\/¬ ((c.text.b.length:Nat):Int)=0/\(¬ c.kind=11\/16<((c.text.b.length:Nat):Int)))) (hlo:lo=(iR c.kind).1) (hhi:hi=(iR c.kind).2) (hp:p->sR c=false):1=bJ c v:=by
 refine EN (EX h1 h2) (by omega) ?_
 rw [<- wc hlo hhi]
 rcases h with (((((h | h) | h) | h) | h) | h) | ⟨h,k⟩
 ·rw [h]; simp
 ·rw [h]; simp
 ·rw [h]; simp
 ·rw [h]; simp
 ·rw [h]; simp
 ·rw [hp h]; simp
 ·rcases k with k | k
  ·rw [decide_eq_false h,decide_eq_false k]; simp
  ·rw [decide_eq_false h,decide_eq_false (show ¬ ((c.text.b.length:Nat):Int)<=16 by omega)]; simp
theorem Jb {c:Command} {v lo hi:Int} (h1:bt v 1 3=true) (h2:¬ aL c.kind=0) (h3:aL c.kind<=v) (ha:eF c.client (!decide (c.kind=8)) 1 8=true) (hb:eF c.seq (!decide (c.kind=8) && !decide (c.kind=1)) 1 1048576=true) (hc:eF c.set (bt c.kind 2 4) 1 8=true) (hd:eF c.id (decide (c.kind=5) || decide (c.kind=7) || bt c.kind 9 11) 1 1048576=true) (he:eF c.n (decide (c.kind=6) || decide (c.kind=8) || decide (c.kind=12)) lo hi=true) (hq:sR c=true) (ht:((c.text.b.length:Nat):Int)=0\/c.kind=11/\((c.text.b.length:Nat):Int)<=16) (hlo:lo=(iR c.kind).1) (hhi:hi=(iR c.kind).2):0=bJ c v:=by
 refine HF (EX h1 h2) (by omega) ?_
 rw [<- wc hlo hhi,ha,hb,hc,hd,he,hq]
 rcases ht with ht | ⟨ht,k⟩
 ·rw [decide_eq_true ht]; rfl
 ·rw [decide_eq_true ht,decide_eq_true k]; simp
theorem Ha {c:Command} {b:Bool} (h:c.kind=3) (k:rowF c.chunks=b):sR c=b:=by rw [sR,if_pos h]; exact k
theorem HZ {c:Command} (h:¬ c.kind=3) (k:¬ ((c.chunks.length:Nat):Int)=0):sR c=false:=by rw [sR,if_neg h]; exact decide_eq_false k
theorem CB {c:Command} (h:¬ c.kind=3) (k:((c.chunks.length:Nat):Int)=0):sR c=true:=by rw [sR,if_neg h]; exact decide_eq_true k
theorem Fv (c:Command) (v:Int) (r0:Int):cD aF wQ [] Try.f54 [.agg (cellsOf (.nm .command) c),.c (.int (v))] [] [.c (.int (r0))]=((fun (q14:Int)=>(fun (q13:Int)=>(fun (q12:Int)=>(fun (q11:Bool)=>(fun (q10:Int)=>(fun (q9:Int)=>(fun (q8:Int)=>(fun (q7:Int)=>(fun (q6:Int)=>(fun (q5:Prop)=>(fun (q4:Prop)=>(fun (q3:Prop)=>(fun (q2:Bool)=>(fun (q1:Prop)=>(fun (q0:Prop)=>I64 q6->I64 c.client->I64 c.seq->I64 c.set->I64 c.id->I64 c.n->c.chunks.length*(8:Nat)<=(140737488355328:Nat)->c.text.b.length<=(140737488355328:Nat)->I64 v->(bt v q7 q9=true->I64 (aL q6))->(bt v q7 q9=false\/aL q6=q8->q7=r0)/\(bt v q7 q9=true/\¬aL q6=q8->I64 (aL q6)->(v<aL q6->(10:Int)=r0)/\(aL q6<=v->(q6=q10->(q6=(12:Int)->(q6=q9->(((q0\/eF c.n q2 q12 q14=false)\/q11=false)\/q3->q7=r0)/\(((q1/\eF c.n q2 q12 q14=true)/\q11=true)/\q4->q8=r0))/\(¬q6=q9->(((q0\/eF c.n q2 q12 q14=false)\/¬q5)\/q3->q7=r0)/\(((q1/\eF c.n q2 q12 q14=true)/\q5)/\q4->q8=r0)))/\(¬q6=(12:Int)->(q6=q9->(((q0\/eF c.n q2 q12 q9=false)\/q11=false)\/q3->q7=r0)/\(((q1/\eF c.n q2 q12 q9=true)/\q11=true)/\q4->q8=r0))/\(¬q6=q9->(((q0\/eF c.n q2 q12 q9=false)\/¬q5)\/q3->q7=r0)/\(((q1/\eF c.n q2 q12 q9=true)/\q5)/\q4->q8=r0))))/\(¬q6=q10->(q6=(12:Int)->(q6=q9->(((q0\/eF c.n q2 q8 q14=false)\/q11=false)\/q3->q7=r0)/\(((q1/\eF c.n q2 q8 q14=true)/\q11=true)/\q4->q8=r0))/\(¬q6=q9->(((q0\/eF c.n q2 q8 q14=false)\/¬q5)\/q3->q7=r0)/\(((q1/\eF c.n q2 q8 q14=true)/\q5)/\q4->q8=r0)))/\(¬q6=(12:Int)->(q6=q9->(((q0\/eF c.n q2 q8 q10=false)\/q11=false)\/q3->q7=r0)/\(((q1/\eF c.n q2 q8 q10=true)/\q11=true)/\q4->q8=r0))/\(¬q6=q9->(((q0\/eF c.n q2 q8 q10=false)\/¬q5)\/q3->q7=r0)/\(((q1/\eF c.n q2 q8 q10=true)/\q5)/\q4->q8=r0))))))) (((eF c.client (!decide (q6=q10)) q7 q10=false\/eF c.seq (!decide (q6=q10) && !decide (q6=q7)) q7 (1048576:Int)=false)\/eF c.set (bt q6 q12 (4:Int)) q7 q10=false)\/eF c.id (decide (q6=(5:Int)) || decide (q6=(7:Int)) || bt q6 (9:Int) (11:Int)) q7 (1048576:Int)=false)) (((eF c.client (!decide (q6=q10)) q7 q10=true/\eF c.seq (!decide (q6=q10) && !decide (q6=q7)) q7 (1048576:Int)=true)/\eF c.set (bt q6 q12 (4:Int)) q7 q10=true)/\eF c.id (decide (q6=(5:Int)) || decide (q6=(7:Int)) || bt q6 (9:Int) (11:Int)) q7 (1048576:Int)=true)) (decide (q6=(6:Int)) || decide (q6=q10) || decide (q6=(12:Int)))) (¬q13=q8/\(¬q6=(11:Int)\/(16:Int)<q13))) (q13=q8\/q6=(11:Int)/\q13<=(16:Int))) ((↑c.chunks.length:Int)=q8)) c.kind) (1:Int)) (0:Int)) (3:Int)) (8:Int)) (rowF c.chunks)) (2:Int)) (↑c.text.b.length:Int)) (64:Int)):=by kernel_rfl
theorem Fp (c:Command) (v:Int):Sat Try.prog (al aF) 54 [.agg (cellsOf (.nm .command) c),.c (.int (v))] [] ⟨[],[.c (.int ((bJ c v)))],none,false⟩:=by
 refine aI qA [] Try.func54 (by decide) (by kernel_rfl) ?_
 rw [Fv]
 (repeat' (first | with_reducible refine And.intro ?_ ?_ | with_reducible refine and_imp.2 ?_ | intro))
 all_goals (first | (first | with_reducible rfl | with_reducible assumption | omega | (refine ag ?_ ?_ <;> omega)) | exact Jl (by assumption) | exact HT (by with_reducible assumption) (by with_reducible assumption) (by omega) | exact Ji (by with_reducible assumption) (by with_reducible assumption) (by omega) (by assumption) (by simp only [iR]; (repeat split) <;> omega) (by simp only [iR]; (repeat split) <;> omega) (fun hq=>by first | exact Ha (by with_reducible assumption) hq | exact HZ (by with_reducible assumption) hq | exact CB (by with_reducible assumption) hq) | exact Jb (by with_reducible assumption) (by with_reducible assumption) (by omega) (by with_reducible assumption) (by with_reducible assumption) (by with_reducible assumption) (by with_reducible assumption) (by with_reducible assumption) (by first | exact Ha (by with_reducible assumption) (by with_reducible assumption) | exact CB (by with_reducible assumption) (by with_reducible assumption)) (by assumption) (by simp only [iR]; (repeat split) <;> omega) (by simp only [iR]; (repeat split) <;> omega))
def dF:cH:=(bT 54 (bM (ai (kT (.nm .command)) (ai (kC cI) aO)) aP fun (c,v,_) (_)=>⟨[],[.c (.int ((bJ c v)))],none,false⟩) wQ)
theorem bA:aT Try.prog (al aF) dF:=(av (au (ab ck (ab (aq aK) aj)) ak fun (c,v,_) (_) _=>Fp c v ) qA)
end Go.Proofs.Ytladifkbefehdaa
namespace Go.Proofs.Ytladifkbefehdaa
open Go.RowKit
def bI (f:Field):Bool:=(decide (1<=f.num) && decide (f.num<=1000)) && (if f.wire=0 then decide (((f.b.length:Nat):Int)=0) else if f.wire=2 then decide ((f.n.n:Int)=0) else false)
def bD (a f:Field):Bool:=if f.num=a.num then (decide (f.wire=2) && decide (a.wire=2)) else decide (a.num<f.num)
def kn (num wire:Int):Bool:=(decide (1<=num) && decide (num<=1000)) && (decide (wire=0) || decide (wire=2))
def gE (num wire:Int):List UInt8:=if kn num wire then bb ((8*num)+wire).toNat else []
def fF (num wire:Int):Int:=if kn num wire then 0 else 1
def ba (f:Field):List UInt8:=if f.wire=0 then gE f.num f.wire++bb f.n.n else (gE f.num f.wire++bb f.b.length)++f.b
def JW:Option Field->Field->Bool
 | none,_=>true
 | some q,f=>bD q f
def stepT (p:Option Field) (f:Field):Int:=if bI f=false then 1 else if JW p f=false then 5 else if (16384:Int)<((f.b.length:Nat):Int) then 4 else 0
def bB:Option Field->List Field->Int
 | _,[]=>0
 | p,f :: r=>if stepT p f=0 then bB (some f) r else stepT p f
def cE (l:List Field):Nat:=(l.map fun f=>(ba f).length).sum
def aZ (l:List Field):Int:=if bB none l=0 then (if (16384:Int)<((cE l:Nat):Int) then 4 else 0) else bB none l
def eH (l:List Field):List UInt8:=if aZ l=0 then (l.map ba).flatten else []
def bY (l:List Field) (k:Nat):Option Field:=if k=0 then none else l[k - 1]?
def oE (l:List Field) (k:Nat) (x:Field):Prop:=(¬ 0<k)\/∃ y,l[k - 1]? = some y/\bD y x=true
theorem wW {num wire:Int} (h:(num<1\/1000<num)\/(¬ wire=0/\¬ wire=2)):kn num wire=false:=by
 rw [<- Bool.not_eq_true]; unfold kn; simp only [Bool.and_eq_true,Bool.or_eq_true,decide_eq_true_eq]; omega
theorem sY {num wire:Int} (h:¬ ((num<1\/1000<num)\/(¬ wire=0/\¬ wire=2))):kn num wire=true:=by
 unfold kn; simp only [Bool.and_eq_true,Bool.or_eq_true,decide_eq_true_eq]; omega
theorem kO {num wire:Int} (h:(num<1\/1000<num)\/(¬ wire=0/\¬ wire=2)):[]=gE num wire:=by rw [gE,wW h]; rfl
theorem iY {num wire:Int} (h:(num<1\/1000<num)\/(¬ wire=0/\¬ wire=2)):1=fF num wire:=by rw [fF,wW h]; rfl
theorem pA {num wire:Int} (h:¬ ((num<1\/1000<num)\/(¬ wire=0/\¬ wire=2))):bb ((8*num)+wire).toNat=gE num wire:=by rw [gE,sY h]; rfl
theorem fI {num wire:Int} (h:¬ ((num<1\/1000<num)\/(¬ wire=0/\¬ wire=2))):0=fF num wire:=by rw [fF,sY h]; rfl
theorem fV (num wire:Int):(gE num wire).length<=10:=by
 unfold gE
 cases h:kn num wire with
 | false=>simp
 | true=>
  unfold kn at h; simp only [Bool.and_eq_true,Bool.or_eq_true,decide_eq_true_eq] at h
  exact bN (by omega)
theorem bj {f:Field} (hb:f.b.length<=16384) (hn:f.n.n<18446744073709551616):(ba f).length<=16404:=by
 have h1:=fV f.num f.wire
 unfold ba
 split
 ·have:=bN hn; rw [List.length_append]; omega
 ·have:=bN (n:=f.b.length) (by omega); rw [List.length_append,List.length_append]; omega
theorem sn {f:Field} (h:f.wire=0):gE f.num f.wire++bb f.n.n=ba f:=by rw [ba,if_pos h]
theorem tW {f:Field} (h:¬ f.wire=0):(gE f.num f.wire++bb f.b.length)++f.b=ba f:=by rw [ba,if_neg h]
theorem db {l:List Field} {k:Nat} {x:Field} (hx:l[k]? = some x):cE (l.take k)+(ba x).length=cE (l.take (k+1)):=by
 unfold cE; rw [ax hx,List.map_append,List.sum_append]; simp
theorem tS {l:List Field} {k:Nat} {x:Field} (hp:oE l k x):JW (bY l k) x=true:=by
 unfold bY
 rcases hp with h | ⟨y,hy,hr⟩
 ·rw [if_pos (by omega)]; rfl
 ·by_cases hk:k=0
  ·rw [if_pos hk]; rfl
  ·rw [if_neg hk,hy]; exact hr
theorem wA {l:List Field} {k:Nat} {x:Field} (hx:l[k]? = some x):bB (bY l k) (l.drop k)=if stepT (bY l k) x=0 then bB (some x) (l.drop (k+1)) else stepT (bY l k) x:=by
 obtain ⟨hk,he⟩:=List.getElem?_eq_some_iff.1 hx
 rw [List.drop_eq_getElem_cons hk,he]; rfl
theorem we {l:List Field} {k:Nat} {x:Field} {e:Int} (hc:bB none l=bB (bY l k) (l.drop k)) (hx:l[k]? = some x) (he:stepT (bY l k) x=e) (h0:e≠0):e=aZ l:=by
 have h1:bB none l=e:=by rw [hc,wA hx,he,if_neg h0]
 rw [aZ,h1,if_neg h0]
theorem fC {l:List Field} {k:Nat} {x:Field} (hc:bB none l=bB (bY l k) (l.drop k)) (hx:l[k]? = some x) (ha:bI x=false):1=aZ l:=we hc hx (by rw [stepT,if_pos ha]) (by decide)
theorem fA {l:List Field} {k:Nat} {x y:Field} (hc:bB none l=bB (bY l k) (l.drop k)) (hx:l[k]? = some x) (ha:bI x=true) (h0:0<k) (hy:l[k - 1]? = some y) (hr:bD y x=false):5=aZ l:=
 we hc hx (by rw [stepT,if_neg (by rw [ha]; decide),if_pos]; unfold bY; rw [if_neg (by omega),hy]; exact hr) (by decide)
theorem ff {l:List Field} {k:Nat} {x:Field} (hc:bB none l=bB (bY l k) (l.drop k)) (hx:l[k]? = some x) (ha:bI x=true) (hp:oE l k x) (hb:(16384:Int)<((x.b.length:Nat):Int)):4=aZ l:=
 we hc hx (by rw [stepT,if_neg (by rw [ha]; decide),if_neg (by rw [tS hp]; decide),if_pos hb]) (by decide)
theorem de {l:List Field} {k:Nat} {x:Field} (hc:bB none l=bB (bY l k) (l.drop k)) (hx:l[k]? = some x) (ha:bI x=true) (hp:oE l k x) (hb:¬ (16384:Int)<((x.b.length:Nat):Int)):bB none l=bB (bY l (k+1)) (l.drop (k+1)):=by
 rw [hc,wA hx,if_pos (by rw [stepT,if_neg (by rw [ha]; decide),if_neg (by rw [tS hp]; decide),if_neg hb])]
 unfold bY; rw [if_neg (by omega),Nat.add_sub_cancel,hx]
theorem eg {l:List Field} {k:Nat} (hc:bB none l=bB (bY l k) (l.drop k)) (hk:l.length<=k):bB none l=0:=by
 rw [hc,List.drop_of_length_le hk]; rfl
theorem mE {l:List Field} {k:Nat} (hc:bB none l=bB (bY l k) (l.drop k)) (hk:l.length<=k) (hs:(16384:Int)<((cE (l.take k):Nat):Int)):4=aZ l:=by
 rw [List.take_of_length_le hk] at hs; rw [aZ,if_pos (eg hc hk),if_pos hs]
theorem lR {l:List Field} {k:Nat} (hc:bB none l=bB (bY l k) (l.drop k)) (hk:l.length<=k) (hs:¬ (16384:Int)<((cE (l.take k):Nat):Int)):0=aZ l:=by
 rw [List.take_of_length_le hk] at hs; rw [aZ,if_pos (eg hc hk),if_neg hs]
theorem Bz {l:List Field} (h:aZ l=0):cE l<=16384:=by
 unfold aZ at h
 split at h
 ·split at h
  ·cases h
  ·omega
 ·rename_i h0; exact absurd h h0
theorem od {l:List Field} (h:aZ l=0):bB none l=0:=by
 unfold aZ at h
 split at h
 ·assumption
 ·exact h
theorem sW:∀ {l:List Field} {p:Option Field},bB p l=0->∀ x ∈ l,x.b.length<=16384
 | [],_,_,x,hx=>by cases hx
 | f :: r,p,h,x,hx=>by
  unfold bB at h
  split at h
  ·rename_i hs
   rcases List.mem_cons.1 hx with rfl | hx
   ·unfold stepT at hs
    split at hs
    ·cases hs
    ·split at hs
     ·cases hs
     ·split at hs
      ·cases hs
      ·omega
   ·exact sW h x hx
  ·rename_i hs; exact absurd h hs
theorem cz {l:List Field} (h:aZ l=0) {x:Field} (hx:x ∈ l):x.b.length<=16384:=sW (od h) x hx
theorem dL {l:List Field} {k:Nat} {x:Field} (hx:l[k]? = some x):((l.take k).map ba).flatten++ba x=((l.take (k+1)).map ba).flatten:=by
 rw [ax hx,List.map_append,List.flatten_append]; simp
theorem zw (l:List Field):((l.map ba).flatten).length=cE l:=by
 unfold cE; rw [List.length_flatten,List.map_map]; rfl
theorem zm {l:List Field} {k:Nat}:cE (l.take k)<=cE l:=by
 have:cE l=cE (l.take k)+cE (l.drop k):=by unfold cE; rw [<- List.sum_append,<- List.map_append,List.take_append_drop]
 omega
theorem eL {l:List Field} {k:Nat} (h:aZ l=0):((l.take k).map ba).flatten.length<=16384:=by
 have:=Bz h; have:=zm (l:=l) (k:=k); rw [zw]; omega
theorem gi {l:List Field} {k:Nat} (h:aZ l=0) (hk:l.length<=k):((l.take k).map ba).flatten=eH l:=by rw [eH,if_pos h,List.take_of_length_le hk]
theorem j_ {l:List Field} (h:¬ aZ l=0):[]=eH l:=by rw [eH,if_neg h]
theorem pT {f:Field} (h:f.num<1\/1000<f.num):false=bI f:=by
 have:(decide (1<=f.num) && decide (f.num<=1000))=false:=by rw [<- Bool.not_eq_true]; simp only [Bool.and_eq_true,decide_eq_true_eq]; omega
 unfold bI; rw [this]; rfl
theorem iL {f:Field} (h:¬ (f.num<1\/1000<f.num)):bI f=(if f.wire=0 then decide (((f.b.length:Nat):Int)=0) else if f.wire=2 then decide ((f.n.n:Int)=0) else false):=by
 have:(decide (1<=f.num) && decide (f.num<=1000))=true:=by simp only [Bool.and_eq_true,decide_eq_true_eq]; omega
 unfold bI; rw [this]; rfl
end Go.Proofs.Ytladifkbefehdaa
namespace Go.Proofs.Ytladifkbefehdaa
open Go.RowKit
def aA:List Spec:=([⟨1,0,1,true,false⟩,⟨2,0,1,false,false⟩,⟨3,0,1,false,false⟩,⟨4,0,1,false,false⟩,⟨5,0,1,false,false⟩,⟨6,0,1,false,false⟩,⟨7,2,1,false,false⟩,⟨8,2,3,false,false⟩]:List Spec)
def ao (v:Int):List Spec:=if v<1\/3<v then [] else aA.filter fun s=>decide (s.since<=v)
def aC (v:Int):Int:=(ao v).foldl (fun t s=>max t s.num) 0
theorem ja {v:Int} {k:Nat} {x:Spec} (hx:aA[k]? = some x) (h:x.since<=v):(aA.take k).filter (fun s=>decide (s.since<=v))++[x]=(aA.take (k+1)).filter (fun s=>decide (s.since<=v)):=by
 rw [ax hx,List.filter_append]; simp [h]
theorem lg {v:Int} {k:Nat} {x:Spec} (hx:aA[k]? = some x) (h:¬ x.since<=v):(aA.take k).filter (fun s=>decide (s.since<=v))=(aA.take (k+1)).filter (fun s=>decide (s.since<=v)):=by
 rw [ax hx,List.filter_append]; simp [h]
theorem jP {v:Int} (h:v<1\/3<v):[]=ao v:=by rw [ao,if_pos h]
theorem xd {v:Int} {k:Nat} (h:¬ (v<1\/3<v)) (hk:aA.length<=k):(aA.take k).filter (fun s=>decide (s.since<=v))=ao v:=by rw [ao,if_neg h,List.take_of_length_le hk]
theorem qP {v:Int} {k:Nat}:((aA.take k).filter (fun s=>decide (s.since<=v))).length<=8:=by
 have h1:=List.length_filter_le (fun s:Spec=>decide (s.since<=v)) (aA.take k)
 have h2:(aA.take k).length<=8:=by rw [List.length_take]; exact Nat.le_trans (Nat.min_le_right _ _) (by decide)
 omega
theorem eJ {v:Int} {k:Nat} {x:Spec} (hx:(ao v)[k]? = some x):max (((ao v).take k).foldl (fun t s=>max t s.num) 0) x.num=((ao v).take (k+1)).foldl (fun t s=>max t s.num) 0:=by
 rw [ax hx,List.foldl_append]; rfl
def ji (num n:Int):List Field:=if n=0 then [] else [⟨num,0,⟨n.toNat⟩,[]⟩]
def mN (num:Int) (b:List UInt8):List Field:=if 0<((b.length:Nat):Int) then [⟨num,2,⟨0⟩,b⟩] else []
def kZ (c:Command):List Field:=(((((([]++ji 1 c.kind)++ji 2 c.client)++ji 3 c.seq)++ji 4 c.set)++ji 5 c.id)++ji 6 c.n)++mN 7 (aW c.chunks)
def aV (c:Command) (v:Int):List Field:=if 3<=v then kZ c++mN 8 c.text.b else kZ c
theorem dr (num n:Int):(ji num n).length<=1:=by unfold ji; split <;> simp
theorem ri (num:Int) (b:List UInt8):(mN num b).length<=1:=by unfold mN; split <;> simp
theorem qv {xs:List Field} {num n:Int} (h:¬ n=0):xs++[⟨num,0,⟨n.toNat⟩,[]⟩]=xs++ji num n:=by rw [ji,if_neg h]
theorem qB {xs:List Field} {num n:Int} (h:n=0):xs=xs++ji num n:=by rw [ji,if_pos h,List.append_nil]
theorem px {xs:List Field} {num:Int} {b:List UInt8} (h:0<((b.length:Nat):Int)):xs++[⟨num,2,⟨0⟩,b⟩]=xs++mN num b:=by rw [mN,if_pos h]
theorem qQ {xs:List Field} {num:Int} {b:List UInt8} (h:¬ 0<((b.length:Nat):Int)):xs=xs++mN num b:=by rw [mN,if_neg h,List.append_nil]
theorem dv (c:Command) (v:Int):(aV c v).length<=8:=by
 have h1:=dr 1 c.kind; have h2:=dr 2 c.client; have h3:=dr 3 c.seq; have h4:=dr 4 c.set; have h5:=dr 5 c.id; have h6:=dr 6 c.n
 have h7:=ri 7 (aW c.chunks); have h8:=ri 8 c.text.b
 unfold aV kZ
 split <;> simp only [List.length_append,List.length_nil] <;> omega
end Go.Proofs.Ytladifkbefehdaa
namespace Go.Proofs.Ytladifkbefehdaa
open Go.RowKit
def bu (c:Command) (rest:List Field) (v:Int):Int:=if !(bt v 1 3) then 1 else if (b_ c v=false/\¬ bJ c v=0) then bJ c v else if rest.any (fun f=>decide (f.num<=aC v)) then 6 else 0
def bS (c:Command) (rest:List Field) (v:Int):Int:=if bu c rest v=0 then aZ (aV c v++rest) else bu c rest v
def cq (c:Command) (rest:List Field) (v:Int):List UInt8:=if bu c rest v=0 then eH (aV c v++rest) else []
theorem lM {k:Int} (h:¬ aL k=0):1<=k/\k<=12:=Decidable.byContradiction fun h2=>h (tI h2)
theorem jL {c:Command} {v:Int} (h:b_ c v=true):0<=c.kind/\0<=c.client/\0<=c.seq/\0<=c.set/\0<=c.id/\0<=c.n:=by
 unfold b_ km bt at h
 simp only [Bool.and_eq_true,decide_eq_true_eq] at h
 omega
theorem ow {n m:Int} {b:Bool} (h:gC n m b=true):0<=n:=by
 unfold gC at h; cases b <;> simp at h <;> omega
theorem sX {k:Int} (h:1<=k/\k<=12):0<=(fP k).1:=by
 have:k=1\/k=2\/k=3\/k=4\/k=5\/k=6\/k=7\/k=8\/k=9\/k=10\/k=11\/k=12:=by omega
 rcases this with rfl | rfl | rfl | rfl | rfl | rfl | rfl | rfl | rfl | rfl | rfl | rfl <;> decide
theorem ml {c:Command} {v:Int} (h:bJ c v=0):(1<=v/\v<=3)/\¬ aL c.kind=0/\aL c.kind<=v/\dE c=true:=by
 unfold bJ at h
 split at h
 ·cases h
 ·rename_i h1
  rw [Bool.or_eq_true,not_or] at h1
  simp only [Bool.not_eq_true',Bool.not_eq_false,decide_eq_true_eq] at h1
  split at h
  ·cases h
  ·split at h
   ·cases h
   ·rename_i h2 h3
    exact ⟨CQ h1.1,h1.2,by omega,by simpa using h3⟩
theorem jS {c:Command} {v:Int} (h:bJ c v=0):0<=c.kind/\0<=c.client/\0<=c.seq/\0<=c.set/\0<=c.id/\0<=c.n:=by
 obtain ⟨_,hn,_,hf⟩:=ml h
 have hr:=lM hn
 have hs:=sX hr
 unfold dE at hf
 simp only [Bool.and_eq_true,decide_eq_true_eq] at hf
 obtain ⟨⟨⟨⟨⟨⟨⟨h1,h2⟩,_⟩,_⟩,h3⟩,h4⟩,h5⟩,h6⟩:=hf
 exact ⟨by omega,ow h3,ow h4,ow h5,ow h6,by omega⟩
theorem Jp {c:Command} {rest:List Field} {v:Int} (h:(!(bt v 1 3))=true):bu c rest v=1:=by rw [bu,if_pos h]
theorem IP {c:Command} {rest:List Field} {v:Int} (h:(!(bt v 1 3))=false) (h1:b_ c v=false) (h2:¬ bJ c v=0):bu c rest v=bJ c v:=by rw [bu,h,if_neg (by decide),if_pos ⟨h1,h2⟩]
theorem IQ {c:Command} {rest:List Field} {v:Int} {k:Nat} {x:Field} (h:(!(bt v 1 3))=false) (h1:b_ c v=true\/bJ c v=0) (hx:rest[k]? = some x) (hn:x.num<=aC v):bu c rest v=6:=by
 have:(rest.any fun f=>decide (f.num<=aC v))=true:=List.any_eq_true.2 ⟨x,List.mem_of_getElem? hx,decide_eq_true hn⟩
 rw [bu,h,if_neg (by decide),if_neg (fun hh=>by rcases h1 with h1 | h1; rw [h1] at hh; cases hh.1; exact hh.2 h1),if_pos this]
theorem Jj {c:Command} {rest:List Field} {v:Int} {k:Nat} (h:(!(bt v 1 3))=false) (h1:b_ c v=true\/bJ c v=0) (hall:∀ j y,j<k->rest[j]? = some y->¬ y.num<=aC v) (hk:rest.length<=k):bu c rest v=0:=by
 have:(rest.any fun f=>decide (f.num<=aC v))=false:=by
  rw [List.any_eq_false]
  intro y hy
  obtain ⟨j,hj,rfl⟩:=List.getElem_of_mem hy
  have:=hall j _ (by omega) (List.getElem?_eq_getElem hj)
  simpa using this
 rw [bu,h,if_neg (by decide),if_neg (fun hh=>by rcases h1 with h1 | h1; rw [h1] at hh; cases hh.1; exact hh.2 h1),this,if_neg (by decide)]
theorem cb {c:Command} {rest:List Field} {v e:Int} (h:bu c rest v=e) (h0:¬ e=0):e=bS c rest v:=by rw [bS,h,if_neg h0]
theorem ca {c:Command} {rest:List Field} {v e:Int} (h:bu c rest v=e) (h0:¬ e=0):[]=cq c rest v:=by rw [cq,h,if_neg h0]
theorem nz {c:Command} {rest:List Field} {v:Int} (h:bu c rest v=0):aZ (aV c v++rest)=bS c rest v:=by rw [bS,if_pos h]
theorem nF {c:Command} {rest:List Field} {v:Int} (h:bu c rest v=0):eH (aV c v++rest)=cq c rest v:=by rw [cq,if_pos h]
theorem uJ {rest:List Field} {t:Int} {k:Nat} {z:Field} (h:∀ j y,j<k->rest[j]? = some y->¬ y.num<=t) (hz:rest[k]? = some z) (hn:¬ z.num<=t):∀ j y,j<k+1->rest[j]? = some y->¬ y.num<=t:=by
 intro j y hj hy
 by_cases hjk:j=k
 ·subst hjk; rw [hz] at hy; cases hy; exact hn
 ·exact h j y (by omega) hy
end Go.Proofs.Ytladifkbefehdaa
namespace Go.Proofs.Ytladifkbefehdaa
open Go.RowKit
end Go.Proofs.Ytladifkbefehdaa
namespace Go.Proofs.Ytladifkbefehdaa
open Go.RowKit
theorem oy (n:Nat):bb n=((List.range (aJ n)).map (gG n)).set (aJ n - 1) (gG n (aJ n - 1) &&& 127):=by unfold bb cX; simp
theorem xP:∀ m:Fin 128,(UInt8.ofNat m.val ||| 128) &&& 127=UInt8.ofNat m.val:=by decide
theorem EP:∀ m:Fin 256,(UInt8.ofNat m.val ||| 128).toNat=m.val % 128+128:=by decide +kernel
theorem fq {n:Nat} (h:n<128):bb n=[UInt8.ofNat n]:=by
 rw [oy,fx h]
 have:=xP ⟨n,h⟩
 simp only [gG,Nat.pow_zero,Nat.div_one,List.range_one,List.map_cons,List.map_nil,Nat.sub_self,List.set_cons_zero] at *
 rw [this]
theorem CL (n:Nat):(gG n 0).toNat=n % 128+128:=by
 have e:UInt8.ofNat n=UInt8.ofNat (n % 256):=UInt8.toNat_inj.1 (by simp [UInt8.toNat_ofNat'])
 have:=EP ⟨n % 256,Nat.mod_lt _ (by decide)⟩
 simp only [gG,Nat.pow_zero,Nat.div_one]
 rw [e,this]; simp only; omega
theorem lX {n:Nat} (h:¬ n<128):bb n=gG n 0 :: bb (n / 128):=by
 have e:∀ i,gG n (i+1)=gG (n / 128) i:=fun i=>by unfold gG; rw [Nat.pow_succ,Nat.mul_comm,<- Nat.div_div_eq_div_mul]
 have hp:=eQ (n / 128)
 obtain ⟨s,hs⟩:∃ s,aJ (n / 128)=s+1:=⟨aJ (n / 128) - 1,by omega⟩
 rw [oy,oy (n / 128),hU h,hs]
 simp only [Nat.add_sub_cancel]
 rw [List.range_succ_eq_map,List.map_cons,List.map_map,List.set_cons_succ,e s,show gG n ∘ Nat.succ=gG (n / 128) from funext e]
theorem jB:∀ {l:List Field} {p:Option Field},bB p l=0->∀ x ∈ l,bI x=true
 | [],_,_,x,hx=>by cases hx
 | f :: r,p,h,x,hx=>by
  unfold bB at h
  split at h
  ·rename_i hs
   rcases List.mem_cons.1 hx with rfl | hx
   ·unfold stepT at hs
    split at hs
    ·cases hs
    ·rename_i ha; simpa using ha
   ·exact jB h x hx
  ·rename_i hs; exact absurd h hs
structure CmdOk (c:Command) (v:Int):Prop where
 nn:0<=c.kind/\0<=c.client/\0<=c.seq/\0<=c.set/\0<=c.id/\0<=c.n
 ch:c.chunks=[]\/rowF c.chunks=true
 tx:c.text.b=[]\/(3<=v/\c.text.b.length<=16)
end Go.Proofs.Ytladifkbefehdaa
namespace Go.Proofs.Ytladifkbefehdaa
open Go.RowKit
end Go.Proofs.Ytladifkbefehdaa
namespace Go.Proofs.Ytladifkbefehdaa
open Go.RowKit
def aY:Nat->Nat->List UInt8->Nat × Nat × Int
 | k,_,[]=>if 10<=k then (0,0,3) else (0,0,2)
 | k,n,x :: r=>if 10<=k then (0,0,3) else if (0<k/\x.toNat=0)\/(k=9/\1<x.toNat) then (0,0,3) else if x.toNat<128 then (n+(x &&& 127).toNat*2 ^ (7*k),k+1,0) else aY (k+1) (n+(x &&& 127).toNat*2 ^ (7*k)) r
termination_by _ _ l=>l.length
def ae (b:List UInt8):Nat × Nat × Int:=aY 0 0 b
theorem fR (x:UInt8):(x &&& 127).toNat=x.toNat % 128:=by rw [UInt8.toNat_and]; exact Nat.and_two_pow_sub_one_eq_mod x.toNat 7
theorem rQ {k:Nat} {x:UInt8} (hk:k<=9) (h:k=9->x.toNat<=1):(x &&& 127).toNat*2 ^ (7*k)<18446744073709551616:=by
 rw [fR]
 by_cases h9:k=9
 ·have:=h h9
  subst h9
  have:x.toNat % 128*2 ^ (7*9)<=1*2 ^ (7*9):=Nat.mul_le_mul_right _ (by omega)
  exact Nat.lt_of_le_of_lt this (by decide)
 ·have h1:2 ^ (7*k)<=2 ^ 56:=Nat.pow_le_pow_right (by decide) (by omega)
  have:x.toNat % 128*2 ^ (7*k)<=127*2 ^ 56:=Nat.mul_le_mul (by omega) h1
  exact Nat.lt_of_le_of_lt this (by decide)
theorem rh {k n m:Nat} (h:n<2 ^ (7*k)):n ||| m*2 ^ (7*k)=n+m*2 ^ (7*k):=by
 have:=Nat.two_pow_add_eq_or_of_lt h m
 rw [Nat.or_comm,Nat.mul_comm m,<- this,Nat.add_comm]
theorem nP {k n:Nat} {x:UInt8} (h:n<2 ^ (7*k)):n+(x &&& 127).toNat*2 ^ (7*k)<2 ^ (7*(k+1)):=by
 rw [fR]
 have e:2 ^ (7*(k+1))=128*2 ^ (7*k):=by rw [show 7*(k+1)=7*k+7 by omega,Nat.pow_add,Nat.mul_comm]
 have:x.toNat % 128*2 ^ (7*k)<=127*2 ^ (7*k):=Nat.mul_le_mul_right _ (by omega)
 rw [e]; omega
theorem xH {b:List UInt8} {k n:Nat} (hk:k<10) (hb:b.length<=k):aY k n (b.drop k)=(0,0,2):=by
 rw [List.drop_of_length_le hb,aY,if_neg (by omega)]
theorem FG {b:List UInt8} {k n:Nat} (hk:10<=k):aY k n (b.drop k)=(0,0,3):=by
 cases h:b.drop k with
 | nil=>rw [aY,if_pos hk]
 | cons x r=>rw [aY,if_pos hk]
theorem yY {b:List UInt8} {k n:Nat} {x:UInt8} (hk:k<10) (hx:b[k]? = some x):aY k n (b.drop k)=if (0<k/\x.toNat=0)\/(k=9/\1<x.toNat) then (0,0,3) else if x.toNat<128 then (n+(x &&& 127).toNat*2 ^ (7*k),k+1,0) else aY (k+1) (n+(x &&& 127).toNat*2 ^ (7*k)) (b.drop (k+1)):=by
 obtain ⟨hkl,he⟩:=List.getElem?_eq_some_iff.1 hx
 rw [List.drop_eq_getElem_cons hkl,he,aY,if_neg (by omega)]
theorem su {b:List UInt8} {k n:Nat} {x:UInt8} (h:ae b=aY k n (b.drop k)) (hk:k<10) (hx:b[k]? = some x) (h1:¬ (0<k/\x.toNat=0)) (h2:¬ (k=9/\1<x.toNat)) (h3:¬ x.toNat<128):ae b=aY (k+1) (n+(x &&& 127).toNat*2 ^ (7*k)) (b.drop (k+1)):=by
 rw [h,yY hk hx,if_neg (fun h=>h.elim h1 h2),if_neg h3]
theorem gq:∀ {l:List UInt8} {k n:Nat},k<=10->(aY k n l).2.1<=11/\(aY k n l).2.1<=k+l.length
 | [],k,n,h=>by rw [aY]; split <;> simp
 | x :: r,k,n,h=>by
  rw [aY]
  split
  ·simp
  ·split
   ·simp
   ·split
    ·simp; omega
    ·have:=gq (l:=r) (k:=k+1) (n:=n+(x &&& 127).toNat*2 ^ (7*k)) (by omega)
     simp only [List.length_cons]; omega
theorem Dc:∀ {l:List UInt8} {k n:Nat},k<=10->n<2 ^ (7*k)->n<18446744073709551616->(aY k n l).1<18446744073709551616
 | [],k,n,_,_,_=>by rw [aY]; split <;> simp
 | x :: r,k,n,h,hn,hn2=>by
  rw [aY]
  split
  ·simp
  ·split
   ·simp
   ·rename_i h9 hz
    have hs:=rQ (k:=k) (x:=x) (by omega) (fun e=>by by_cases hx:1<x.toNat; exact absurd (.inr ⟨e,hx⟩) hz; omega)
    have ho:=rh (k:=k) (m:=(x &&& 127).toNat) hn
    have hl:n ||| (x &&& 127).toNat*2 ^ (7*k)<2 ^ 64:=Nat.or_lt_two_pow hn2 hs
    rw [ho] at hl
    split
    ·exact hl
    ·exact Dc (by omega) (nP hn) hl
theorem nU {b:List UInt8} {k n:Nat} {x:UInt8} (h:ae b=aY k n (b.drop k)) (hk:k<10) (hx:b[k]? = some x) (h1:(0<k/\x.toNat=0)\/(k=9/\1<x.toNat)):ae b=(0,0,3):=by rw [h,yY hk hx,if_pos h1]
theorem tE {b:List UInt8} {k n:Nat} {x:UInt8} (h:ae b=aY k n (b.drop k)) (hk:k<10) (hx:b[k]? = some x) (h1:¬ (0<k/\x.toNat=0)) (h2:¬ (k=9/\1<x.toNat)) (h3:x.toNat<128):ae b=(n+(x &&& 127).toNat*2 ^ (7*k),k+1,0):=by
 rw [h,yY hk hx,if_neg (fun h=>h.elim h1 h2),if_pos h3]
end Go.Proofs.Ytladifkbefehdaa
namespace Go.Proofs.Ytladifkbefehdaa
open Go.RowKit
theorem zJ:∀ {l:List UInt8} {k n:Nat},1<=k->(aY k n l).2.2=0->2 ^ (7*k)<=(aY k n l).1
 | [],k,n,_,h=>by rw [aY] at h; split at h <;> cases h
 | x :: r,k,n,hk,h=>by
  rw [aY] at h ⊢
  split
  ·rename_i h1; rw [if_pos h1] at h; cases h
  ·rename_i h1
   rw [if_neg h1] at h
   split
   ·rename_i h2; rw [if_pos h2] at h; cases h
   ·rename_i h2
    rw [if_neg h2] at h
    split
    ·rename_i h3
     rw [fR]
     have:1<=x.toNat % 128:=by
      have:¬ x.toNat=0:=fun e=>h2 (.inl ⟨by omega,e⟩)
      omega
     have:=Nat.mul_le_mul_right (2 ^ (7*k)) this
     show 2 ^ (7*k)<=n+x.toNat % 128*2 ^ (7*k)
     omega
    ·rename_i h3
     rw [if_neg h3] at h
     exact Nat.le_trans (Nat.pow_le_pow_right (by decide) (by omega)) (zJ (by omega) h)
theorem sA (x:UInt8) (r:List UInt8):ae (x :: r)=if x.toNat<128 then (x.toNat,1,0) else aY 1 (x.toNat % 128) r:=by
 unfold ae
 rw [aY,if_neg (by decide),if_neg (by omega),fR]
 split
 ·rename_i h; rw [Nat.mod_eq_of_lt h]; simp
 ·simp
theorem qi {b:List UInt8} {k:Nat} (hk:k<b.length):(b.drop k).take (b.length - k)=b[k] :: b.drop (k+1):=by
 rw [List.take_of_length_le (by simp),List.drop_eq_getElem_cons hk]
theorem Kn {b:List UInt8} {k:Nat} (hk:k<b.length) (he:(ae ((b.drop k).take (b.length - k))).2.2=0) (hn:¬ (64:Int)<(((ae ((b.drop k).take (b.length - k))).1:Nat):Int)) :
  ∃ x,b[k]? = some x/\ae ((b.drop k).take (b.length - k))=(x.toNat,1,0)/\x.toNat<=64:=by
 rw [qi hk,sA] at *
 by_cases h:b[k].toNat<128
 ·rw [if_pos h] at *; exact ⟨_,List.getElem?_eq_getElem hk,rfl,by simp only at hn; omega⟩
 ·rw [if_neg h] at *
  have:=zJ (Nat.le_refl 1) he
  omega
theorem Ko {b:List UInt8} {k:Nat} (hk:k<b.length) (h:(¬ (ae ((b.drop k).take (b.length - k))).2.2=0)\/(64:Int)<(((ae ((b.drop k).take (b.length - k))).1:Nat):Int)):∃ x,b[k]? = some x/\64<x.toNat:=by
 refine ⟨b[k],List.getElem?_eq_getElem hk,?_⟩
 rw [qi hk,sA] at h
 by_cases h1:b[k].toNat<128
 ·rw [if_pos h1] at h; simp only [not_true_eq_false,false_or] at h; omega
 ·omega
def aN (b:List UInt8):List Int:=b.map fun x=>(x.toNat:Int)
def cK (b:List UInt8):List Int:=if rowF (aN b) then aN b else []
def eZ (b:List UInt8):Int:=if rowF (aN b) then 0 else 6
theorem tV {b:List UInt8} {k:Nat} {x:UInt8} {p:Nat × Nat × Int} (hx:b[k]? = some x) (hp:p=(x.toNat,1,0)):aN (b.take k)++[((p.1:Nat):Int)]=aN (b.take (k+1)):=by
 subst hp; unfold aN; rw [ax hx,List.map_append]; rfl
theorem Gk {b:List UInt8} {k:Nat} (hk:k<b.length) (h:(¬ (ae ((b.drop k).take (b.length - k))).2.2=0)\/(64:Int)<(((ae ((b.drop k).take (b.length - k))).1:Nat):Int)):rowF (aN b)=false:=by
 obtain ⟨x,hx,h64⟩:=Ko hk h
 rw [<- Bool.not_eq_true]
 intro hr
 have:=(gS hr (x.toNat:Int) (List.mem_map.2 ⟨x,List.mem_of_getElem? hx,rfl⟩)).2
 omega
theorem oc {b:List UInt8} {k:Nat} (hk:b.length<=k):aN (b.take k)=aN b:=by rw [List.take_of_length_le hk]
theorem cd {b:List UInt8} (h:rowF (aN b)=false):[]=cK b:=by rw [cK,h]; rfl
theorem fy {b:List UInt8} (h:rowF (aN b)=false):6=eZ b:=by rw [eZ,h]; rfl
theorem gw {b:List UInt8} {k:Nat} (hk:b.length<=k) (h:rowF (aN (b.take k))=true):aN (b.take k)=cK b:=by rw [oc hk] at *; rw [cK,h]; rfl
theorem gv {b:List UInt8} {k:Nat} (hk:b.length<=k) (h:rowF (aN (b.take k))=true):0=eZ b:=by rw [oc hk] at *; rw [eZ,h]; rfl
theorem fk {b:List UInt8} {k:Nat} (hk:b.length<=k) (h:rowF (aN (b.take k))=false):rowF (aN b)=false:=by rw [oc hk] at h; exact h
end Go.Proofs.Ytladifkbefehdaa
namespace Go.Proofs.Ytladifkbefehdaa
open Go.RowKit
theorem wN {l:List Int} (h:∀ x ∈ l,0<x/\x<=64):cm l=l.map fun x=>UInt8.ofNat x.toNat:=by
 induction l with
 | nil=>rfl
 | cons x r ih=>
  have hx:=h x (by simp)
  simp only [cm,List.flatMap_cons,List.map_cons] at *
  rw [fq (by omega),ih fun y hy=>h y (List.mem_cons_of_mem _ hy)]; rfl
theorem lD {l:List Int} (h:∀ x ∈ l,0<x/\x<=64):aN (l.map fun x=>UInt8.ofNat x.toNat)=l:=by
 unfold aN
 rw [List.map_map]
 refine (List.map_congr_left (g:=id) fun x hx=>?_).trans (List.map_id _)
 have:=h x hx
 show (((UInt8.ofNat x.toNat).toNat:Nat):Int)=x
 rw [UInt8.toNat_ofNat']; omega
theorem jq {l:List Int} (h:rowF l=true):aW l=(l.map fun x=>UInt8.ofNat x.toNat)/\bH l=0/\cK (aW l)=l/\eZ (aW l)=0:=by
 have e:=wN (gS h)
 have e1:aW l=(l.map fun x=>UInt8.ofNat x.toNat):=by rw [aW,if_pos h,e]
 refine ⟨e1,by rw [bH,if_pos h],?_,?_⟩
 ·rw [e1,cK,lD (gS h),if_pos h]
 ·rw [e1,eZ,lD (gS h),if_pos h]
end Go.Proofs.Ytladifkbefehdaa
namespace Go.Proofs.Ytladifkbefehdaa
open Go.RowKit
theorem tJ (n:Nat):gG n 0=UInt8.ofNat (n % 128+128):=UInt8.toNat_inj.1 (by rw [CL,UInt8.toNat_ofNat']; omega)
theorem uA {p:List UInt8} {r n:Nat} (h:p++bb r=bb n) (hr:¬ r<128):(p++[UInt8.ofNat (r % 128+128)])++bb (r / 128)=bb n:=by
 rw [<- h,lX hr,tJ,List.append_assoc]; rfl
theorem me {p:List UInt8} {r n:Nat} (h:p++bb r=bb n) (hr:r<128):p++[UInt8.ofNat r]=bb n:=by rw [<- h,fq hr]
theorem zx {p:List UInt8} {r n:Nat} (h:p++bb r=bb n) (hn:n<18446744073709551616):p.length<=10:=by
 have:=congrArg List.length h; rw [List.length_append] at this; have:=bN hn; omega
theorem ly {b:List UInt8} {k:Nat} {x:UInt8} (hx:b[k]? = some x):aN (b.take k)++[(x.toNat:Int)]=aN (b.take (k+1)):=tV (p:=(x.toNat,1,0)) hx rfl
theorem oJ {b:List UInt8} (h:rowF (aN b)=true):aW (aN b)=b:=by
 rw [(jq h).1]; unfold aN; rw [List.map_map]
 refine (List.map_congr_left (g:=id) fun x _=>?_).trans (List.map_id _)
 show UInt8.ofNat ((x.toNat:Int)).toNat=x
 simp
theorem dG {b:List UInt8} {k:Nat} (hk:b.length<=k) (h:(¬ bH (aN (b.take k))=0)\/(¬ (⟨aW (aN (b.take k))⟩:Str)=⟨b⟩)):rowF (aN b)=false:=by
 rw [oc hk] at h
 cases hr:rowF (aN b) with
 | false=>rfl
 | true=>rw [(jq hr).2.1,oJ hr] at h; simp at h
theorem jK {b:List UInt8} {k:Nat} (h:bH (aN (b.take k))=0):rowF (aN (b.take k))=true:=by
 cases hr:rowF (aN (b.take k)) with
 | true=>rfl
 | false=>rw [bH,hr] at h; cases h
end Go.Proofs.Ytladifkbefehdaa
namespace Go.Proofs.Ytladifkbefehdaa
open Go.RowKit
theorem zE {f:Field}:(((!decide (fF f.num f.wire=0)) || (decide (f.wire=0) && decide ((0:Int)<((f.b.length:Nat):Int)))) || (decide (f.wire=2) && (!decide ((f.n.n:Int)=0)))) = !bI f:=by
 by_cases h:(f.num<1\/1000<f.num)
 ·rw [<- pT h,<- iY (Or.inl h)]; simp
 ·by_cases h0:f.wire=0
  ·have e:decide ((0:Int)<((f.b.length:Nat):Int)) = !decide (((f.b.length:Nat):Int)=0):=by
    rw [Bool.eq_iff_iff]; simp only [Bool.not_eq_true',decide_eq_true_eq,decide_eq_false_iff_not]; omega
   rw [iL h,if_pos h0,<- fI (by omega),e,decide_eq_true h0,decide_eq_false (show ¬ f.wire=2 by omega)]; simp
  ·by_cases h2:f.wire=2
   ·rw [iL h,if_neg h0,if_pos h2,<- fI (by omega),Bool.eq_iff_iff]; simp [h2]
   ·rw [iL h,if_neg h0,if_neg h2,<- iY (by omega)]; simp
end Go.Proofs.Ytladifkbefehdaa
namespace Go.Proofs.Ytladifkbefehdaa
open Go.RowKit
end Go.Proofs.Ytladifkbefehdaa
namespace Go.Proofs.Ytladifkbefehdaa
open Go.RowKit
end Go.Proofs.Ytladifkbefehdaa
namespace Go.Proofs.Ytladifkbefehdaa
open Go.RowKit
end Go.Proofs.Ytladifkbefehdaa
namespace Go.Proofs.Ytladifkbefehdaa
open Go.RowKit
theorem AY {c:Command} (h:dE c=true):c.chunks.length=0\/rowF c.chunks=true:=by
 unfold dE at h
 simp only [Bool.and_eq_true,decide_eq_true_eq] at h
 have h2:sR c=true:=by obtain ⟨⟨⟨⟨⟨⟨⟨h1,h2⟩,h3⟩,h4⟩,h5⟩,h6⟩,h7⟩,h8⟩:=h; assumption
 unfold sR at h2
 split at h2
 ·exact .inr h2
 ·have:=of_decide_eq_true h2; exact .inl (by omega)
theorem rP {c:Command} {v:Int} (h:b_ c v=true):c.chunks.length=0\/rowF c.chunks=true:=by
 unfold b_ at h
 rw [Bool.and_eq_true,Bool.and_eq_true,Bool.or_eq_true,decide_eq_true_eq] at h
 rcases h.1.2 with h | h
 ·exact .inl (by omega)
 ·exact .inr h
theorem nQ {c:Command} {v:Int} (h:bJ c v=0):c.chunks.length=0\/rowF c.chunks=true:=AY (ml h).2.2.2
end Go.Proofs.Ytladifkbefehdaa
namespace Go.Proofs.Ytladifkbefehdaa
open Go.RowKit
structure TagR where
 num:Int
 wire:Int
 k:Nat
 e:Int
def rZ (n:Nat):Bool:=decide ((n / 8<1\/1000<n / 8)\/(¬ n % 8=0/\¬ n % 8=2))
def ah (b:List UInt8):TagR:=if (ae b).2.2=0 then (if rZ (ae b).1=true then ⟨0,0,0,6⟩ else ⟨(((ae b).1 / 8:Nat):Int),(((ae b).1 % 8:Nat):Int),(ae b).2.1,0⟩) else ⟨0,0,0,(ae b).2.2⟩
theorem oF {b:List UInt8} (h:¬ (ae b).2.2=0):ah b=⟨0,0,0,(ae b).2.2⟩:=by rw [ah,if_neg h]
theorem pa {b:List UInt8} (h:(ae b).2.2=0) (h2:((ae b).1 / 8<1\/1000<(ae b).1 / 8)\/(¬ (ae b).1 % 8=0/\¬ (ae b).1 % 8=2)):ah b=⟨0,0,0,6⟩:=by rw [ah,if_pos h,if_pos (show rZ _=true from decide_eq_true h2)]
theorem rK {b:List UInt8} (h:(ae b).2.2=0) (h2:¬ (((ae b).1 / 8<1\/1000<(ae b).1 / 8)\/(¬ (ae b).1 % 8=0/\¬ (ae b).1 % 8=2))):ah b=⟨(((ae b).1 / 8:Nat):Int),(((ae b).1 % 8:Nat):Int),(ae b).2.1,0⟩:=by
 rw [ah,if_pos h,if_neg (by unfold rZ; simpa using h2)]
theorem dH (b:List UInt8):((ah b).k<=11/\(ah b).k<=b.length)/\(0<=(ah b).num/\(ah b).num<=1000)/\(0<=(ah b).wire/\(ah b).wire<=2):=by
 have hs:(ae b).2.1<=11/\(ae b).2.1<=0+b.length:=gq (l:=b) (k:=0) (n:=0) (by omega)
 by_cases h:(ae b).2.2=0
 ·by_cases h2:((ae b).1 / 8<1\/1000<(ae b).1 / 8)\/(¬ (ae b).1 % 8=0/\¬ (ae b).1 % 8=2)
  ·rw [pa h h2]; simp
  ·rw [rK h h2]; dsimp only; omega
 ·rw [oF h]; simp
theorem xv:∀ {l:List UInt8} {k n:Nat},(aY k n l).2.2=0->1<=(aY k n l).2.1
 | [],k,n,h=>by rw [aY] at h; split at h <;> cases h
 | x :: r,k,n,h=>by
  rw [aY] at h ⊢
  split
  ·rename_i h1; rw [if_pos h1] at h; cases h
  ·rename_i h1
   rw [if_neg h1] at h
   split
   ·rename_i h2; rw [if_pos h2] at h; cases h
   ·rename_i h2
    rw [if_neg h2] at h
    split
    ·simp
    ·rename_i h3; rw [if_neg h3] at h; exact xv h
def aw (b:List UInt8):Nat × Int:=
  if (ah b).e=0 then
    (if (ae (b.drop (ah b).k)).2.2=0 then
      (if (ah b).wire=0 then ((ah b).k+(ae (b.drop (ah b).k)).2.1,0)
       else if 16384<(ae (b.drop (ah b).k)).1 then (0,4)
       else if ((b.length:Nat):Int) - (((ah b).k+(ae (b.drop (ah b).k)).2.1:Nat):Int)<(((ae (b.drop (ah b).k)).1:Nat):Int) then (0,2)
       else ((ah b).k+(ae (b.drop (ah b).k)).2.1+(ae (b.drop (ah b).k)).1,0))
     else (0,(ae (b.drop (ah b).k)).2.2))
  else (0,(ah b).e)
theorem FK {b:List UInt8} (h:¬ (ah b).e=0):aw b=(0,(ah b).e):=by rw [aw,if_neg h]
theorem DI {b:List UInt8} (h:(ah b).e=0) (h2:¬ (ae (b.drop (ah b).k)).2.2=0):aw b=(0,(ae (b.drop (ah b).k)).2.2):=by rw [aw,if_pos h,if_neg h2]
theorem Dl {b:List UInt8} (h:(ah b).e=0) (h2:(ae (b.drop (ah b).k)).2.2=0) (h3:(ah b).wire=0):aw b=((ah b).k+(ae (b.drop (ah b).k)).2.1,0):=by rw [aw,if_pos h,if_pos h2,if_pos h3]
theorem EO {b:List UInt8} (h:(ah b).e=0) (h2:(ae (b.drop (ah b).k)).2.2=0) (h3:¬ (ah b).wire=0) (h4:16384<(ae (b.drop (ah b).k)).1):aw b=(0,4):=by rw [aw,if_pos h,if_pos h2,if_neg h3,if_pos h4]
theorem Ie {b:List UInt8} (h:(ah b).e=0) (h2:(ae (b.drop (ah b).k)).2.2=0) (h3:¬ (ah b).wire=0) (h4:¬ 16384<(ae (b.drop (ah b).k)).1) (h5:((b.length:Nat):Int) - (((ah b).k+(ae (b.drop (ah b).k)).2.1:Nat):Int)<(((ae (b.drop (ah b).k)).1:Nat):Int)):aw b=(0,2):=by rw [aw,if_pos h,if_pos h2,if_neg h3,if_neg h4,if_pos h5]
theorem HP {b:List UInt8} (h:(ah b).e=0) (h2:(ae (b.drop (ah b).k)).2.2=0) (h3:¬ (ah b).wire=0) (h4:¬ 16384<(ae (b.drop (ah b).k)).1) (h5:¬ ((b.length:Nat):Int) - (((ah b).k+(ae (b.drop (ah b).k)).2.1:Nat):Int)<(((ae (b.drop (ah b).k)).1:Nat):Int)):aw b=((ah b).k+(ae (b.drop (ah b).k)).2.1+(ae (b.drop (ah b).k)).1,0):=by rw [aw,if_pos h,if_pos h2,if_neg h3,if_neg h4,if_neg h5]
theorem dy (b:List UInt8) (k:Nat):(ae (b.drop k)).2.1<=11/\(ae (b.drop k)).2.1+k<=max b.length k:=by
 have:=gq (l:=b.drop k) (k:=0) (n:=0) (by omega)
 unfold ae
 rw [List.length_drop] at this
 omega
theorem dA (b:List UInt8):(aw b).1<=b.length:=by
 have h1:=dH b; have h2:=dy b (ah b).k
 unfold aw
 split
 ·split
  ·split
   ·dsimp only; omega
   ·split
    ·simp
    ·split
     ·simp
     ·dsimp only; omega
  ·simp
 ·simp
theorem jf {b:List UInt8} (h:(aw b).2=0):1<=(aw b).1:=by
 unfold aw at h ⊢
 split
 ·rename_i h0
  rw [if_pos h0] at h
  split
  ·rename_i h1
   rw [if_pos h1] at h
   have:=xv (l:=b.drop (ah b).k) (k:=0) (n:=0) h1
   split
   ·dsimp only; unfold ae; omega
   ·rename_i h2
    rw [if_neg h2] at h
    split
    ·rename_i h3; rw [if_pos h3] at h; cases h
    ·rename_i h3
     rw [if_neg h3] at h
     split
     ·rename_i h4; rw [if_pos h4] at h; cases h
     ·dsimp only; unfold ae; omega
  ·rename_i h1; rw [if_neg h1] at h; exact absurd h h1
 ·rename_i h0; rw [if_neg h0] at h; exact absurd h h0
def dR (b:List UInt8):Field:=if (ah b).wire=0 then ⟨(ah b).num,(ah b).wire,⟨(ae (b.drop (ah b).k)).1⟩,[]⟩ else ⟨(ah b).num,(ah b).wire,⟨0⟩,b.drop ((ah b).k+(ae (b.drop (ah b).k)).2.1)⟩
theorem tK {b:List UInt8} (h:(ah b).wire=0):(⟨(ah b).num,(ah b).wire,⟨(ae (b.drop (ah b).k)).1⟩,[]⟩:Field)=dR b:=by rw [dR,if_pos h]
theorem t_ {b:List UInt8} (h:¬ (ah b).wire=0):(⟨(ah b).num,(ah b).wire,⟨0⟩,b.drop ((ah b).k+(ae (b.drop (ah b).k)).2.1)⟩:Field)=dR b:=by rw [dR,if_neg h]
end Go.Proofs.Ytladifkbefehdaa
namespace Go.Proofs.Ytladifkbefehdaa
open Go.RowKit
def cF (acc:List Field) (x:Field):Bool:=match acc[acc.length - 1]? with | none=>true | some y=>bD y x
def qy:Nat->List Field->List UInt8->List Field × Int
 | 0,acc,_=>(acc,0)
 | f+1,acc,b=>if b.length=0 then (acc,0) else if (aw b).2=0 then (if cF acc (dR (b.take (aw b).1))=true then qy f (acc++[dR (b.take (aw b).1)]) (b.drop (aw b).1) else ([],5)) else ([],(aw b).2)
def az (b:List UInt8):List Field × Int:=if 16384<b.length then ([],4) else qy b.length [] b
def ct (b:List UInt8) (i:Nat) (acc:List Field):Prop:=∃ f,b.length - i<=f/\az b=qy f acc (b.drop i)
theorem Fw {b:List UInt8} (h:16384<b.length):az b=([],4):=by rw [az,if_pos h]
theorem fa {b:List UInt8} (h:¬ 16384<b.length):ct b 0 []:=⟨b.length,by omega,by rw [az,if_neg h]; rfl⟩
theorem zd {b:List UInt8} {i:Nat} {acc:List Field} (h:ct b i acc) (hi:i<b.length):∃ f,b.length - i<=f+1/\az b=if (aw (b.drop i)).2=0 then (if cF acc (dR ((b.drop i).take (aw (b.drop i)).1))=true then qy f (acc++[dR ((b.drop i).take (aw (b.drop i)).1)]) ((b.drop i).drop (aw (b.drop i)).1) else ([],5)) else ([],(aw (b.drop i)).2):=by
 obtain ⟨f,hf,e⟩:=h
 cases f with
 | zero=>omega
 | succ f=>exact ⟨f,hf,by rw [e,qy,if_neg (by rw [List.length_drop]; omega)]⟩
theorem BT {b:List UInt8} {i:Nat} {acc:List Field} (h:ct b i acc) (hi:i<b.length) (hs:¬ (aw (b.drop i)).2=0):az b=([],(aw (b.drop i)).2):=by
 obtain ⟨f,_,e⟩:=zd h hi; rw [e,if_neg hs]
theorem Ed {b:List UInt8} {i:Nat} {acc:List Field} (h:ct b i acc) (hi:b.length<=i):az b=(acc,0):=by
 obtain ⟨f,_,e⟩:=h
 rw [e,List.drop_of_length_le hi]
 cases f <;> rfl
theorem pI:∀ {f:Nat} {acc:List Field} {b:List UInt8},(qy f acc b).1.length<=acc.length+b.length
 | 0,acc,b=>by simp [qy]
 | f+1,acc,b=>by
  unfold qy
  split
  ·simp
  ·split
   ·rename_i h0 h1
    split
    ·have:=pI (f:=f) (acc:=acc++[dR (b.take (aw b).1)]) (b:=b.drop (aw b).1)
     have h2:=jf h1
     rw [List.length_append,List.length_drop] at this
     simp only [List.length_cons,List.length_nil] at this
     omega
    ·simp
   ·simp
theorem kK (b:List UInt8):(az b).1.length<=16384:=by
 unfold az
 split
 ·simp
 ·have:=pI (f:=b.length) (acc:=[]) (b:=b)
  simp only [List.length_nil] at this
  omega
end Go.Proofs.Ytladifkbefehdaa
namespace Go.Proofs.Ytladifkbefehdaa
open Go.RowKit
def vH (x:Field) (s:Spec) (n:Int):Bool:=if ¬ x.wire=s.wire\/(1<n/\s.many=false) then false else if x.wire=0 then !decide ((x.n.n:Int)=0) else decide (0<((x.b.length:Nat):Int))
def bw (l:List Field) (q:Int):Nat:=l.countP fun x=>decide (x.num=q)
theorem cf {l:List Field} {k:Nat} (q:Int):bw (l.take k) q<=k:=Nat.le_trans List.countP_le_length (by rw [List.length_take]; exact Nat.min_le_left _ _)
theorem jb {l:List Field} {k:Nat} {x:Field} (hx:l[k]? = some x) (q:Int):bw (l.take (k+1)) q=if q=x.num then bw (l.take k) x.num+1 else bw (l.take k) q:=by
 unfold bw
 rw [ax hx,List.countP_append]
 by_cases h:q=x.num
 ·subst h; simp
 ·have:¬ x.num=q:=fun e=>h e.symm
  simp [h,this]
def mO (l:List Field) (ss:List Spec) (k:Nat):Prop:=∀ j x,j<k->l[j]? = some x->∀ s ∈ ss,s.num=x.num->vH x s ((bw (l.take (j+1)) x.num:Nat):Int)=true
def vM (l:List Field) (ss:List Spec) (m:Nat):Prop:=∀ j y,j<m->ss[j]? = some y->y.need=true->¬ bw l y.num=0
def zf (ss:List Spec) (x:Field) (n:Int) (m:Nat):Prop:=∀ j y,j<m->ss[j]? = some y->y.num=x.num->vH x y n=true
theorem kq {ss:List Spec} {x:Field} {n:Int}:zf ss x n 0:=fun j y h=>by omega
theorem ky {l:List Field} {ss:List Spec}:mO l ss 0:=fun j y h=>by omega
theorem ku {l:List Field} {ss:List Spec}:vM l ss 0:=fun j y h=>by omega
def lL (l:List Field) (v:Int):Prop:=mO l (ao v) l.length/\vM l (ao v) (ao v).length
open Classical in
noncomputable def cC (l:List Field) (v:Int):Int:=if (ao v).length=0 then 1 else if aZ l=0 then (if lL l v then 0 else 6) else aZ l
theorem i_ {l:List Field} {v:Int} (h:(ao v).length=0):1=cC l v:=by rw [cC,if_pos h]
theorem je {l:List Field} {v:Int} (h:¬ (ao v).length=0) (h2:¬ aZ l=0):aZ l=cC l v:=by rw [cC,if_neg h,if_neg h2]
theorem dh {l:List Field} {v:Int} (h:¬ (ao v).length=0) (h2:aZ l=0) (h3:¬ lL l v):6=cC l v:=by rw [cC,if_neg h,if_pos h2,if_neg h3]
theorem iV {l:List Field} {v:Int} (h:¬ (ao v).length=0) (h2:aZ l=0) (h3:lL l v):0=cC l v:=by rw [cC,if_neg h,if_pos h2,if_pos h3]
theorem yt {ss:List Spec} {m:Nat} {x:Field} {n:Int} {y:Spec} (h:zf ss x n m) (hy:ss[m]? = some y) (hn:y.num=x.num->vH x y n=true):zf ss x n (m+1):=by
 intro j z hj hz
 by_cases hjm:j=m
 ·subst hjm; rw [hy] at hz; cases hz; exact hn
 ·exact h j z (by omega) hz
theorem vT {l:List Field} {ss:List Spec} {k m:Nat} {x:Field} (h:mO l ss k) (hx:l[k]? = some x) {n:Int} (hi:zf ss x n m) (hm:ss.length<=m) (e:n=((bw (l.take (k+1)) x.num:Nat):Int)):mO l ss (k+1):=by
 subst e
 intro j z hj hz s hs hn
 by_cases hjk:j=k
 ·subst hjk; rw [hx] at hz; cases hz
  obtain ⟨p,hp,rfl⟩:=List.getElem_of_mem hs
  exact hi p _ (by omega) (List.getElem?_eq_getElem hp) hn
 ·exact h j z (by omega) hz s hs hn
theorem xU {l:List Field} {ss:List Spec} {m:Nat} {y:Spec} (h:vM l ss m) (hy:ss[m]? = some y) (hn:y.need=true->¬ bw l y.num=0):vM l ss (m+1):=by
 intro j z hj hz
 by_cases hjm:j=m
 ·subst hjm; rw [hy] at hz; cases hz; exact hn
 ·exact h j z (by omega) hz
theorem ek {l:List Field} {v:Int} {k m:Nat} {x:Field} {y:Spec} (hx:l[k]? = some x) (hy:(ao v)[m]? = some y) {n:Int} (hn:y.num=x.num/\vH x y n=false) (e:n=((bw (l.take (k+1)) x.num:Nat):Int)):¬ lL l v:=by
 intro h
 have:=h.1 k x (jo hx) hx y (List.mem_of_getElem? hy) hn.1
 rw [<- e,hn.2] at this; cases this
theorem Ad {l:List Field} {v:Int} {m:Nat} {y:Spec} {n:Nat} (hy:(ao v)[m]? = some y) (hn:y.need=true/\((n:Nat):Int)=0) (e:n=bw l y.num):¬ lL l v:=
 fun h=>h.2 m y (jo hy) hy hn.1 (by omega)
theorem Bg {l:List Field} {v:Int} {k m:Nat} (h1:mO l (ao v) k) (hk:l.length<=k) (h2:vM l (ao v) m) (hm:(ao v).length<=m):lL l v:=
 ⟨fun j x hj=>h1 j x (by omega),fun j y hj=>h2 j y (by omega)⟩
end Go.Proofs.Ytladifkbefehdaa
namespace Go.Proofs.Ytladifkbefehdaa
open Go.RowKit
theorem Bs {l:List Field} {v:Int} {k:Nat} {x:Field} (hx:l[k]? = some x) (h:x.num<=v):(l.take k).filter (fun f=>decide (f.num<=v))++[x]=(l.take (k+1)).filter (fun f=>decide (f.num<=v)):=by
 rw [ax hx,List.filter_append]; simp [h]
theorem FF {l:List Field} {v:Int} {k:Nat} {x:Field} (hx:l[k]? = some x) (h:¬ x.num<=v):(l.take k).filter (fun f=>decide (f.num<=v))=(l.take (k+1)).filter (fun f=>decide (f.num<=v)):=by
 rw [ax hx,List.filter_append]; simp [h]
theorem Ab {l:List Field} {v:Int} {k:Nat} {x:Field} (hx:l[k]? = some x) (h:¬ x.num<=v):(l.take k).filter (fun f=>!decide (f.num<=v))++[x]=(l.take (k+1)).filter (fun f=>!decide (f.num<=v)):=by
 rw [ax hx,List.filter_append]; simp [h]
theorem DJ {l:List Field} {v:Int} {k:Nat} {x:Field} (hx:l[k]? = some x) (h:x.num<=v):(l.take k).filter (fun f=>!decide (f.num<=v))=(l.take (k+1)).filter (fun f=>!decide (f.num<=v)):=by
 rw [ax hx,List.filter_append]; simp [h]
theorem vY (l:List Field) (p:Field->Bool):(l.filter p).length<=l.length:=List.length_filter_le _ _
def aQ (l:List Field) (v:Int):List Field:=l.filter fun f=>decide (f.num<=v)
def bp (l:List Field) (v:Int):List Field:=l.filter fun f=>!decide (f.num<=v)
theorem gm (l:List Field) (v:Int):(aQ l v).length<=l.length:=vY _ _
theorem dz (l:List Field) (v:Int):(bp l v).length<=l.length:=vY _ _
theorem uu {l:List Field} {v:Int} {k:Nat} (hk:l.length<=k):(l.take k).filter (fun f=>decide (f.num<=v))=aQ l v:=by rw [List.take_of_length_le hk]; rfl
theorem xo {l:List Field} {v:Int} {k:Nat} (hk:l.length<=k):(l.take k).filter (fun f=>!decide (f.num<=v))=bp l v:=by rw [List.take_of_length_le hk]; rfl
end Go.Proofs.Ytladifkbefehdaa
namespace Go.Proofs.Ytladifkbefehdaa
open Go.RowKit
def uY (f:Field):Int:=IntKind.i64.wrap ((f.n.n:Nat):Int)
def cA (c:Command) (f:Field):Command:=
 if f.num=1 then ⟨uY f,c.client,c.seq,c.set,c.id,c.n,c.chunks,c.text⟩ else
 if f.num=2 then ⟨c.kind,uY f,c.seq,c.set,c.id,c.n,c.chunks,c.text⟩ else
 if f.num=3 then ⟨c.kind,c.client,uY f,c.set,c.id,c.n,c.chunks,c.text⟩ else
 if f.num=4 then ⟨c.kind,c.client,c.seq,uY f,c.id,c.n,c.chunks,c.text⟩ else
 if f.num=5 then ⟨c.kind,c.client,c.seq,c.set,uY f,c.n,c.chunks,c.text⟩ else
 if f.num=6 then ⟨c.kind,c.client,c.seq,c.set,c.id,uY f,c.chunks,c.text⟩ else
 if f.num=7 then ⟨c.kind,c.client,c.seq,c.set,c.id,c.n,cK f.b,c.text⟩ else
 if f.num=8 then ⟨c.kind,c.client,c.seq,c.set,c.id,c.n,c.chunks,⟨f.b⟩⟩ else c
def bd:Command:=⟨0,0,0,0,0,0,[],⟨[]⟩⟩
def a_ (l:List Field):Command:=l.foldl cA bd
theorem aB {l:List Field} {k:Nat} {x:Field} (hx:l[k]? = some x):a_ (l.take (k+1))=cA (a_ (l.take k)) x:=by
 unfold a_; rw [ax hx,List.foldl_append]; rfl
theorem Dm {c:Command} {f:Field} (h:f.num=1):(⟨uY f,c.client,c.seq,c.set,c.id,c.n,c.chunks,c.text⟩:Command)=cA c f:=by rw [cA,if_pos h]
theorem Fy {c:Command} {f:Field} (h:f.num=2):(⟨c.kind,uY f,c.seq,c.set,c.id,c.n,c.chunks,c.text⟩:Command)=cA c f:=by rw [cA,if_neg (by omega),if_pos h]
theorem Ef {c:Command} {f:Field} (h:f.num=3):(⟨c.kind,c.client,uY f,c.set,c.id,c.n,c.chunks,c.text⟩:Command)=cA c f:=by rw [cA,if_neg (by omega),if_neg (by omega),if_pos h]
theorem EE {c:Command} {f:Field} (h:f.num=4):(⟨c.kind,c.client,c.seq,uY f,c.id,c.n,c.chunks,c.text⟩:Command)=cA c f:=by rw [cA,if_neg (by omega),if_neg (by omega),if_neg (by omega),if_pos h]
theorem Ea {c:Command} {f:Field} (h:f.num=5):(⟨c.kind,c.client,c.seq,c.set,uY f,c.n,c.chunks,c.text⟩:Command)=cA c f:=by rw [cA,if_neg (by omega),if_neg (by omega),if_neg (by omega),if_neg (by omega),if_pos h]
theorem DN {c:Command} {f:Field} (h:f.num=6):(⟨c.kind,c.client,c.seq,c.set,c.id,uY f,c.chunks,c.text⟩:Command)=cA c f:=by rw [cA,if_neg (by omega),if_neg (by omega),if_neg (by omega),if_neg (by omega),if_neg (by omega),if_pos h]
theorem Et {c:Command} {f:Field} (h:f.num=7):(⟨c.kind,c.client,c.seq,c.set,c.id,c.n,cK f.b,c.text⟩:Command)=cA c f:=by rw [cA,if_neg (by omega),if_neg (by omega),if_neg (by omega),if_neg (by omega),if_neg (by omega),if_neg (by omega),if_pos h]
theorem Gw {c:Command} {f:Field} (h:f.num=8):(⟨c.kind,c.client,c.seq,c.set,c.id,c.n,c.chunks,⟨f.b⟩⟩:Command)=cA c f:=by rw [cA,if_neg (by omega),if_neg (by omega),if_neg (by omega),if_neg (by omega),if_neg (by omega),if_neg (by omega),if_neg (by omega),if_pos h]
theorem DM {c:Command} {f:Field} (h:¬ (1<=f.num/\f.num<=8)):c=cA c f:=by rw [cA,if_neg (by omega),if_neg (by omega),if_neg (by omega),if_neg (by omega),if_neg (by omega),if_neg (by omega),if_neg (by omega),if_neg (by omega)]
noncomputable def gT (b:List UInt8) (v:Int):Int:=if (az b).2=0 then cC (az b).1 v else (az b).2
end Go.Proofs.Ytladifkbefehdaa
namespace Go.Proofs.Ytladifkbefehdaa
open Go.RowKit
structure TkR where
 c:Command
 r:List Field
 e:Int
noncomputable def bF (b:List UInt8) (v:Int):TkR:=
 if 1<=v/\v<=3 then (if gT b v=0 then (if bS (a_ (aQ (az b).1 (aC v))) (bp (az b).1 (aC v)) v=0/\cq (a_ (aQ (az b).1 (aC v))) (bp (az b).1 (aC v)) v=b then ⟨a_ (aQ (az b).1 (aC v)),bp (az b).1 (aC v),0⟩ else ⟨bd,[],6⟩) else ⟨bd,[],gT b v⟩) else ⟨bd,[],1⟩
theorem Jk {b:List UInt8} {v:Int} (h:¬ (1<=v/\v<=3)):bF b v=⟨bd,[],1⟩:=by rw [bF,if_neg h]
theorem Hx {b:List UInt8} {v:Int} (h:1<=v/\v<=3) (h2:¬ gT b v=0):bF b v=⟨bd,[],gT b v⟩:=by rw [bF,if_pos h,if_neg h2]
theorem Hv {b:List UInt8} {v:Int} (h:1<=v/\v<=3) (h2:gT b v=0) (h3:¬ bS (a_ (aQ (az b).1 (aC v))) (bp (az b).1 (aC v)) v=0\/¬ cq (a_ (aQ (az b).1 (aC v))) (bp (az b).1 (aC v)) v=b):bF b v=⟨bd,[],6⟩:=by
 rw [bF,if_pos h,if_pos h2,if_neg (fun h=>h3.elim (fun h4=>h4 h.1) (fun h4=>h4 h.2))]
theorem Hz {b:List UInt8} {v:Int} (h:1<=v/\v<=3) (h2:gT b v=0) (h3:bS (a_ (aQ (az b).1 (aC v))) (bp (az b).1 (aC v)) v=0/\cq (a_ (aQ (az b).1 (aC v))) (bp (az b).1 (aC v)) v=b):bF b v=⟨a_ (aQ (az b).1 (aC v)),bp (az b).1 (aC v),0⟩:=by
 rw [bF,if_pos h,if_pos h2,if_pos h3]
theorem tD {b:List UInt8} {v:Int} (h:gT b v=0):(az b).2=0/\aZ (az b).1=0:=by
 unfold gT at h
 split at h
 ·rename_i h1
  refine ⟨h1,?_⟩
  unfold cC at h
  split at h
  ·cases h
  ·split at h
   ·assumption
   ·exact h
 ·rename_i h1; exact absurd h h1
theorem yI {b:List UInt8} {v:Int} {u:Int} (h:gT b v=0):∀ f ∈ aQ (az b).1 u,f.b.length<=16384:=
 fun _ hf=>cz (tD h).2 (List.mem_filter.1 hf).1
end Go.Proofs.Ytladifkbefehdaa
namespace Go.Proofs.Ytladifkbefehdaa
open Go.RowKit
theorem nC {x:UInt8} (h:x.toNat<128):(x &&& 127).toNat=x.toNat:=by rw [fR]; omega
theorem vp:∀ (n:Nat) {k m:Nat} {r:List UInt8},k<=9->n*2 ^ (7*k)<18446744073709551616->(0<k->n≠0)->aY k m (bb n++r)=(m+n*2 ^ (7*k),k+(bb n).length,0):=by
 intro n
 induction n using Nat.strongRecOn with
 | _ n ih=>
  intro k m r hk hn h0
  by_cases hs:n<128
  ·rw [fq hs]
   have hx:(UInt8.ofNat n).toNat=n:=by rw [UInt8.toNat_ofNat']; omega
   simp only [List.cons_append,List.nil_append,List.length_cons,List.length_nil]
   have h9:¬ ((0<k/\(UInt8.ofNat n).toNat=0)\/(k=9/\1<(UInt8.ofNat n).toNat)):=by
    rw [hx]
    rintro (⟨h1,h2⟩ | ⟨rfl,h2⟩)
    ·exact h0 h1 h2
    ·have:2*2 ^ (7*9)<=n*2 ^ (7*9):=Nat.mul_le_mul_right _ (by omega)
     have e:(2:Nat)*2 ^ (7*9)=18446744073709551616:=by decide
     omega
   rw [aY,if_neg (by omega),if_neg h9,if_pos (by omega),nC (by omega),hx]
  ·rw [lX hs]
   simp only [List.cons_append,List.length_cons]
   have hx:=CL n
   have hk8:k<=8:=by
    rcases Nat.lt_or_ge k 9 with h | h
    ·omega
    ·have hk9:k=9:=by omega
     subst hk9
     have:128*2 ^ (7*9)<=n*2 ^ (7*9):=Nat.mul_le_mul_right _ (by omega)
     have e:(128:Nat)*2 ^ (7*9)=1180591620717411303424:=by decide
     omega
   have e7:(2:Nat) ^ (7*(k+1))=128*2 ^ (7*k):=by rw [show 7*(k+1)=7*k+7 by omega,Nat.pow_add,Nat.mul_comm]
   have hd:n / 128*2 ^ (7*(k+1))<=n*2 ^ (7*k):=by
    rw [e7,<- Nat.mul_assoc]; exact Nat.mul_le_mul_right _ (Nat.div_mul_le_self _ _)
   rw [aY,if_neg (by omega),if_neg (by rw [hx]; rintro (⟨_,h⟩ | ⟨h,_⟩) <;> omega),if_neg (by omega),fR,hx]
   rw [ih (n / 128) (by omega) (k:=k+1) (by omega) (by omega) (fun _=>by omega)]
   have e:(n % 128+128) % 128=n % 128:=by omega
   have e2:n % 128*2 ^ (7*k)+n / 128*2 ^ (7*(k+1))=n*2 ^ (7*k):=by
    rw [e7,<- Nat.mul_assoc,<- Nat.add_mul]; congr 1; omega
   rw [e,Nat.add_assoc,e2]
   congr 2
   omega
theorem nJ {n:Nat} (h:n<18446744073709551616) (r:List UInt8):ae (bb n++r)=(n,(bb n).length,0):=by
 unfold ae
 rw [vp n (by omega) (by simpa using h) (fun h=>absurd h (by omega))]
 simp
end Go.Proofs.Ytladifkbefehdaa
namespace Go.Proofs.Ytladifkbefehdaa
open Go.RowKit
structure PutOk (c:Command) (v:Int):Prop where
 vr:1<=v/\v<=3
 nn:0<=c.kind/\0<=c.client/\0<=c.seq/\0<=c.set/\0<=c.id/\0<=c.n
 kind:¬ c.kind=0
 row:c.chunks.length=0\/rowF c.chunks=true
 text:v<3->c.text=⟨[]⟩
theorem vi {c:Command} {rest:List Field} {v:Int} (h:bS c rest v=0):((1<=v/\v<=3)/\(b_ c v=true\/bJ c v=0)/\(∀ f ∈ rest,aC v<f.num))/\aZ (aV c v++rest)=0/\cq c rest v=eH (aV c v++rest):=by
 unfold bS at h
 split at h
 ·rename_i hb
  refine ⟨?_,h,by rw [cq,if_pos hb]⟩
  unfold bu at hb
  split at hb
  ·cases hb
  ·rename_i h1
   split at hb
   ·rename_i h2; exact absurd hb h2.2
   ·rename_i h2
    split at hb
    ·cases hb
    ·rename_i h3
     refine ⟨CQ (by simpa using h1),?_,fun f hf=>?_⟩
     ·by_cases hm:bJ c v=0
      ·exact .inr hm
      ·refine .inl ?_
       by_cases hf:b_ c v=false
       ·exact absurd ⟨hf,hm⟩ h2
       ·simpa using hf
     ·rw [Bool.not_eq_true,List.any_eq_false] at h3
      have:=h3 f hf
      simpa using this
 ·rename_i hb; exact absurd h hb
theorem BB {l:List Field} {q:Int} (k:Nat):bw (l.take k) q<=bw l q:=(List.take_sublist k l).countP_le
end Go.Proofs.Ytladifkbefehdaa
namespace Go.Proofs.Ytladifkbefehdaa
open Go.RowKit
theorem Bw {x y:Field} (h:((x.num=y.num/\x.wire=y.wire)/\(x.n.n:Int)=(y.n.n:Int))/\x.b=y.b):x=y:=by
 obtain ⟨⟨⟨h1,h2⟩,h3⟩,h4⟩:=h
 cases x with | mk a b c d=>cases c; cases y with | mk e f g k=>cases g; simp_all; omega
theorem Az {a b:List Field} {k:Nat} {x y:Field} (hx:a[k]? = some x) (hy:b[k]? = some y) (h:¬ x=y):false=decide (a=b):=by
 symm; apply decide_eq_false; rintro rfl; rw [hx] at hy; cases hy; exact h rfl
theorem lJ {a b:List Field} (h:¬ ((a.length:Nat):Int)=((b.length:Nat):Int)):false=decide (a=b):=by
 symm; apply decide_eq_false; rintro rfl; exact h rfl
theorem uT {a b:List Field} {k:Nat} {x y:Field} (h:a.take k=b.take k) (hx:a[k]? = some x) (hy:b[k]? = some y) (e:x=y):a.take (k+1)=b.take (k+1):=by
 rw [ax hx,ax hy,h,e]
theorem lx {a b:List Field} {k:Nat} (h:a.take k=b.take k) (ha:a.length<=k) (hb:b.length<=k):true=decide (a=b):=by
 rw [List.take_of_length_le ha,List.take_of_length_le hb] at h
 exact (decide_eq_true h).symm
end Go.Proofs.Ytladifkbefehdaa
namespace Go.Proofs.Ytladifkbefehdaa
open Go.RowKit
end Go.Proofs.Ytladifkbefehdaa
namespace Go.Proofs.Ytladifkbefehdaa
open Go.RowKit
theorem ID {b:List UInt8} {k:Nat} {x:UInt8} (hx:b[k]? = some x):b.getD k (dflt .u8)=x:=by rw [List.getD_eq_getElem?_getD,hx]; rfl
theorem Kh {b:List UInt8} {k n:Nat} (h:ae b=aY k n (b.drop k)) (hk:(k:Int)<10) (hb:(k:Int)=(b.length:Int)):ae b=(0,0,2):=h.trans (xH (by omega) (by omega))
theorem Kl {b:List UInt8} {k n:Nat} (h:ae b=aY k n (b.drop k)) (hk:10<=(k:Int)):ae b=(0,0,3):=h.trans (FG (by omega))
theorem JX {b:List UInt8} {k:Nat} (h1:k<=b.length) (h2:¬ (k:Int)=(b.length:Int)):∃ x,b[k]? = some x:=⟨_,List.getElem?_eq_getElem (by omega)⟩
theorem Ki {b:List UInt8} {k n:Nat} (h:ae b=aY k n (b.drop k)) (hk:(k:Int)<10) (hl:k<=b.length) (hb:¬ (k:Int)=(b.length:Int)) (h0:0<(k:Int)) (h1:((b.getD k (dflt .u8)).toNat:Int)=((UInt8.ofNat 0).toNat:Int)):ae b=(0,0,3):=by
 obtain ⟨x,hx⟩:=JX hl hb
 rw [ID hx,show (UInt8.ofNat 0).toNat=0 from rfl] at h1
 exact nU h (by omega) hx (.inl ⟨by omega,by omega⟩)
theorem Kc {b:List UInt8} {k n:Nat} (h:ae b=aY k n (b.drop k)) (_hk:(k:Int)<10) (hl:k<=b.length) (hb:¬ (k:Int)=(b.length:Int)) (h0:(k:Int)=9) (h1:((UInt8.ofNat 1).toNat:Int)<((b.getD k (dflt .u8)).toNat:Int)):ae b=(0,0,3):=by
 obtain ⟨x,hx⟩:=JX hl hb
 rw [ID hx,show (UInt8.ofNat 1).toNat=1 from rfl] at h1
 exact nU h (by omega) hx (.inr ⟨by omega,by omega⟩)
def DG (n k:Nat) (x:UInt8):Nat:=n ||| (x &&& UInt8.ofNat 127).toNat*2 ^ (7*(k:Int)).toNat % 18446744073709551616
theorem JN {k n:Nat} {x:UInt8} (hn:n<2 ^ (7*k)) (hk:k<=9) (h9:k=9->x.toNat<=1):DG n k x=n+(x &&& 127).toNat*2 ^ (7*k):=by
 unfold DG
 rw [show (UInt8.ofNat 127)=127 from rfl,show (7*(k:Int)).toNat=7*k by omega,Nat.mod_eq_of_lt (rQ hk h9)]
 exact rh hn
theorem JS {b:List UInt8} {k:Nat} {x:UInt8} (hx:b[k]? = some x) (h1:(k:Int)<=0\/¬ ((b.getD k (dflt .u8)).toNat:Int)=((UInt8.ofNat 0).toNat:Int)) (h2:¬ (k:Int)=9\/((b.getD k (dflt .u8)).toNat:Int)<=((UInt8.ofNat 1).toNat:Int)):(¬ (0<k/\x.toNat=0))/\¬ (k=9/\1<x.toNat):=by
 rw [ID hx,show (UInt8.ofNat 0).toNat=0 from rfl] at h1
 rw [ID hx,show (UInt8.ofNat 1).toNat=1 from rfl] at h2
 omega
theorem JC {b:List UInt8} {k n:Nat} {x y:UInt8} (h:ae b=aY k n (b.drop k)) (hn:n<2 ^ (7*k)) (hk:(k:Int)<10) (hx:b[k]? = some x) (hy:b[k]? = some y) (h1:(k:Int)<=0\/¬ ((b.getD k (dflt .u8)).toNat:Int)=((UInt8.ofNat 0).toNat:Int)) (h2:¬ (k:Int)=9\/((b.getD k (dflt .u8)).toNat:Int)<=((UInt8.ofNat 1).toNat:Int)) (h3:(y.toNat:Int)<((UInt8.ofNat 128).toNat:Int)):ae b=(DG n k x,k+1,0):=by
 have hz:=JS hx h1 h2
 rw [show (UInt8.ofNat 128).toNat=128 from rfl] at h3
 rw [hx] at hy; cases hy
 rw [JN hn (by omega) (by omega)]
 exact tE h (by omega) hx hz.1 hz.2 (by omega)
theorem Jg {b:List UInt8} {k n:Nat} {x y:UInt8} (h:ae b=aY k n (b.drop k)) (hn:n<2 ^ (7*k)) (hn2:n<18446744073709551616) (hk:(k:Int)<10) (hx:b[k]? = some x) (hy:b[k]? = some y) (h1:(k:Int)<=0\/¬ ((b.getD k (dflt .u8)).toNat:Int)=((UInt8.ofNat 0).toNat:Int)) (h2:¬ (k:Int)=9\/((b.getD k (dflt .u8)).toNat:Int)<=((UInt8.ofNat 1).toNat:Int)) (h3:((UInt8.ofNat 128).toNat:Int)<=(y.toNat:Int)):DG n k x<2 ^ (7*(k+1))/\DG n k x<18446744073709551616/\ae b=aY (k+1) (DG n k x) (b.drop (k+1)):=by
 have hz:=JS hx h1 h2
 rw [show (UInt8.ofNat 128).toNat=128 from rfl] at h3
 rw [hx] at hy; cases hy
 have e:=JN hn (show k<=9 by omega) (show k=9->x.toNat<=1 by omega)
 refine ⟨by rw [e]; exact nP hn,?_,by rw [e]; exact su h (by omega) hx hz.1 hz.2 (by omega)⟩
 unfold DG
 exact Nat.or_lt_two_pow (n:=64) hn2 (Nat.mod_lt _ (by decide))
theorem yc {c:Command} {v:Int} {k:Nat} {x:Int} (hx:[c.client,c.seq,c.set,c.id,c.n][k]? = some x) (h:x<0\/1048576<x):false=b_ c v:=by
 refine BC ?_
 match k,hx with
 | 0,hx=>cases hx; exact .inl h
 | 1,hx=>cases hx; exact .inr (.inl h)
 | 2,hx=>cases hx; exact .inr (.inr (.inl h))
 | 3,hx=>cases hx; exact .inr (.inr (.inr (.inl h)))
 | 4,hx=>cases hx; exact .inr (.inr (.inr (.inr h)))
theorem uZ {c:Command} {k:Nat} (h:(k:Int)<5):[c.client,c.seq,c.set,c.id,c.n][k]? = some ([c.client,c.seq,c.set,c.id,c.n].getD k (dflt .int)):=by
 rw [List.getD_eq_getElem?_getD,List.getElem?_eq_getElem (by simp only [List.length_cons,List.length_nil]; omega)]; rfl
theorem vo {n:Int} {p:Prop} (h:n<=0\/p):(¬ 0<n)\/p:=h.imp_left (by omega)
theorem Eb {l:List Int} {k:Nat} {x:Int} (h:((l.take k).all fun n=>bt n 0 1048576)=true) (hx:l[k]? = some x) (h0:0<=x) (h1:x<=1048576):((l.take (k+1)).all fun n=>bt n 0 1048576)=true:=by
 rw [ax hx,List.all_append,h]; simp [bt]; omega
theorem vB {c:Command} {k:Nat} (h:(([c.client,c.seq,c.set,c.id,c.n].take k).all fun n=>bt n 0 1048576)=true) (hk:5<=(k:Int)):¬ ((c.client<0\/1048576<c.client)\/(c.seq<0\/1048576<c.seq)\/(c.set<0\/1048576<c.set)\/(c.id<0\/1048576<c.id)\/(c.n<0\/1048576<c.n)):=by
 rw [List.take_of_length_le (by simp only [List.length_cons,List.length_nil]; omega)] at h
 simp only [List.all_cons,List.all_nil,bt,Bool.and_eq_true,decide_eq_true_eq] at h
 omega
def vP (b:List UInt8):List (Nat × LI):=[(3,{ σ:=Nat × Nat,F:=fun s=>([(0,one (.fz .u8 (b))),(5,one (.u64 s.2)),(6,one (.int 0)),(7,one (.int 3)),(9,one (.int s.1))],[]),J:=fun s=>s.1<=10/\s.2<2 ^ (7*s.1)/\s.2<18446744073709551616/\ae b=aY s.1 s.2 (b.drop s.1)/\s.1<=b.length,μ:=fun s=>10 - s.1 })]
def nK (c:Command) (v:Int):List (Nat × LI):=[(5,{ σ:=Nat,F:=fun k=>([(1,one (.int (v))),(2,one (.ptr 0 0)),(38,.one (.agg [.int c.client,.int c.seq,.int c.set,.int c.id,.int c.n])),(39,one (.int k))],[.box 27 (cellsOf (.nm .command) ((c)))]),J:=fun k=>k<=5/\([c.client,c.seq,c.set,c.id,c.n].take k).all (fun n=>bt n 0 1048576)=true,μ:=fun k=>5 - k })]
theorem Ct (b:List UInt8) (r0:U64) (r1:Int) (r2:Int):cD aF dF (vP b) Try.f65 [.c (.fz .u8 (b))] [] [.c (.u64 (r0).n),.c (.int (r1)),.c (.int (r2))]=((fun (q11:UInt8)=>(fun (q10:Nat)=>(fun (q9:Nat)=>(fun (q8:Nat)=>(fun (q7:Int)=>(fun (q6:Int)=>(fun (q5:Int)=>(fun (q4:Int)=>(fun (q3:Int)=>(fun (q2:Prop)=>(fun (q1:Int)=>(fun (q0:Int)=>b.length*(1:Nat)<=(140737488355328:Nat)->∃ (s0:Nat × Nat),(fun (q15:Prop)=>(fun (q14:Prop)=>(fun (q13:Prop)=>(fun (q12:Prop)=>(b=b/\(0:Nat)=s0.snd/\q14/\q1=q1/\q0=(↑s0.fst:Int))/\(s0.fst<=q9/\s0.snd<q8 ^ ((7:Nat)*s0.fst)/\s0.snd<q10/\ae b=aY s0.fst s0.snd (List.drop s0.fst b)/\s0.fst<=b.length)/\∀ (s:Nat × Nat),(fun (q20:Nat)=>(fun (q19:Int)=>(fun (q18:Prop)=>(fun (q17:Int)=>(fun (q16:Prop)=>q20<=q9/\s.snd<q8 ^ ((7:Nat)*q20)/\s.snd<q10/\ae b=aY q20 s.snd (List.drop q20 b)/\q20<=b.length->(q17<(10:Int)->(q17=q3->(¬(2:Int)=q0->q2/\q0=r1/\(2:Int)=r2)/\((2:Int)=q0->s.snd=r0.n/\q12))/\(¬q17=q3->(q0<q17->q0<=q17/\q17<q3)/\(q0<q17/\q19=q4->(q0<q17/\q19=q4->q18)/\(q17<=q0\/¬q19=q4->q16))/\(q17<=q0\/¬q19=q4->(q17=(9:Int)->q0<=q17/\q17<q3)/\(q17=(9:Int)/\(↑(UInt8.ofNat (1:Nat)).toNat:Int)<q19->q18)/\(¬q17=(9:Int)\/q19<=(↑(UInt8.ofNat (1:Nat)).toNat:Int)->q16))))/\((10:Int)<=q17->q18)) (q0<=q17/\q17<q3/\∀ (x:UInt8),b[q20]? = some x->I64 (q6*q17)/\q0<=q6*q17/\q6*q17<(64:Int)/\q0<=q17/\q17<q3/\∀ (x_1:UInt8),b[q20]? = some x_1->((↑x_1.toNat:Int)<q5->I64 (q17+q7)/\(¬q14->q2/\q12)/\(q14->s.snd ||| (x &&& q11).toNat*q8 ^ (q6*q17).toNat % q10=r0.n/\q17+q7=r1/\q0=r2))/\(q5<=(↑x_1.toNat:Int)->I64 (q17+q7)/\∃ (s':Nat × Nat),(b=b/\s.snd ||| (x &&& q11).toNat*q8 ^ (q6*q17).toNat % q10=s'.snd/\q14/\q1=q1/\q17+q7=(↑s'.fst:Int))/\(s'.fst<=q9/\s'.snd<q8 ^ ((7:Nat)*s'.fst)/\s'.snd<q10/\ae b=aY s'.fst s'.snd (List.drop s'.fst b)/\s'.fst<=b.length)/\q9 - s'.fst<q9 - q20))) (↑q20:Int)) ((¬q15->q13)/\(q15->s.snd=r0.n/\q12))) (↑(UInt8.toNat (b.getD q20 (dflt Sh.u8))):Int)) s.fst) (q0=r1/\q0=r2)) (q2/\q0=r1/\q1=r2)) (q0=q0)) (q1=q0)) (0:Int)) (3:Int)) ((0:Nat)=r0.n)) (↑b.length:Int)) (↑(UInt8.ofNat (0:Nat)).toNat:Int)) (↑(UInt8.ofNat (128:Nat)).toNat:Int)) (7:Int)) (1:Int)) (2:Nat)) (10:Nat)) (18446744073709551616:Nat)) (UInt8.ofNat (127:Nat))):=by kernel_rfl
theorem Ap (b:List UInt8):Sat Try.prog (al aF) 65 [.c (.fz .u8 (b))] [] ⟨[],[.c (.u64 ((U64.mk (ae b).1)).n),.c (.int ((((ae b).2.1:Nat)))),.c (.int (((ae b).2.2)))],none,false⟩:=by
 refine aI bA (vP b) Try.func65 (by decide) (by kernel_rfl) ?_
 rw [Ct]
 (repeat' (first | with_reducible refine And.intro ?_ ?_ | with_reducible refine and_imp.2 ?_ | intro))
 all_goals try (first | (first | with_reducible rfl | with_reducible assumption | omega | (refine ag ?_ ?_ <;> omega)) | decide)
 all_goals (refine ⟨(0,0),⟨rfl,rfl,?_,?_,?_⟩,⟨by omega,by decide,by decide,rfl,by omega⟩,?_⟩)
 all_goals try (first | trivial | rfl)
 (repeat' (first | with_reducible refine And.intro ?_ ?_ | with_reducible refine and_imp.2 ?_ | intro))
 all_goals try (first | (first | with_reducible rfl | with_reducible assumption | omega | (refine ag ?_ ?_ <;> omega)) | (rw [Kh (by with_reducible assumption) (by with_reducible assumption) (by with_reducible assumption)] <;> rfl) | (rw [Kl (by with_reducible assumption) (by with_reducible assumption)] <;> rfl) | (rw [Ki (by with_reducible assumption) (by with_reducible assumption) (by with_reducible assumption) (by with_reducible assumption) (by with_reducible assumption) (by with_reducible assumption)] <;> rfl) | (rw [Kc (by with_reducible assumption) (by with_reducible assumption) (by with_reducible assumption) (by with_reducible assumption) (by with_reducible assumption) (by with_reducible assumption)] <;> rfl) | exact (congrArg Prod.fst (JC (by with_reducible assumption) (by with_reducible assumption) (by with_reducible assumption) (by with_reducible assumption) (by with_reducible assumption) (by with_reducible assumption) (by with_reducible assumption) (by with_reducible assumption))).symm | exact (congrArg (fun t=>((t.2.1:Nat):Int)) (JC (by with_reducible assumption) (by with_reducible assumption) (by with_reducible assumption) (by with_reducible assumption) (by with_reducible assumption) (by with_reducible assumption) (by with_reducible assumption) (by with_reducible assumption))).symm | exact (congrArg (fun t=>t.2.2) (JC (by with_reducible assumption) (by with_reducible assumption) (by with_reducible assumption) (by with_reducible assumption) (by with_reducible assumption) (by with_reducible assumption) (by with_reducible assumption) (by with_reducible assumption))).symm)
 all_goals (refine ⟨(‹Nat × Nat›.1+1,_),⟨rfl,rfl,?_⟩,?_⟩; (repeat' (first | with_reducible refine And.intro ?_ ?_ | with_reducible refine and_imp.2 ?_ | intro)))
 all_goals (first | (first | with_reducible rfl | with_reducible assumption | omega | (refine ag ?_ ?_ <;> omega)) | exact (Jg (by with_reducible assumption) (by with_reducible assumption) (by with_reducible assumption) (by with_reducible assumption) (by with_reducible assumption) (by with_reducible assumption) (by with_reducible assumption) (by with_reducible assumption) (by with_reducible assumption)).1 | exact (Jg (by with_reducible assumption) (by with_reducible assumption) (by with_reducible assumption) (by with_reducible assumption) (by with_reducible assumption) (by with_reducible assumption) (by with_reducible assumption) (by with_reducible assumption) (by with_reducible assumption)).2.1 | exact (Jg (by with_reducible assumption) (by with_reducible assumption) (by with_reducible assumption) (by with_reducible assumption) (by with_reducible assumption) (by with_reducible assumption) (by with_reducible assumption) (by with_reducible assumption) (by with_reducible assumption)).2.2)
theorem yS (x:Field) (y:Field) (r0:Bool):cD aF dF [] Try.f38 [.agg (cellsOf (.nm .field) x),.agg (cellsOf (.nm .field) y)] [] [.c (.bool (.atom (r0)))]=(I64 x.num->I64 x.wire->x.n.n<(18446744073709551616:Nat)->x.b.length*(1:Nat)<=(140737488355328:Nat)->I64 y.num->I64 y.wire->y.n.n<(18446744073709551616:Nat)->y.b.length*(1:Nat)<=(140737488355328:Nat)->(y.num=x.num->(decide (y.wire=(2:Int)) && decide (x.wire=(2:Int)))=r0)/\(¬y.num=x.num->decide (x.num<y.num)=r0)):=by kernel_rfl
theorem yC (x:Field) (y:Field):Sat Try.prog (al aF) 38 [.agg (cellsOf (.nm .field) x),.agg (cellsOf (.nm .field) y)] [] ⟨[],[.c (.bool (.atom ((bD x y))))],none,false⟩:=by
 refine aI bA [] Try.func38 (by decide) (by kernel_rfl) ?_
 rw [yS]
 grind [bD]
theorem xz (x:Field) (r0:Bool):cD aF dF [] Try.f67 [.agg (cellsOf (.nm .field) x)] [] [.c (.bool (.atom (r0)))]=(I64 x.num->I64 x.wire->x.n.n<(18446744073709551616:Nat)->x.b.length*(1:Nat)<=(140737488355328:Nat)->(x.num<(1:Int)\/(1000:Int)<x.num->false=r0)/\((1:Int)<=x.num/\x.num<=(1000:Int)->(x.wire=(0:Int)->decide ((↑x.b.length:Int)=(0:Int))=r0)/\(¬x.wire=(0:Int)->(x.wire=(2:Int)->decide ((↑x.n.n:Int)=(↑(0:Nat):Int))=r0)/\(¬x.wire=(2:Int)->false=r0)))):=by kernel_rfl
theorem vR (x:Field):Sat Try.prog (al aF) 67 [.agg (cellsOf (.nm .field) x)] [] ⟨[],[.c (.bool (.atom ((bI x))))],none,false⟩:=by
 refine aI bA [] Try.func67 (by decide) (by kernel_rfl) ?_
 rw [xz]
 grind [bI,pT,iL]
theorem zN (x:List UInt8) (y:List UInt8) (r0:Bool):cD aF dF [] Try.f23 [.c (.fz .u8 (x)),.c (.fz .u8 (y))] [] [.c (.bool (.atom (r0)))]=(x.length*(1:Nat)<=(140737488355328:Nat)->y.length*(1:Nat)<=(140737488355328:Nat)->decide (Str.mk x=Str.mk y)=r0):=by kernel_rfl
theorem xh (x:List UInt8) (y:List UInt8):Sat Try.prog (al aF) 23 [.c (.fz .u8 (x)),.c (.fz .u8 (y))] [] ⟨[],[.c (.bool (.atom ((decide (x=y)))))],none,false⟩:=by
 refine aI bA [] Try.func23 (by decide) (by kernel_rfl) ?_
 rw [zN]
 grind
theorem wJ (x:List UInt8) (r0:List UInt8):cD aF dF [] Try.f44 [.c (.fz .u8 (x))] [] [.c (.fz .u8 (r0))]=((fun (q0:Prop)=>q0->∀ (b:Bool),(b=true->x=[])->(b=true->r0=[])/\(b=false->q0/\x=r0)) (x.length*(1:Nat)<=(140737488355328:Nat))):=by kernel_rfl
theorem xy (x:List UInt8):Sat Try.prog (al aF) 44 [.c (.fz .u8 (x))] [] ⟨[],[.c (.fz .u8 ((x)))],none,false⟩:=by
 refine aI bA [] Try.func44 (by decide) (by kernel_rfl) ?_
 rw [wJ]
 grind
theorem Hj (k:Int) (l:Int) (r0:Spec):cD aF dF [] Try.f81 [.c (.int (k)),.c (.int (l))] [] [.agg (cellsOf (.nm .spec) r0)]=(I64 k->I64 l->k=r0.num/\(0:Int)=r0.wire/\l=r0.since/\false=r0.need/\false=r0.many):=by kernel_rfl
theorem Hr (k:Int) (l:Int):Sat Try.prog (al aF) 81 [.c (.int (k)),.c (.int (l))] [] ⟨[],[.agg (cellsOf (.nm .spec) (⟨k,0,l,false,false⟩))],none,false⟩:=by
 refine aI bA [] Try.func81 (by decide) (by kernel_rfl) ?_
 rw [Hj]
 grind
theorem Io (k:Int) (l:Int) (r0:Spec):cD aF dF [] Try.f82 [.c (.int (k)),.c (.int (l))] [] [.agg (cellsOf (.nm .spec) r0)]=(I64 k->I64 l->k=r0.num/\(2:Int)=r0.wire/\l=r0.since/\false=r0.need/\false=r0.many):=by kernel_rfl
theorem Hn (k:Int) (l:Int):Sat Try.prog (al aF) 82 [.c (.int (k)),.c (.int (l))] [] ⟨[],[.agg (cellsOf (.nm .spec) (⟨k,2,l,false,false⟩))],none,false⟩:=by
 refine aI bA [] Try.func82 (by decide) (by kernel_rfl) ?_
 rw [Io]
 grind
theorem Ho (x:Spec) (r0:Spec):cD aF dF [] Try.f83 [.agg (cellsOf (.nm .spec) x)] [] [.agg (cellsOf (.nm .spec) r0)]=(I64 x.num->I64 x.wire->I64 x.since->x.num=r0.num/\x.wire=r0.wire/\x.since=r0.since/\true=r0.need/\x.many=r0.many):=by kernel_rfl
theorem Hg (x:Spec):Sat Try.prog (al aF) 83 [.agg (cellsOf (.nm .spec) x)] [] ⟨[],[.agg (cellsOf (.nm .spec) ({ x with need:=true }))],none,false⟩:=by
 refine aI bA [] Try.func83 (by decide) (by kernel_rfl) ?_
 rw [Ho]
 grind
theorem HC (x:Spec) (r0:Spec):cD aF dF [] Try.f84 [.agg (cellsOf (.nm .spec) x)] [] [.agg (cellsOf (.nm .spec) r0)]=(I64 x.num->I64 x.wire->I64 x.since->x.num=r0.num/\x.wire=r0.wire/\x.since=r0.since/\x.need=r0.need/\true=r0.many):=by kernel_rfl
theorem HH (x:Spec):Sat Try.prog (al aF) 84 [.agg (cellsOf (.nm .spec) x)] [] ⟨[],[.agg (cellsOf (.nm .spec) ({ x with many:=true }))],none,false⟩:=by
 refine aI bA [] Try.func84 (by decide) (by kernel_rfl) ?_
 rw [HC]
 grind
theorem Fj (x:Field) (s:Spec) (n:Int) (r0:Bool):cD aF dF [] Try.f43 [.agg (cellsOf (.nm .field) x),.agg (cellsOf (.nm .spec) s),.c (.int (n))] [] [.c (.bool (.atom (r0)))]=(I64 x.num->I64 x.wire->x.n.n<(18446744073709551616:Nat)->x.b.length*(1:Nat)<=(140737488355328:Nat)->I64 s.num->I64 s.wire->I64 s.since->I64 n->(¬x.wire=s.wire\/(1:Int)<n/\s.many=false->false=r0)/\(x.wire=s.wire/\(n<=(1:Int)\/s.many=true)->(x.wire=(0:Int)->(!decide ((↑x.n.n:Int)=(↑(0:Nat):Int)))=r0)/\(¬x.wire=(0:Int)->decide ((0:Int)<(↑x.b.length:Int))=r0))):=by kernel_rfl
theorem Ee (x:Field) (s:Spec) (n:Int):Sat Try.prog (al aF) 43 [.agg (cellsOf (.nm .field) x),.agg (cellsOf (.nm .spec) s),.c (.int (n))] [] ⟨[],[.c (.bool (.atom ((vH x s n))))],none,false⟩:=by
 refine aI bA [] Try.func43 (by decide) (by kernel_rfl) ?_
 rw [Fj]
 grind [vH]
theorem Dz (num:Int) (wire:Int) (r0:Int) (r1:List UInt8):tg aF dF [] Try.f79 [.c (.int (num)),.c (.int (wire))] [] [.c (.own 0),.c (.int (r0))] [.row 5 .u8 (r1)]=((fun (q0:Int)=>I64 num->I64 wire->((num<(1:Int)\/(1000:Int)<num)\/¬wire=(0:Int)/\¬wire=(2:Int)->(1:Int)=r0/\r1=[])/\(((1:Int)<=num/\num<=(1000:Int))/\(wire=(0:Int)\/wire=(2:Int))->I64 ((8:Int)*num)/\I64 q0/\(0:Int)<=q0/\(0:Int)=r0/\bb q0.toNat=r1)) ((8:Int)*num+wire)):=by kernel_rfl
theorem Gj (num:Int) (wire:Int):Sat Try.prog (al aF) 79 [.c (.int (num)),.c (.int (wire))] [] ⟨[],[.c (.own 0),.c (.int ((fF num wire)))],some ([.row 5 .u8 ((gE num wire))]),true⟩:=by
 refine eR bA [] Try.func79 (by decide) (by kernel_rfl) ?_
 rw [Dz]
 (repeat' (first | with_reducible refine And.intro ?_ ?_ | with_reducible refine and_imp.2 ?_ | intro))
 all_goals (first | (first | with_reducible rfl | with_reducible assumption | omega | (refine ag ?_ ?_ <;> omega)) | exact (iY (by omega)) | exact (fI (by omega)) | exact (kO (by omega)).symm | exact (kO (by omega)) | exact (pA (by omega)))
theorem rT (c:Command) (v:Int) (r0:Bool):cD aF dF (nK c v) Try.f32 [.agg (cellsOf (.nm .command) c),.c (.int (v))] [] [.c (.bool (.atom (r0)))]=((fun (q7:List Int)=>(fun (q6:Nat)=>(fun (q5:Int)=>(fun (q4:Int)=>(fun (q3:Int)=>(fun (q2:List Int)=>(fun (q1:Prop)=>(fun (q0:List (den Sh.int))=>I64 q5->I64 q4->I64 c.seq->I64 c.set->I64 c.id->I64 c.n->q7.length*(8:Nat)<=(140737488355328:Nat)->c.text.b.length<=(140737488355328:Nat)->I64 v->I64 (aL q5)->((q5<(1:Int)\/(99:Int)<q5)\/¬aL q5=q3/\aL q5<=v->false=r0)/\(((1:Int)<=q5/\q5<=(99:Int))/\(aL q5=q3\/v<aL q5)->∃ (s0:Nat),(v=v/\q4=q4/\c.seq=c.seq/\c.set=c.set/\c.id=c.id/\c.n=c.n/\q3=(↑s0:Int)/\q1)/\(s0<=q6/\((List.take s0 q2).all fun (n:Int)=>bt n q3 (1048576:Int))=true)/\∀ (s:Nat),(fun (q8:den Sh.int)=>s<=q6/\((List.take s q2).all fun (n:Int)=>bt n q3 (1048576:Int))=true->((↑s:Int)<(5:Int)->q3<=(↑s:Int)/\(↑s:Int)<(↑q6:Int)/\(I64 q8->(q8<q3\/(1048576:Int)<q8->false=r0)/\(q3<=q8/\q8<=(1048576:Int)->I64 ((↑s:Int)+(1:Int))/\∃ (s':Nat),(v=v/\q4=q4/\c.seq=c.seq/\c.set=c.set/\c.id=c.id/\c.n=c.n/\(↑s:Int)+(1:Int)=(↑s':Int)/\q1)/\(s' <= q6/\((List.take s' q2).all fun (n:Int)=>bt n q3 (1048576:Int))=true)/\q6 - s' < q6 - s)))/\((5:Int)<=(↑s:Int)->(q3<(↑q7.length:Int)/\rowF q7=false->false=r0)/\((↑q7.length:Int)<=q3\/rowF q7=true->(v<(3:Int)->decide (c.text=Str.mk [])=r0)/\((3:Int)<=v->decide ((↑c.text.b.length:Int)<=(16:Int))=r0)))) (q0.getD s (dflt Sh.int)))) [q4,c.seq,c.set,c.id,c.n]) (q5=q5/\q4=q4/\c.seq=c.seq/\c.set=c.set/\c.id=c.id/\c.n=c.n/\q7=q7/\c.text=c.text)) [q4,c.seq,c.set,c.id,c.n]) (0:Int)) c.client) c.kind) (5:Nat)) c.chunks):=by kernel_rfl
theorem rC (c:Command) (v:Int):Sat Try.prog (al aF) 32 [.agg (cellsOf (.nm .command) c),.c (.int (v))] [] ⟨[],[.c (.bool (.atom ((b_ c v))))],none,false⟩:=by
 refine aI bA (nK c v) Try.func32 (by decide) (by kernel_rfl) ?_
 rw [rT]
 (repeat' (first | with_reducible refine And.intro ?_ ?_ | with_reducible refine and_imp.2 ?_ | intro))
 all_goals try (first | (first | with_reducible rfl | with_reducible assumption | omega | (refine ag ?_ ?_ <;> omega)) | exact rfl | exact (mD (by omega)) | exact (yc (uZ (by omega)) (by with_reducible assumption)) | exact (Eb (by with_reducible assumption) (uZ (by omega)) (by with_reducible assumption) (by with_reducible assumption)) | exact (pe (And.intro (by with_reducible assumption) (by with_reducible assumption))) | exact (rX (by omega) (vB (by with_reducible assumption) (by omega)) (vo (by assumption)) (by omega)) | exact (r_ (by omega) (vB (by with_reducible assumption) (by omega)) (vo (by assumption)) (by omega)))
 all_goals try (refine ⟨0,?_⟩; (repeat' (first | with_reducible refine And.intro ?_ ?_ | with_reducible refine and_imp.2 ?_ | intro)))
 all_goals try (first | (first | with_reducible rfl | with_reducible assumption | omega | (refine ag ?_ ?_ <;> omega)) | exact rfl | exact (mD (by omega)) | exact (yc (uZ (by omega)) (by with_reducible assumption)) | exact (Eb (by with_reducible assumption) (uZ (by omega)) (by with_reducible assumption) (by with_reducible assumption)) | exact (pe (And.intro (by with_reducible assumption) (by with_reducible assumption))) | exact (rX (by omega) (vB (by with_reducible assumption) (by omega)) (vo (by assumption)) (by omega)) | exact (r_ (by omega) (vB (by with_reducible assumption) (by omega)) (vo (by assumption)) (by omega)))
 all_goals try (refine ⟨‹Nat› + 1,?_⟩; (repeat' (first | with_reducible refine And.intro ?_ ?_ | with_reducible refine and_imp.2 ?_ | intro)))
 all_goals (first | (first | with_reducible rfl | with_reducible assumption | omega | (refine ag ?_ ?_ <;> omega)) | exact rfl | exact (mD (by omega)) | exact (yc (uZ (by omega)) (by with_reducible assumption)) | exact (Eb (by with_reducible assumption) (uZ (by omega)) (by with_reducible assumption) (by with_reducible assumption)) | exact (pe (And.intro (by with_reducible assumption) (by with_reducible assumption))) | exact (rX (by omega) (vB (by with_reducible assumption) (by omega)) (vo (by assumption)) (by omega)) | exact (r_ (by omega) (vB (by with_reducible assumption) (by omega)) (vo (by assumption)) (by omega)))
theorem BW (a:Command) (b:Command) (r0:Bool):cD aF dF [] Try.f10 [.agg (cellsOf (.nm .command) a),.agg (cellsOf (.nm .command) b)] [] [.c (.bool (.atom (r0)))]=(I64 a.kind->I64 a.client->I64 a.seq->I64 a.set->I64 a.id->I64 a.n->a.chunks.length*(8:Nat)<=(140737488355328:Nat)->a.text.b.length<=(140737488355328:Nat)->I64 b.kind->I64 b.client->I64 b.seq->I64 b.set->I64 b.id->I64 b.n->b.chunks.length*(8:Nat)<=(140737488355328:Nat)->b.text.b.length<=(140737488355328:Nat)->(decide (a.chunks=b.chunks) && decide (a.kind=b.kind) && decide (a.client=b.client) && decide (a.seq=b.seq) && decide (a.set=b.set) && decide (a.id=b.id) && decide (a.n=b.n) && decide (a.text=b.text))=r0):=by kernel_rfl
theorem AU (a:Command) (b:Command):Sat Try.prog (al aF) 10 [.agg (cellsOf (.nm .command) a),.agg (cellsOf (.nm .command) b)] [] ⟨[],[.c (.bool (.atom ((decide (a=b)))))],none,false⟩:=by
 refine aI bA [] Try.func10 (by decide) (by kernel_rfl) ?_
 rw [BW]
 intros; cases a; cases b; simp only [Command.mk.injEq]; grind
theorem zh (l:List UInt8) (r0:List UInt8):cD aF dF [] Try.f7 [.c (.fz .u8 (l))] [] [.c (.fz .u8 (r0))]=(l.length*(1:Nat)<=(140737488355328:Nat)->((3000:Int)<(↑l.length:Int)->(0:Int)<=(3000:Int)/\(3000:Int)<=(↑l.length:Int)/\List.take (3000:Nat) l=r0)/\((↑l.length:Int)<=(3000:Int)->l=r0)):=by kernel_rfl
theorem yp (l:List UInt8):Sat Try.prog (al aF) 7 [.c (.fz .u8 (l))] [] ⟨[],[.c (.fz .u8 ((l.take 3000)))],none,false⟩:=by
 refine aI bA [] Try.func7 (by decide) (by kernel_rfl) ?_
 rw [zh]
 grind [List.take_of_length_le]
def uy:cH:=(bT 7 (bM (ai (kC (cL .u8)) aO) aP fun (l,_) (_)=>⟨[],[.c (.fz .u8 ((l.take 3000)))],none,false⟩) (bT 10 (bM (ai (kT (.nm .command)) (ai (kT (.nm .command)) aO)) aP fun (a,b,_) (_)=>⟨[],[.c (.bool (.atom ((decide (a=b)))))],none,false⟩) (bT 32 (bM (ai (kT (.nm .command)) (ai (kC cI) aO)) aP fun (c,v,_) (_)=>⟨[],[.c (.bool (.atom ((b_ c v))))],none,false⟩) (bT 79 (bM (ai (kC cI) (ai (kC cI) aO)) aP fun (num,wire,_) (_)=>⟨[],[.c (.own 0),.c (.int ((fF num wire)))],some ([.row 5 .u8 ((gE num wire))]),true⟩) (bT 43 (bM (ai (kT (.nm .field)) (ai (kT (.nm .spec)) (ai (kC cI) aO))) aP fun (x,s,n,_) (_)=>⟨[],[.c (.bool (.atom ((vH x s n))))],none,false⟩) (bT 84 (bM (ai (kT (.nm .spec)) aO) aP fun (x,_) (_)=>⟨[],[.agg (cellsOf (.nm .spec) ({ x with many:=true }))],none,false⟩) (bT 83 (bM (ai (kT (.nm .spec)) aO) aP fun (x,_) (_)=>⟨[],[.agg (cellsOf (.nm .spec) ({ x with need:=true }))],none,false⟩) (bT 82 (bM (ai (kC cI) (ai (kC cI) aO)) aP fun (k,l,_) (_)=>⟨[],[.agg (cellsOf (.nm .spec) (⟨k,2,l,false,false⟩))],none,false⟩) (bT 81 (bM (ai (kC cI) (ai (kC cI) aO)) aP fun (k,l,_) (_)=>⟨[],[.agg (cellsOf (.nm .spec) (⟨k,0,l,false,false⟩))],none,false⟩) (bT 44 (bM (ai (kC (cL .u8)) aO) aP fun (x,_) (_)=>⟨[],[.c (.fz .u8 ((x)))],none,false⟩) (bT 23 (bM (ai (kC (cL .u8)) (ai (kC (cL .u8)) aO)) aP fun (x,y,_) (_)=>⟨[],[.c (.bool (.atom ((decide (x=y)))))],none,false⟩) (bT 67 (bM (ai (kT (.nm .field)) aO) aP fun (x,_) (_)=>⟨[],[.c (.bool (.atom ((bI x))))],none,false⟩) (bT 38 (bM (ai (kT (.nm .field)) (ai (kT (.nm .field)) aO)) aP fun (x,y,_) (_)=>⟨[],[.c (.bool (.atom ((bD x y))))],none,false⟩) (bT 65 (bM (ai (kC (cL .u8)) aO) aP fun (b,_) (_)=>⟨[],[.c (.u64 ((U64.mk (ae b).1)).n),.c (.int ((((ae b).2.1:Nat)))),.c (.int (((ae b).2.2)))],none,false⟩) dF))))))))))))))
theorem iI:aT Try.prog (al aF) uy:=(av (au (ab (aq bf) aj) ak fun (l,_) (_) _=>yp l ) (av (au (ab ck (ab ck aj)) ak fun (a,b,_) (_) _=>AU a b ) (av (au (ab ck (ab (aq aK) aj)) ak fun (c,v,_) (_) _=>rC c v ) (av (au (ab (aq aK) (ab (aq aK) aj)) ak fun (num,wire,_) (_) _=>Gj num wire ) (av (au (ab ck (ab ck (ab (aq aK) aj))) ak fun (x,s,n,_) (_) _=>Ee x s n ) (av (au (ab ck aj) ak fun (x,_) (_) _=>HH x ) (av (au (ab ck aj) ak fun (x,_) (_) _=>Hg x ) (av (au (ab (aq aK) (ab (aq aK) aj)) ak fun (k,l,_) (_) _=>Hn k l ) (av (au (ab (aq aK) (ab (aq aK) aj)) ak fun (k,l,_) (_) _=>Hr k l ) (av (au (ab (aq bf) aj) ak fun (x,_) (_) _=>xy x ) (av (au (ab (aq bf) (ab (aq bf) aj)) ak fun (x,y,_) (_) _=>xh x y ) (av (au (ab ck aj) ak fun (x,_) (_) _=>vR x ) (av (au (ab ck (ab ck aj)) ak fun (x,y,_) (_) _=>yC x y ) (av (au (ab (aq bf) aj) ak fun (b,_) (_) _=>Ap b ) bA))))))))))))))
end Go.Proofs.Ytladifkbefehdaa
namespace Go.Proofs.Ytladifkbefehdaa
open Go.RowKit
theorem dc {m:Nat} (h:m<9223372036854775808):bV m=(m:Int):=by rw [bV,if_pos h]
theorem sd {b:List UInt8} {k:Nat}:(b.drop k).take (b.length - k)=b.drop k:=List.take_of_length_le (by rw [List.length_drop]; exact Nat.le_refl _)
theorem Ke {b:List UInt8} {k:Nat} (hk:(k:Int)<(b.length:Int)) (he:(ae (b.drop k)).2.2=0) (hn:(((ae (b.drop k)).1:Nat):Int)<=((64:Nat):Int)):∃ x,b[k]? = some x/\ae (b.drop k)=(x.toNat,1,0)/\x.toNat<=64:=by
 have h:=Kn (b:=b) (k:=k) (by omega) (by rw [sd]; exact he) (by rw [sd]; omega)
 rw [sd] at h; exact h
theorem Av {b:List UInt8} {k:Nat} (hk:(k:Int)<(b.length:Int)) (he:(ae (b.drop k)).2.2=0) (hn:(((ae (b.drop k)).1:Nat):Int)<=((64:Nat):Int)):(k:Int)+((ae (b.drop k)).2.1:Nat)=((k+1:Nat):Int)/\aN (b.take k)++[bV (ae (b.drop k)).1]=aN (b.take (k+1)):=by
 obtain ⟨x,hx,hp,h64⟩:=Ke hk he hn
 have h:=tV hx hp
 rw [hp] at h ⊢
 exact ⟨rfl,by rw [<- h,dc (by show x.toNat<_; omega)]⟩
theorem Ag {b:List UInt8} {k:Nat} (hk:(k:Int)<(b.length:Int)) (h:(¬ (ae (b.drop k)).2.2=0)\/((64:Nat):Int)<(((ae (b.drop k)).1:Nat):Int)):rowF (aN b)=false:=Gk (k:=k) (by omega) (by rw [sd]; exact h)
theorem ki {b:List UInt8} {k:Nat} (h:k<=b.length) (hb:b.length<=100000):((aN (b.take k)).length+1)*8<=140737488355328:=by
 unfold aN; rw [List.length_map,List.length_take]; omega
def CX (b:List UInt8):List (Nat × LI):=[(3,{ σ:=Nat,F:=fun k=>([(0,one (.fz .u8 (b))),(4,one (.own 0)),(5,one (.int k))],[.row 3 .int ((aN (b.take k)))]),J:=fun k=>k<=b.length,μ:=fun k=>b.length - k })]
theorem DB (b:List UInt8) (r0:Int) (r1:Int) (r2:Int) (r3:Int):cD aF uy [] Try.f63 [.c (.fz .u8 (b))] [] [.c (.int (r0)),.c (.int (r1)),.c (.int (r2)),.c (.int (r3))]=((fun (q5:Int)=>(fun (q4:Int)=>(fun (q3:Int)=>(fun (q2:Prop)=>(fun (q1:Nat)=>(fun (q0:Int)=>b.length*(1:Nat)<=(140737488355328:Nat)->(ae b).fst<(18446744073709551616:Nat)->I64 (↑(ae b).snd.fst:Int)->I64 q4->(¬q4=q3->q3=r0/\q3=r1/\q3=r2/\q4=r3)/\(q4=q3->q2/\(q5<=q0->q2)/\(q5<=q0/\q0<=(↑(1000:Nat):Int)->q2/\(¬(↑q1:Int)=(↑(0:Nat):Int)->q2))/\((q0<q5\/(↑(1000:Nat):Int)<q0)\/¬(↑q1:Int)=(↑(0:Nat):Int)/\¬(↑q1:Int)=(↑(2:Nat):Int)->q3=r0/\q3=r1/\q3=r2/\(6:Int)=r3)/\((q5<=q0/\q0<=(↑(1000:Nat):Int))/\((↑q1:Int)=(↑(0:Nat):Int)\/(↑q1:Int)=(↑(2:Nat):Int))->q2/\q2/\bV ((ae b).fst / (8:Nat))=r0/\bV q1=r1/\(↑(ae b).snd.fst:Int)=r2/\q3=r3))) (↑((ae b).fst / (8:Nat)):Int)) ((ae b).fst % (8:Nat))) ((0:Nat)<(8:Nat))) (0:Int)) (ae b).snd.snd) (↑(1:Nat):Int)):=by kernel_rfl
theorem Ek (b:List UInt8):Sat Try.prog (al aF) 63 [.c (.fz .u8 (b))] [] ⟨[],[.c (.int (((ah b).num))),.c (.int (((ah b).wire))),.c (.int ((((ah b).k:Nat)))),.c (.int (((ah b).e)))],none,false⟩:=by
 refine aI iI [] Try.func63 (by decide) (by kernel_rfl) ?_
 rw [DB]
 (repeat' (first | with_reducible refine And.intro ?_ ?_ | with_reducible refine and_imp.2 ?_ | intro))
 all_goals (first | (first | with_reducible rfl | with_reducible assumption | omega | (refine ag ?_ ?_ <;> omega)) | (rw [oF (by with_reducible assumption)] <;> rfl) | (rw [pa (by with_reducible assumption) (by omega)] <;> rfl) | (rw [rK (by with_reducible assumption) (by omega)] <;> first | rfl | exact dc (by omega)) | (have:=(gq (l:=b) (k:=0) (n:=0) (by omega)).1; change (ae b).2.1<=11 at this; omega))
theorem Gm (f:Field) (r0:List UInt8):tg aF uy [] Try.f59 [.agg (cellsOf (.nm .field) f)] [] [.c (.own 0)] [.row 5 .u8 (r0)]=((fun (q1:Nat)=>(fun (q0:List UInt8)=>I64 f.num->I64 f.wire->f.n.n<(18446744073709551616:Nat)->q1*(1:Nat)<=(140737488355328:Nat)->I64 (fF f.num f.wire)->(f.wire=(0:Int)->(q0.length+(bb f.n.n).length)*(1:Nat)<=(140737488355328:Nat)/\q0++bb f.n.n=r0)/\(¬f.wire=(0:Int)->(0:Int)<=(↑q1:Int)/\(q0.length+(bb q1).length)*(1:Nat)<=(140737488355328:Nat)/\((q0++bb q1).length+q1)*(1:Nat)<=(140737488355328:Nat)/\q0++bb q1++f.b=r0)) (gE f.num f.wire)) f.b.length):=by kernel_rfl
theorem Dr (f:Field) (h0:f.b.length<=16384):Sat Try.prog (al aF) 59 [.agg (cellsOf (.nm .field) f)] [] ⟨[f.b.length<=16384],[.c (.own 0)],some ([.row 5 .u8 ((ba f))]),true⟩:=by
 refine eR iI [] Try.func59 (by decide) (by kernel_rfl) ?_
 rw [Gm]
 (repeat' (first | with_reducible refine And.intro ?_ ?_ | with_reducible refine and_imp.2 ?_ | intro))
 all_goals (first | (first | with_reducible rfl | with_reducible assumption | omega | (refine ag ?_ ?_ <;> omega)) | exact (sn (by with_reducible assumption)) | exact (tW (by with_reducible assumption)) | (have:=fV f.num f.wire; have:=bN (n:=f.n.n) (by with_reducible assumption); omega) | (have:=fV f.num f.wire; have:=bN (n:=f.b.length) (by omega); (try simp only [List.length_append]); omega))
theorem EU (q:Int) (r0:List Spec):cD aF uy [] Try.f66 [.c (.int (q))] [] [.c (.fz (.nm .spec) (r0))]=((fun (q7:Int)=>(fun (q6:Int)=>(fun (q5:Int)=>(fun (q4:Int)=>(fun (q3:Int)=>(fun (q2:Int)=>(fun (q1:Int)=>(fun (q0:Int)=>I64 q->I64 q0->I64 q1->I64 q0->I64 q0->I64 q1->I64 q0->I64 q2->I64 q1->I64 q0->I64 q3->I64 q1->I64 q0->I64 q4->I64 q1->I64 q0->I64 q5->I64 q1->I64 q0->I64 q6->I64 q1->I64 q0->I64 q7->I64 q2->I64 q0->I64 (8:Int)->I64 q2->I64 q3->I64 q0->I64 q1->I64 q0->I64 q0->I64 q1->I64 q0->I64 q2->I64 q1->I64 q0->I64 q2->I64 q1->I64 q0->I64 q3->I64 q2->I64 q0->I64 q3->I64 q2->I64 q0->I64 q4->I64 q1->I64 q2->I64 q5->I64 q2->I64 q3->I64 q0->I64 q1->I64 q0->I64 q0->I64 q1->I64 q0->I64 q2->I64 q1->I64 q0->I64 q2->I64 q1->I64 q0->I64 q0->I64 q1->I64 q0->I64 q0->I64 q1->I64 q0->I64 q2->I64 q1->I64 q0->I64 q3->I64 q1->I64 q0->I64 q4->I64 q1->I64 q0->I64 q0->I64 q1->I64 q0->I64 q0->I64 q1->I64 q0->I64 q2->I64 q1->I64 q0->I64 q2->I64 q1->I64 q0->I64 q3->I64 q1->I64 q0->I64 q4->I64 q2->I64 q0->I64 q4->I64 q2->I64 q0->I64 q5->I64 q2->I64 q0->I64 q5->I64 q2->I64 q0->I64 q6->I64 q2->I64 q0->I64 q6->I64 q2->I64 q0->I64 q7->I64 q1->I64 q3->I64 q0->I64 q1->I64 q0->I64 q0->I64 q1->I64 q0->I64 q2->I64 q1->I64 q0->I64 q2->I64 q1->I64 q0->I64 q3->I64 q1->I64 q0->I64 q3->I64 q1->I64 q0->I64 q4->I64 q1->I64 q0->I64 q4->I64 q1->I64 q0->I64 q5->I64 q1->I64 q0->I64 q6->I64 q1->I64 q0->I64 q7->I64 q1->I64 q0->I64 (8:Int)->I64 q1->I64 q0->I64 (9:Int)->I64 q1->I64 q0->I64 (10:Int)->I64 q2->I64 q0->I64 (10:Int)->I64 q2->I64 q0->I64 q0->I64 q1->I64 q0->I64 q0->I64 q1->I64 q0->I64 q2->I64 q2->I64 q0->((fun (j:Int)=>if j=q7 then some [Spec.mk q0 q1 q0 true false,Spec.mk q2 q2 q0 false false] else (fun (j:Int)=>if j=q6 then some [Spec.mk q0 q1 q0 true false,Spec.mk q2 q1 q0 true false,Spec.mk q3 q1 q0 true false,Spec.mk q4 q1 q0 true false,Spec.mk q5 q1 q0 false false,Spec.mk q6 q1 q0 false false,Spec.mk q7 q1 q0 false false,Spec.mk (8:Int) q1 q0 false false,Spec.mk (9:Int) q1 q0 false false,Spec.mk (10:Int) q2 q0 false true] else (fun (j:Int)=>if j=q5 then some [Spec.mk q0 q1 q0 true false,Spec.mk q2 q1 q0 true false,Spec.mk q3 q1 q0 false false,Spec.mk q4 q2 q0 false true,Spec.mk q5 q2 q0 false true,Spec.mk q6 q2 q0 false true,Spec.mk q7 q1 q3 false false] else (fun (j:Int)=>if j=q4 then some [Spec.mk q0 q1 q0 true false,Spec.mk q2 q1 q0 false false,Spec.mk q3 q1 q0 false false,Spec.mk q4 q1 q0 false false] else (fun (j:Int)=>if j=q3 then some [Spec.mk q0 q1 q0 true false,Spec.mk q2 q1 q0 true false] else (fun (j:Int)=>if j=q2 then some [Spec.mk q0 q1 q0 true false,Spec.mk q2 q1 q0 true false,Spec.mk q3 q2 q0 true false,Spec.mk q4 q1 q2 false false,Spec.mk q5 q2 q3 false false] else (fun (j:Int)=>if j=q0 then some [Spec.mk q0 q1 q0 true false,Spec.mk q2 q1 q0 false false,Spec.mk q3 q1 q0 false false,Spec.mk q4 q1 q0 false false,Spec.mk q5 q1 q0 false false,Spec.mk q6 q1 q0 false false,Spec.mk q7 q2 q0 false false,Spec.mk (8:Int) q2 q3 false false] else (fun (_:Int)=>none) j) j) j) j) j) j) j) q).getD (dflt (Sh.nm NT.spec).lst)=r0) (1:Int)) (0:Int)) (2:Int)) (3:Int)) (4:Int)) (5:Int)) (6:Int)) (7:Int)):=by kernel_rfl
theorem DP (q:Int) (h0:q=1):Sat Try.prog (al aF) 66 [.c (.int (q))] [] ⟨[q=1],[.c (.fz (.nm .spec) ((aA)))],none,false⟩:=by
 refine aI iI [] Try.func66 (by decide) (by kernel_rfl) ?_
 rw [EU]
 subst h0; (repeat' (first | with_reducible refine And.intro ?_ ?_ | with_reducible refine and_imp.2 ?_ | intro))
 all_goals (first | (first | with_reducible rfl | with_reducible assumption | omega | (refine ag ?_ ?_ <;> omega)) | exact rfl)
theorem FE (b:List UInt8) (r0:List Int) (r1:Int):cD aF uy (CX b) Try.f45 [.c (.fz .u8 (b))] [] [.c (.fz .int (r0)),.c (.int (r1))]=(b.length*(1:Nat)<=(140737488355328:Nat)->∃ (s0:Nat),(b=b/\(0:Int)=(↑s0:Int)/\aN (List.take s0 b)=[])/\s0<=b.length/\∀ (s:Nat),(fun (q1:List Int)=>(fun (q0:Nat × Nat × Int)=>s<=b.length->((↑s:Int)<(↑b.length:Int)->(0:Int)<=(↑s:Int)/\(↑s:Int)<=(↑b.length:Int)/\(q0.fst<(18446744073709551616:Nat)->I64 (↑q0.snd.fst:Int)->I64 q0.snd.snd->(¬q0.snd.snd=(0:Int)\/(↑(64:Nat):Int)<(↑q0.fst:Int)->r0=[]/\(6:Int)=r1)/\(q0.snd.snd=(0:Int)/\(↑q0.fst:Int)<=(↑(64:Nat):Int)->(q1.length+[bV q0.fst].length)*(8:Nat)<=(140737488355328:Nat)/\I64 ((↑s:Int)+(↑q0.snd.fst:Int))/\∃ (s':Nat),(b=b/\(↑s:Int)+(↑q0.snd.fst:Int)=(↑s':Int)/\q1++[bV q0.fst]=aN (List.take s' b))/\s' <= b.length/\b.length - s' < b.length - s)))/\((↑b.length:Int)<=(↑s:Int)->(rowF q1=false->r0=[]/\(6:Int)=r1)/\(rowF q1=true->q1=r0/\(0:Int)=r1))) (ae (List.drop s b))) (aN (List.take s b))):=by kernel_rfl
theorem Es (b:List UInt8) (h0:b.length<=100000):Sat Try.prog (al aF) 45 [.c (.fz .u8 (b))] [] ⟨[b.length<=100000],[.c (.fz .int ((cK b))),.c (.int ((eZ b)))],none,false⟩:=by
 refine aI iI (CX b) Try.func45 (by decide) (by kernel_rfl) ?_
 rw [FE]
 (repeat' (first | with_reducible refine And.intro ?_ ?_ | with_reducible refine and_imp.2 ?_ | intro))
 all_goals try (first | (first | with_reducible rfl | with_reducible assumption | omega | (refine ag ?_ ?_ <;> omega)) | exact rfl | exact (cd (Ag (by with_reducible assumption) (by assumption))) | exact (fy (Ag (by with_reducible assumption) (by assumption))) | exact (cd (Ag (by with_reducible assumption) (by assumption))).symm | exact (cd (fk (k:=‹Nat›) (by omega) (by with_reducible assumption))).symm | exact (cd (fk (k:=‹Nat›) (by omega) (by with_reducible assumption))) | exact (fy (fk (k:=‹Nat›) (by omega) (by with_reducible assumption))) | exact (gw (by omega) (by with_reducible assumption)) | exact (gv (k:=‹Nat›) (by omega) (by with_reducible assumption)) | exact (Av (by with_reducible assumption) (by with_reducible assumption) (by with_reducible assumption)).1 | exact (Av (by with_reducible assumption) (by with_reducible assumption) (by with_reducible assumption)).2 | exact (ki (by omega) (by omega)) | (have:=(Av (by with_reducible assumption) (by with_reducible assumption) (by with_reducible assumption)).1; refine ag ?_ ?_ <;> omega))
 all_goals try (refine ⟨0,?_⟩; (repeat' (first | with_reducible refine And.intro ?_ ?_ | with_reducible refine and_imp.2 ?_ | intro)))
 all_goals try (first | (first | with_reducible rfl | with_reducible assumption | omega | (refine ag ?_ ?_ <;> omega)) | exact rfl | exact (cd (Ag (by with_reducible assumption) (by assumption))) | exact (fy (Ag (by with_reducible assumption) (by assumption))) | exact (cd (Ag (by with_reducible assumption) (by assumption))).symm | exact (cd (fk (k:=‹Nat›) (by omega) (by with_reducible assumption))).symm | exact (cd (fk (k:=‹Nat›) (by omega) (by with_reducible assumption))) | exact (fy (fk (k:=‹Nat›) (by omega) (by with_reducible assumption))) | exact (gw (by omega) (by with_reducible assumption)) | exact (gv (k:=‹Nat›) (by omega) (by with_reducible assumption)) | exact (Av (by with_reducible assumption) (by with_reducible assumption) (by with_reducible assumption)).1 | exact (Av (by with_reducible assumption) (by with_reducible assumption) (by with_reducible assumption)).2 | exact (ki (by omega) (by omega)) | (have:=(Av (by with_reducible assumption) (by with_reducible assumption) (by with_reducible assumption)).1; refine ag ?_ ?_ <;> omega))
 all_goals try (refine ⟨‹Nat› + 1,?_⟩; (repeat' (first | with_reducible refine And.intro ?_ ?_ | with_reducible refine and_imp.2 ?_ | intro)))
 all_goals (first | (first | with_reducible rfl | with_reducible assumption | omega | (refine ag ?_ ?_ <;> omega)) | exact rfl | exact (cd (Ag (by with_reducible assumption) (by assumption))) | exact (fy (Ag (by with_reducible assumption) (by assumption))) | exact (cd (Ag (by with_reducible assumption) (by assumption))).symm | exact (cd (fk (k:=‹Nat›) (by omega) (by with_reducible assumption))).symm | exact (cd (fk (k:=‹Nat›) (by omega) (by with_reducible assumption))) | exact (fy (fk (k:=‹Nat›) (by omega) (by with_reducible assumption))) | exact (gw (by omega) (by with_reducible assumption)) | exact (gv (k:=‹Nat›) (by omega) (by with_reducible assumption)) | exact (Av (by with_reducible assumption) (by with_reducible assumption) (by with_reducible assumption)).1 | exact (Av (by with_reducible assumption) (by with_reducible assumption) (by with_reducible assumption)).2 | exact (ki (by omega) (by omega)) | (have:=(Av (by with_reducible assumption) (by with_reducible assumption) (by with_reducible assumption)).1; refine ag ?_ ?_ <;> omega))
def qu:cH:=(bT 45 (bM (ai (kC (cL .u8)) aO) aP fun (b,_) (_)=>⟨[b.length<=100000],[.c (.fz .int ((cK b))),.c (.int ((eZ b)))],none,false⟩) (bT 66 (bM (ai (kC cI) aO) aP fun (q,_) (_)=>⟨[q=1],[.c (.fz (.nm .spec) ((aA)))],none,false⟩) (bT 59 (bM (ai (kT (.nm .field)) aO) aP fun (f,_) (_)=>⟨[f.b.length<=16384],[.c (.own 0)],some ([.row 5 .u8 ((ba f))]),true⟩) (bT 63 (bM (ai (kC (cL .u8)) aO) aP fun (b,_) (_)=>⟨[],[.c (.int (((ah b).num))),.c (.int (((ah b).wire))),.c (.int ((((ah b).k:Nat)))),.c (.int (((ah b).e)))],none,false⟩) uy))))
theorem fl:aT Try.prog (al aF) qu:=(av (au (ab (aq bf) aj) ak fun (b,_) (_) hp=>Es b (fH hp)) (av (au (ab (aq aK) aj) ak fun (q,_) (_) hp=>DP q (fH hp)) (av (au (ab ck aj) ak fun (f,_) (_) hp=>Dr f (fH hp)) (av (au (ab (aq bf) aj) ak fun (b,_) (_) _=>Ek b ) iI))))
end Go.Proofs.Ytladifkbefehdaa
namespace Go.Proofs.Ytladifkbefehdaa
open Go.RowKit
theorem mS {l:List Field} {k:Nat} (hk:k<=l.length) (h0:0<(k:Int)):l[k - 1]? = some (l.getD ((k:Int) - 1).toNat (dflt (.nm .field))):=by
 rw [show ((k:Int) - 1).toNat=k - 1 by omega,List.getD_eq_getElem?_getD,List.getElem?_eq_getElem (by omega)]; rfl
theorem di {l:List Field} {k:Nat} {x:Field} (h:(k:Int)<=0\/bD (l.getD ((k:Int) - 1).toNat (dflt (.nm .field))) x=true) (hk:k<=l.length):oE l k x:=by
 by_cases h0:0<(k:Int)
 ·exact .inr ⟨_,mS hk h0,h.resolve_left (by omega)⟩
 ·exact .inl (by omega)
theorem yE {v:Int} {k:Nat}:(((aA.take k).filter (fun s=>decide (s.since<=v))).length+1)*32<=140737488355328:=by
 have:=qP (v:=v) (k:=k); omega
theorem sB {v:Int} {k:Nat} (h1:1<=v) (h3:v<=3) (hk:8<=(k:Int)):(aA.take k).filter (fun s=>decide (s.since<=v))=ao v:=xd (by omega) (by show 8<=k; omega)
theorem vf {l:List Field} {v:Int}:aQ (l.take 0) v=[]:=rfl
theorem uI {l:List Field} {v:Int}:bp (l.take 0) v=[]:=rfl
theorem At {l:List Field} {v:Int} {k:Nat} {x:Field} (hx:l[k]? = some x) (h:x.num<=v):aQ (l.take k) v++[x]=aQ (l.take (k+1)) v:=Bs hx h
theorem Cn {l:List Field} {v:Int} {k:Nat} {x:Field} (hx:l[k]? = some x) (h:¬ x.num<=v):aQ (l.take k) v=aQ (l.take (k+1)) v:=FF hx h
theorem Bn {l:List Field} {v:Int} {k:Nat} {x:Field} (hx:l[k]? = some x) (h:¬ x.num<=v):bp (l.take k) v++[x]=bp (l.take (k+1)) v:=Ab hx h
theorem Bx {l:List Field} {v:Int} {k:Nat} {x:Field} (hx:l[k]? = some x) (h:x.num<=v):bp (l.take k) v=bp (l.take (k+1)) v:=DJ hx h
theorem uO {l:List Field} {v:Int} {k:Nat} (hk:l.length<=k):aQ (l.take k) v=aQ l v:=uu hk
theorem uK {l:List Field} {v:Int} {k:Nat} (hk:l.length<=k):bp (l.take k) v=bp l v:=xo hk
attribute [local irreducible] aQ bp
def wj (l:List Field):List (Nat × LI):=[(3,{ σ:=Nat,F:=fun k=>([(0,one (.fz (.nm .field) (l))),(3,one (.int (cE (l.take k):Nat))),(6,one (.fz (.nm .field) (l))),(7,one (.int (l).length)),(8,one (.int k))],[]),J:=fun k=>k<=l.length/\bB none l=bB (bY l k) (l.drop k)/\cE (l.take k)<=k*16404,μ:=fun k=>(l).length - k })]
def xt (q:Int) (v:Int):List (Nat × LI):=[(5,{ σ:=Nat,F:=fun k=>([(1,one (.int (v))),(5,one (.own 0)),(15,one (.fz (.nm .spec) aA)),(16,one (.int 8)),(17,one (.int k))],[.row 77 (.nm .spec) (((aA.take k).filter (fun (s:Spec)=>decide (s.since<=v))))]),J:=fun k=>k<=8,μ:=fun k=>8 - k })]
def sO (l:List Field) (v:Int):List (Nat × LI):=[(2,{ σ:=Nat,F:=fun k=>([(1,one (.int (v))),(4,one (.own 0)),(5,one (.own 1)),(8,one (.fz (.nm .field) (l))),(9,one (.int (l).length)),(10,one (.int k))],[.row 58 (.nm .field) ((aQ (l.take k) v)),.row 58 (.nm .field) ((bp (l.take k) v))]),J:=fun k=>k<=l.length,μ:=fun k=>(l).length - k })]
def xl (l:List Field):List (Nat × LI):=[(3,{ σ:=Nat,F:=fun k=>([(2,one (.ptr 0 0)),(3,one (.ptr 1 0)),(6,one (.fz (.nm .field) (l))),(7,one (.int (l).length)),(8,one (.int k))],[.box 27 (cellsOf (.nm .command) ((bd))),.box 27 (cellsOf (.nm .command) (((a_ (l.take k)))))]),J:=fun k=>k<=l.length,μ:=fun k=>(l).length - k })]
theorem Ao (b:List UInt8) (s:Int) (r0:U64) (r1:Int) (r2:List UInt8) (r3:Int):GK aF qu [] Try.f64 [.c (.ptr 0 0),.c (.ptr 1 0)] [.box 22 ([.fz .u8 (b)]),.box 3 ([.int (s)])] [.c (.u64 (r0).n),.c (.int (r1))] [.box 22 ([.fz .u8 (r2)]),.box 3 ([.int (r3)])]=((fun (q0:Nat × Nat × Int)=>(0:Int)<=s/\s<=(↑b.length:Int)/\(q0.fst<(18446744073709551616:Nat)->I64 (↑q0.snd.fst:Int)->I64 q0.snd.snd->I64 (s+(↑q0.snd.fst:Int))/\q0.fst=r0.n/\q0.snd.snd=r1/\b=r2/\s+(↑q0.snd.fst:Int)=r3)) (ae (List.drop s.toNat b))):=by kernel_rfl
theorem B_ (b:List UInt8) (s:Int) (h0:0<=s) (h1:s<=(b.length:Int)) (h2:b.length*1<=140737488355328):Sat Try.prog (al aF) 64 [.c (.ptr 0 0),.c (.ptr 1 0)] [.box 22 ([.fz .u8 (b)]),.box 3 ([.int (s)])] ⟨[0<=s,s<=(b.length:Int),b.length*1<=140737488355328],[.c (.u64 ((U64.mk (ae (b.drop s.toNat)).1)).n),.c (.int (((ae (b.drop s.toNat)).2.2)))],some ([.box 22 ([.fz .u8 ((b))]),.box 3 ([.int ((s+((ae (b.drop s.toNat)).2.1:Nat)))])]),false⟩:=by
 refine qI fl [] Try.func64 (by decide) (by kernel_rfl) ?_
 rw [Ao]
 (repeat' (first | with_reducible refine And.intro ?_ ?_ | with_reducible refine and_imp.2 ?_ | intro))
 all_goals (first | (first | with_reducible rfl | with_reducible assumption | omega | (refine ag ?_ ?_ <;> omega)) | (have:=(dy b s.toNat).1; refine ag ?_ ?_ <;> omega))
theorem wx (b:List UInt8) (r0:Field):cD aF qu [] Try.f40 [.c (.fz .u8 (b))] [] [.agg (cellsOf (.nm .field) r0)]=((fun (q1:TagR)=>(fun (q0:Int)=>b.length*(1:Nat)<=(140737488355328:Nat)->I64 q1.num->I64 q1.wire->I64 (↑q1.k:Int)->I64 q1.e->(0:Int)<=(↑q1.k:Int)/\(↑q1.k:Int)<=(↑b.length:Int)/\((ae (List.drop q1.k b)).fst<(18446744073709551616:Nat)->I64 (↑(ae (List.drop q1.k b)).snd.fst:Int)->I64 (ae (List.drop q1.k b)).snd.snd->(q1.wire=(0:Int)->q1.num=r0.num/\q1.wire=r0.wire/\(ae (List.drop q1.k b)).fst=r0.n.n/\r0.b=[])/\(¬q1.wire=(0:Int)->I64 q0/\(0:Int)<=q0/\q0<=(↑b.length:Int)/\(List.drop q0.toNat b).length*(1:Nat)<=(140737488355328:Nat)/\q1.num=r0.num/\q1.wire=r0.wire/\(0:Nat)=r0.n.n/\List.drop q0.toNat b=r0.b))) ((↑q1.k:Int)+(↑(ae (List.drop q1.k b)).snd.fst:Int))) (ah b)):=by kernel_rfl
theorem yw (b:List UInt8):Sat Try.prog (al aF) 40 [.c (.fz .u8 (b))] [] ⟨[],[.agg (cellsOf (.nm .field) (dR b))],none,false⟩:=by
 refine aI fl [] Try.func40 (by decide) (by kernel_rfl) ?_
 rw [wx]
 (repeat' (first | with_reducible refine And.intro ?_ ?_ | with_reducible refine and_imp.2 ?_ | intro))
 all_goals (first | (first | with_reducible rfl | with_reducible assumption | omega | (refine ag ?_ ?_ <;> omega)) | exact (congrArg Field.num (tK (by with_reducible assumption))) | exact (congrArg Field.wire (tK (by with_reducible assumption))) | exact (congrArg (fun f=>f.n.n) (tK (by with_reducible assumption))) | exact (congrArg Field.b (tK (by with_reducible assumption))).symm | exact (congrArg Field.num (t_ (by with_reducible assumption))) | exact (congrArg Field.wire (t_ (by with_reducible assumption))) | exact (congrArg (fun f=>f.n.n) (t_ (by with_reducible assumption))) | exact (congrArg Field.b (t_ (by with_reducible assumption))) | (have h1:=dH b; have h2:=dy b (ah b).k; first | omega | (refine ag ?_ ?_ <;> omega) | (rw [List.length_drop]; omega)))
theorem Ai (l:List Field) (r0:Int):cD aF qu (wj l) Try.f42 [.c (.fz (.nm .field) (l))] [] [.c (.int (r0))]=((fun (q3:den (Sh.nm NT.field))=>(fun (q2:Nat)=>(fun (q1:Int)=>(fun (q0:Int)=>l.length*(48:Nat)<=(140737488355328:Nat)->∃ (s0:Nat),(l=l/\q1=(↑(cE (List.take s0 l)):Int)/\l=l/\(↑l.length:Int)=(↑q2:Int)/\q1=(↑s0:Int))/\(s0<=q2/\bB none l=bB (bY l s0) (List.drop s0 l)/\cE (List.take s0 l)<=s0*(16404:Nat))/\∀ (s:Nat),(fun (q6:Int)=>(fun (q5:Int)=>(fun (q4:den (Sh.nm NT.field))=>s<=q2/\bB none l=bB (bY l s) (List.drop s l)/\cE (List.take s l)<=s*(16404:Nat)->(q5<(↑q2:Int)->q1<=q5/\q5<(↑l.length:Int)/\∀ (x:Field),l[s]? = some x->I64 x.num->I64 x.wire->x.n.n<(18446744073709551616:Nat)->x.b.length*(1:Nat)<=(140737488355328:Nat)->(bI x=false->q0=r0)/\(bI x=true->(q1<q5->I64 (q5 - q0))/\(q1<q5->q1<=q5 - q0/\q5 - q0<(↑l.length:Int))/\((q1<q5->I64 q4.num/\I64 q4.wire/\q4.n.n<(18446744073709551616:Nat)/\q4.b.length*(1:Nat)<=(140737488355328:Nat))->(q1<q5/\bD q4 x=false->(5:Int)=r0)/\(q5<=q1\/bD q4 x=true->((16384:Int)<(↑x.b.length:Int)->(4:Int)=r0)/\((↑x.b.length:Int)<=(16384:Int)->x.b.length<=(16384:Nat)/\I64 (q6+(↑(ba x).length:Int))/\I64 (q5+q0)/\∃ (s':Nat),(l=l/\q6+(↑(ba x).length:Int)=(↑(cE (List.take s' l)):Int)/\l=l/\(↑q2:Int)=(↑q2:Int)/\q5+q0=(↑s':Int))/\(s' <= q2/\bB none l=bB (bY l s') (List.drop s' l)/\cE (List.take s' l)<=s' * (16404:Nat))/\q2 - s' < q2 - s)))))/\((↑q2:Int)<=q5->((16384:Int)<q6->(4:Int)=r0)/\(q6<=(16384:Int)->q1=r0))) (l.getD (q5 - q0).toNat q3)) (↑s:Int)) (↑(cE (List.take s l)):Int)) (1:Int)) (0:Int)) l.length) (dflt (Sh.nm NT.field))):=by kernel_rfl
theorem BY (l:List Field):Sat Try.prog (al aF) 42 [.c (.fz (.nm .field) (l))] [] ⟨[],[.c (.int ((aZ l)))],none,false⟩:=by
 refine aI fl (wj l) Try.func42 (by decide) (by kernel_rfl) ?_
 rw [Ai]
 (repeat' (first | with_reducible refine And.intro ?_ ?_ | with_reducible refine and_imp.2 ?_ | intro))
 all_goals try (first | (first | with_reducible rfl | with_reducible assumption | omega | (refine ag ?_ ?_ <;> omega)) | exact rfl | exact (Nat.le_refl 0) | exact (fC (by with_reducible assumption) (by with_reducible assumption) (by with_reducible assumption)) | exact (fA (by with_reducible assumption) (by with_reducible assumption) (by with_reducible assumption) (by omega) (mS (by omega) (by with_reducible assumption)) (by with_reducible assumption)) | exact (ff (by with_reducible assumption) (by with_reducible assumption) (by with_reducible assumption) (di (by assumption) (by omega)) (by with_reducible assumption)) | exact (de (by with_reducible assumption) (by with_reducible assumption) (by with_reducible assumption) (di (by assumption) (by omega)) (by omega)) | exact (mE (by with_reducible assumption) (by omega) (by with_reducible assumption)) | exact (lR (by with_reducible assumption) (by omega) (by omega)) | (have h1:=bj (f:=‹Field›) (by omega) (by with_reducible assumption); have h2:=db (show l[_]? = some ‹Field› by with_reducible assumption); first | omega | (refine ag ?_ ?_ <;> omega)))
 all_goals try (refine ⟨0,?_⟩; (repeat' (first | with_reducible refine And.intro ?_ ?_ | with_reducible refine and_imp.2 ?_ | intro)))
 all_goals try (first | (first | with_reducible rfl | with_reducible assumption | omega | (refine ag ?_ ?_ <;> omega)) | exact rfl | exact (Nat.le_refl 0) | exact (fC (by with_reducible assumption) (by with_reducible assumption) (by with_reducible assumption)) | exact (fA (by with_reducible assumption) (by with_reducible assumption) (by with_reducible assumption) (by omega) (mS (by omega) (by with_reducible assumption)) (by with_reducible assumption)) | exact (ff (by with_reducible assumption) (by with_reducible assumption) (by with_reducible assumption) (di (by assumption) (by omega)) (by with_reducible assumption)) | exact (de (by with_reducible assumption) (by with_reducible assumption) (by with_reducible assumption) (di (by assumption) (by omega)) (by omega)) | exact (mE (by with_reducible assumption) (by omega) (by with_reducible assumption)) | exact (lR (by with_reducible assumption) (by omega) (by omega)) | (have h1:=bj (f:=‹Field›) (by omega) (by with_reducible assumption); have h2:=db (show l[_]? = some ‹Field› by with_reducible assumption); first | omega | (refine ag ?_ ?_ <;> omega)))
 all_goals try (refine ⟨‹Nat› + 1,?_⟩; (repeat' (first | with_reducible refine And.intro ?_ ?_ | with_reducible refine and_imp.2 ?_ | intro)))
 all_goals (first | (first | with_reducible rfl | with_reducible assumption | omega | (refine ag ?_ ?_ <;> omega)) | exact rfl | exact (Nat.le_refl 0) | exact (fC (by with_reducible assumption) (by with_reducible assumption) (by with_reducible assumption)) | exact (fA (by with_reducible assumption) (by with_reducible assumption) (by with_reducible assumption) (by omega) (mS (by omega) (by with_reducible assumption)) (by with_reducible assumption)) | exact (ff (by with_reducible assumption) (by with_reducible assumption) (by with_reducible assumption) (di (by assumption) (by omega)) (by with_reducible assumption)) | exact (de (by with_reducible assumption) (by with_reducible assumption) (by with_reducible assumption) (di (by assumption) (by omega)) (by omega)) | exact (mE (by with_reducible assumption) (by omega) (by with_reducible assumption)) | exact (lR (by with_reducible assumption) (by omega) (by omega)) | (have h1:=bj (f:=‹Field›) (by omega) (by with_reducible assumption); have h2:=db (show l[_]? = some ‹Field› by with_reducible assumption); first | omega | (refine ag ?_ ?_ <;> omega)))
theorem Ak (q:Int) (v:Int) (r0:List Spec):cD aF qu (xt q v) Try.f41 [.c (.int (q)),.c (.int (v))] [] [.c (.fz (.nm .spec) (r0))]=((fun (q2:Int)=>(fun (q1:Int)=>(fun (q0:Nat)=>I64 q->I64 v->(v<q1\/(3:Int)<v->r0=[])/\(q1<=v/\v<=(3:Int)->q=q1/\(aA.length*(32:Nat)<=(140737488355328:Nat)->∃ (s0:Nat),(v=v/\aA=aA/\(↑aA.length:Int)=q2/\(0:Int)=(↑s0:Int)/\List.filter (fun (s:Spec)=>decide (s.since<=v)) (List.take s0 aA)=[])/\s0<=q0/\∀ (s:Nat),(fun (q4:Int)=>(fun (q3:List (den (Sh.nm NT.spec)))=>s<=q0->((↑s:Int)<q2->(0:Int)<=(↑s:Int)/\(↑s:Int)<(↑aA.length:Int)/\∀ (x:Spec),aA[s]? = some x->I64 x.num->I64 x.wire->I64 x.since->(x.since<=v->(q3.length+[x].length)*(32:Nat)<=(140737488355328:Nat)/\I64 q4/\∃ (s':Nat),(v=v/\aA=aA/\q2=q2/\q4=(↑s':Int)/\q3++[x]=List.filter (fun (s:Spec)=>decide (s.since<=v)) (List.take s' aA))/\s' <= q0/\q0 - s' < q0 - s)/\(v<x.since->I64 q4/\∃ (s':Nat),(v=v/\aA=aA/\q2=q2/\q4=(↑s':Int)/\q3=List.filter (fun (s:Spec)=>decide (s.since<=v)) (List.take s' aA))/\s' <= q0/\q0 - s' < q0 - s))/\(q2<=(↑s:Int)->q3=r0)) (List.filter (fun (s:Spec)=>decide (s.since<=v)) (List.take s aA))) ((↑s:Int)+q1)))) (8:Nat)) (1:Int)) (8:Int)):=by kernel_rfl
theorem Aa (q:Int) (v:Int) (h0:q=1):Sat Try.prog (al aF) 41 [.c (.int (q)),.c (.int (v))] [] ⟨[q=1],[.c (.fz (.nm .spec) ((ao v)))],none,false⟩:=by
 refine aI fl (xt q v) Try.func41 (by decide) (by kernel_rfl) ?_
 rw [Ak]
 (repeat' (first | with_reducible refine And.intro ?_ ?_ | with_reducible refine and_imp.2 ?_ | intro))
 all_goals try (first | (first | with_reducible rfl | with_reducible assumption | omega | (refine ag ?_ ?_ <;> omega)) | exact rfl | exact (jP (by with_reducible assumption)).symm | exact (ja (by with_reducible assumption) (by with_reducible assumption)) | exact (lg (by with_reducible assumption) (by omega)) | exact yE | exact (sB (by omega) (by omega) (by omega)) | (have hl:aA.length=8:=rfl; omega))
 all_goals try (refine ⟨0,?_⟩; (repeat' (first | with_reducible refine And.intro ?_ ?_ | with_reducible refine and_imp.2 ?_ | intro)))
 all_goals try (first | (first | with_reducible rfl | with_reducible assumption | omega | (refine ag ?_ ?_ <;> omega)) | exact rfl | exact (jP (by with_reducible assumption)).symm | exact (ja (by with_reducible assumption) (by with_reducible assumption)) | exact (lg (by with_reducible assumption) (by omega)) | exact yE | exact (sB (by omega) (by omega) (by omega)) | (have hl:aA.length=8:=rfl; omega))
 all_goals try (refine ⟨‹Nat› + 1,?_⟩; (repeat' (first | with_reducible refine And.intro ?_ ?_ | with_reducible refine and_imp.2 ?_ | intro)))
 all_goals (first | (first | with_reducible rfl | with_reducible assumption | omega | (refine ag ?_ ?_ <;> omega)) | exact rfl | exact (jP (by with_reducible assumption)).symm | exact (ja (by with_reducible assumption) (by with_reducible assumption)) | exact (lg (by with_reducible assumption) (by omega)) | exact yE | exact (sB (by omega) (by omega) (by omega)) | (have hl:aA.length=8:=rfl; omega))
theorem yu (l:List Field) (v:Int) (r0:List Field) (r1:List Field):cD aF qu (sO l v) Try.f20 [.c (.fz (.nm .field) (l)),.c (.int (v))] [] [.c (.fz (.nm .field) (r0)),.c (.fz (.nm .field) (r1))]=((fun (q0:Nat)=>l.length*(48:Nat)<=(140737488355328:Nat)->I64 v->∃ (s0:Nat),(fun (q1:Int)=>(v=v/\l=l/\(↑l.length:Int)=q1/\(0:Int)=(↑s0:Int)/\aQ (List.take s0 l) v=[]/\bp (List.take s0 l) v=[])/\s0<=q0/\∀ (s:Nat),(fun (q3:List Field)=>(fun (q2:Int)=>s<=q0->((↑s:Int)<q1->(0:Int)<=(↑s:Int)/\(↑s:Int)<(↑l.length:Int)/\∀ (x:Field),(fun (q4:Prop)=>l[s]? = some x->I64 x.num->I64 x.wire->x.n.n<(18446744073709551616:Nat)->q4->q4->(x.num<=v->((aQ q3 v).length+[x].length)*(48:Nat)<=(140737488355328:Nat)/\I64 q2/\∃ (s':Nat),(v=v/\l=l/\q1=q1/\q2=(↑s':Int)/\aQ q3 v++[x]=aQ (List.take s' l) v/\bp q3 v=bp (List.take s' l) v)/\s' <= q0/\q0 - s' < q0 - s)/\(v<x.num->((bp q3 v).length+[x].length)*(48:Nat)<=(140737488355328:Nat)/\I64 q2/\∃ (s':Nat),(v=v/\l=l/\q1=q1/\q2=(↑s':Int)/\aQ q3 v=aQ (List.take s' l) v/\bp q3 v++[x]=bp (List.take s' l) v)/\s' <= q0/\q0 - s' < q0 - s)) (x.b.length*(1:Nat)<=(140737488355328:Nat)))/\(q1<=(↑s:Int)->aQ q3 v=r0/\bp q3 v=r1)) ((↑s:Int)+(1:Int))) (List.take s l)) (↑q0:Int)) l.length):=by kernel_rfl
theorem xr (l:List Field) (v:Int):Sat Try.prog (al aF) 20 [.c (.fz (.nm .field) (l)),.c (.int (v))] [] ⟨[],[.c (.fz (.nm .field) ((aQ l v))),.c (.fz (.nm .field) ((bp l v)))],none,false⟩:=by
 refine aI fl (sO l v) Try.func20 (by decide) (by kernel_rfl) ?_
 rw [yu]
 (repeat' (first | with_reducible refine And.intro ?_ ?_ | with_reducible refine and_imp.2 ?_ | intro))
 all_goals try (first | (first | with_reducible rfl | with_reducible assumption | omega | (refine ag ?_ ?_ <;> omega)) | exact vf | exact uI | exact (At (by with_reducible assumption) (by with_reducible assumption)) | exact (Cn (by with_reducible assumption) (by omega)) | exact (Bn (by with_reducible assumption) (by omega)) | exact (Bx (by with_reducible assumption) (by with_reducible assumption)) | exact (uO (by omega)) | exact (uK (by omega)) | (have h1:=gm (l.take ‹Nat›) v; have h2:=dz (l.take ‹Nat›) v; rw [List.length_take] at h1 h2; simp only [List.length_cons,List.length_nil]; omega))
 all_goals try (refine ⟨0,?_⟩; (repeat' (first | with_reducible refine And.intro ?_ ?_ | with_reducible refine and_imp.2 ?_ | intro)))
 all_goals try (first | (first | with_reducible rfl | with_reducible assumption | omega | (refine ag ?_ ?_ <;> omega)) | exact vf | exact uI | exact (At (by with_reducible assumption) (by with_reducible assumption)) | exact (Cn (by with_reducible assumption) (by omega)) | exact (Bn (by with_reducible assumption) (by omega)) | exact (Bx (by with_reducible assumption) (by with_reducible assumption)) | exact (uO (by omega)) | exact (uK (by omega)) | (have h1:=gm (l.take ‹Nat›) v; have h2:=dz (l.take ‹Nat›) v; rw [List.length_take] at h1 h2; simp only [List.length_cons,List.length_nil]; omega))
 all_goals try (refine ⟨‹Nat› + 1,?_⟩; (repeat' (first | with_reducible refine And.intro ?_ ?_ | with_reducible refine and_imp.2 ?_ | intro)))
 all_goals (first | (first | with_reducible rfl | with_reducible assumption | omega | (refine ag ?_ ?_ <;> omega)) | exact vf | exact uI | exact (At (by with_reducible assumption) (by with_reducible assumption)) | exact (Cn (by with_reducible assumption) (by omega)) | exact (Bn (by with_reducible assumption) (by omega)) | exact (Bx (by with_reducible assumption) (by with_reducible assumption)) | exact (uO (by omega)) | exact (uK (by omega)) | (have h1:=gm (l.take ‹Nat›) v; have h2:=dz (l.take ‹Nat›) v; rw [List.length_take] at h1 h2; simp only [List.length_cons,List.length_nil]; omega))
theorem BO (l:List Field) (r0:Command):cD aF qu (xl l) Try.f22 [.c (.fz (.nm .field) (l))] [] [.agg (cellsOf (.nm .command) r0)]=((fun (q11:Prop)=>(fun (q10:Int)=>(fun (q9:Prop)=>(fun (q8:Int)=>(fun (q7:Prop)=>(fun (q6:Prop)=>(fun (q5:Prop)=>(fun (q4:Prop)=>(fun (q3:Prop)=>(fun (q2:Prop)=>(fun (q1:Prop)=>(fun (q0:Nat)=>l.length*(48:Nat)<=(140737488355328:Nat)->∃ (s0:Nat),(fun (q13:Command)=>(fun (q12:Prop)=>(q11/\(↑l.length:Int)=(↑q0:Int)/\q10=(↑s0:Int)/\q10=bd.kind/\q10=bd.client/\q10=bd.seq/\q10=bd.set/\q10=bd.id/\q10=bd.n/\bd.chunks=[]/\Str.mk []=bd.text/\q10=q13.kind/\q10=q13.client/\q10=q13.seq/\q10=q13.set/\q10=q13.id/\q10=q13.n/\q13.chunks=[]/\Str.mk []=q13.text)/\s0<=q0/\∀ (s:Nat),(fun (q16:Nat)=>(fun (q15:Int)=>(fun (q14:Command)=>s<=q0->((↑s:Int)<(↑q0:Int)->q10<=(↑s:Int)/\(↑s:Int)<(↑l.length:Int)/\∀ (x:Field),(fun (q25:Int)=>(fun (q24:Int)=>(fun (q23:Prop)=>(fun (q22:Str)=>(fun (q21:Int)=>(fun (q20:Int)=>(fun (q19:List Int)=>(fun (q18:Int)=>(fun (q17:Int)=>l[s]? = some x->I64 q17->I64 x.wire->x.n.n<(18446744073709551616:Nat)->x.b.length*(1:Nat)<=(140737488355328:Nat)->(q17=q8->q23/\∃ (s':Nat),(fun (q26:Command)=>(q11/\q12/\q15=(↑s':Int)/\q4/\q1/\q5/\q6/\q7/\q9/\q2/\q3/\q20=q26.kind/\q18=q26.client/\q24=q26.seq/\q25=q26.set/\q14.id=q26.id/\q14.n=q26.n/\q19=q26.chunks/\q22=q26.text)/\s' <= q0/\q0 - s' < q16) (a_ (List.take s' l)))/\(¬q17=q8->(q17=(2:Int)->q23/\∃ (s':Nat),(fun (q27:Command)=>(q11/\q12/\q15=(↑s':Int)/\q4/\q1/\q5/\q6/\q7/\q9/\q2/\q3/\q21=q27.kind/\q20=q27.client/\q24=q27.seq/\q25=q27.set/\q14.id=q27.id/\q14.n=q27.n/\q19=q27.chunks/\q22=q27.text)/\s' <= q0/\q0 - s' < q16) (a_ (List.take s' l)))/\(¬q17=(2:Int)->(q17=(3:Int)->q23/\∃ (s':Nat),(fun (q28:Command)=>(q11/\q12/\q15=(↑s':Int)/\q4/\q1/\q5/\q6/\q7/\q9/\q2/\q3/\q21=q28.kind/\q18=q28.client/\q20=q28.seq/\q25=q28.set/\q14.id=q28.id/\q14.n=q28.n/\q19=q28.chunks/\q22=q28.text)/\s' <= q0/\q0 - s' < q16) (a_ (List.take s' l)))/\(¬q17=(3:Int)->(q17=(4:Int)->q23/\∃ (s':Nat),(fun (q29:Command)=>(q11/\q12/\q15=(↑s':Int)/\q4/\q1/\q5/\q6/\q7/\q9/\q2/\q3/\q21=q29.kind/\q18=q29.client/\q24=q29.seq/\q20=q29.set/\q14.id=q29.id/\q14.n=q29.n/\q19=q29.chunks/\q22=q29.text)/\s' <= q0/\q0 - s' < q16) (a_ (List.take s' l)))/\(¬q17=(4:Int)->(q17=(5:Int)->q23/\∃ (s':Nat),(fun (q30:Command)=>(q11/\q12/\q15=(↑s':Int)/\q4/\q1/\q5/\q6/\q7/\q9/\q2/\q3/\q21=q30.kind/\q18=q30.client/\q24=q30.seq/\q25=q30.set/\q20=q30.id/\q14.n=q30.n/\q19=q30.chunks/\q22=q30.text)/\s' <= q0/\q0 - s' < q16) (a_ (List.take s' l)))/\(¬q17=(5:Int)->(q17=(6:Int)->q23/\∃ (s':Nat),(fun (q31:Command)=>(q11/\q12/\q15=(↑s':Int)/\q4/\q1/\q5/\q6/\q7/\q9/\q2/\q3/\q21=q31.kind/\q18=q31.client/\q24=q31.seq/\q25=q31.set/\q14.id=q31.id/\q20=q31.n/\q19=q31.chunks/\q22=q31.text)/\s' <= q0/\q0 - s' < q16) (a_ (List.take s' l)))/\(¬q17=(6:Int)->(q17=(7:Int)->x.b.length<=(100000:Nat)/\((cK x.b).length*(8:Nat)<=(140737488355328:Nat)->I64 (eZ x.b)->q23/\∃ (s':Nat),(fun (q32:Command)=>(q11/\q12/\q15=(↑s':Int)/\q4/\q1/\q5/\q6/\q7/\q9/\q2/\q3/\q21=q32.kind/\q18=q32.client/\q24=q32.seq/\q25=q32.set/\q14.id=q32.id/\q14.n=q32.n/\cK x.b=q32.chunks/\q22=q32.text)/\s' <= q0/\q0 - s' < q16) (a_ (List.take s' l))))/\(¬q17=(7:Int)->(q17=(8:Int)->q23/\∃ (s':Nat),(fun (q33:Command)=>(q11/\q12/\q15=(↑s':Int)/\q4/\q1/\q5/\q6/\q7/\q9/\q2/\q3/\q21=q33.kind/\q18=q33.client/\q24=q33.seq/\q25=q33.set/\q14.id=q33.id/\q14.n=q33.n/\q19=q33.chunks/\Str.mk x.b=q33.text)/\s' <= q0/\q0 - s' < q16) (a_ (List.take s' l)))/\(¬q17=(8:Int)->q23/\∃ (s':Nat),(fun (q34:Command)=>(q11/\q12/\q15=(↑s':Int)/\q4/\q1/\q5/\q6/\q7/\q9/\q2/\q3/\q21=q34.kind/\q18=q34.client/\q24=q34.seq/\q25=q34.set/\q14.id=q34.id/\q14.n=q34.n/\q19=q34.chunks/\q22=q34.text)/\s' <= q0/\q0 - s' < q16) (a_ (List.take s' l))))))))))) x.num) q14.client) q14.chunks) (bV x.n.n)) q14.kind) q14.text) (I64 q15)) q14.seq) q14.set)/\((↑q0:Int)<=(↑s:Int)->q14.kind=r0.kind/\q14.client=r0.client/\q14.seq=r0.seq/\q14.set=r0.set/\q14.id=r0.id/\q14.n=r0.n/\q14.chunks=r0.chunks/\q14.text=r0.text)) (a_ (List.take s l))) ((↑s:Int)+q8)) (q0 - s)) ((↑q0:Int)=(↑q0:Int))) (a_ (List.take s0 l))) l.length) (bd.client=bd.client)) (bd.chunks=bd.chunks)) (bd.text=bd.text)) (bd.kind=bd.kind)) (bd.seq=bd.seq)) (bd.set=bd.set)) (bd.id=bd.id)) (1:Int)) (bd.n=bd.n)) (0:Int)) (l=l)):=by kernel_rfl
theorem BA (l:List Field) (h0:∀ f ∈ l,f.b.length<=16384):Sat Try.prog (al aF) 22 [.c (.fz (.nm .field) (l))] [] ⟨[∀ f ∈ l,f.b.length<=16384],[.agg (cellsOf (.nm .command) (a_ l))],none,false⟩:=by
 refine aI fl (xl l) Try.func22 (by decide) (by kernel_rfl) ?_
 rw [BO]
 (repeat' (first | with_reducible refine And.intro ?_ ?_ | with_reducible refine and_imp.2 ?_ | intro))
 all_goals try (first | (first | with_reducible rfl | with_reducible assumption | omega | (refine ag ?_ ?_ <;> omega)) | exact rfl | (have:=h0 _ (List.mem_of_getElem? (by with_reducible assumption)); omega) | (rw [aB (by with_reducible assumption),<- Dm (by with_reducible assumption)] <;> first | rfl | exact (aE (by with_reducible assumption)).symm) | (rw [aB (by with_reducible assumption),<- Fy (by with_reducible assumption)] <;> first | rfl | exact (aE (by with_reducible assumption)).symm) | (rw [aB (by with_reducible assumption),<- Ef (by with_reducible assumption)] <;> first | rfl | exact (aE (by with_reducible assumption)).symm) | (rw [aB (by with_reducible assumption),<- EE (by with_reducible assumption)] <;> first | rfl | exact (aE (by with_reducible assumption)).symm) | (rw [aB (by with_reducible assumption),<- Ea (by with_reducible assumption)] <;> first | rfl | exact (aE (by with_reducible assumption)).symm) | (rw [aB (by with_reducible assumption),<- DN (by with_reducible assumption)] <;> first | rfl | exact (aE (by with_reducible assumption)).symm) | (rw [aB (by with_reducible assumption),<- Et (by with_reducible assumption)] <;> first | rfl | exact (aE (by with_reducible assumption)).symm) | (rw [aB (by with_reducible assumption),<- Gw (by with_reducible assumption)] <;> first | rfl | exact (aE (by with_reducible assumption)).symm) | (rw [aB (by with_reducible assumption),<- DM (by omega)] <;> first | rfl | exact (aE (by with_reducible assumption)).symm) | (rw [List.take_of_length_le (by omega)]))
 all_goals try (refine ⟨0,?_⟩; (repeat' (first | with_reducible refine And.intro ?_ ?_ | with_reducible refine and_imp.2 ?_ | intro)))
 all_goals try (first | (first | with_reducible rfl | with_reducible assumption | omega | (refine ag ?_ ?_ <;> omega)) | exact rfl | (have:=h0 _ (List.mem_of_getElem? (by with_reducible assumption)); omega) | (rw [aB (by with_reducible assumption),<- Dm (by with_reducible assumption)] <;> first | rfl | exact (aE (by with_reducible assumption)).symm) | (rw [aB (by with_reducible assumption),<- Fy (by with_reducible assumption)] <;> first | rfl | exact (aE (by with_reducible assumption)).symm) | (rw [aB (by with_reducible assumption),<- Ef (by with_reducible assumption)] <;> first | rfl | exact (aE (by with_reducible assumption)).symm) | (rw [aB (by with_reducible assumption),<- EE (by with_reducible assumption)] <;> first | rfl | exact (aE (by with_reducible assumption)).symm) | (rw [aB (by with_reducible assumption),<- Ea (by with_reducible assumption)] <;> first | rfl | exact (aE (by with_reducible assumption)).symm) | (rw [aB (by with_reducible assumption),<- DN (by with_reducible assumption)] <;> first | rfl | exact (aE (by with_reducible assumption)).symm) | (rw [aB (by with_reducible assumption),<- Et (by with_reducible assumption)] <;> first | rfl | exact (aE (by with_reducible assumption)).symm) | (rw [aB (by with_reducible assumption),<- Gw (by with_reducible assumption)] <;> first | rfl | exact (aE (by with_reducible assumption)).symm) | (rw [aB (by with_reducible assumption),<- DM (by omega)] <;> first | rfl | exact (aE (by with_reducible assumption)).symm) | (rw [List.take_of_length_le (by omega)]))
 all_goals try (refine ⟨‹Nat› + 1,?_⟩; (repeat' (first | with_reducible refine And.intro ?_ ?_ | with_reducible refine and_imp.2 ?_ | intro)))
 all_goals (first | (first | with_reducible rfl | with_reducible assumption | omega | (refine ag ?_ ?_ <;> omega)) | exact rfl | (have:=h0 _ (List.mem_of_getElem? (by with_reducible assumption)); omega) | (rw [aB (by with_reducible assumption),<- Dm (by with_reducible assumption)] <;> first | rfl | exact (aE (by with_reducible assumption)).symm) | (rw [aB (by with_reducible assumption),<- Fy (by with_reducible assumption)] <;> first | rfl | exact (aE (by with_reducible assumption)).symm) | (rw [aB (by with_reducible assumption),<- Ef (by with_reducible assumption)] <;> first | rfl | exact (aE (by with_reducible assumption)).symm) | (rw [aB (by with_reducible assumption),<- EE (by with_reducible assumption)] <;> first | rfl | exact (aE (by with_reducible assumption)).symm) | (rw [aB (by with_reducible assumption),<- Ea (by with_reducible assumption)] <;> first | rfl | exact (aE (by with_reducible assumption)).symm) | (rw [aB (by with_reducible assumption),<- DN (by with_reducible assumption)] <;> first | rfl | exact (aE (by with_reducible assumption)).symm) | (rw [aB (by with_reducible assumption),<- Et (by with_reducible assumption)] <;> first | rfl | exact (aE (by with_reducible assumption)).symm) | (rw [aB (by with_reducible assumption),<- Gw (by with_reducible assumption)] <;> first | rfl | exact (aE (by with_reducible assumption)).symm) | (rw [aB (by with_reducible assumption),<- DM (by omega)] <;> first | rfl | exact (aE (by with_reducible assumption)).symm) | (rw [List.take_of_length_le (by omega)]))
def ui:cH:=(bT 22 (bM (ai (kC (cL (.nm .field))) aO) aP fun (l,_) (_)=>⟨[∀ f ∈ l,f.b.length<=16384],[.agg (cellsOf (.nm .command) (a_ l))],none,false⟩) (bT 20 (bM (ai (kC (cL (.nm .field))) (ai (kC cI) aO)) aP fun (l,v,_) (_)=>⟨[],[.c (.fz (.nm .field) ((aQ l v))),.c (.fz (.nm .field) ((bp l v)))],none,false⟩) (bT 41 (bM (ai (kC cI) (ai (kC cI) aO)) aP fun (q,v,_) (_)=>⟨[q=1],[.c (.fz (.nm .spec) ((ao v)))],none,false⟩) (bT 42 (bM (ai (kC (cL (.nm .field))) aO) aP fun (l,_) (_)=>⟨[],[.c (.int ((aZ l)))],none,false⟩) (bT 40 (bM (ai (kC (cL .u8)) aO) aP fun (b,_) (_)=>⟨[],[.agg (cellsOf (.nm .field) (dR b))],none,false⟩) (bT 64 (bM (ai (kC (mR 0 0)) (ai (kC (mR 1 0)) aO)) (eT (mU 22 (iN (cL .u8) mV)) (eT (mU 3 (iN cI mV)) aP)) fun (_,_,_) ((b,_),(s,_),_)=>⟨[0<=s,s<=(b.length:Int),b.length*1<=140737488355328],[.c (.u64 ((U64.mk (ae (b.drop s.toNat)).1)).n),.c (.int (((ae (b.drop s.toNat)).2.2)))],some ([.box 22 ([.fz .u8 ((b))]),.box 3 ([.int ((s+((ae (b.drop s.toNat)).2.1:Nat)))])]),false⟩) qu))))))
theorem iy:aT Try.prog (al aF) ui:=(av (au (ab (aq bf) aj) ak fun (l,_) (_) hp=>BA l (fH hp)) (av (au (ab (aq bf) (ab (aq aK) aj)) ak fun (l,v,_) (_) _=>xr l v ) (av (au (ab (aq aK) (ab (aq aK) aj)) ak fun (q,v,_) (_) hp=>Aa q v (fH hp)) (av (au (ab (aq bf) aj) ak fun (l,_) (_) _=>BY l ) (av (au (ab (aq bf) aj) ak fun (b,_) (_) _=>yw b ) (av (au (ab (aq ei) (ab (aq ei) aj)) (cr (ez (dZ bf eh)) (cr (ez (dZ aK eh)) ak)) fun (_,_,_) ((b,_),(s,_),_) hp=>B_ b s (fH hp) (fH (fb hp)) (fH (fb (fb hp)))) fl))))))
end Go.Proofs.Ytladifkbefehdaa
namespace Go.Proofs.Ytladifkbefehdaa
open Go.RowKit
theorem AD (k:Int) (n:Int) (r0:List Field):GK aF ui [] Try.f60 [.c (.int (k)),.c (.int (n)),.c (.ptr 0 0)] [.box 28 ([.em true])] [] [.box 28 ([.own 1]),.row 58 (.nm .field) (r0)]=(I64 k->I64 n->(¬n=(0:Int)->(0:Int)<=n/\[Field.mk k (0:Int) (U64.mk n.toNat) []].length*(48:Nat)<=(140737488355328:Nat)/\[Field.mk k (0:Int) (U64.mk n.toNat) []]=r0)/\(n=(0:Int)->r0=[])):=by kernel_rfl
theorem Ay (k:Int) (n:Int) (h0:0<=n):Sat Try.prog (al aF) 60 [.c (.int (k)),.c (.int (n)),.c (.ptr 0 0)] [.box 28 ([.em true])] ⟨[0<=n],[],some ([.box 28 ([.own 1]),.row 58 (.nm .field) ((ji k n))]),false⟩:=by
 refine qI iy [] Try.func60 (by decide) (by kernel_rfl) ?_
 rw [AD]
 (repeat' (first | with_reducible refine And.intro ?_ ?_ | with_reducible refine and_imp.2 ?_ | intro))
 all_goals (first | (first | with_reducible rfl | with_reducible assumption | omega | (refine ag ?_ ?_ <;> omega)) | exact (qv (by with_reducible assumption)) | exact (qB (by with_reducible assumption)) | exact (px (by with_reducible assumption)) | exact (qQ (by omega)) | exact (qv (xs:=[]) (by with_reducible assumption)) | exact (qB (xs:=[]) (by with_reducible assumption)).symm | exact (px (xs:=[]) (by with_reducible assumption)) | exact (qQ (xs:=[]) (by omega)).symm | (simp only [List.length_cons,List.length_nil]; omega) | decide)
theorem BN (k:Int) (n:Int) (xs:List Field) (r0:List Field):GK aF ui [] Try.f60 [.c (.int (k)),.c (.int (n)),.c (.ptr 0 0)] [.box 28 ([.own 1]),.row 58 (.nm .field) (xs)] [] [.box 28 ([.own 1]),.row 58 (.nm .field) (r0)]=(I64 k->I64 n->(¬n=(0:Int)->(0:Int)<=n/\(xs.length+[Field.mk k (0:Int) (U64.mk n.toNat) []].length)*(48:Nat)<=(140737488355328:Nat)/\xs++[Field.mk k (0:Int) (U64.mk n.toNat) []]=r0)/\(n=(0:Int)->xs=r0)):=by kernel_rfl
theorem Cl (k:Int) (n:Int) (xs:List Field) (h0:0<=n) (h1:xs.length<=1000):Sat Try.prog (al aF) 60 [.c (.int (k)),.c (.int (n)),.c (.ptr 0 0)] [.box 28 ([.own 1]),.row 58 (.nm .field) (xs)] ⟨[0<=n,xs.length<=1000],[],some ([.box 28 ([.own 1]),.row 58 (.nm .field) ((xs++ji k n))]),false⟩:=by
 refine qI iy [] Try.func60 (by decide) (by kernel_rfl) ?_
 rw [BN]
 (repeat' (first | with_reducible refine And.intro ?_ ?_ | with_reducible refine and_imp.2 ?_ | intro))
 all_goals (first | (first | with_reducible rfl | with_reducible assumption | omega | (refine ag ?_ ?_ <;> omega)) | exact (qv (by with_reducible assumption)) | exact (qB (by with_reducible assumption)) | exact (px (by with_reducible assumption)) | exact (qQ (by omega)) | exact (qv (xs:=[]) (by with_reducible assumption)) | exact (qB (xs:=[]) (by with_reducible assumption)).symm | exact (px (xs:=[]) (by with_reducible assumption)) | exact (qQ (xs:=[]) (by omega)).symm | (simp only [List.length_cons,List.length_nil]; omega) | decide)
theorem BG (k:Int) (b:List UInt8) (r0:List Field):GK aF ui [] Try.f61 [.c (.int (k)),.c (.fz .u8 (b)),.c (.ptr 0 0)] [.box 28 ([.em true])] [] [.box 28 ([.own 1]),.row 58 (.nm .field) (r0)]=(I64 k->b.length*(1:Nat)<=(140737488355328:Nat)->((0:Int)<(↑b.length:Int)->[Field.mk k (2:Int) (U64.mk (0:Nat)) b].length*(48:Nat)<=(140737488355328:Nat)/\[Field.mk k (2:Int) (U64.mk (0:Nat)) b]=r0)/\((↑b.length:Int)<=(0:Int)->r0=[])):=by kernel_rfl
theorem AJ (k:Int) (b:List UInt8):Sat Try.prog (al aF) 61 [.c (.int (k)),.c (.fz .u8 (b)),.c (.ptr 0 0)] [.box 28 ([.em true])] ⟨[],[],some ([.box 28 ([.own 1]),.row 58 (.nm .field) ((mN k b))]),false⟩:=by
 refine qI iy [] Try.func61 (by decide) (by kernel_rfl) ?_
 rw [BG]
 (repeat' (first | with_reducible refine And.intro ?_ ?_ | with_reducible refine and_imp.2 ?_ | intro))
 all_goals (first | (first | with_reducible rfl | with_reducible assumption | omega | (refine ag ?_ ?_ <;> omega)) | exact (qv (by with_reducible assumption)) | exact (qB (by with_reducible assumption)) | exact (px (by with_reducible assumption)) | exact (qQ (by omega)) | exact (qv (xs:=[]) (by with_reducible assumption)) | exact (qB (xs:=[]) (by with_reducible assumption)).symm | exact (px (xs:=[]) (by with_reducible assumption)) | exact (qQ (xs:=[]) (by omega)).symm | (simp only [List.length_cons,List.length_nil]; omega) | decide)
theorem Cd (k:Int) (b:List UInt8) (xs:List Field) (r0:List Field):GK aF ui [] Try.f61 [.c (.int (k)),.c (.fz .u8 (b)),.c (.ptr 0 0)] [.box 28 ([.own 1]),.row 58 (.nm .field) (xs)] [] [.box 28 ([.own 1]),.row 58 (.nm .field) (r0)]=(I64 k->b.length*(1:Nat)<=(140737488355328:Nat)->((0:Int)<(↑b.length:Int)->(xs.length+[Field.mk k (2:Int) (U64.mk (0:Nat)) b].length)*(48:Nat)<=(140737488355328:Nat)/\xs++[Field.mk k (2:Int) (U64.mk (0:Nat)) b]=r0)/\((↑b.length:Int)<=(0:Int)->xs=r0)):=by kernel_rfl
theorem Bv (k:Int) (b:List UInt8) (xs:List Field) (h0:xs.length<=1000):Sat Try.prog (al aF) 61 [.c (.int (k)),.c (.fz .u8 (b)),.c (.ptr 0 0)] [.box 28 ([.own 1]),.row 58 (.nm .field) (xs)] ⟨[xs.length<=1000],[],some ([.box 28 ([.own 1]),.row 58 (.nm .field) ((xs++mN k b))]),false⟩:=by
 refine qI iy [] Try.func61 (by decide) (by kernel_rfl) ?_
 rw [Cd]
 (repeat' (first | with_reducible refine And.intro ?_ ?_ | with_reducible refine and_imp.2 ?_ | intro))
 all_goals (first | (first | with_reducible rfl | with_reducible assumption | omega | (refine ag ?_ ?_ <;> omega)) | exact (qv (by with_reducible assumption)) | exact (qB (by with_reducible assumption)) | exact (px (by with_reducible assumption)) | exact (qQ (by omega)) | exact (qv (xs:=[]) (by with_reducible assumption)) | exact (qB (xs:=[]) (by with_reducible assumption)).symm | exact (px (xs:=[]) (by with_reducible assumption)) | exact (qQ (xs:=[]) (by omega)).symm | (simp only [List.length_cons,List.length_nil]; omega) | decide)
def yO:cH:=(bT 61 (bM (ai (kC cI) (ai (kC (cL .u8)) (ai (kC (mR 0 0)) aO))) (eT (mU 28 (iN (yv 1) mV)) (eT (vQ 58 (.nm .field)) aP)) fun (k,b,_,_) ((_,_),xs,_)=>⟨[xs.length<=1000],[],some ([.box 28 ([.own 1]),.row 58 (.nm .field) ((xs++mN k b))]),false⟩) (bT 61 (bM (ai (kC cI) (ai (kC (cL .u8)) (ai (kC (mR 0 0)) aO))) (eT (mU 28 (iN (Iv true) mV)) aP) fun (k,b,_,_) ((_,_),_)=>⟨[],[],some ([.box 28 ([.own 1]),.row 58 (.nm .field) ((mN k b))]),false⟩) (bT 60 (bM (ai (kC cI) (ai (kC cI) (ai (kC (mR 0 0)) aO))) (eT (mU 28 (iN (yv 1) mV)) (eT (vQ 58 (.nm .field)) aP)) fun (k,n,_,_) ((_,_),xs,_)=>⟨[0<=n,xs.length<=1000],[],some ([.box 28 ([.own 1]),.row 58 (.nm .field) ((xs++ji k n))]),false⟩) (bT 60 (bM (ai (kC cI) (ai (kC cI) (ai (kC (mR 0 0)) aO))) (eT (mU 28 (iN (Iv true) mV)) aP) fun (k,n,_,_) ((_,_),_)=>⟨[0<=n],[],some ([.box 28 ([.own 1]),.row 58 (.nm .field) ((ji k n))]),false⟩) ui))))
theorem pP:aT Try.prog (al aF) yO:=(av (au (ab (aq aK) (ab (aq bf) (ab (aq ei) aj))) (cr (ez (dZ oR eh)) (cr pf ak)) fun (k,b,_,_) ((_,_),xs,_) hp=>Bv k b xs (fH hp)) (av (au (ab (aq aK) (ab (aq bf) (ab (aq ei) aj))) (cr (ez (dZ xG eh)) ak) fun (k,b,_,_) ((_,_),_) _=>AJ k b ) (av (au (ab (aq aK) (ab (aq aK) (ab (aq ei) aj))) (cr (ez (dZ oR eh)) (cr pf ak)) fun (k,n,_,_) ((_,_),xs,_) hp=>Cl k n xs (fH hp) (fH (fb hp))) (av (au (ab (aq aK) (ab (aq aK) (ab (aq ei) aj))) (cr (ez (dZ xG eh)) ak) fun (k,n,_,_) ((_,_),_) hp=>Ay k n (fH hp)) iy))))
end Go.Proofs.Ytladifkbefehdaa
namespace Go.Proofs.Ytladifkbefehdaa
open Go.RowKit
theorem uF (c:Command) (v:Int) (r0:List Field):tg aF yO [] Try.f35 [.agg (cellsOf (.nm .command) c),.c (.int (v))] [] [.c (.own 0)] [.row 58 (.nm .field) (r0)]=((fun (q6:Int)=>(fun (q5:List (den (Sh.nm NT.field)))=>(fun (q4:Nat)=>(fun (q3:List Field)=>(fun (q2:List Field)=>(fun (q1:List (den (Sh.nm NT.field)))=>(fun (q0:List (den (Sh.nm NT.field)))=>I64 c.kind->I64 c.client->I64 c.seq->I64 c.set->I64 c.id->I64 c.n->c.chunks.length*(8:Nat)<=(140737488355328:Nat)->c.text.b.length<=(140737488355328:Nat)->I64 v->q6<=c.kind/\q6<=c.client/\(ji (1:Int) c.kind).length<=q4/\q6<=c.seq/\q5.length<=q4/\q6<=c.set/\q1.length<=q4/\q6<=c.id/\(q1++ji (4:Int) c.set).length<=q4/\q6<=c.n/\q0.length<=q4/\((aW c.chunks).length*(1:Nat)<=(140737488355328:Nat)->I64 (bH c.chunks)->(q0++q3).length<=q4/\((3:Int)<=v->(q0++q3++q2).length<=q4/\q0++q3++q2++mN (8:Int) c.text.b=r0)/\(v<(3:Int)->q0++q3++q2=r0))) (q1++ji (4:Int) c.set++ji (5:Int) c.id)) (q5++ji (3:Int) c.seq)) (mN (7:Int) (aW c.chunks))) (ji (6:Int) c.n)) (1000:Nat)) (ji (1:Int) c.kind++ji (2:Int) c.client)) (0:Int)):=by kernel_rfl
theorem uk (c:Command) (v:Int) (h0:0<=c.kind) (h1:0<=c.client) (h2:0<=c.seq) (h3:0<=c.set) (h4:0<=c.id) (h5:0<=c.n):Sat Try.prog (al aF) 35 [.agg (cellsOf (.nm .command) c),.c (.int (v))] [] ⟨[0<=c.kind,0<=c.client,0<=c.seq,0<=c.set,0<=c.id,0<=c.n],[.c (.own 0)],some ([.row 58 (.nm .field) ((aV c v))]),true⟩:=by
 refine eR pP [] Try.func35 (by decide) (by kernel_rfl) ?_
 rw [uF]
 (repeat' (first | with_reducible refine And.intro ?_ ?_ | with_reducible refine and_imp.2 ?_ | intro))
 all_goals (first | (first | with_reducible rfl | with_reducible assumption | omega | (refine ag ?_ ?_ <;> omega)) | (rw [aV,if_pos (by omega)]; rfl) | (rw [aV,if_neg (by omega)]; rfl) | (have h1:=dr 1 c.kind; have h2:=dr 2 c.client; have h3:=dr 3 c.seq; have h4:=dr 4 c.set; have h5:=dr 5 c.id; have h6:=dr 6 c.n; have h7:=ri 7 (aW c.chunks); (try simp only [List.length_append]); omega))
def pY:cH:=(bT 35 (bM (ai (kT (.nm .command)) (ai (kC cI) aO)) aP fun (c,v,_) (_)=>⟨[0<=c.kind,0<=c.client,0<=c.seq,0<=c.set,0<=c.id,0<=c.n],[.c (.own 0)],some ([.row 58 (.nm .field) ((aV c v))]),true⟩) yO)
theorem iv:aT Try.prog (al aF) pY:=(av (au (ab ck (ab (aq aK) aj)) ak fun (c,v,_) (_) hp=>uk c v (fH hp) (fH (fb hp)) (fH (fb (fb hp))) (fH (fb (fb (fb hp)))) (fH (fb (fb (fb (fb hp))))) (fH (fb (fb (fb (fb (fb hp))))))) pP)
end Go.Proofs.Ytladifkbefehdaa
namespace Go.Proofs.Ytladifkbefehdaa
open Go.RowKit
theorem Gt {b:List UInt8} (h:(ah b).e=0) (h2:(ae (b.drop (ah b).k)).2.2=0) (h3:¬ (ah b).wire=0) (h4:(ae (b.drop (ah b).k)).1<=16384) (h5:((b.length:Nat):Int) - (((ah b).k:Int)+((ae (b.drop (ah b).k)).2.1:Nat))<bV (ae (b.drop (ah b).k)).1):(0:Int)=((aw b).1:Nat)/\2=(aw b).2:=by
 rw [dc (by omega)] at h5
 rw [Ie h h2 h3 (by omega) (by omega)]; exact ⟨rfl,rfl⟩
theorem Fm {b:List UInt8} (h:(ah b).e=0) (h2:(ae (b.drop (ah b).k)).2.2=0) (h3:¬ (ah b).wire=0) (h4:(ae (b.drop (ah b).k)).1<=16384) (h5:bV (ae (b.drop (ah b).k)).1<=((b.length:Nat):Int) - (((ah b).k:Int)+((ae (b.drop (ah b).k)).2.1:Nat))):((ah b).k:Int)+((ae (b.drop (ah b).k)).2.1:Nat)+bV (ae (b.drop (ah b).k)).1=((aw b).1:Nat)/\0=(aw b).2:=by
 rw [dc (by omega)] at h5 ⊢
 rw [HP h h2 h3 (by omega) (by omega)]; exact ⟨rfl,rfl⟩
def CY (l:List Field):List (Nat × LI):=[(6,{ σ:=Nat,F:=fun k=>([(5,one (.own 0)),(13,one (.fz (.nm .field) (l))),(14,one (.int (l).length)),(15,one (.int k))],[.row 5 .u8 ((((l.take k).map ba).flatten))]),J:=fun k=>k<=l.length,μ:=fun k=>l.length - k })]
def CD (q:Int) (v:Int):List (Nat × LI):=[(3,{ σ:=Nat,F:=fun k=>([(5,one (.int (((ao v).take k).foldl (fun t s=>max t s.num) 0))),(10,one (.fz (.nm .spec) (ao v))),(11,one (.int (ao v).length)),(12,one (.int k))],[]),J:=fun k=>k<=(ao v).length,μ:=fun k=>(ao v).length - k })]
theorem Bh (b:List UInt8) (r0:Int) (r1:Int):cD aF pY [] Try.f39 [.c (.fz .u8 (b))] [] [.c (.int (r0)),.c (.int (r1))]=((fun (q5:Int)=>(fun (q4:Prop)=>(fun (q3:TagR)=>(fun (q2:Int)=>(fun (q1:Int)=>(fun (q0:Nat × Nat × Int)=>q4->I64 q3.num->I64 q3.wire->I64 q1->I64 q3.e->(¬q3.e=q2->q2=r0/\q3.e=r1)/\(q3.e=q2->q2<=q1/\q1<=q5/\q4/\(q0.fst<(18446744073709551616:Nat)->I64 q0.snd.snd->(¬q0.snd.snd=q2->q2=r0/\q0.snd.snd=r1)/\(q0.snd.snd=q2->(q3.wire=q2->q1+(↑q0.snd.fst:Int)=r0/\q2=r1)/\(¬q3.wire=q2->((↑(16384:Nat):Int)<(↑q0.fst:Int)->q2=r0/\(4:Int)=r1)/\((↑q0.fst:Int)<=(↑(16384:Nat):Int)->I64 (q5 - (q1+(↑q0.snd.fst:Int)))/\(q5 - (q1+(↑q0.snd.fst:Int))<bV q0.fst->q2=r0/\(2:Int)=r1)/\(bV q0.fst<=q5 - (q1+(↑q0.snd.fst:Int))->I64 (q1+(↑q0.snd.fst:Int)+bV q0.fst)/\q1+(↑q0.snd.fst:Int)+bV q0.fst=r0/\q2=r1))))))) (ae (List.drop q3.k b))) (↑q3.k:Int)) (0:Int)) (ah b)) (b.length*(1:Nat)<=(140737488355328:Nat))) (↑b.length:Int)):=by kernel_rfl
theorem Bq (b:List UInt8):Sat Try.prog (al aF) 39 [.c (.fz .u8 (b))] [] ⟨[],[.c (.int ((((aw b).1:Nat)))),.c (.int (((aw b).2)))],none,false⟩:=by
 refine aI iv [] Try.func39 (by decide) (by kernel_rfl) ?_
 rw [Bh]
 (repeat' (first | with_reducible refine And.intro ?_ ?_ | with_reducible refine and_imp.2 ?_ | intro))
 all_goals (first | (first | with_reducible rfl | with_reducible assumption | omega | (refine ag ?_ ?_ <;> omega)) | (rw [FK (by with_reducible assumption)] <;> rfl) | (rw [DI (by with_reducible assumption) (by with_reducible assumption)] <;> rfl) | (rw [Dl (by with_reducible assumption) (by with_reducible assumption) (by with_reducible assumption)] <;> rfl) | (rw [EO (by with_reducible assumption) (by with_reducible assumption) (by with_reducible assumption) (by omega)] <;> rfl) | exact (Gt (by with_reducible assumption) (by with_reducible assumption) (by with_reducible assumption) (by omega) (by with_reducible assumption)).1 | exact (Gt (by with_reducible assumption) (by with_reducible assumption) (by with_reducible assumption) (by omega) (by with_reducible assumption)).2 | exact (Fm (by with_reducible assumption) (by with_reducible assumption) (by with_reducible assumption) (by omega) (by with_reducible assumption)).1 | exact (Fm (by with_reducible assumption) (by with_reducible assumption) (by with_reducible assumption) (by omega) (by with_reducible assumption)).2 | (have h1:=dH b; have h2:=dy b (ah b).k; first | omega | (refine ag ?_ ?_ <;> omega)) | (have h1:=dH b; have h2:=dy b (ah b).k; have h3:=dc (m:=(ae (b.drop (ah b).k)).1) (by omega); first | omega | (refine ag ?_ ?_ <;> omega)))
theorem EM (l:List Field) (r0:Int) (r1:List UInt8):tg aF pY (CY l) Try.f34 [.c (.fz (.nm .field) (l))] [] [.c (.own 0),.c (.int (r0))] [.row 5 .u8 (r1)]=((fun (q0:Nat)=>l.length*(48:Nat)<=(140737488355328:Nat)->I64 (aZ l)->(¬aZ l=(0:Int)->aZ l=r0/\r1=[])/\(aZ l=(0:Int)->∃ (s0:Nat),(l=l/\(↑l.length:Int)=(↑q0:Int)/\(0:Int)=(↑s0:Int)/\(List.map ba (List.take s0 l)).flatten=[])/\s0<=q0/\∀ (s:Nat),(fun (q1:List UInt8)=>s<=q0->((↑s:Int)<(↑q0:Int)->(0:Int)<=(↑s:Int)/\(↑s:Int)<(↑l.length:Int)/\∀ (x:Field),l[s]? = some x->I64 x.num->I64 x.wire->x.n.n<(18446744073709551616:Nat)->x.b.length*(1:Nat)<=(140737488355328:Nat)->x.b.length<=(16384:Nat)/\(q1.length+(ba x).length)*(1:Nat)<=(140737488355328:Nat)/\I64 ((↑s:Int)+(1:Int))/\∃ (s':Nat),(l=l/\(↑q0:Int)=(↑q0:Int)/\(↑s:Int)+(1:Int)=(↑s':Int)/\q1++ba x=(List.map ba (List.take s' l)).flatten)/\s' <= q0/\q0 - s' < q0 - s)/\((↑q0:Int)<=(↑s:Int)->(0:Int)=r0/\q1=r1)) (List.map ba (List.take s l)).flatten)) l.length):=by kernel_rfl
theorem Gu (l:List Field):Sat Try.prog (al aF) 34 [.c (.fz (.nm .field) (l))] [] ⟨[],[.c (.own 0),.c (.int ((aZ l)))],some ([.row 5 .u8 ((eH l))]),true⟩:=by
 refine eR iv (CY l) Try.func34 (by decide) (by kernel_rfl) ?_
 rw [EM]
 (repeat' (first | with_reducible refine And.intro ?_ ?_ | with_reducible refine and_imp.2 ?_ | intro))
 all_goals try (first | (first | with_reducible rfl | with_reducible assumption | omega | (refine ag ?_ ?_ <;> omega)) | exact rfl | exact (j_ (by with_reducible assumption)).symm | exact (Eq.symm (by with_reducible assumption)) | exact (dL (by with_reducible assumption)) | exact (cz (by with_reducible assumption) (List.mem_of_getElem? (by with_reducible assumption))) | exact (gi (by with_reducible assumption) (by omega)) | (have h1:=eL (k:=‹Nat›) (show aZ l=0 by with_reducible assumption); have h2:=bj (f:=‹Field›) (cz (show aZ l=0 by with_reducible assumption) (List.mem_of_getElem? (by with_reducible assumption))) (by with_reducible assumption); omega))
 all_goals try (refine ⟨0,?_⟩; (repeat' (first | with_reducible refine And.intro ?_ ?_ | with_reducible refine and_imp.2 ?_ | intro)))
 all_goals try (first | (first | with_reducible rfl | with_reducible assumption | omega | (refine ag ?_ ?_ <;> omega)) | exact rfl | exact (j_ (by with_reducible assumption)).symm | exact (Eq.symm (by with_reducible assumption)) | exact (dL (by with_reducible assumption)) | exact (cz (by with_reducible assumption) (List.mem_of_getElem? (by with_reducible assumption))) | exact (gi (by with_reducible assumption) (by omega)) | (have h1:=eL (k:=‹Nat›) (show aZ l=0 by with_reducible assumption); have h2:=bj (f:=‹Field›) (cz (show aZ l=0 by with_reducible assumption) (List.mem_of_getElem? (by with_reducible assumption))) (by with_reducible assumption); omega))
 all_goals try (refine ⟨‹Nat› + 1,?_⟩; (repeat' (first | with_reducible refine And.intro ?_ ?_ | with_reducible refine and_imp.2 ?_ | intro)))
 all_goals (first | (first | with_reducible rfl | with_reducible assumption | omega | (refine ag ?_ ?_ <;> omega)) | exact rfl | exact (j_ (by with_reducible assumption)).symm | exact (Eq.symm (by with_reducible assumption)) | exact (dL (by with_reducible assumption)) | exact (cz (by with_reducible assumption) (List.mem_of_getElem? (by with_reducible assumption))) | exact (gi (by with_reducible assumption) (by omega)) | (have h1:=eL (k:=‹Nat›) (show aZ l=0 by with_reducible assumption); have h2:=bj (f:=‹Field›) (cz (show aZ l=0 by with_reducible assumption) (List.mem_of_getElem? (by with_reducible assumption))) (by with_reducible assumption); omega))
theorem Fq (q:Int) (v:Int) (r0:Int):cD aF pY (CD q v) Try.f21 [.c (.int (q)),.c (.int (v))] [] [.c (.int (r0))]=((fun (q1:Int)=>(fun (q0:List Spec)=>I64 q->I64 v->q=(1:Int)/\(q0.length*(32:Nat)<=(140737488355328:Nat)->∃ (s0:Nat),(fun (q2:Nat)=>(q1=List.foldl (fun (t:Int) (s:Spec)=>max t s.num) q1 (List.take s0 q0)/\q0=q0/\(↑q0.length:Int)=(↑q2:Int)/\q1=(↑s0:Int))/\s0<=q2/\∀ (s:Nat),(fun (q3:Int)=>s<=q2->((↑s:Int)<(↑q2:Int)->q1<=(↑s:Int)/\(↑s:Int)<(↑q0.length:Int)/\∀ (x:Spec),q0[s]? = some x->I64 x.num->I64 x.wire->I64 x.since->I64 ((↑s:Int)+(1:Int))/\∃ (s':Nat),(max q3 x.num=List.foldl (fun (t:Int) (s:Spec)=>max t s.num) q1 (List.take s' q0)/\q0=q0/\(↑q2:Int)=(↑q2:Int)/\(↑s:Int)+(1:Int)=(↑s':Int))/\s' <= q2/\q2 - s' < q2 - s)/\((↑q2:Int)<=(↑s:Int)->q3=r0)) (List.foldl (fun (t:Int) (s:Spec)=>max t s.num) q1 (List.take s q0))) q0.length)) (ao v)) (0:Int)):=by kernel_rfl
theorem Fi (q:Int) (v:Int) (h0:q=1):Sat Try.prog (al aF) 21 [.c (.int (q)),.c (.int (v))] [] ⟨[q=1],[.c (.int ((aC v)))],none,false⟩:=by
 refine aI iv (CD q v) Try.func21 (by decide) (by kernel_rfl) ?_
 rw [Fq]
 (repeat' (first | with_reducible refine And.intro ?_ ?_ | with_reducible refine and_imp.2 ?_ | intro))
 all_goals try (first | (first | with_reducible rfl | with_reducible assumption | omega | (refine ag ?_ ?_ <;> omega)) | exact rfl | exact (eJ (by with_reducible assumption)) | (rw [aC,List.take_of_length_le (by omega)]))
 all_goals try (refine ⟨0,?_⟩; (repeat' (first | with_reducible refine And.intro ?_ ?_ | with_reducible refine and_imp.2 ?_ | intro)))
 all_goals try (first | (first | with_reducible rfl | with_reducible assumption | omega | (refine ag ?_ ?_ <;> omega)) | exact rfl | exact (eJ (by with_reducible assumption)) | (rw [aC,List.take_of_length_le (by omega)]))
 all_goals try (refine ⟨‹Nat› + 1,?_⟩; (repeat' (first | with_reducible refine And.intro ?_ ?_ | with_reducible refine and_imp.2 ?_ | intro)))
 all_goals (first | (first | with_reducible rfl | with_reducible assumption | omega | (refine ag ?_ ?_ <;> omega)) | exact rfl | exact (eJ (by with_reducible assumption)) | (rw [aC,List.take_of_length_le (by omega)]))
def yn:cH:=(bT 21 (bM (ai (kC cI) (ai (kC cI) aO)) aP fun (q,v,_) (_)=>⟨[q=1],[.c (.int ((aC v)))],none,false⟩) (bT 34 (bM (ai (kC (cL (.nm .field))) aO) aP fun (l,_) (_)=>⟨[],[.c (.own 0),.c (.int ((aZ l)))],some ([.row 5 .u8 ((eH l))]),true⟩) (bT 39 (bM (ai (kC (cL .u8)) aO) aP fun (b,_) (_)=>⟨[],[.c (.int ((((aw b).1:Nat)))),.c (.int (((aw b).2)))],none,false⟩) pY)))
theorem kP:aT Try.prog (al aF) yn:=(av (au (ab (aq aK) (ab (aq aK) aj)) ak fun (q,v,_) (_) hp=>Fi q v (fH hp)) (av (au (ab (aq bf) aj) ak fun (l,_) (_) _=>Gu l ) (av (au (ab (aq bf) aj) ak fun (b,_) (_) _=>Bq b ) iv)))
end Go.Proofs.Ytladifkbefehdaa
namespace Go.Proofs.Ytladifkbefehdaa
open Go.RowKit
structure Wq (p:Prop):Prop where
 h:p
def cY (l:List Field):Int->Option Int:=fun q=>if bw l q=0 then none else some ((bw l q:Nat):Int)
def gO (rest:List Field) (v:Int) (k:Nat):Prop:=∀ j y,j<k->rest[j]? = some y->¬ y.num<=aC v
theorem yX {xs:List Field} {f:Field} (h:(xs.length:Int)=0):true=cF xs f:=by
 unfold cF; rw [List.getElem?_eq_none (by omega)]
theorem rR {xs:List Field} {f:Field} (h:¬ (xs.length:Int)=0):bD (xs.getD ((xs.length:Int) - 1).toNat (dflt (.nm .field))) f=cF xs f:=by
 unfold cF
 rw [show ((xs.length:Int) - 1).toNat=xs.length - 1 by omega,List.getD_eq_getElem?_getD,List.getElem?_eq_getElem (by omega)]; rfl
theorem e_ (l:List Field) (q:Int):(cY l q).getD (dflt .int)=((bw l q:Nat):Int):=by
 unfold cY
 by_cases h:bw l q=0
 ·rw [if_pos h,h]; rfl
 ·rw [if_neg h]; rfl
theorem gg {l:List Field}:(fun _=>none)=cY (l.take 0):=rfl
theorem fS {l:List Field} {k:Nat} (h:l.length<=k):cY (l.take k)=cY l:=by rw [List.take_of_length_le h]
theorem eo {l:List Field} {k:Nat} {x:Field} (hx:l[k]? = some x):(fun j=>if j=x.num then some ((cY (l.take k) x.num).getD (dflt .int)+1) else cY (l.take k) j)=cY (l.take (k+1)):=by
 funext j
 have h:=jb hx j
 by_cases hj:j=x.num
 ·rw [if_pos hj] at h ⊢
  rw [e_]; unfold cY; rw [h,if_neg (by omega)]; rfl
 ·rw [if_neg hj] at h ⊢
  unfold cY; rw [h]
theorem gL {l:List Field} {k:Nat} {x:Field} (hx:l[k]? = some x):x=l.getD k (dflt (.nm .field)):=by rw [List.getD_eq_getElem?_getD,hx]; rfl
theorem oi {l:List Field} {k:Nat} (h:k<l.length):l[k]? = some (l.getD k (dflt (.nm .field))):=by
 rw [List.getD_eq_getElem?_getD,List.getElem?_eq_getElem h]; rfl
theorem qV {l:List Field} {ss:List Spec} {x:Field} {y:Spec} {m:Nat} (h:Wq (zf ss x ((bw l x.num:Nat):Int) m)) (hy:ss[m]? = some y) (hn:¬ y.num=x.num\/vH x y ((cY l x.num).getD (dflt .int))=true):Wq (zf ss x ((bw l x.num:Nat):Int) (m+1)):=
 ⟨yt h.h hy fun e=>by rw [e_] at hn; exact hn.resolve_left (fun h=>h e)⟩
theorem qj {l:List Field} {ss:List Spec} {k m:Nat} (h:Wq (mO l ss k)) (hk:k<l.length) (hi:Wq (zf ss (l.getD k (dflt (.nm .field))) ((bw (l.take (k+1)) (l.getD k (dflt (.nm .field))).num:Nat):Int) m)) (hm:(ss.length:Int)<=(m:Int)):Wq (mO l ss (k+1)):=
 ⟨vT h.h (oi hk) hi.h (by omega) rfl⟩
theorem pL {l:List Field} {ss:List Spec} {k:Nat} (h:Wq (mO l ss k)) (hk:l.length<=k):Wq (mO l ss l.length):=⟨fun j x hj=>h.h j x (by omega)⟩
theorem py {l:List Field} {v:Int} {m:Nat} {y:Spec} (hy:(ao v)[m]? = some y) (hn:y.need=true) (h0:(cY l y.num).getD (dflt .int)=0):¬ lL l v:=Ad hy ⟨hn,by rw [e_] at h0; exact h0⟩ rfl
theorem qc {l:List Field} {ss:List Spec} {m:Nat} {y:Spec} (h:Wq (vM l ss m)) (hy:ss[m]? = some y) (hn:y.need=false\/¬ (cY l y.num).getD (dflt .int)=0):Wq (vM l ss (m+1)):=
 ⟨xU h.h hy fun ha=>by
  rw [e_] at hn
  rcases hn with hn | hn
  ·rw [ha] at hn; cases hn
  ·omega⟩
theorem pq {l:List Field} {v:Int} {k:Nat} (hA:Wq (mO l (ao v) l.length)) (hB:Wq (vM l (ao v) k)) (hk:(ao v).length<=k):lL l v:=Bg hA.h (Nat.le_refl _) hB.h hk
theorem nL {rest:List Field} {v:Int}:gO rest v 0:=fun j y h=>by omega
theorem tf {rest:List Field} {v:Int} {k:Nat} {x:Field} (h:Wq (gO rest v k)) (hx:rest[k]? = some x) (hn:¬ x.num<=aC v):Wq (gO rest v (k+1)):=⟨uJ h.h hx hn⟩
theorem Fz {c:Command} {rest:List Field} {v:Int} (h:br v=false):bu c rest v=1:=Jp (by show (!(br v))=true; rw [h]; rfl)
theorem Fb {c:Command} {rest:List Field} {v:Int} (h:br v=true) (h1:b_ c v=false) (h2:¬ bJ c v=0):bu c rest v=bJ c v:=IP (by show (!(br v))=false; rw [h]; rfl) h1 h2
theorem DU {c:Command} {rest:List Field} {v:Int} {k:Nat} {x:Field} (h:br v=true) (h1:b_ c v=true\/bJ c v=0) (hx:rest[k]? = some x) (hn:x.num<=aC v):bu c rest v=6:=IQ (by show (!(br v))=false; rw [h]; rfl) h1 hx hn
theorem E_ {c:Command} {rest:List Field} {v:Int} {k:Nat} (h:br v=true) (h1:b_ c v=true\/bJ c v=0) (ht:Wq (gO rest v k)) (hk:rest.length<=k):bu c rest v=0:=Jj (by show (!(br v))=false; rw [h]; rfl) h1 ht.h hk
def tB (q:Int) (v:Int) (l:List Field):List (Nat × LI):=[(9,{ σ:=Nat,F:=fun k=>([(7,one (.fz (.nm .spec) (ao v))),(9,one (.mq 0)),(28,one (.fz (.nm .field) (l))),(29,one (.int (l).length)),(30,one (.int k))],[.mapo .int (cY (l.take k))]),J:=fun k=>k<=l.length/\Wq (mO l (ao v) k),μ:=fun k=>(l).length - k }),(13,{ σ:=Nat × Nat,F:=fun q=>([(7,one (.fz (.nm .spec) (ao v))),(9,one (.mq 0)),(11,one (.ptr 1 0)),(28,one (.fz (.nm .field) (l))),(29,one (.int (l).length)),(30,one (.int q.1)),(39,one (.fz (.nm .spec) (ao v))),(40,one (.int (ao v).length)),(41,one (.int q.2))],[.mapo .int (cY (l.take (q.1+1))),.box 58 (cellsOf (.nm .field) (((l.getD q.1 (dflt (.nm .field))))))]),J:=fun q=>q.1<l.length/\q.2<=(ao v).length/\Wq (mO l (ao v) q.1)/\Wq (zf (ao v) (l.getD q.1 (dflt (.nm .field))) ((bw (l.take (q.1+1)) (l.getD q.1 (dflt (.nm .field))).num:Nat):Int) q.2),μ:=fun q=>(ao v).length - q.2,R:=some fun q0 q=>q.1=q0.1 }),(20,{ σ:=Nat,F:=fun k=>([(9,one (.mq 0)),(62,one (.fz (.nm .spec) (ao v))),(63,one (.int (ao v).length)),(64,one (.int k))],[.mapo .int (cY l)]),J:=fun k=>k<=(ao v).length/\Wq (mO l (ao v) l.length)/\Wq (vM l (ao v) k),μ:=fun k=>(ao v).length - k })]
def CS (c:Command) (rest:List Field) (v:Int):List (Nat × LI):=[(9,{ σ:=Nat,F:=fun k=>([(1,one (.fz (.nm .field) (rest))),(2,one (.int (v))),(3,one (.ptr 0 0)),(9,one (.int (aC v))),(27,one (.fz (.nm .field) (rest))),(28,one (.int (rest).length)),(29,one (.int k))],[.box 27 (cellsOf (.nm .command) ((c)))]),J:=fun k=>k<=rest.length/\Wq (gO rest v k),μ:=fun k=>rest.length - k })]
theorem Cm (f:Field) (xs:List Field) (r0:Bool):cD aF yn [] Try.f37 [.agg (cellsOf (.nm .field) f),.c (.ptr 0 0)] [.box 28 ([.own 1]),.row 58 (.nm .field) (xs)] [.c (.bool (.atom (r0)))]=((fun (q2:Int)=>(fun (q1:Int)=>(fun (q0:den (Sh.nm NT.field))=>I64 f.num->I64 f.wire->f.n.n<(18446744073709551616:Nat)->f.b.length*(1:Nat)<=(140737488355328:Nat)->(q2=(0:Int)->true=r0)/\(¬q2=(0:Int)->I64 q1/\((0:Int)<=q1/\q1<q2)/\(I64 q0.num->I64 q0.wire->q0.n.n<(18446744073709551616:Nat)->q0.b.length*(1:Nat)<=(140737488355328:Nat)->bD q0 f=r0))) (xs.getD q1.toNat (dflt (Sh.nm NT.field)))) (q2 - (1:Int))) (↑xs.length:Int)):=by kernel_rfl
theorem A_ (f:Field) (xs:List Field) (h0:xs.length<=20000):Sat Try.prog (al aF) 37 [.agg (cellsOf (.nm .field) f),.c (.ptr 0 0)] [.box 28 ([.own 1]),.row 58 (.nm .field) (xs)] ⟨[xs.length<=20000],[.c (.bool (.atom ((cF xs f))))],none,false⟩:=by
 refine aI kP [] Try.func37 (by decide) (by kernel_rfl) ?_
 rw [Cm]
 (repeat' (first | with_reducible refine And.intro ?_ ?_ | with_reducible refine and_imp.2 ?_ | intro))
 all_goals (first | (first | with_reducible rfl | with_reducible assumption | omega | (refine ag ?_ ?_ <;> omega)) | exact (yX (by with_reducible assumption)) | exact (rR (by with_reducible assumption)))
theorem xk (q:Int) (v:Int) (l:List Field) (r0:Int):cD aF yn (tB q v l) Try.f19 [.c (.int (q)),.c (.int (v)),.c (.fz (.nm .field) (l))] [] [.c (.int (r0))]=((fun (q5:Nat)=>(fun (q4:Int)=>(fun (q3:Int)=>(fun (q2:Nat)=>(fun (q1:den (Sh.nm NT.field))=>(fun (q0:List Spec)=>I64 q->I64 v->l.length*(48:Nat)<=(140737488355328:Nat)->q=q4/\(q0.length*(32:Nat)<=(140737488355328:Nat)->((↑q0.length:Int)=q3->q4=r0)/\(¬(↑q0.length:Int)=q3->I64 (aZ l)->(¬aZ l=q3->aZ l=r0)/\(aZ l=q3->∃ (s0:Nat),(fun (q9:Int)=>(fun (q8:Int)=>(fun (q7:Prop)=>(fun (q6:Nat)=>(q7/\l=l/\(↑l.length:Int)=q8/\q3=(↑s0:Int)/\(fun (_:Int)=>none)=cY (List.take s0 l))/\(s0<=q2/\Wq (mO l q0 s0))/\∀ (s:Nat),(fun (q10:Int)=>s<=q2/\Wq (mO l q0 s)->((↑s:Int)<q8->q3<=(↑s:Int)/\(↑s:Int)<(↑l.length:Int)/\∀ (x:Field),(fun (q11:Int)=>l[s]? = some x->I64 x.num->I64 x.wire->x.n.n<(18446744073709551616:Nat)->x.b.length*q5<=(140737488355328:Nat)->I64 q11/\∃ (s0:Nat × Nat),(fun (q13:Nat)=>(fun (q12:Field)=>(q7/\l=l/\q8=q8/\(↑s:Int)=(↑q13:Int)/\q7/\q9=q10/\q3=(↑s0.snd:Int)/\(fun (j:Int)=>if j=x.num then some q11 else cY (List.take s l) j)=cY (List.take (q13+q5) l)/\x.num=q12.num/\x.wire=q12.wire/\x.n.n=q12.n.n/\x.b=q12.b)/\(q13<q2/\s0.snd<=q6/\Wq (mO l q0 q13)/\Wq (zf q0 q12 (↑(bw (List.take (q13+q5) l) q12.num):Int) s0.snd))/\q13=q13/\∀ (s_1:Nat × Nat),(fun (q16:Int)=>(fun (q15:List Field)=>(fun (q14:Field)=>s_1.fst<q2/\s_1.snd<=q6/\Wq (mO l q0 s_1.fst)/\Wq (zf q0 q14 (↑(bw q15 q14.num):Int) s_1.snd)->s_1.fst=q13->(q16<q10->q3<=q16/\q16<q9/\∀ (x:Spec),(fun (q17:Bool)=>q0[s_1.snd]? = some x->I64 x.num->I64 x.wire->I64 x.since->(x.num=q14.num/\q17=false->(6:Int)=r0)/\(¬x.num=q14.num\/q17=true->I64 (q16+q4)/\∃ (s':Nat × Nat),(fun (q18:Field)=>(q7/\l=l/\q8=q8/\(↑s_1.fst:Int)=(↑s'.fst:Int)/\q7/\q10=q10/\q16+q4=(↑s'.snd:Int)/\cY q15=cY (List.take (s'.fst+q5) l)/\q14.num=q18.num/\q14.wire=q18.wire/\q14.n.n=q18.n.n/\q14.b=q18.b)/\(s'.fst<q2/\s'.snd<=q6/\Wq (mO l q0 s'.fst)/\Wq (zf q0 q18 (↑(bw (List.take (s'.fst+q5) l) q18.num):Int) s'.snd))/\s'.fst=q13/\q6 - s'.snd<q6 - s_1.snd) (l.getD s'.fst q1))) (vH q14 x ((cY q15 q14.num).getD (dflt Sh.int))))/\(q10<=q16->I64 ((↑s_1.fst:Int)+q4)/\∃ (s':Nat),(q7/\l=l/\q8=q8/\(↑s_1.fst:Int)+q4=(↑s':Int)/\cY q15=cY (List.take s' l))/\(s' <= q2/\Wq (mO l q0 s'))/\q2 - s' < q2 - s)) (l.getD s_1.fst q1)) (List.take (s_1.fst+q5) l)) (↑s_1.snd:Int)) (l.getD q13 q1)) s0.fst) ((cY (List.take s l) x.num).getD (dflt Sh.int)+q4))/\(q8<=(↑s:Int)->∃ (s0:Nat),(q7/\q9=q10/\q3=(↑s0:Int)/\cY (List.take s l)=cY l)/\(s0<=q6/\Wq (mO l q0 q2)/\Wq (vM l q0 s0))/\∀ (s:Nat),s<=q6/\Wq (mO l q0 q2)/\Wq (vM l q0 s)->((↑s:Int)<q10->q3<=(↑s:Int)/\(↑s:Int)<q9/\∀ (x:Spec),(fun (q19:Prop)=>q0[s]? = some x->I64 x.num->I64 x.wire->I64 x.since->(x.need=true/\q19->(6:Int)=r0)/\(x.need=false\/¬q19->I64 ((↑s:Int)+q4)/\∃ (s':Nat),(q7/\q10=q10/\(↑s:Int)+q4=(↑s':Int)/\cY l=cY l)/\(s' <= q6/\Wq (mO l q0 q2)/\Wq (vM l q0 s'))/\q6 - s' < q6 - s)) ((cY l x.num).getD (dflt Sh.int)=q3))/\(q10<=(↑s:Int)->q3=r0))) (↑q6:Int)) q0.length) (q0=q0)) (↑q2:Int)) (↑q0.length:Int))))) (ao v)) (dflt (Sh.nm NT.field))) l.length) (0:Int)) (1:Int)) (1:Nat)):=by kernel_rfl
theorem w_ (q:Int) (v:Int) (l:List Field) (h0:q=1):Sat Try.prog (al aF) 19 [.c (.int (q)),.c (.int (v)),.c (.fz (.nm .field) (l))] [] ⟨[q=1],[.c (.int ((cC l v)))],none,false⟩:=by
 refine aI kP (tB q v l) Try.func19 (by decide) (by kernel_rfl) ?_
 rw [xk]
 (repeat' (first | with_reducible refine And.intro ?_ ?_ | with_reducible refine and_imp.2 ?_ | intro))
 all_goals try (first | (first | with_reducible rfl | with_reducible assumption | omega | (refine ag ?_ ?_ <;> omega)) | exact rfl | exact (i_ (by omega)) | exact (je (by omega) (by with_reducible assumption)) | exact gg | exact ⟨ky⟩ | exact ⟨kq⟩ | exact ⟨ku⟩ | exact (eo (by with_reducible assumption)) | exact (congrArg Field.num (gL (by with_reducible assumption))) | exact (congrArg Field.wire (gL (by with_reducible assumption))) | exact (congrArg (fun f=>f.n.n) (gL (by with_reducible assumption))) | exact (congrArg Field.b (gL (by with_reducible assumption))) | exact (dh (by omega) (by with_reducible assumption) (ek (oi (by with_reducible assumption)) (by with_reducible assumption) (And.intro (by with_reducible assumption) (by with_reducible assumption)) (e_ _ _))) | exact (qV (by with_reducible assumption) (by with_reducible assumption) (by assumption)) | exact (qj (by with_reducible assumption) (by with_reducible assumption) (by with_reducible assumption) (by with_reducible assumption)) | exact (pL (by with_reducible assumption) (by omega)) | exact (fS (by omega)) | exact (dh (by omega) (by with_reducible assumption) (py (by with_reducible assumption) (by with_reducible assumption) (by with_reducible assumption))) | exact (qc (by with_reducible assumption) (by with_reducible assumption) (by assumption)) | exact (iV (by omega) (by with_reducible assumption) (pq (by with_reducible assumption) (by with_reducible assumption) (by omega))) | (have h1:=cf (l:=l) (k:=‹Nat›) ‹Field›.num; have h2:=e_ (l.take ‹Nat›) ‹Field›.num; refine ag ?_ ?_ <;> omega))
 all_goals try (refine ⟨0,?_⟩; (repeat' (first | with_reducible refine And.intro ?_ ?_ | with_reducible refine and_imp.2 ?_ | intro)))
 all_goals try (first | (first | with_reducible rfl | with_reducible assumption | omega | (refine ag ?_ ?_ <;> omega)) | exact rfl | exact (i_ (by omega)) | exact (je (by omega) (by with_reducible assumption)) | exact gg | exact ⟨ky⟩ | exact ⟨kq⟩ | exact ⟨ku⟩ | exact (eo (by with_reducible assumption)) | exact (congrArg Field.num (gL (by with_reducible assumption))) | exact (congrArg Field.wire (gL (by with_reducible assumption))) | exact (congrArg (fun f=>f.n.n) (gL (by with_reducible assumption))) | exact (congrArg Field.b (gL (by with_reducible assumption))) | exact (dh (by omega) (by with_reducible assumption) (ek (oi (by with_reducible assumption)) (by with_reducible assumption) (And.intro (by with_reducible assumption) (by with_reducible assumption)) (e_ _ _))) | exact (qV (by with_reducible assumption) (by with_reducible assumption) (by assumption)) | exact (qj (by with_reducible assumption) (by with_reducible assumption) (by with_reducible assumption) (by with_reducible assumption)) | exact (pL (by with_reducible assumption) (by omega)) | exact (fS (by omega)) | exact (dh (by omega) (by with_reducible assumption) (py (by with_reducible assumption) (by with_reducible assumption) (by with_reducible assumption))) | exact (qc (by with_reducible assumption) (by with_reducible assumption) (by assumption)) | exact (iV (by omega) (by with_reducible assumption) (pq (by with_reducible assumption) (by with_reducible assumption) (by omega))) | (have h1:=cf (l:=l) (k:=‹Nat›) ‹Field›.num; have h2:=e_ (l.take ‹Nat›) ‹Field›.num; refine ag ?_ ?_ <;> omega))
 all_goals try (refine ⟨(‹Nat›,0),?_⟩; (repeat' (first | with_reducible refine And.intro ?_ ?_ | with_reducible refine and_imp.2 ?_ | intro)))
 all_goals try (first | (first | with_reducible rfl | with_reducible assumption | omega | (refine ag ?_ ?_ <;> omega)) | exact rfl | exact (i_ (by omega)) | exact (je (by omega) (by with_reducible assumption)) | exact gg | exact ⟨ky⟩ | exact ⟨kq⟩ | exact ⟨ku⟩ | exact (eo (by with_reducible assumption)) | exact (congrArg Field.num (gL (by with_reducible assumption))) | exact (congrArg Field.wire (gL (by with_reducible assumption))) | exact (congrArg (fun f=>f.n.n) (gL (by with_reducible assumption))) | exact (congrArg Field.b (gL (by with_reducible assumption))) | exact (dh (by omega) (by with_reducible assumption) (ek (oi (by with_reducible assumption)) (by with_reducible assumption) (And.intro (by with_reducible assumption) (by with_reducible assumption)) (e_ _ _))) | exact (qV (by with_reducible assumption) (by with_reducible assumption) (by assumption)) | exact (qj (by with_reducible assumption) (by with_reducible assumption) (by with_reducible assumption) (by with_reducible assumption)) | exact (pL (by with_reducible assumption) (by omega)) | exact (fS (by omega)) | exact (dh (by omega) (by with_reducible assumption) (py (by with_reducible assumption) (by with_reducible assumption) (by with_reducible assumption))) | exact (qc (by with_reducible assumption) (by with_reducible assumption) (by assumption)) | exact (iV (by omega) (by with_reducible assumption) (pq (by with_reducible assumption) (by with_reducible assumption) (by omega))) | (have h1:=cf (l:=l) (k:=‹Nat›) ‹Field›.num; have h2:=e_ (l.take ‹Nat›) ‹Field›.num; refine ag ?_ ?_ <;> omega))
 all_goals try (refine ⟨(‹Nat × Nat›.1,‹Nat × Nat›.2+1),?_⟩; (repeat' (first | with_reducible refine And.intro ?_ ?_ | with_reducible refine and_imp.2 ?_ | intro)))
 all_goals try (first | (first | with_reducible rfl | with_reducible assumption | omega | (refine ag ?_ ?_ <;> omega)) | exact rfl | exact (i_ (by omega)) | exact (je (by omega) (by with_reducible assumption)) | exact gg | exact ⟨ky⟩ | exact ⟨kq⟩ | exact ⟨ku⟩ | exact (eo (by with_reducible assumption)) | exact (congrArg Field.num (gL (by with_reducible assumption))) | exact (congrArg Field.wire (gL (by with_reducible assumption))) | exact (congrArg (fun f=>f.n.n) (gL (by with_reducible assumption))) | exact (congrArg Field.b (gL (by with_reducible assumption))) | exact (dh (by omega) (by with_reducible assumption) (ek (oi (by with_reducible assumption)) (by with_reducible assumption) (And.intro (by with_reducible assumption) (by with_reducible assumption)) (e_ _ _))) | exact (qV (by with_reducible assumption) (by with_reducible assumption) (by assumption)) | exact (qj (by with_reducible assumption) (by with_reducible assumption) (by with_reducible assumption) (by with_reducible assumption)) | exact (pL (by with_reducible assumption) (by omega)) | exact (fS (by omega)) | exact (dh (by omega) (by with_reducible assumption) (py (by with_reducible assumption) (by with_reducible assumption) (by with_reducible assumption))) | exact (qc (by with_reducible assumption) (by with_reducible assumption) (by assumption)) | exact (iV (by omega) (by with_reducible assumption) (pq (by with_reducible assumption) (by with_reducible assumption) (by omega))) | (have h1:=cf (l:=l) (k:=‹Nat›) ‹Field›.num; have h2:=e_ (l.take ‹Nat›) ‹Field›.num; refine ag ?_ ?_ <;> omega))
 all_goals try (refine ⟨‹Nat × Nat›.1+1,?_⟩; (repeat' (first | with_reducible refine And.intro ?_ ?_ | with_reducible refine and_imp.2 ?_ | intro)))
 all_goals try (first | (first | with_reducible rfl | with_reducible assumption | omega | (refine ag ?_ ?_ <;> omega)) | exact rfl | exact (i_ (by omega)) | exact (je (by omega) (by with_reducible assumption)) | exact gg | exact ⟨ky⟩ | exact ⟨kq⟩ | exact ⟨ku⟩ | exact (eo (by with_reducible assumption)) | exact (congrArg Field.num (gL (by with_reducible assumption))) | exact (congrArg Field.wire (gL (by with_reducible assumption))) | exact (congrArg (fun f=>f.n.n) (gL (by with_reducible assumption))) | exact (congrArg Field.b (gL (by with_reducible assumption))) | exact (dh (by omega) (by with_reducible assumption) (ek (oi (by with_reducible assumption)) (by with_reducible assumption) (And.intro (by with_reducible assumption) (by with_reducible assumption)) (e_ _ _))) | exact (qV (by with_reducible assumption) (by with_reducible assumption) (by assumption)) | exact (qj (by with_reducible assumption) (by with_reducible assumption) (by with_reducible assumption) (by with_reducible assumption)) | exact (pL (by with_reducible assumption) (by omega)) | exact (fS (by omega)) | exact (dh (by omega) (by with_reducible assumption) (py (by with_reducible assumption) (by with_reducible assumption) (by with_reducible assumption))) | exact (qc (by with_reducible assumption) (by with_reducible assumption) (by assumption)) | exact (iV (by omega) (by with_reducible assumption) (pq (by with_reducible assumption) (by with_reducible assumption) (by omega))) | (have h1:=cf (l:=l) (k:=‹Nat›) ‹Field›.num; have h2:=e_ (l.take ‹Nat›) ‹Field›.num; refine ag ?_ ?_ <;> omega))
 all_goals try (refine ⟨0,?_⟩; (repeat' (first | with_reducible refine And.intro ?_ ?_ | with_reducible refine and_imp.2 ?_ | intro)))
 all_goals try (first | (first | with_reducible rfl | with_reducible assumption | omega | (refine ag ?_ ?_ <;> omega)) | exact rfl | exact (i_ (by omega)) | exact (je (by omega) (by with_reducible assumption)) | exact gg | exact ⟨ky⟩ | exact ⟨kq⟩ | exact ⟨ku⟩ | exact (eo (by with_reducible assumption)) | exact (congrArg Field.num (gL (by with_reducible assumption))) | exact (congrArg Field.wire (gL (by with_reducible assumption))) | exact (congrArg (fun f=>f.n.n) (gL (by with_reducible assumption))) | exact (congrArg Field.b (gL (by with_reducible assumption))) | exact (dh (by omega) (by with_reducible assumption) (ek (oi (by with_reducible assumption)) (by with_reducible assumption) (And.intro (by with_reducible assumption) (by with_reducible assumption)) (e_ _ _))) | exact (qV (by with_reducible assumption) (by with_reducible assumption) (by assumption)) | exact (qj (by with_reducible assumption) (by with_reducible assumption) (by with_reducible assumption) (by with_reducible assumption)) | exact (pL (by with_reducible assumption) (by omega)) | exact (fS (by omega)) | exact (dh (by omega) (by with_reducible assumption) (py (by with_reducible assumption) (by with_reducible assumption) (by with_reducible assumption))) | exact (qc (by with_reducible assumption) (by with_reducible assumption) (by assumption)) | exact (iV (by omega) (by with_reducible assumption) (pq (by with_reducible assumption) (by with_reducible assumption) (by omega))) | (have h1:=cf (l:=l) (k:=‹Nat›) ‹Field›.num; have h2:=e_ (l.take ‹Nat›) ‹Field›.num; refine ag ?_ ?_ <;> omega))
 all_goals try (refine ⟨‹Nat› + 1,?_⟩; (repeat' (first | with_reducible refine And.intro ?_ ?_ | with_reducible refine and_imp.2 ?_ | intro)))
 all_goals try (first | (first | with_reducible rfl | with_reducible assumption | omega | (refine ag ?_ ?_ <;> omega)) | exact rfl | exact (i_ (by omega)) | exact (je (by omega) (by with_reducible assumption)) | exact gg | exact ⟨ky⟩ | exact ⟨kq⟩ | exact ⟨ku⟩ | exact (eo (by with_reducible assumption)) | exact (congrArg Field.num (gL (by with_reducible assumption))) | exact (congrArg Field.wire (gL (by with_reducible assumption))) | exact (congrArg (fun f=>f.n.n) (gL (by with_reducible assumption))) | exact (congrArg Field.b (gL (by with_reducible assumption))) | exact (dh (by omega) (by with_reducible assumption) (ek (oi (by with_reducible assumption)) (by with_reducible assumption) (And.intro (by with_reducible assumption) (by with_reducible assumption)) (e_ _ _))) | exact (qV (by with_reducible assumption) (by with_reducible assumption) (by assumption)) | exact (qj (by with_reducible assumption) (by with_reducible assumption) (by with_reducible assumption) (by with_reducible assumption)) | exact (pL (by with_reducible assumption) (by omega)) | exact (fS (by omega)) | exact (dh (by omega) (by with_reducible assumption) (py (by with_reducible assumption) (by with_reducible assumption) (by with_reducible assumption))) | exact (qc (by with_reducible assumption) (by with_reducible assumption) (by assumption)) | exact (iV (by omega) (by with_reducible assumption) (pq (by with_reducible assumption) (by with_reducible assumption) (by omega))) | (have h1:=cf (l:=l) (k:=‹Nat›) ‹Field›.num; have h2:=e_ (l.take ‹Nat›) ‹Field›.num; refine ag ?_ ?_ <;> omega))
 all_goals (first | (first | with_reducible rfl | with_reducible assumption | omega | (refine ag ?_ ?_ <;> omega)) | exact rfl | exact (i_ (by omega)) | exact (je (by omega) (by with_reducible assumption)) | exact gg | exact ⟨ky⟩ | exact ⟨kq⟩ | exact ⟨ku⟩ | exact (eo (by with_reducible assumption)) | exact (congrArg Field.num (gL (by with_reducible assumption))) | exact (congrArg Field.wire (gL (by with_reducible assumption))) | exact (congrArg (fun f=>f.n.n) (gL (by with_reducible assumption))) | exact (congrArg Field.b (gL (by with_reducible assumption))) | exact (dh (by omega) (by with_reducible assumption) (ek (oi (by with_reducible assumption)) (by with_reducible assumption) (And.intro (by with_reducible assumption) (by with_reducible assumption)) (e_ _ _))) | exact (qV (by with_reducible assumption) (by with_reducible assumption) (by assumption)) | exact (qj (by with_reducible assumption) (by with_reducible assumption) (by with_reducible assumption) (by with_reducible assumption)) | exact (pL (by with_reducible assumption) (by omega)) | exact (fS (by omega)) | exact (dh (by omega) (by with_reducible assumption) (py (by with_reducible assumption) (by with_reducible assumption) (by with_reducible assumption))) | exact (qc (by with_reducible assumption) (by with_reducible assumption) (by assumption)) | exact (iV (by omega) (by with_reducible assumption) (pq (by with_reducible assumption) (by with_reducible assumption) (by omega))) | (have h1:=cf (l:=l) (k:=‹Nat›) ‹Field›.num; have h2:=e_ (l.take ‹Nat›) ‹Field›.num; refine ag ?_ ?_ <;> omega))
theorem DX (c:Command) (rest:List Field) (v:Int) (r0:Int) (r1:List UInt8):tg aF yn (CS c rest v) Try.f14 [.agg (cellsOf (.nm .command) c),.c (.fz (.nm .field) (rest)),.c (.int (v))] [] [.c (.own 0),.c (.int (r0))] [.row 5 .u8 (r1)]=((fun (q3:Int)=>(fun (q2:Nat)=>(fun (q1:Prop)=>(fun (q0:Prop)=>I64 c.kind->I64 c.client->I64 c.seq->I64 c.set->I64 c.id->I64 c.n->c.chunks.length*(8:Nat)<=(140737488355328:Nat)->c.text.b.length<=(140737488355328:Nat)->rest.length*(48:Nat)<=(140737488355328:Nat)->I64 v->(br v=false->(1:Int)=r0/\r1=[])/\(br v=true->(b_ c v=false->I64 (bJ c v)->(¬bJ c v=q3->bJ c v=r0/\r1=[])/\(bJ c v=q3->q0))/\(b_ c v=true->q0))) ((1:Int)=(1:Int)/\(I64 (aC v)->∃ (s0:Nat),(rest=rest/\v=v/\aC v=aC v/\rest=rest/\(↑rest.length:Int)=(↑q2:Int)/\q3=(↑s0:Int)/\q1)/\(s0<=q2/\Wq (gO rest v s0))/\∀ (s:Nat),s<=q2/\Wq (gO rest v s)->((↑s:Int)<(↑q2:Int)->q3<=(↑s:Int)/\(↑s:Int)<(↑rest.length:Int)/\∀ (x:Field),rest[s]? = some x->I64 x.num->I64 x.wire->x.n.n<(18446744073709551616:Nat)->x.b.length*(1:Nat)<=(140737488355328:Nat)->(x.num<=aC v->(6:Int)=r0/\r1=[])/\(aC v<x.num->I64 ((↑s:Int)+(1:Int))/\∃ (s':Nat),(rest=rest/\v=v/\aC v=aC v/\rest=rest/\(↑q2:Int)=(↑q2:Int)/\(↑s:Int)+(1:Int)=(↑s':Int)/\q1)/\(s' <= q2/\Wq (gO rest v s'))/\q2 - s' < q2 - s))/\((↑q2:Int)<=(↑s:Int)->q3<=c.kind/\q3<=c.client/\q3<=c.seq/\q3<=c.set/\q3<=c.id/\q3<=c.n/\((aV c v).length+rest.length)*(48:Nat)<=(140737488355328:Nat)/\(I64 (aZ (aV c v++rest))->aZ (aV c v++rest)=r0/\eH (aV c v++rest)=r1))))) (c.kind=c.kind/\c.client=c.client/\c.seq=c.seq/\c.set=c.set/\c.id=c.id/\c.n=c.n/\c.chunks=c.chunks/\c.text=c.text)) rest.length) (0:Int)):=by kernel_rfl
theorem DR (c:Command) (rest:List Field) (v:Int) (h0:rest.length<=20000):Sat Try.prog (al aF) 14 [.agg (cellsOf (.nm .command) c),.c (.fz (.nm .field) (rest)),.c (.int (v))] [] ⟨[rest.length<=20000],[.c (.own 0),.c (.int ((bS c rest v)))],some ([.row 5 .u8 ((cq c rest v))]),true⟩:=by
 refine eR kP (CS c rest v) Try.func14 (by decide) (by kernel_rfl) ?_
 rw [DX]
 (repeat' (first | with_reducible refine And.intro ?_ ?_ | with_reducible refine and_imp.2 ?_ | intro))
 all_goals try (first | (first | with_reducible rfl | with_reducible assumption | omega | (refine ag ?_ ?_ <;> omega)) | exact rfl | exact ⟨nL⟩ | exact (tf (by with_reducible assumption) (by with_reducible assumption) (by omega)) | exact (cb (Fz (by with_reducible assumption)) (by decide)) | exact (ca (Fz (by with_reducible assumption)) (by decide)).symm | exact (cb (Fb (by with_reducible assumption) (by with_reducible assumption) (by with_reducible assumption)) (by with_reducible assumption)) | exact (ca (Fb (by with_reducible assumption) (by with_reducible assumption) (by with_reducible assumption)) (by with_reducible assumption)).symm | exact (cb (DU (by with_reducible assumption) (by first | exact .inl (by with_reducible assumption) | exact .inr (by with_reducible assumption)) (by with_reducible assumption) (by with_reducible assumption)) (by decide)) | exact (ca (DU (by with_reducible assumption) (by first | exact .inl (by with_reducible assumption) | exact .inr (by with_reducible assumption)) (by with_reducible assumption) (by with_reducible assumption)) (by decide)).symm | exact (nz (E_ (by with_reducible assumption) (by first | exact .inl (by with_reducible assumption) | exact .inr (by with_reducible assumption)) (by with_reducible assumption) (by omega))) | exact (nF (E_ (by with_reducible assumption) (by first | exact .inl (by with_reducible assumption) | exact .inr (by with_reducible assumption)) (by with_reducible assumption) (by omega))) | (have h:0<=c.kind/\0<=c.client/\0<=c.seq/\0<=c.set/\0<=c.id/\0<=c.n:=(by first | exact jL (by with_reducible assumption) | exact jS (by with_reducible assumption)); omega) | (have h:=dv c v; omega))
 all_goals try (refine ⟨0,?_⟩; (repeat' (first | with_reducible refine And.intro ?_ ?_ | with_reducible refine and_imp.2 ?_ | intro)))
 all_goals try (first | (first | with_reducible rfl | with_reducible assumption | omega | (refine ag ?_ ?_ <;> omega)) | exact rfl | exact ⟨nL⟩ | exact (tf (by with_reducible assumption) (by with_reducible assumption) (by omega)) | exact (cb (Fz (by with_reducible assumption)) (by decide)) | exact (ca (Fz (by with_reducible assumption)) (by decide)).symm | exact (cb (Fb (by with_reducible assumption) (by with_reducible assumption) (by with_reducible assumption)) (by with_reducible assumption)) | exact (ca (Fb (by with_reducible assumption) (by with_reducible assumption) (by with_reducible assumption)) (by with_reducible assumption)).symm | exact (cb (DU (by with_reducible assumption) (by first | exact .inl (by with_reducible assumption) | exact .inr (by with_reducible assumption)) (by with_reducible assumption) (by with_reducible assumption)) (by decide)) | exact (ca (DU (by with_reducible assumption) (by first | exact .inl (by with_reducible assumption) | exact .inr (by with_reducible assumption)) (by with_reducible assumption) (by with_reducible assumption)) (by decide)).symm | exact (nz (E_ (by with_reducible assumption) (by first | exact .inl (by with_reducible assumption) | exact .inr (by with_reducible assumption)) (by with_reducible assumption) (by omega))) | exact (nF (E_ (by with_reducible assumption) (by first | exact .inl (by with_reducible assumption) | exact .inr (by with_reducible assumption)) (by with_reducible assumption) (by omega))) | (have h:0<=c.kind/\0<=c.client/\0<=c.seq/\0<=c.set/\0<=c.id/\0<=c.n:=(by first | exact jL (by with_reducible assumption) | exact jS (by with_reducible assumption)); omega) | (have h:=dv c v; omega))
 all_goals try (refine ⟨‹Nat› + 1,?_⟩; (repeat' (first | with_reducible refine And.intro ?_ ?_ | with_reducible refine and_imp.2 ?_ | intro)))
 all_goals (first | (first | with_reducible rfl | with_reducible assumption | omega | (refine ag ?_ ?_ <;> omega)) | exact rfl | exact ⟨nL⟩ | exact (tf (by with_reducible assumption) (by with_reducible assumption) (by omega)) | exact (cb (Fz (by with_reducible assumption)) (by decide)) | exact (ca (Fz (by with_reducible assumption)) (by decide)).symm | exact (cb (Fb (by with_reducible assumption) (by with_reducible assumption) (by with_reducible assumption)) (by with_reducible assumption)) | exact (ca (Fb (by with_reducible assumption) (by with_reducible assumption) (by with_reducible assumption)) (by with_reducible assumption)).symm | exact (cb (DU (by with_reducible assumption) (by first | exact .inl (by with_reducible assumption) | exact .inr (by with_reducible assumption)) (by with_reducible assumption) (by with_reducible assumption)) (by decide)) | exact (ca (DU (by with_reducible assumption) (by first | exact .inl (by with_reducible assumption) | exact .inr (by with_reducible assumption)) (by with_reducible assumption) (by with_reducible assumption)) (by decide)).symm | exact (nz (E_ (by with_reducible assumption) (by first | exact .inl (by with_reducible assumption) | exact .inr (by with_reducible assumption)) (by with_reducible assumption) (by omega))) | exact (nF (E_ (by with_reducible assumption) (by first | exact .inl (by with_reducible assumption) | exact .inr (by with_reducible assumption)) (by with_reducible assumption) (by omega))) | (have h:0<=c.kind/\0<=c.client/\0<=c.seq/\0<=c.set/\0<=c.id/\0<=c.n:=(by first | exact jL (by with_reducible assumption) | exact jS (by with_reducible assumption)); omega) | (have h:=dv c v; omega))
noncomputable def FP:cH:=(bT 14 (bM (ai (kT (.nm .command)) (ai (kC (cL (.nm .field))) (ai (kC cI) aO))) aP fun (c,rest,v,_) (_)=>⟨[rest.length<=20000],[.c (.own 0),.c (.int ((bS c rest v)))],some ([.row 5 .u8 ((cq c rest v))]),true⟩) (bT 19 (bM (ai (kC cI) (ai (kC cI) (ai (kC (cL (.nm .field))) aO))) aP fun (q,v,l,_) (_)=>⟨[q=1],[.c (.int ((cC l v)))],none,false⟩) (bT 37 (bM (ai (kT (.nm .field)) (ai (kC (mR 0 0)) aO)) (eT (mU 28 (iN (yv 1) mV)) (eT (vQ 58 (.nm .field)) aP)) fun (f,_,_) ((_,_),xs,_)=>⟨[xs.length<=20000],[.c (.bool (.atom ((cF xs f))))],none,false⟩) yn)))
theorem sg:aT Try.prog (al aF) FP:=(av (au (ab ck (ab (aq bf) (ab (aq aK) aj))) ak fun (c,rest,v,_) (_) hp=>DR c rest v (fH hp)) (av (au (ab (aq aK) (ab (aq aK) (ab (aq bf) aj))) ak fun (q,v,l,_) (_) hp=>w_ q v l (fH hp)) (av (au (ab ck (ab (aq ei) aj)) (cr (ez (dZ oR eh)) (cr pf ak)) fun (f,_,_) ((_,_),xs,_) hp=>A_ f xs (fH hp)) kP)))
end Go.Proofs.Ytladifkbefehdaa
namespace Go.Proofs.Ytladifkbefehdaa
open Go.RowKit
def tH (b:List UInt8) (s:Nat × List Field):Nat × List Field:=(s.1+(aw (b.drop s.1)).1,s.2++[dR ((b.drop s.1).take (((s.1:Int)+((aw (b.drop s.1)).1:Nat)).toNat - s.1))])
theorem yW {b:List UInt8} {s:Nat × List Field}:(tH b s).2=s.2++[dR ((b.drop s.1).take (aw (b.drop s.1)).1)]:=by
 unfold tH; rw [show ((s.1:Int)+((aw (b.drop s.1)).1:Nat)).toNat - s.1=(aw (b.drop s.1)).1 by omega]
theorem GJ {b:List UInt8} (h:16384<(b.length:Int)):az b=([],4):=Fw (by omega)
theorem Iz {b:List UInt8} {s:Nat × List Field} (h:Wq (ct b s.1 s.2)) (hi:(s.1:Int)<(b.length:Int)) (hs:¬ (aw (b.drop s.1)).2=0):az b=([],(aw (b.drop s.1)).2):=BT h.h (by omega) hs
theorem IB {b:List UInt8} {s:Nat × List Field} (h:Wq (ct b s.1 s.2)) (hi:(s.1:Int)<(b.length:Int)) (hs:(aw (b.drop s.1)).2=0) (hr:cF s.2 (dR ((b.drop s.1).take (((s.1:Int)+((aw (b.drop s.1)).1:Nat)).toNat - s.1)))=false):az b=([],5):=by
 rw [show ((s.1:Int)+((aw (b.drop s.1)).1:Nat)).toNat - s.1=(aw (b.drop s.1)).1 by omega] at hr
 obtain ⟨f,_,e⟩:=zd h.h (show s.1<b.length by omega)
 rw [e,if_pos hs,hr,if_neg (by decide)]
theorem Iy {b:List UInt8} {s:Nat × List Field} (h:Wq (ct b s.1 s.2)) (hi:(s.1:Int)<(b.length:Int)) (hs:(aw (b.drop s.1)).2=0) (hr:cF s.2 (dR ((b.drop s.1).take (((s.1:Int)+((aw (b.drop s.1)).1:Nat)).toNat - s.1)))=true):Wq (ct b (tH b s).1 (tH b s).2):=by
 rw [show ((s.1:Int)+((aw (b.drop s.1)).1:Nat)).toNat - s.1=(aw (b.drop s.1)).1 by omega] at hr
 obtain ⟨f,hf,e⟩:=zd h.h (show s.1<b.length by omega)
 have hp:=jf hs
 rw [yW]
 refine ⟨f,by show b.length - (s.1+(aw (b.drop s.1)).1)<=f; omega,?_⟩
 rw [e,if_pos hs,hr,if_pos rfl,List.drop_drop]; rfl
theorem IJ {b:List UInt8} {s:Nat × List Field} (h:Wq (ct b s.1 s.2)) (hi:(b.length:Int)<=(s.1:Int)):az b=(s.2,0):=Ed h.h (by omega)
theorem GC {b:List UInt8} {s:Nat × List Field} (hi:s.1<=b.length):(tH b s).1<=b.length:=by
 have:=dA (b.drop s.1); rw [List.length_drop] at this; show s.1+_<=_; omega
theorem GB {b:List UInt8} {s:Nat × List Field} (hl:s.2.length<=s.1) (hs:(aw (b.drop s.1)).2=0):(tH b s).2.length<=(tH b s).1:=by
 have hp:=jf hs
 rw [yW,List.length_append]; simp only [List.length_cons,List.length_nil]; show _<=s.1+_; omega
theorem Gy {b:List UInt8} {s:Nat × List Field} (hi:(s.1:Int)<(b.length:Int)) (hs:(aw (b.drop s.1)).2=0):b.length - (tH b s).1<b.length - s.1:=by
 have hp:=jf hs; show b.length - (s.1+_)<_; omega
def xF (b:List UInt8):List (Nat × LI):=[(6,{ σ:=Nat × List Field,F:=fun s=>([(0,one (.fz .u8 (b))),(4,one (.ptr 0 0)),(5,one (.fn 37 [] [(0,0)])),(6,one (.int s.1))],[.box 28 ([.own 1]),.row 58 (.nm .field) ((s.2))]),J:=fun s=>Wq (ct b s.1 s.2)/\s.1<=b.length/\s.2.length<=s.1,μ:=fun s=>b.length - s.1 })]
theorem Bc (b:List UInt8) (r0:List Field) (r1:Int):cD aF FP (xF b) Try.f18 [.c (.fz .u8 (b))] [] [.c (.fz (.nm .field) (r0)),.c (.int (r1))]=((fun (q1:Int)=>(fun (q0:Int)=>b.length*(1:Nat)<=(140737488355328:Nat)->((16384:Int)<q0->r0=[]/\(4:Int)=r1)/\(q0<=(16384:Int)->∃ (s0:Nat × List Field),(b=b/\q1=(↑s0.fst:Int)/\s0.snd=[])/\(Wq (ct b s0.fst s0.snd)/\s0.fst<=b.length/\s0.snd.length<=s0.fst)/\∀ (s:Nat × List Field),(fun (q5:Int)=>(fun (q4:Nat × Int)=>(fun (q3:Int)=>(fun (q2:Field)=>Wq (ct b s.fst s.snd)/\s.fst<=b.length/\s.snd.length<=s.fst->(q5<q0->q1<=q5/\q5<=q0/\(I64 (↑q4.fst:Int)->I64 q4.snd->(¬q4.snd=q1->r0=[]/\q4.snd=r1)/\(q4.snd=q1->I64 q3/\q1<=q5/\q5<=q3/\q3<=q0/\(I64 q2.num->I64 q2.wire->q2.n.n<(18446744073709551616:Nat)->q2.b.length*(1:Nat)<=(140737488355328:Nat)->s.snd.length<=(20000:Nat)/\(cF s.snd q2=false->r0=[]/\(5:Int)=r1)/\(cF s.snd q2=true->(s.snd.length+[q2].length)*(48:Nat)<=(140737488355328:Nat)/\I64 q3/\∃ (s':Nat × List Field),(b=b/\q3=(↑s'.fst:Int)/\s.snd++[q2]=s'.snd)/\(Wq (ct b s'.fst s'.snd)/\s'.fst<=b.length/\s'.snd.length<=s'.fst)/\b.length - s'.fst<b.length - s.fst)))))/\(q0<=q5->s.snd=r0/\q1=r1)) (dR (List.take (q3.toNat - s.fst) (List.drop s.fst b)))) (q5+(↑q4.fst:Int))) (aw (List.drop s.fst b))) (↑s.fst:Int))) (↑b.length:Int)) (0:Int)):=by kernel_rfl
theorem Cb (b:List UInt8):Sat Try.prog (al aF) 18 [.c (.fz .u8 (b))] [] ⟨[],[.c (.fz (.nm .field) (((az b).1))),.c (.int (((az b).2)))],none,false⟩:=by
 refine aI sg (xF b) Try.func18 (by decide) (by kernel_rfl) ?_
 rw [Bc]
 (repeat' (first | with_reducible refine And.intro ?_ ?_ | with_reducible refine and_imp.2 ?_ | intro))
 all_goals try (first | (first | with_reducible rfl | with_reducible assumption | omega | (refine ag ?_ ?_ <;> omega)) | exact rfl | exact ⟨fa (by omega)⟩ | (rw [GJ (by with_reducible assumption)] <;> rfl) | (rw [Iz (by with_reducible assumption) (by with_reducible assumption) (by with_reducible assumption)] <;> rfl) | (rw [IB (by with_reducible assumption) (by with_reducible assumption) (by with_reducible assumption) (by with_reducible assumption)] <;> rfl) | (rw [IJ (by with_reducible assumption) (by with_reducible assumption)] <;> rfl) | exact (Iy (by with_reducible assumption) (by with_reducible assumption) (by with_reducible assumption) (by with_reducible assumption)) | exact (GC (by with_reducible assumption)) | exact (GB (by with_reducible assumption) (by with_reducible assumption)) | exact (Gy (by with_reducible assumption) (by with_reducible assumption)) | (have h:=dA (b.drop ‹Nat × List Field›.1); rw [List.length_drop] at h; first | omega | (refine ag ?_ ?_ <;> omega)) | (simp only [List.length_cons,List.length_nil]; omega))
 all_goals try (refine ⟨(0,[]),?_⟩; (repeat' (first | with_reducible refine And.intro ?_ ?_ | with_reducible refine and_imp.2 ?_ | intro)))
 all_goals try (first | (first | with_reducible rfl | with_reducible assumption | omega | (refine ag ?_ ?_ <;> omega)) | exact rfl | exact ⟨fa (by omega)⟩ | (rw [GJ (by with_reducible assumption)] <;> rfl) | (rw [Iz (by with_reducible assumption) (by with_reducible assumption) (by with_reducible assumption)] <;> rfl) | (rw [IB (by with_reducible assumption) (by with_reducible assumption) (by with_reducible assumption) (by with_reducible assumption)] <;> rfl) | (rw [IJ (by with_reducible assumption) (by with_reducible assumption)] <;> rfl) | exact (Iy (by with_reducible assumption) (by with_reducible assumption) (by with_reducible assumption) (by with_reducible assumption)) | exact (GC (by with_reducible assumption)) | exact (GB (by with_reducible assumption) (by with_reducible assumption)) | exact (Gy (by with_reducible assumption) (by with_reducible assumption)) | (have h:=dA (b.drop ‹Nat × List Field›.1); rw [List.length_drop] at h; first | omega | (refine ag ?_ ?_ <;> omega)) | (simp only [List.length_cons,List.length_nil]; omega))
 all_goals try (refine ⟨tH b ‹Nat × List Field›,?_⟩; (repeat' (first | with_reducible refine And.intro ?_ ?_ | with_reducible refine and_imp.2 ?_ | intro)))
 all_goals (first | (first | with_reducible rfl | with_reducible assumption | omega | (refine ag ?_ ?_ <;> omega)) | exact rfl | exact ⟨fa (by omega)⟩ | (rw [GJ (by with_reducible assumption)] <;> rfl) | (rw [Iz (by with_reducible assumption) (by with_reducible assumption) (by with_reducible assumption)] <;> rfl) | (rw [IB (by with_reducible assumption) (by with_reducible assumption) (by with_reducible assumption) (by with_reducible assumption)] <;> rfl) | (rw [IJ (by with_reducible assumption) (by with_reducible assumption)] <;> rfl) | exact (Iy (by with_reducible assumption) (by with_reducible assumption) (by with_reducible assumption) (by with_reducible assumption)) | exact (GC (by with_reducible assumption)) | exact (GB (by with_reducible assumption) (by with_reducible assumption)) | exact (Gy (by with_reducible assumption) (by with_reducible assumption)) | (have h:=dA (b.drop ‹Nat × List Field›.1); rw [List.length_drop] at h; first | omega | (refine ag ?_ ?_ <;> omega)) | (simp only [List.length_cons,List.length_nil]; omega))
noncomputable def yo:cH:=(bT 18 (bM (ai (kC (cL .u8)) aO) aP fun (b,_) (_)=>⟨[],[.c (.fz (.nm .field) (((az b).1))),.c (.int (((az b).2)))],none,false⟩) FP)
theorem kN:aT Try.prog (al aF) yo:=(av (au (ab (aq bf) aj) ak fun (b,_) (_) _=>Cb b ) sg)
end Go.Proofs.Ytladifkbefehdaa
namespace Go.Proofs.Ytladifkbefehdaa
open Go.RowKit
theorem IA {v:Int} (h:br v=true):1<=v/\v<=3:=by
 unfold br at h; simpa using h
theorem DK {b:List UInt8} {v:Int} (h1:(az b).2=0) (h2:cC (az b).1 v=0):gT b v=0:=by rw [gT,if_pos h1,h2]
theorem JR {b:List UInt8} {v:Int} (h:br v=false):bF b v=⟨bd,[],1⟩:=Jk (fun h2=>by unfold br at h; simp only [h2,decide_true,Bool.and_self] at h; cases h)
theorem JL {b:List UInt8} {v:Int} (h:br v=true) (h1:(az b).2=0) (h2:¬ cC (az b).1 v=0):bF b v=⟨bd,[],cC (az b).1 v⟩:=by
 have e:gT b v=cC (az b).1 v:=by rw [gT,if_pos h1]
 rw [Hx (IA h) (by rw [e]; exact h2),e]
theorem J_ {b:List UInt8} {v:Int} (h:br v=true) (h1:¬ (az b).2=0):bF b v=⟨bd,[],(az b).2⟩:=by
 have e:gT b v=(az b).2:=by rw [gT,if_neg h1]
 rw [Hx (IA h) (by rw [e]; exact h1),e]
theorem Kq {b:List UInt8} {v:Int} (h:br v=true) (h1:(az b).2=0) (h2:cC (az b).1 v=0) (h3:¬ bS (a_ (aQ (az b).1 (aC v))) (bp (az b).1 (aC v)) v=0\/decide (cq (a_ (aQ (az b).1 (aC v))) (bp (az b).1 (aC v)) v=b)=false):bF b v=⟨bd,[],6⟩:=
 Hv (IA h) (DK h1 h2) (h3.imp_right fun h=>by simpa using h)
theorem Kj {b:List UInt8} {v:Int} (h:br v=true) (h1:(az b).2=0) (h2:cC (az b).1 v=0) (h3:bS (a_ (aQ (az b).1 (aC v))) (bp (az b).1 (aC v)) v=0) (h4:decide (cq (a_ (aQ (az b).1 (aC v))) (bp (az b).1 (aC v)) v=b)=true):bF b v=⟨a_ (aQ (az b).1 (aC v)),bp (az b).1 (aC v),0⟩:=
 Hz (IA h) (DK h1 h2) ⟨h3,of_decide_eq_true h4⟩
theorem Ff {a b:List Field} {k:Nat} (ha:k<a.length) (hb:k<b.length) (h:(((¬ (a.getD k (dflt (.nm .field))).num=(b.getD k (dflt (.nm .field))).num\/¬ (a.getD k (dflt (.nm .field))).wire=(b.getD k (dflt (.nm .field))).wire)\/¬ ((a.getD k (dflt (.nm .field))).n.n:Int)=((b.getD k (dflt (.nm .field))).n.n:Int))\/¬ Str.mk (a.getD k (dflt (.nm .field))).b=Str.mk (b.getD k (dflt (.nm .field))).b)):false=decide (a=b):=
 Az (oi ha) (oi hb) fun e=>by rw [e] at h; simp at h
theorem EW {a b:List Field} {k:Nat} (h:a.take k=b.take k) (ha:k<a.length) (hb:k<b.length) (h1:(a.getD k (dflt (.nm .field))).num=(b.getD k (dflt (.nm .field))).num) (h2:(a.getD k (dflt (.nm .field))).wire=(b.getD k (dflt (.nm .field))).wire) (h3:((a.getD k (dflt (.nm .field))).n.n:Int)=((b.getD k (dflt (.nm .field))).n.n:Int)) (h4:Str.mk (a.getD k (dflt (.nm .field))).b=Str.mk (b.getD k (dflt (.nm .field))).b):a.take (k+1)=b.take (k+1):=
 uT h (oi ha) (oi hb) (Bw ⟨⟨⟨h1,h2⟩,h3⟩,congrArg Str.b h4⟩)
def xW (a:List Field) (b:List Field):List (Nat × LI):=[(4,{ σ:=Nat,F:=fun k=>([(0,one (.fz (.nm .field) (a))),(1,one (.fz (.nm .field) (b))),(5,one (.int k))],[]),J:=fun k=>k<=a.length/\a.take k=b.take k,μ:=fun k=>a.length - k })]
theorem By (b:List UInt8) (v:Int) (r0:Command) (r1:List Field) (r2:Int):cD aF yo [] Try.f8 [.c (.fz .u8 (b)),.c (.int (v))] [] [.agg (cellsOf (.nm .command) r0),.c (.fz (.nm .field) (r1)),.c (.int (r2))]=((fun (q8:Nat)=>(fun (q7:Int)=>(fun (q6:Prop)=>(fun (q5:Prop)=>(fun (q4:List Field)=>(fun (q3:List Field)=>(fun (q2:Int)=>(fun (q1:Command)=>(fun (q0:Prop)=>b.length*(1:Nat)<=q8->I64 v->(br v=false->q2=r0.kind/\q2=r0.client/\q2=r0.seq/\q2=r0.set/\q2=r0.id/\q2=r0.n/\q6/\q5/\r1=[]/\(1:Int)=r2)/\(br v=true->q4.length*(48:Nat)<=q8->I64 q7->(q7=q2->(1:Int)=(1:Int)/\(I64 (cC q4 v)->(¬cC q4 v=q2->q2=r0.kind/\q2=r0.client/\q2=r0.seq/\q2=r0.set/\q2=r0.id/\q2=r0.n/\q6/\q5/\r1=[]/\cC q4 v=r2)/\(cC q4 v=q2->q0)))/\(¬q7=q2->(¬q7=q2->q2=r0.kind/\q2=r0.client/\q2=r0.seq/\q2=r0.set/\q2=r0.id/\q2=r0.n/\q6/\q5/\r1=[]/\q7=r2)/\(q7=q2->q0)))) ((1:Int)=(1:Int)/\(I64 (aC v)->(aQ q4 (aC v)).length*(48:Nat)<=q8->q3.length*(48:Nat)<=q8->(∀ (f:Field),List.Mem f (aQ q4 (aC v))->f.b.length<=(16384:Nat))/\(I64 q1.kind->I64 q1.client->I64 q1.seq->I64 q1.set->I64 q1.id->I64 q1.n->q1.chunks.length*(8:Nat)<=q8->q1.text.b.length<=q8->q3.length<=(20000:Nat)/\(I64 (bS q1 q3 v)->(¬bS q1 q3 v=q2\/decide (cq q1 q3 v=b)=false->q2=r0.kind/\q2=r0.client/\q2=r0.seq/\q2=r0.set/\q2=r0.id/\q2=r0.n/\q6/\q5/\r1=[]/\(6:Int)=r2)/\(bS q1 q3 v=q2/\decide (cq q1 q3 v=b)=true->q1.kind=r0.kind/\q1.client=r0.client/\q1.seq=r0.seq/\q1.set=r0.set/\q1.id=r0.id/\q1.n=r0.n/\q1.chunks=r0.chunks/\q1.text=r0.text/\q3=r1/\q2=r2)))))) (a_ (aQ q4 (aC v)))) (0:Int)) (bp q4 (aC v))) (az b).fst) (Str.mk []=r0.text)) (r0.chunks=[])) (az b).snd) (140737488355328:Nat)):=by kernel_rfl
theorem Bp (b:List UInt8) (v:Int):Sat Try.prog (al aF) 8 [.c (.fz .u8 (b)),.c (.int (v))] [] ⟨[],[.agg (cellsOf (.nm .command) ((bF b v).c)),.c (.fz (.nm .field) (((bF b v).r))),.c (.int (((bF b v).e)))],none,false⟩:=by
 refine aI kN [] Try.func8 (by decide) (by kernel_rfl) ?_
 rw [By]
 (repeat' (first | with_reducible refine And.intro ?_ ?_ | with_reducible refine and_imp.2 ?_ | intro))
 all_goals (first | (first | with_reducible rfl | with_reducible assumption | omega | (refine ag ?_ ?_ <;> omega)) | (rw [JR (by with_reducible assumption)] <;> rfl) | (rw [JL (by with_reducible assumption) (by with_reducible assumption) (by with_reducible assumption)] <;> rfl) | (rw [J_ (by with_reducible assumption) (by with_reducible assumption)] <;> rfl) | (rw [Kq (by with_reducible assumption) (by with_reducible assumption) (by with_reducible assumption) (by assumption)] <;> rfl) | (rw [Kj (by with_reducible assumption) (by with_reducible assumption) (by with_reducible assumption) (by with_reducible assumption) (by with_reducible assumption)] <;> rfl) | exact (yI (DK (by with_reducible assumption) (by with_reducible assumption)) _ (by assumption)) | (have h1:=dz (az b).1 (aC v); have h2:=kK b; omega))
theorem Br (a:List Field) (b:List Field) (r0:Bool):cD aF yo (xW a b) Try.f11 [.c (.fz (.nm .field) (a)),.c (.fz (.nm .field) (b))] [] [.c (.bool (.atom (r0)))]=((fun (q6:Nat)=>(fun (q5:Nat)=>(fun (q4:Int)=>(fun (q3:Int)=>(fun (q2:Nat)=>(fun (q1:Int)=>(fun (q0:den (Sh.nm NT.field))=>a.length*(48:Nat)<=q2->b.length*(48:Nat)<=q2->(¬q1=q3->false=r0)/\(q1=q3->∃ (s0:Nat),(a=a/\b=b/\q4=(↑s0:Int))/\(s0<=a.length/\List.take s0 a=List.take s0 b)/\∀ (s:Nat),(fun (q10:Int)=>(fun (q9:den (Sh.nm NT.field))=>(fun (q8:den (Sh.nm NT.field))=>(fun (q7:Prop)=>s<=a.length/\List.take s a=List.take s b->(q10<q1->q4<=q10/\q10<q1/\q4<=q10/\q10<q3/\(q8.num=q9.num->q4<=q10/\q10<q1)/\(q8.num=q9.num->q4<=q10/\q10<q3)/\(q7->q4<=q10/\q10<q1)/\(q7->q4<=q10/\q10<q3)/\(q7/\(↑q8.n.n:Int)=(↑q9.n.n:Int)->q4<=q10/\q10<q1)/\(q7/\(↑q8.n.n:Int)=(↑q9.n.n:Int)->q4<=q10/\q10<q3)/\(I64 q8.num->I64 q8.wire->q8.n.n<q6->q8.b.length*q5<=q2->I64 q9.num->I64 q9.wire->q9.n.n<q6->q9.b.length*q5<=q2->(q8.num=q9.num->I64 q8.num/\I64 q8.wire/\q8.n.n<q6/\q8.b.length*q5<=q2)->(q8.num=q9.num->I64 q9.num/\I64 q9.wire/\q9.n.n<q6/\q9.b.length*q5<=q2)->(q7->I64 q8.num/\I64 q8.wire/\q8.n.n<q6/\q8.b.length*q5<=q2)->(q7->I64 q9.num/\I64 q9.wire/\q9.n.n<q6/\q9.b.length*q5<=q2)->(q7/\(↑q8.n.n:Int)=(↑q9.n.n:Int)->I64 q8.num/\I64 q8.wire/\q8.n.n<q6/\q8.b.length*q5<=q2)->(q7/\(↑q8.n.n:Int)=(↑q9.n.n:Int)->I64 q9.num/\I64 q9.wire/\q9.n.n<q6/\q9.b.length*q5<=q2)->(((¬q8.num=q9.num\/¬q8.wire=q9.wire)\/¬(↑q8.n.n:Int)=(↑q9.n.n:Int))\/¬Str.mk q8.b=Str.mk q9.b->false=r0)/\((q7/\(↑q8.n.n:Int)=(↑q9.n.n:Int))/\Str.mk q8.b=Str.mk q9.b->I64 (q10+(1:Int))/\∃ (s':Nat),(a=a/\b=b/\q10+(1:Int)=(↑s':Int))/\(s' <= a.length/\List.take s' a=List.take s' b)/\a.length - s' < a.length - s)))/\(q1<=q10->true=r0)) (q8.num=q9.num/\q8.wire=q9.wire)) (a.getD s q0)) (b.getD s q0)) (↑s:Int))) (dflt (Sh.nm NT.field))) (↑a.length:Int)) (140737488355328:Nat)) (↑b.length:Int)) (0:Int)) (1:Nat)) (18446744073709551616:Nat)):=by kernel_rfl
theorem Aw (a:List Field) (b:List Field):Sat Try.prog (al aF) 11 [.c (.fz (.nm .field) (a)),.c (.fz (.nm .field) (b))] [] ⟨[],[.c (.bool (.atom ((decide (a=b)))))],none,false⟩:=by
 refine aI kN (xW a b) Try.func11 (by decide) (by kernel_rfl) ?_
 rw [Br]
 (repeat' (first | with_reducible refine And.intro ?_ ?_ | with_reducible refine and_imp.2 ?_ | intro))
 all_goals try (first | (first | with_reducible rfl | with_reducible assumption | omega | (refine ag ?_ ?_ <;> omega)) | exact rfl | exact (lJ (by with_reducible assumption)) | exact (Ff (k:=‹Nat›) (by omega) (by omega) (by assumption)) | exact (EW (by with_reducible assumption) (by omega) (by omega) (by with_reducible assumption) (by with_reducible assumption) (by with_reducible assumption) (by with_reducible assumption)) | exact (lx (by with_reducible assumption) (by omega) (by omega)))
 all_goals try (refine ⟨0,?_⟩; (repeat' (first | with_reducible refine And.intro ?_ ?_ | with_reducible refine and_imp.2 ?_ | intro)))
 all_goals try (first | (first | with_reducible rfl | with_reducible assumption | omega | (refine ag ?_ ?_ <;> omega)) | exact rfl | exact (lJ (by with_reducible assumption)) | exact (Ff (k:=‹Nat›) (by omega) (by omega) (by assumption)) | exact (EW (by with_reducible assumption) (by omega) (by omega) (by with_reducible assumption) (by with_reducible assumption) (by with_reducible assumption) (by with_reducible assumption)) | exact (lx (by with_reducible assumption) (by omega) (by omega)))
 all_goals try (refine ⟨‹Nat› + 1,?_⟩; (repeat' (first | with_reducible refine And.intro ?_ ?_ | with_reducible refine and_imp.2 ?_ | intro)))
 all_goals (first | (first | with_reducible rfl | with_reducible assumption | omega | (refine ag ?_ ?_ <;> omega)) | exact rfl | exact (lJ (by with_reducible assumption)) | exact (Ff (k:=‹Nat›) (by omega) (by omega) (by assumption)) | exact (EW (by with_reducible assumption) (by omega) (by omega) (by with_reducible assumption) (by with_reducible assumption) (by with_reducible assumption) (by with_reducible assumption)) | exact (lx (by with_reducible assumption) (by omega) (by omega)))
theorem wz  (r0:Bool):cD aF yo [] Try.f6 [] [] [.c (.bool (.atom (r0)))]=((fun (q2:Int)=>(fun (q1:Str)=>(fun (q0:Command)=>(0:Nat)<=(20000:Nat)/\(I64 (bS q0 [] (1:Int))->(Str.mk (cq q0 [] (1:Int))=q1/\bS q0 [] (1:Int)=q2->I64 (aL (11:Int)))->(decide (Str.mk (cq q0 [] (1:Int))=q1) && decide (bS q0 [] (1:Int)=q2) && decide (aL (11:Int)=(3:Int)))=r0)) (Command.mk (8:Int) q2 q2 q2 q2 (2:Int) [] (Str.mk []))) (Str.mk [UInt8.ofNat (8:Nat),UInt8.ofNat (8:Nat),UInt8.ofNat (48:Nat),UInt8.ofNat (2:Nat)])) (0:Int)):=by kernel_rfl
theorem xe :Sat Try.prog (al aF) 6 [] [] ⟨[],[.c (.bool (.atom ((true))))],none,false⟩:=by
 refine aI kN [] Try.func6 (by decide) (by kernel_rfl) ?_
 rw [wz]
 (repeat' (first | with_reducible refine And.intro ?_ ?_ | with_reducible refine and_imp.2 ?_ | intro))
 all_goals (first | (first | with_reducible rfl | with_reducible assumption | omega | (refine ag ?_ ?_ <;> omega)) | decide +kernel)
noncomputable def u_:cH:=(bT 6 (bM aO aP fun (_) (_)=>⟨[],[.c (.bool (.atom ((true))))],none,false⟩) (bT 11 (bM (ai (kC (cL (.nm .field))) (ai (kC (cL (.nm .field))) aO)) aP fun (a,b,_) (_)=>⟨[],[.c (.bool (.atom ((decide (a=b)))))],none,false⟩) (bT 8 (bM (ai (kC (cL .u8)) (ai (kC cI) aO)) aP fun (b,v,_) (_)=>⟨[],[.agg (cellsOf (.nm .command) ((bF b v).c)),.c (.fz (.nm .field) (((bF b v).r))),.c (.int (((bF b v).e)))],none,false⟩) yo)))
theorem iG:aT Try.prog (al aF) u_:=(av (au aj ak fun (_) (_) _=>xe  ) (av (au (ab (aq bf) (ab (aq bf) aj)) ak fun (a,b,_) (_) _=>Aw a b ) (av (au (ab (aq bf) (ab (aq aK) aj)) ak fun (b,v,_) (_) _=>Bp b v ) kN)))
end Go.Proofs.Ytladifkbefehdaa
namespace Go.Proofs.Ytladifkbefehdaa
open Go.RowKit
end Go.Proofs.Ytladifkbefehdaa
namespace Go.Proofs.Ytladifkbefehdaa
open Go.RowKit
theorem Jv {p:List UInt8} {r n:Nat} (h:p++bb r=bb n) (hr:¬ r<128):(p++[UInt8.ofNat ((r % 128+128) % 18446744073709551616)])++bb (r / 128)=bb n:=by
 rw [Nat.mod_eq_of_lt (show r % 128+128<18446744073709551616 by omega)]; exact uA h hr
theorem IY {p:List UInt8} {r n:Nat} {x:UInt8} (h:p++bb r=bb n) (hn:n<18446744073709551616):(p.length+[x].length)*1<=140737488355328:=by
 have:=zx h hn; rw [List.length_singleton]; omega
def Df (n:U64):List (Nat × LI):=[(2,{ σ:=List UInt8 × Nat,F:=fun s=>([(0,one (.u64 s.2)),(3,one (.own 0))],[.row 5 .u8 ((s.1))]),J:=fun s=>s.1++bb s.2=bb n.n/\s.2<18446744073709551616/\n.n<18446744073709551616,μ:=fun s=>s.2 })]
theorem EB (n:U64) (r0:List UInt8):tg aF u_ (Df n) Try.f69 [.c (.u64 (n).n)] [] [.c (.own 0)] [.row 5 .u8 (r0)]=((fun (q1:Nat)=>(fun (q0:Nat)=>n.n<q1->∃ (s0:List UInt8 × Nat),(n.n=s0.snd/\s0.fst=[])/\(s0.fst++bb s0.snd=bb n.n/\s0.snd<q1/\n.n<q1)/\∀ (s:List UInt8 × Nat),(fun (q2:List (den Sh.u8))=>s.fst++bb s.snd=bb n.n/\s.snd<q1/\n.n<q1->((↑q0:Int)<=(↑s.snd:Int)->(0:Nat)<q0/\(s.fst.length+q2.length)*(1:Nat)<=(140737488355328:Nat)/\(0:Nat)<q0/\∃ (s':List UInt8 × Nat),(s.snd / q0=s'.snd/\s.fst++q2=s'.fst)/\(s'.fst++bb s'.snd=bb n.n/\s'.snd<q1/\n.n<q1)/\s'.snd<s.snd)/\((↑s.snd:Int)<(↑q0:Int)->(s.fst.length+[UInt8.ofNat s.snd].length)*(1:Nat)<=(140737488355328:Nat)/\s.fst++[UInt8.ofNat s.snd]=r0)) [UInt8.ofNat ((s.snd % q0+q0) % q1)]) (128:Nat)) (18446744073709551616:Nat)):=by kernel_rfl
theorem Ez (n:U64):Sat Try.prog (al aF) 69 [.c (.u64 (n).n)] [] ⟨[],[.c (.own 0)],some ([.row 5 .u8 ((bb n.n))]),true⟩:=by
 refine eR iG (Df n) Try.func69 (by decide) (by kernel_rfl) ?_
 rw [EB]
 (repeat' (first | with_reducible refine And.intro ?_ ?_ | with_reducible refine and_imp.2 ?_ | intro))
 all_goals try (first | (first | with_reducible rfl | with_reducible assumption | omega | (refine ag ?_ ?_ <;> omega)) | exact (Jv (by with_reducible assumption) (by omega)) | exact (me (by with_reducible assumption) (by omega)) | exact rfl | exact (IY (by with_reducible assumption) (by with_reducible assumption)))
 all_goals try (refine ⟨([],n.n),?_⟩; (repeat' (first | with_reducible refine And.intro ?_ ?_ | with_reducible refine and_imp.2 ?_ | intro)))
 all_goals try (first | (first | with_reducible rfl | with_reducible assumption | omega | (refine ag ?_ ?_ <;> omega)) | exact (Jv (by with_reducible assumption) (by omega)) | exact (me (by with_reducible assumption) (by omega)) | exact rfl | exact (IY (by with_reducible assumption) (by with_reducible assumption)))
 all_goals try (refine ⟨(‹List UInt8 × Nat›.1++[UInt8.ofNat ((‹List UInt8 × Nat›.2 % 128+128) % 18446744073709551616)],‹List UInt8 × Nat›.2 / 128),?_⟩; (repeat' (first | with_reducible refine And.intro ?_ ?_ | with_reducible refine and_imp.2 ?_ | intro)))
 all_goals (first | (first | with_reducible rfl | with_reducible assumption | omega | (refine ag ?_ ?_ <;> omega)) | exact (Jv (by with_reducible assumption) (by omega)) | exact (me (by with_reducible assumption) (by omega)) | exact rfl | exact (IY (by with_reducible assumption) (by with_reducible assumption)))
theorem zP (a:Field) (f:Field) (r0:Bool):cD aF u_ [] Try.f49 [.agg (cellsOf (.nm .field) a),.agg (cellsOf (.nm .field) f)] [] [.c (.bool (.atom (r0)))]=(I64 a.num->I64 a.wire->a.n.n<(18446744073709551616:Nat)->a.b.length*(1:Nat)<=(140737488355328:Nat)->I64 f.num->I64 f.wire->f.n.n<(18446744073709551616:Nat)->f.b.length*(1:Nat)<=(140737488355328:Nat)->(decide (f.num<a.num) || decide (f.num=a.num) && (!decide (a.wire=(2:Int)) || !decide (f.wire=(2:Int))))=r0):=by kernel_rfl
theorem wG (a:Field) (f:Field):Sat Try.prog (al aF) 49 [.agg (cellsOf (.nm .field) a),.agg (cellsOf (.nm .field) f)] [] ⟨[],[.c (.bool (.atom ((!bD a f))))],none,false⟩:=by
 refine aI iG [] Try.func49 (by decide) (by kernel_rfl) ?_
 rw [zP]
 grind [bD]
theorem Fg (a:Int) (b:Int) (n:Bool) (r0:Spec):cD aF u_ [] Try.f85 [.c (.int (a)),.c (.int (b)),.c (.bool (.atom (n)))] [] [.agg (cellsOf (.nm .spec) r0)]=(I64 a->I64 b->a=r0.num/\(0:Int)=r0.wire/\b=r0.since/\n=r0.need/\false=r0.many):=by kernel_rfl
theorem FL (a:Int) (b:Int) (n:Bool):Sat Try.prog (al aF) 85 [.c (.int (a)),.c (.int (b)),.c (.bool (.atom (n)))] [] ⟨[],[.agg (cellsOf (.nm .spec) (⟨a,0,b,n,false⟩))],none,false⟩:=by
 refine aI iG [] Try.func85 (by decide) (by kernel_rfl) ?_
 rw [Fg]
 grind
theorem DF (a:Int) (b:Int) (n:Bool) (m:Bool) (r0:Spec):cD aF u_ [] Try.f86 [.c (.int (a)),.c (.int (b)),.c (.bool (.atom (n))),.c (.bool (.atom (m)))] [] [.agg (cellsOf (.nm .spec) r0)]=(I64 a->I64 b->a=r0.num/\(2:Int)=r0.wire/\b=r0.since/\n=r0.need/\m=r0.many):=by kernel_rfl
theorem FI (a:Int) (b:Int) (n:Bool) (m:Bool):Sat Try.prog (al aF) 86 [.c (.int (a)),.c (.int (b)),.c (.bool (.atom (n))),.c (.bool (.atom (m)))] [] ⟨[],[.agg (cellsOf (.nm .spec) (⟨a,2,b,n,m⟩))],none,false⟩:=by
 refine aI iG [] Try.func86 (by decide) (by kernel_rfl) ?_
 rw [DF]
 grind
noncomputable def uG:cH:=(bT 86 (bM (ai (kC cI) (ai (kC cI) (ai (kC cB) (ai (kC cB) aO)))) aP fun (a,b,n,m,_) (_)=>⟨[],[.agg (cellsOf (.nm .spec) (⟨a,2,b,n,m⟩))],none,false⟩) (bT 85 (bM (ai (kC cI) (ai (kC cI) (ai (kC cB) aO))) aP fun (a,b,n,_) (_)=>⟨[],[.agg (cellsOf (.nm .spec) (⟨a,0,b,n,false⟩))],none,false⟩) (bT 49 (bM (ai (kT (.nm .field)) (ai (kT (.nm .field)) aO)) aP fun (a,f,_) (_)=>⟨[],[.c (.bool (.atom ((!bD a f))))],none,false⟩) (bT 69 (bM (ai (kC cU) aO) aP fun (n,_) (_)=>⟨[],[.c (.own 0)],some ([.row 5 .u8 ((bb n.n))]),true⟩) u_))))
theorem jh:aT Try.prog (al aF) uG:=(av (au (ab (aq aK) (ab (aq aK) (ab (aq p_) (ab (aq p_) aj)))) ak fun (a,b,n,m,_) (_) _=>FI a b n m ) (av (au (ab (aq aK) (ab (aq aK) (ab (aq p_) aj))) ak fun (a,b,n,_) (_) _=>FL a b n ) (av (au (ab ck (ab ck aj)) ak fun (a,f,_) (_) _=>wG a f ) (av (au (ab (aq wY) aj) ak fun (n,_) (_) _=>Ez n ) iG))))
end Go.Proofs.Ytladifkbefehdaa
namespace Go.Proofs.Ytladifkbefehdaa
open Go.RowKit
def jZ (b:List UInt8):Nat->Nat
 | 0=>0
 | k+1=>(jZ b k+(b.getD k 0).toNat % 128*2 ^ (7*k) % 18446744073709551616) % 18446744073709551616
def vN (b:List UInt8) (k:Nat) (x:UInt8):Nat:=(jZ b k+(x % UInt8.ofNat 128).toNat*2 ^ (7*(k:Int)).toNat % 18446744073709551616) % 18446744073709551616
theorem canon:∀ {l:List UInt8} {k n v e:Nat},aY k n l=(v,e,0)->∃ u j,v=n+u*2 ^ (7*k)/\e=k+j/\bb u=l.take j/\(0<k->u≠0)
 | [],k,n,v,e,h=>by rw [aY] at h; split at h <;> cases h
 | x :: r,k,n,v,e,h=>by
  rw [aY] at h
  split at h
  ·cases h
  ·split at h
   ·cases h
   ·rename_i h1 h2
    split at h
    ·rename_i h3
     cases h
     refine ⟨x.toNat,1,by rw [nC h3],rfl,?_,fun hk e=>h2 (.inl ⟨hk,e⟩)⟩
     rw [fq h3]; simp
    ·rename_i h3
     obtain ⟨u,j,rfl,rfl,hp,hu⟩:=canon h
     refine ⟨x.toNat % 128+128*u,j+1,?_,by omega,?_,fun _ e=>by have:=hu (by omega); omega⟩
     ·rw [fR,show 7*(k+1)=7*k+7 by omega,Nat.pow_add,Nat.add_mul,Nat.add_assoc,show (2:Nat) ^ 7=128 from rfl,Nat.mul_comm (2 ^ (7*k)) 128,<- Nat.mul_assoc,Nat.mul_comm u 128]
     ·have hu0:=hu (by omega)
      rw [lX (by omega),tJ,show (x.toNat % 128+128*u) / 128=u by omega,hp,List.take_succ_cons]
      congr 1
      apply UInt8.toNat_inj.1
      have:=x.toNat_lt
      rw [UInt8.toNat_ofNat']
      omega
def zW (b:List UInt8) (k:Nat):Prop:=(k<=9->ae b=aY k (jZ b k) (b.drop k)/\jZ b k<2 ^ (7*k))/\(k=10->ae b=(0,0,3))
theorem Gn (b:List UInt8):zW b 0:=⟨fun _=>⟨rfl,show (0:Nat)<2 ^ (7*0) by decide⟩,fun h=>by omega⟩
theorem Ei {b:List UInt8} {k:Nat} (h:Wq (zW b k)) (hk:(k:Int)<10) (hb:(b.length:Int)<=(k:Int)):ae b=(0,0,2):=(h.h.1 (by omega)).1.trans (xH (by omega) (by omega))
theorem FD {b:List UInt8} {k:Nat} (h:Wq (zW b k)) (hk:10<=(k:Int)) (hk2:k<=10):ae b=(0,0,3):=h.h.2 (by omega)
theorem s_ {b:List UInt8} {k:Nat} {x:UInt8} (hx:b[k]? = some x):vN b k x=jZ b (k+1):=by
 unfold vN
 rw [jZ,List.getD_eq_getElem?_getD,hx,show (7*(k:Int)).toNat=7*k by omega,UInt8.toNat_mod]; rfl
theorem yJ {b:List UInt8} {k:Nat} {x:UInt8} (hk:k<=9) (hn:jZ b k<2 ^ (7*k)) (h9:k=9->x.toNat<=1):vN b k x=jZ b k+(x &&& 127).toNat*2 ^ (7*k):=by
 have hs:=rQ hk h9
 have ho:=rh (k:=k) (m:=(x &&& 127).toNat) hn
 have hl:jZ b k ||| (x &&& 127).toNat*2 ^ (7*k)<2 ^ 64:=Nat.or_lt_two_pow (Nat.lt_of_lt_of_le hn (Nat.pow_le_pow_right (by decide) (by omega))) hs
 rw [ho] at hl
 unfold vN
 rw [show (7*(k:Int)).toNat=7*k by omega,UInt8.toNat_mod,show (UInt8.ofNat 128).toNat=128 from rfl,<- fR,Nat.mod_eq_of_lt hs,Nat.mod_eq_of_lt hl]
theorem FQ {b:List UInt8} {k:Nat} {x y:UInt8} (h:Wq (zW b k)) (hk:(k:Int)<10) (hx:b[k]? = some x) (hy:b[k]? = some y) (h1:((UInt8.ofNat 128).toNat:Int)<=(y.toNat:Int)):Wq (zW b (k+1)):=by
 rw [hx] at hy; cases hy
 rw [show (UInt8.ofNat 128).toNat=128 from rfl] at h1
 obtain ⟨he,hn⟩:=h.h.1 (by omega)
 refine ⟨fun h9=>?_,fun h9=>nU he (by omega) hx (.inr ⟨by omega,by omega⟩)⟩
 have e:=yJ (x:=x) (by omega) hn (by omega)
 rw [<- s_ hx,e]
 exact ⟨su he (by omega) hx (by omega) (by omega) (by omega),nP hn⟩
theorem nR {b:List UInt8} {k:Nat} {x:UInt8} (h:Str.mk (bb (vN b k x))=Str.mk (b.take ((k:Int)+1).toNat)) (hx:b[k]? = some x):ae b=(vN b k x,k+1,0):=by
 have h2:bb (vN b k x)=b.take (k+1):=by have:=congrArg Str.b h; rw [show ((k:Int)+1).toNat=k+1 by omega] at this; exact this
 have hv:vN b k x<18446744073709551616:=Nat.mod_lt _ (by decide)
 have e:=nJ hv (b.drop (k+1))
 rw [h2,List.take_append_drop,List.length_take,Nat.min_eq_left (jo hx)] at e
 exact e
theorem Ds {b:List UInt8} {k:Nat} {x y:UInt8} (h2:¬ Str.mk (bb (vN b k x))=Str.mk (b.take ((k:Int)+1).toNat)) (h:Wq (zW b k)) (hk:(k:Int)<10) (hx:b[k]? = some x) (hy:b[k]? = some y) (h1:(y.toNat:Int)<((UInt8.ofNat 128).toNat:Int)):ae b=(0,0,3):=by
 rw [hx] at hy; cases hy
 rw [show (UInt8.ofNat 128).toNat=128 from rfl] at h1
 obtain ⟨he,hn⟩:=h.h.1 (by omega)
 by_cases hz:(0<k/\x.toNat=0)\/(k=9/\1<x.toNat)
 ·exact nU he (by omega) hx hz
 ·exfalso
  have hd:=tE he (by omega) hx (fun h=>hz (.inl h)) (fun h=>hz (.inr h)) (by omega)
  have e:=yJ (b:=b) (x:=x) (show k<=9 by omega) hn (by omega)
  rw [<- e] at hd
  obtain ⟨u,j,h3,h4,h5,_⟩:=canon (k:=0) (n:=0) hd
  have h6:u=vN b k x:=by simpa using h3.symm
  have h7:j=k+1:=by omega
  rw [h6,h7] at h5
  exact h2 (by rw [show ((k:Int)+1).toNat=k+1 by omega,h5])
def tj (b:List UInt8):List (Nat × LI):=[(3,{ σ:=Nat,F:=fun k=>([(0,one (.fz .u8 (b))),(5,one (.u64 (jZ b k))),(6,one (.int k))],[]),J:=fun k=>k<=10/\k<=b.length/\Wq (zW b k),μ:=fun k=>10 - k })]
def Dh (l:List Int):List (Nat × LI):=[(5,{ σ:=Nat,F:=fun k=>([(0,one (.fz .int (l))),(4,one (.own 0)),(5,one (.int k))],[.row 5 .u8 ((cm (l.take k)))]),J:=fun k=>k<=l.length/\rowF l=true,μ:=fun k=>l.length - k })]
theorem zr (b:List UInt8) (r0:U64) (r1:Int) (r2:Int):cD aF uG (tj b) Try.f48 [.c (.fz .u8 (b))] [] [.c (.u64 (r0).n),.c (.int (r1)),.c (.int (r2))]=((fun (q6:Int)=>(fun (q5:Int)=>(fun (q4:Nat)=>(fun (q3:Int)=>(fun (q2:Int)=>(fun (q1:Prop)=>(fun (q0:UInt8)=>b.length*(1:Nat)<=(140737488355328:Nat)->∃ (s0:Nat),(b=b/\(0:Nat)=jZ b s0/\q3=(↑s0:Int))/\(s0<=(10:Nat)/\s0<=b.length/\Wq (zW b s0))/\∀ (s:Nat),(fun (q9:Int)=>(fun (q8:Nat)=>(fun (q7:Int)=>s<=(10:Nat)/\s<=b.length/\Wq (zW b s)->(q9<(10:Int)->(q5<=q9->(0:Nat)=r0.n/\q3=r1/\(2:Int)=r2)/\(q9<q5->q3<=q9/\q9<q5/\∀ (x:UInt8),(fun (q10:Nat)=>b[s]? = some x->(0:Nat)<q0.toNat/\I64 (q6*q9)/\q3<=q6*q9/\q6*q9<(64:Int)/\q3<=q9/\q9<q5/\∀ (x:UInt8),(fun (q11:Prop)=>b[s]? = some x->((↑x.toNat:Int)<(↑q0.toNat:Int)->I64 q7/\(q3<=q7/\q7<=q5)/\(¬q11->q1)/\(q11->I64 q7/\q10=r0.n/\q7=r1/\q3=r2))/\((↑q0.toNat:Int)<=(↑x.toNat:Int)->I64 q7/\∃ (s':Nat),(b=b/\q10=jZ b s' /\ q7=(↑s':Int))/\(s' <= (10:Nat)/\s' <= b.length/\Wq (zW b s'))/\(10:Nat) - s' < (10:Nat) - s)) (Str.mk (bb q10)=Str.mk (List.take q7.toNat b))) ((jZ b s+(x % q0).toNat*q8 % q4) % q4)))/\((10:Int)<=q9->q1)) (q9+q2)) ((2:Nat) ^ (q6*q9).toNat)) (↑s:Int)) (UInt8.ofNat (128:Nat))) ((0:Nat)=r0.n/\q3=r1/\(3:Int)=r2)) (1:Int)) (0:Int)) (18446744073709551616:Nat)) (↑b.length:Int)) (7:Int)):=by kernel_rfl
theorem yj (b:List UInt8):Sat Try.prog (al aF) 48 [.c (.fz .u8 (b))] [] ⟨[],[.c (.u64 ((U64.mk (ae b).1)).n),.c (.int ((((ae b).2.1:Nat)))),.c (.int (((ae b).2.2)))],none,false⟩:=by
 refine aI jh (tj b) Try.func48 (by decide) (by kernel_rfl) ?_
 rw [zr]
 (repeat' (first | with_reducible refine And.intro ?_ ?_ | with_reducible refine and_imp.2 ?_ | intro))
 all_goals try (first | (first | with_reducible rfl | with_reducible assumption | omega | (refine ag ?_ ?_ <;> omega)) | exact rfl | exact ⟨Gn b⟩ | (rw [Ei (by with_reducible assumption) (by with_reducible assumption) (by with_reducible assumption)] <;> rfl) | (rw [FD (by with_reducible assumption) (by with_reducible assumption) (by with_reducible assumption)] <;> rfl) | (rw [Ds (by assumption) (by with_reducible assumption) (by with_reducible assumption) (by with_reducible assumption) (by with_reducible assumption) (by with_reducible assumption)] <;> rfl) | exact (congrArg Prod.fst (nR (by assumption) (by with_reducible assumption))).symm | exact (congrArg (fun t=>((t.2.1:Nat):Int)) (nR (by assumption) (by with_reducible assumption))).symm | exact (congrArg (fun t=>t.2.2) (nR (by assumption) (by with_reducible assumption))).symm | exact (FQ (by with_reducible assumption) (by with_reducible assumption) (by with_reducible assumption) (by with_reducible assumption) (by with_reducible assumption)) | exact (s_ (by with_reducible assumption)) | decide)
 all_goals try (refine ⟨0,?_⟩; (repeat' (first | with_reducible refine And.intro ?_ ?_ | with_reducible refine and_imp.2 ?_ | intro)))
 all_goals try (first | (first | with_reducible rfl | with_reducible assumption | omega | (refine ag ?_ ?_ <;> omega)) | exact rfl | exact ⟨Gn b⟩ | (rw [Ei (by with_reducible assumption) (by with_reducible assumption) (by with_reducible assumption)] <;> rfl) | (rw [FD (by with_reducible assumption) (by with_reducible assumption) (by with_reducible assumption)] <;> rfl) | (rw [Ds (by assumption) (by with_reducible assumption) (by with_reducible assumption) (by with_reducible assumption) (by with_reducible assumption) (by with_reducible assumption)] <;> rfl) | exact (congrArg Prod.fst (nR (by assumption) (by with_reducible assumption))).symm | exact (congrArg (fun t=>((t.2.1:Nat):Int)) (nR (by assumption) (by with_reducible assumption))).symm | exact (congrArg (fun t=>t.2.2) (nR (by assumption) (by with_reducible assumption))).symm | exact (FQ (by with_reducible assumption) (by with_reducible assumption) (by with_reducible assumption) (by with_reducible assumption) (by with_reducible assumption)) | exact (s_ (by with_reducible assumption)) | decide)
 all_goals try (refine ⟨‹Nat› + 1,?_⟩; (repeat' (first | with_reducible refine And.intro ?_ ?_ | with_reducible refine and_imp.2 ?_ | intro)))
 all_goals (first | (first | with_reducible rfl | with_reducible assumption | omega | (refine ag ?_ ?_ <;> omega)) | exact rfl | exact ⟨Gn b⟩ | (rw [Ei (by with_reducible assumption) (by with_reducible assumption) (by with_reducible assumption)] <;> rfl) | (rw [FD (by with_reducible assumption) (by with_reducible assumption) (by with_reducible assumption)] <;> rfl) | (rw [Ds (by assumption) (by with_reducible assumption) (by with_reducible assumption) (by with_reducible assumption) (by with_reducible assumption) (by with_reducible assumption)] <;> rfl) | exact (congrArg Prod.fst (nR (by assumption) (by with_reducible assumption))).symm | exact (congrArg (fun t=>((t.2.1:Nat):Int)) (nR (by assumption) (by with_reducible assumption))).symm | exact (congrArg (fun t=>t.2.2) (nR (by assumption) (by with_reducible assumption))).symm | exact (FQ (by with_reducible assumption) (by with_reducible assumption) (by with_reducible assumption) (by with_reducible assumption) (by with_reducible assumption)) | exact (s_ (by with_reducible assumption)) | decide)
theorem Du (num:Int) (wire:Int) (r0:Int) (r1:List UInt8):tg aF uG [] Try.f68 [.c (.int (num)),.c (.int (wire))] [] [.c (.own 0),.c (.int (r0))] [.row 5 .u8 (r1)]=((fun (q0:Int)=>I64 num->I64 wire->((num<(1:Int)\/(1000:Int)<num)\/¬wire=(0:Int)/\¬wire=(2:Int)->(1:Int)=r0/\r1=[])/\(((1:Int)<=num/\num<=(1000:Int))/\(wire=(0:Int)\/wire=(2:Int))->I64 ((8:Int)*num)/\I64 q0/\(0:Int)<=q0/\(0:Int)=r0/\bb q0.toNat=r1)) ((8:Int)*num+wire)):=by kernel_rfl
theorem DW (num:Int) (wire:Int):Sat Try.prog (al aF) 68 [.c (.int (num)),.c (.int (wire))] [] ⟨[],[.c (.own 0),.c (.int ((fF num wire)))],some ([.row 5 .u8 ((gE num wire))]),true⟩:=by
 refine eR jh [] Try.func68 (by decide) (by kernel_rfl) ?_
 rw [Du]
 (repeat' (first | with_reducible refine And.intro ?_ ?_ | with_reducible refine and_imp.2 ?_ | intro))
 all_goals (first | (first | with_reducible rfl | with_reducible assumption | omega | (refine ag ?_ ?_ <;> omega)) | exact (iY (by omega)) | exact (fI (by omega)) | exact (kO (by omega)).symm | exact (kO (by omega)) | exact (pA (by omega)))
theorem DA (q:Int) (r0:List Spec):cD aF uG [] Try.f70 [.c (.int (q))] [] [.c (.fz (.nm .spec) (r0))]=((fun (q7:Int)=>(fun (q6:Int)=>(fun (q5:Int)=>(fun (q4:Int)=>(fun (q3:Int)=>(fun (q2:Int)=>(fun (q1:Int)=>(fun (q0:Int)=>I64 q->(q=q0->I64 q0->I64 q1->I64 q0->I64 q2->I64 q1->I64 q0->I64 q3->I64 q1->I64 q0->I64 q4->I64 q1->I64 q0->I64 q5->I64 q1->I64 q0->I64 q6->I64 q1->I64 q0->I64 q7->I64 q2->I64 q0->I64 (8:Int)->I64 q2->I64 q3->[Spec.mk q0 q1 q0 true false,Spec.mk q2 q1 q0 false false,Spec.mk q3 q1 q0 false false,Spec.mk q4 q1 q0 false false,Spec.mk q5 q1 q0 false false,Spec.mk q6 q1 q0 false false,Spec.mk q7 q2 q0 false false,Spec.mk (8:Int) q2 q3 false false]=r0)/\(¬q=q0->(q=q2->I64 q0->I64 q1->I64 q0->I64 q2->I64 q1->I64 q0->I64 q3->I64 q2->I64 q0->I64 q4->I64 q1->I64 q2->I64 q5->I64 q2->I64 q3->[Spec.mk q0 q1 q0 true false,Spec.mk q2 q1 q0 true false,Spec.mk q3 q2 q0 true false,Spec.mk q4 q1 q2 false false,Spec.mk q5 q2 q3 false false]=r0)/\(¬q=q2->(q=q3->I64 q0->I64 q1->I64 q0->I64 q2->I64 q1->I64 q0->[Spec.mk q0 q1 q0 true false,Spec.mk q2 q1 q0 true false]=r0)/\(¬q=q3->(q=q4->I64 q0->I64 q1->I64 q0->I64 q2->I64 q1->I64 q0->I64 q3->I64 q1->I64 q0->I64 q4->I64 q1->I64 q0->[Spec.mk q0 q1 q0 true false,Spec.mk q2 q1 q0 false false,Spec.mk q3 q1 q0 false false,Spec.mk q4 q1 q0 false false]=r0)/\(¬q=q4->(q=q5->I64 q0->I64 q1->I64 q0->I64 q2->I64 q1->I64 q0->I64 q3->I64 q1->I64 q0->I64 q4->I64 q2->I64 q0->I64 q5->I64 q2->I64 q0->I64 q6->I64 q2->I64 q0->I64 q7->I64 q1->I64 q3->[Spec.mk q0 q1 q0 true false,Spec.mk q2 q1 q0 true false,Spec.mk q3 q1 q0 false false,Spec.mk q4 q2 q0 false true,Spec.mk q5 q2 q0 false true,Spec.mk q6 q2 q0 false true,Spec.mk q7 q1 q3 false false]=r0)/\(¬q=q5->(q=q6->I64 q0->I64 q1->I64 q0->I64 q2->I64 q1->I64 q0->I64 q3->I64 q1->I64 q0->I64 q4->I64 q1->I64 q0->I64 q5->I64 q1->I64 q0->I64 q6->I64 q1->I64 q0->I64 q7->I64 q1->I64 q0->I64 (8:Int)->I64 q1->I64 q0->I64 (9:Int)->I64 q1->I64 q0->I64 (10:Int)->I64 q2->I64 q0->[Spec.mk q0 q1 q0 true false,Spec.mk q2 q1 q0 true false,Spec.mk q3 q1 q0 true false,Spec.mk q4 q1 q0 true false,Spec.mk q5 q1 q0 false false,Spec.mk q6 q1 q0 false false,Spec.mk q7 q1 q0 false false,Spec.mk (8:Int) q1 q0 false false,Spec.mk (9:Int) q1 q0 false false,Spec.mk (10:Int) q2 q0 false true]=r0)/\(¬q=q6->(q=q7->I64 q0->I64 q1->I64 q0->I64 q2->I64 q2->I64 q0->[Spec.mk q0 q1 q0 true false,Spec.mk q2 q2 q0 false false]=r0)/\(¬q=q7->r0=[])))))))) (1:Int)) (0:Int)) (2:Int)) (3:Int)) (4:Int)) (5:Int)) (6:Int)) (7:Int)):=by kernel_rfl
theorem Ex (q:Int) (h0:q=1):Sat Try.prog (al aF) 70 [.c (.int (q))] [] ⟨[q=1],[.c (.fz (.nm .spec) ((aA)))],none,false⟩:=by
 refine aI jh [] Try.func70 (by decide) (by kernel_rfl) ?_
 rw [DA]
 subst h0; (repeat' (first | with_reducible refine And.intro ?_ ?_ | with_reducible refine and_imp.2 ?_ | intro))
 all_goals (first | (first | with_reducible rfl | with_reducible assumption | omega | (refine ag ?_ ?_ <;> omega)) | exact rfl)
theorem Em (l:List Int) (r0:Int) (r1:List UInt8):tg aF uG (Dh l) Try.f52 [.c (.fz .int (l))] [] [.c (.own 0),.c (.int (r0))] [.row 5 .u8 (r1)]=((fun (q0:Prop)=>l.length*(8:Nat)<=(140737488355328:Nat)->(rowF l=false->(1:Int)=r0/\r1=[])/\(q0->∃ (s0:Nat),(l=l/\(0:Int)=(↑s0:Int)/\cm (List.take s0 l)=[])/\(s0<=l.length/\q0)/\∀ (s:Nat),s<=l.length/\q0->((↑s:Int)<(↑l.length:Int)->(0:Int)<=(↑s:Int)/\(↑s:Int)<(↑l.length:Int)/\∀ (x:Int),l[s]? = some x->I64 x->(0:Int)<=x/\((cm (List.take s l)).length+(bb x.toNat).length)*(1:Nat)<=(140737488355328:Nat)/\I64 ((↑s:Int)+(1:Int))/\∃ (s':Nat),(l=l/\(↑s:Int)+(1:Int)=(↑s':Int)/\cm (List.take s l)++bb x.toNat=cm (List.take s' l))/\(s' <= l.length/\q0)/\l.length - s' < l.length - s)/\((↑l.length:Int)<=(↑s:Int)->(0:Int)=r0/\cm (List.take s l)=r1))) (rowF l=true)):=by kernel_rfl
theorem En (l:List Int):Sat Try.prog (al aF) 52 [.c (.fz .int (l))] [] ⟨[],[.c (.own 0),.c (.int ((bH l)))],some ([.row 5 .u8 ((aW l))]),true⟩:=by
 refine eR jh (Dh l) Try.func52 (by decide) (by kernel_rfl) ?_
 rw [Em]
 (repeat' (first | with_reducible refine And.intro ?_ ?_ | with_reducible refine and_imp.2 ?_ | intro))
 all_goals try (first | (first | with_reducible rfl | with_reducible assumption | omega | (refine ag ?_ ?_ <;> omega)) | exact rfl | exact (cw (by with_reducible assumption)).symm | exact (cw (by with_reducible assumption)) | exact (du (by with_reducible assumption)) | exact (cW (by with_reducible assumption)) | exact (eY (by with_reducible assumption) (by omega)) | exact (dN (by with_reducible assumption)) | exact (vh (by with_reducible assumption) (by with_reducible assumption)) | exact (ju (by with_reducible assumption) (by with_reducible assumption)))
 all_goals try (refine ⟨0,?_⟩; (repeat' (first | with_reducible refine And.intro ?_ ?_ | with_reducible refine and_imp.2 ?_ | intro)))
 all_goals try (first | (first | with_reducible rfl | with_reducible assumption | omega | (refine ag ?_ ?_ <;> omega)) | exact rfl | exact (cw (by with_reducible assumption)).symm | exact (cw (by with_reducible assumption)) | exact (du (by with_reducible assumption)) | exact (cW (by with_reducible assumption)) | exact (eY (by with_reducible assumption) (by omega)) | exact (dN (by with_reducible assumption)) | exact (vh (by with_reducible assumption) (by with_reducible assumption)) | exact (ju (by with_reducible assumption) (by with_reducible assumption)))
 all_goals try (refine ⟨‹Nat› + 1,?_⟩; (repeat' (first | with_reducible refine And.intro ?_ ?_ | with_reducible refine and_imp.2 ?_ | intro)))
 all_goals (first | (first | with_reducible rfl | with_reducible assumption | omega | (refine ag ?_ ?_ <;> omega)) | exact rfl | exact (cw (by with_reducible assumption)).symm | exact (cw (by with_reducible assumption)) | exact (du (by with_reducible assumption)) | exact (cW (by with_reducible assumption)) | exact (eY (by with_reducible assumption) (by omega)) | exact (dN (by with_reducible assumption)) | exact (vh (by with_reducible assumption) (by with_reducible assumption)) | exact (ju (by with_reducible assumption) (by with_reducible assumption)))
noncomputable def oH:cH:=(bT 52 (bM (ai (kC (cL .int)) aO) aP fun (l,_) (_)=>⟨[],[.c (.own 0),.c (.int ((bH l)))],some ([.row 5 .u8 ((aW l))]),true⟩) (bT 70 (bM (ai (kC cI) aO) aP fun (q,_) (_)=>⟨[q=1],[.c (.fz (.nm .spec) ((aA)))],none,false⟩) (bT 68 (bM (ai (kC cI) (ai (kC cI) aO)) aP fun (num,wire,_) (_)=>⟨[],[.c (.own 0),.c (.int ((fF num wire)))],some ([.row 5 .u8 ((gE num wire))]),true⟩) (bT 48 (bM (ai (kC (cL .u8)) aO) aP fun (b,_) (_)=>⟨[],[.c (.u64 ((U64.mk (ae b).1)).n),.c (.int ((((ae b).2.1:Nat)))),.c (.int (((ae b).2.2)))],none,false⟩) uG))))
theorem eu:aT Try.prog (al aF) oH:=(av (au (ab (aq bf) aj) ak fun (l,_) (_) _=>En l ) (av (au (ab (aq aK) aj) ak fun (q,_) (_) hp=>Ex q (fH hp)) (av (au (ab (aq aK) (ab (aq aK) aj)) ak fun (num,wire,_) (_) _=>DW num wire ) (av (au (ab (aq bf) aj) ak fun (b,_) (_) _=>yj b ) jh))))
end Go.Proofs.Ytladifkbefehdaa
