/- The law: for every input it returns true, and each argument reads behind the call as it read before; and what leads there. Conditions: each lemma's own. -/
import Derived.ProofKit
import Derived.SizedLaws
import Derived.Test.YtdggohppeeaipaaGreatChecked
import Derived.Test.YtdggohppeeaipaaGreatRows
import Derived.Test.YtdggohppeeaipaaGreatKBM5
set_option linter.unusedVariables false
set_option linter.unusedSimpArgs false
namespace Go.Proofs.YtdggohppeeaipaaGreat
open Go.RowKit
def yR (st:State):List (Nat × LI):=[(7,{ σ:=Nat,F:=fun k=>([(1,one (.ptr 0 0)),(2,one (.ptr 1 0)),(3,one (.own 2)),(4,one (.int k))],[.box 26 ([.int ((st.version)),.int ((st.next)),.int ((st.keep)),.int ((st.quota)),.fz (.nm .sess) ((st.sess.take 20)),.fz (.nm .opn) ((st.opens.take 20)),.fz (.nm .snap) ((st.snaps))]),.box 26 ([.int ((0)),.int ((0)),.int ((0)),.int ((0)),.em true,.em true,.em true]),.row 59 (.nm .snap) (((dp st).snaps.take k))]),J:=fun k=>k<=(dp st).snaps.length,μ:=fun k=>st.snaps.length - k })]
theorem zX  (r0:Bool):cN aF tW [] Tryz.f21 [] [] [.c (.bool (.atom (r0)))]=((fun (q1:Int)=>(fun (q0:List (den Sh.int))=>I64 (dO q0)->((dO q0=q1/\gU (1:Int) q0=true)/\gU q1 q0=false->I64 (iu q1 (3:Int)))->(decide (dO q0=q1) && gU (1:Int) q0 && !gU q1 q0 && decide (iu q1 (3:Int)=(32:Int)))=r0) [(3:Int),q1,(3:Int)]) (2:Int)):=by kernel_rfl
theorem Ab :Sat Tryz.prog (aq aF) 21 [] [] ⟨[],[.c (.bool (.atom ((true))))],none,false⟩:=by
 refine aR mL [] Tryz.func21 (by decide) (by kernel_rfl) ?_
 rw [zX]
 (repeat' (first | with_reducible refine And.intro ?_ ?_ | with_reducible refine and_imp.2 ?_ | intro))
 all_goals (first | (first | with_reducible rfl | with_reducible assumption | omega | (refine aj ?_ ?_ <;> omega)) | decide | rfl)
theorem BJ (st:State) (r0:State):cN aF tW (yR st) Tryz.f22 [.agg (cellsOf (.nm .state) st)] [] [.agg (cellsOf (.nm .state) r0)]=((fun (q23:Nat)=>(fun (q22:Prop)=>(fun (q21:Prop)=>(fun (q20:Prop)=>(fun (q19:Prop)=>(fun (q18:Int)=>(fun (q17:Nat)=>(fun (q16:Nat)=>(fun (q15:Int)=>(fun (q14:Nat)=>(fun (q13:Int)=>(fun (q12:Int)=>(fun (q11:Nat)=>(fun (q10:Int)=>(fun (q9:Int)=>(fun (q8:Prop)=>(fun (q7:Prop)=>(fun (q6:Prop)=>(fun (q5:Prop)=>(fun (q4:List Snap)=>(fun (q3:List (den (Sh.nm NT.sess)))=>(fun (q2:List (den (Sh.nm NT.opn)))=>(fun (q1:List Snap)=>(fun (q0:Prop)=>I64 st.version->I64 st.next->I64 st.keep->I64 st.quota->q23*(32:Nat)<=q11->st.opens.length*(16:Nat)<=q11->q4.length*q14<=q11->(q13<(↑q23:Int)->q12<=q13/\q13<=(↑q23:Int)/\(q13<q18->q12<=q13/\q13<=q18/\∃ (s0:Nat),(fun (q25:Nat)=>(fun (q24:Nat)=>(q12=(↑s0:Int)/\q5/\q8/\q7/\q6/\q3=q3/\q2=q2/\q4=q4/\q0/\q0/\q0/\q0/\List.take s0 q1=[])/\s0<=q25/\∀ (s:Nat),(fun (q27:List (den (Sh.nm NT.snap)))=>(fun (q26:Int)=>s<=q25->((↑s:Int)<(↑q4.length:Int)/\(↑s:Int)<q13->q12<=(↑s:Int)/\(↑s:Int)<(↑q4.length:Int)/\∀ (x:Snap),(fun (q32:Nat)=>(fun (q31:Snap)=>(fun (q30:Snap)=>(fun (q29:Snap)=>(fun (q28:Int)=>q4[s]? = some x->I64 x.id->I64 x.set->q32*(8:Nat)<=q11->x.tag.b.length<=q11->(q15<(↑q32:Int)->q12<=q15/\q15<=(↑q32:Int)/\(q10<q28->q12<=q10/\q10<=q28/\(q27.length+[q29].length)*q14<=q11/\I64 q26/\∃ (s':Nat),(q26=(↑s':Int)/\q5/\q8/\q7/\q6/\q3=q3/\q2=q2/\q4=q4/\q0/\q0/\q0/\q0/\q27++[q29]=List.take s' q1)/\s' <= q25/\q24 - s' < q24 - s)/\(q28<=q10->(q27.length+[q31].length)*q14<=q11/\I64 q26/\∃ (s':Nat),(q26=(↑s':Int)/\q5/\q8/\q7/\q6/\q3=q3/\q2=q2/\q4=q4/\q0/\q0/\q0/\q0/\q27++[q31]=List.take s' q1)/\s' <= q25/\q24 - s' < q24 - s))/\((↑q32:Int)<=q15->(q10<q28->q12<=q10/\q10<=q28/\(q27.length+[q30].length)*q14<=q11/\I64 q26/\∃ (s':Nat),(q26=(↑s':Int)/\q5/\q8/\q7/\q6/\q3=q3/\q2=q2/\q4=q4/\q0/\q0/\q0/\q0/\q27++[q30]=List.take s' q1)/\s' <= q25/\q24 - s' < q24 - s)/\(q28<=q10->(q27.length+[x].length)*q14<=q11/\I64 q26/\∃ (s':Nat),(q26=(↑s':Int)/\q5/\q8/\q7/\q6/\q3=q3/\q2=q2/\q4=q4/\q0/\q0/\q0/\q0/\q27++[x]=List.take s' q1)/\s' <= q25/\q24 - s' < q24 - s))) (↑x.tag.b.length:Int)) (Snap.mk x.id x.set (List.take q16 x.chunks) x.held (Str.mk (List.take q17 x.tag.b)))) (Snap.mk x.id x.set x.chunks x.held (Str.mk (List.take q17 x.tag.b)))) (Snap.mk x.id x.set (List.take q16 x.chunks) x.held x.tag)) x.chunks.length)/\((↑q4.length:Int)<=(↑s:Int)\/q13<=(↑s:Int)->q19/\q22/\q21/\q20/\q3=r0.sess/\q2=r0.opens/\q27=r0.snaps)) ((↑s:Int)+q9)) (List.take s q1)) q4.length) q1.length)/\(q18<=q13->∃ (s0:Nat),(fun (q34:Nat)=>(fun (q33:Nat)=>(q12=(↑s0:Int)/\q5/\q8/\q7/\q6/\q3=q3/\st.opens=q2/\q4=q4/\q0/\q0/\q0/\q0/\List.take s0 q1=[])/\s0<=q34/\∀ (s:Nat),(fun (q36:List (den (Sh.nm NT.snap)))=>(fun (q35:Int)=>s<=q34->((↑s:Int)<(↑q4.length:Int)/\(↑s:Int)<q13->q12<=(↑s:Int)/\(↑s:Int)<(↑q4.length:Int)/\∀ (x:Snap),(fun (q41:Nat)=>(fun (q40:Snap)=>(fun (q39:Snap)=>(fun (q38:Snap)=>(fun (q37:Int)=>q4[s]? = some x->I64 x.id->I64 x.set->q41*(8:Nat)<=q11->x.tag.b.length<=q11->(q15<(↑q41:Int)->q12<=q15/\q15<=(↑q41:Int)/\(q10<q37->q12<=q10/\q10<=q37/\(q36.length+[q38].length)*q14<=q11/\I64 q35/\∃ (s':Nat),(q35=(↑s':Int)/\q5/\q8/\q7/\q6/\q3=q3/\q2=q2/\q4=q4/\q0/\q0/\q0/\q0/\q36++[q38]=List.take s' q1)/\s' <= q34/\q33 - s' < q33 - s)/\(q37<=q10->(q36.length+[q40].length)*q14<=q11/\I64 q35/\∃ (s':Nat),(q35=(↑s':Int)/\q5/\q8/\q7/\q6/\q3=q3/\q2=q2/\q4=q4/\q0/\q0/\q0/\q0/\q36++[q40]=List.take s' q1)/\s' <= q34/\q33 - s' < q33 - s))/\((↑q41:Int)<=q15->(q10<q37->q12<=q10/\q10<=q37/\(q36.length+[q39].length)*q14<=q11/\I64 q35/\∃ (s':Nat),(q35=(↑s':Int)/\q5/\q8/\q7/\q6/\q3=q3/\q2=q2/\q4=q4/\q0/\q0/\q0/\q0/\q36++[q39]=List.take s' q1)/\s' <= q34/\q33 - s' < q33 - s)/\(q37<=q10->(q36.length+[x].length)*q14<=q11/\I64 q35/\∃ (s':Nat),(q35=(↑s':Int)/\q5/\q8/\q7/\q6/\q3=q3/\q2=q2/\q4=q4/\q0/\q0/\q0/\q0/\q36++[x]=List.take s' q1)/\s' <= q34/\q33 - s' < q33 - s))) (↑x.tag.b.length:Int)) (Snap.mk x.id x.set (List.take q16 x.chunks) x.held (Str.mk (List.take q17 x.tag.b)))) (Snap.mk x.id x.set x.chunks x.held (Str.mk (List.take q17 x.tag.b)))) (Snap.mk x.id x.set (List.take q16 x.chunks) x.held x.tag)) x.chunks.length)/\((↑q4.length:Int)<=(↑s:Int)\/q13<=(↑s:Int)->q19/\q22/\q21/\q20/\q3=r0.sess/\q2=r0.opens/\q36=r0.snaps)) ((↑s:Int)+q9)) (List.take s q1)) q4.length) q1.length))/\((↑q23:Int)<=q13->(q13<q18->q12<=q13/\q13<=q18/\∃ (s0:Nat),(fun (q43:Nat)=>(fun (q42:Nat)=>(q12=(↑s0:Int)/\q5/\q8/\q7/\q6/\st.sess=q3/\q2=q2/\q4=q4/\q0/\q0/\q0/\q0/\List.take s0 q1=[])/\s0<=q43/\∀ (s:Nat),(fun (q45:List (den (Sh.nm NT.snap)))=>(fun (q44:Int)=>s<=q43->((↑s:Int)<(↑q4.length:Int)/\(↑s:Int)<q13->q12<=(↑s:Int)/\(↑s:Int)<(↑q4.length:Int)/\∀ (x:Snap),(fun (q50:Nat)=>(fun (q49:Snap)=>(fun (q48:Snap)=>(fun (q47:Snap)=>(fun (q46:Int)=>q4[s]? = some x->I64 x.id->I64 x.set->q50*(8:Nat)<=q11->x.tag.b.length<=q11->(q15<(↑q50:Int)->q12<=q15/\q15<=(↑q50:Int)/\(q10<q46->q12<=q10/\q10<=q46/\(q45.length+[q47].length)*q14<=q11/\I64 q44/\∃ (s':Nat),(q44=(↑s':Int)/\q5/\q8/\q7/\q6/\q3=q3/\q2=q2/\q4=q4/\q0/\q0/\q0/\q0/\q45++[q47]=List.take s' q1)/\s' <= q43/\q42 - s' < q42 - s)/\(q46<=q10->(q45.length+[q49].length)*q14<=q11/\I64 q44/\∃ (s':Nat),(q44=(↑s':Int)/\q5/\q8/\q7/\q6/\q3=q3/\q2=q2/\q4=q4/\q0/\q0/\q0/\q0/\q45++[q49]=List.take s' q1)/\s' <= q43/\q42 - s' < q42 - s))/\((↑q50:Int)<=q15->(q10<q46->q12<=q10/\q10<=q46/\(q45.length+[q48].length)*q14<=q11/\I64 q44/\∃ (s':Nat),(q44=(↑s':Int)/\q5/\q8/\q7/\q6/\q3=q3/\q2=q2/\q4=q4/\q0/\q0/\q0/\q0/\q45++[q48]=List.take s' q1)/\s' <= q43/\q42 - s' < q42 - s)/\(q46<=q10->(q45.length+[x].length)*q14<=q11/\I64 q44/\∃ (s':Nat),(q44=(↑s':Int)/\q5/\q8/\q7/\q6/\q3=q3/\q2=q2/\q4=q4/\q0/\q0/\q0/\q0/\q45++[x]=List.take s' q1)/\s' <= q43/\q42 - s' < q42 - s))) (↑x.tag.b.length:Int)) (Snap.mk x.id x.set (List.take q16 x.chunks) x.held (Str.mk (List.take q17 x.tag.b)))) (Snap.mk x.id x.set x.chunks x.held (Str.mk (List.take q17 x.tag.b)))) (Snap.mk x.id x.set (List.take q16 x.chunks) x.held x.tag)) x.chunks.length)/\((↑q4.length:Int)<=(↑s:Int)\/q13<=(↑s:Int)->q19/\q22/\q21/\q20/\q3=r0.sess/\q2=r0.opens/\q45=r0.snaps)) ((↑s:Int)+q9)) (List.take s q1)) q4.length) q1.length)/\(q18<=q13->∃ (s0:Nat),(fun (q52:Nat)=>(fun (q51:Nat)=>(q12=(↑s0:Int)/\q5/\q8/\q7/\q6/\st.sess=q3/\st.opens=q2/\q4=q4/\q0/\q0/\q0/\q0/\List.take s0 q1=[])/\s0<=q52/\∀ (s:Nat),(fun (q54:List (den (Sh.nm NT.snap)))=>(fun (q53:Int)=>s<=q52->((↑s:Int)<(↑q4.length:Int)/\(↑s:Int)<q13->q12<=(↑s:Int)/\(↑s:Int)<(↑q4.length:Int)/\∀ (x:Snap),(fun (q59:Nat)=>(fun (q58:Snap)=>(fun (q57:Snap)=>(fun (q56:Snap)=>(fun (q55:Int)=>q4[s]? = some x->I64 x.id->I64 x.set->q59*(8:Nat)<=q11->x.tag.b.length<=q11->(q15<(↑q59:Int)->q12<=q15/\q15<=(↑q59:Int)/\(q10<q55->q12<=q10/\q10<=q55/\(q54.length+[q56].length)*q14<=q11/\I64 q53/\∃ (s':Nat),(q53=(↑s':Int)/\q5/\q8/\q7/\q6/\q3=q3/\q2=q2/\q4=q4/\q0/\q0/\q0/\q0/\q54++[q56]=List.take s' q1)/\s' <= q52/\q51 - s' < q51 - s)/\(q55<=q10->(q54.length+[q58].length)*q14<=q11/\I64 q53/\∃ (s':Nat),(q53=(↑s':Int)/\q5/\q8/\q7/\q6/\q3=q3/\q2=q2/\q4=q4/\q0/\q0/\q0/\q0/\q54++[q58]=List.take s' q1)/\s' <= q52/\q51 - s' < q51 - s))/\((↑q59:Int)<=q15->(q10<q55->q12<=q10/\q10<=q55/\(q54.length+[q57].length)*q14<=q11/\I64 q53/\∃ (s':Nat),(q53=(↑s':Int)/\q5/\q8/\q7/\q6/\q3=q3/\q2=q2/\q4=q4/\q0/\q0/\q0/\q0/\q54++[q57]=List.take s' q1)/\s' <= q52/\q51 - s' < q51 - s)/\(q55<=q10->(q54.length+[x].length)*q14<=q11/\I64 q53/\∃ (s':Nat),(q53=(↑s':Int)/\q5/\q8/\q7/\q6/\q3=q3/\q2=q2/\q4=q4/\q0/\q0/\q0/\q0/\q54++[x]=List.take s' q1)/\s' <= q52/\q51 - s' < q51 - s))) (↑x.tag.b.length:Int)) (Snap.mk x.id x.set (List.take q16 x.chunks) x.held (Str.mk (List.take q17 x.tag.b)))) (Snap.mk x.id x.set x.chunks x.held (Str.mk (List.take q17 x.tag.b)))) (Snap.mk x.id x.set (List.take q16 x.chunks) x.held x.tag)) x.chunks.length)/\((↑q4.length:Int)<=(↑s:Int)\/q13<=(↑s:Int)->q19/\q22/\q21/\q20/\q3=r0.sess/\q2=r0.opens/\q54=r0.snaps)) ((↑s:Int)+q9)) (List.take s q1)) q4.length) q1.length))) (q12=q12)) (dp st).snaps) (List.take (20:Nat) st.opens)) (List.take (20:Nat) st.sess)) st.snaps) (st.version=st.version)) (st.quota=st.quota)) (st.keep=st.keep)) (st.next=st.next)) (1:Int)) (40:Int)) (140737488355328:Nat)) (0:Int)) (20:Int)) (64:Nat)) (12:Int)) (12:Nat)) (40:Nat)) (↑st.opens.length:Int)) (st.version=r0.version)) (st.quota=r0.quota)) (st.keep=r0.keep)) (st.next=r0.next)) st.sess.length):=by kernel_rfl
theorem BP (st:State):Sat Tryz.prog (aq aF) 22 [.agg (cellsOf (.nm .state) st)] [] ⟨[],[.agg (cellsOf (.nm .state) (dp st))],none,false⟩:=by
 refine aR mL (yR st) Tryz.func22 (by decide) (by kernel_rfl) ?_
 rw [BJ]
 (repeat' (first | with_reducible refine And.intro ?_ ?_ | with_reducible refine and_imp.2 ?_ | intro))
 all_goals try (first | (first | with_reducible rfl | with_reducible assumption | omega | (refine aj ?_ ?_ <;> omega)) | exact rfl | exact (List.take_of_length_le (by omega)).symm | exact (Ex (by with_reducible assumption) (by omega) (by omega) (by omega)) | exact (Dx (by with_reducible assumption) (by omega) (by omega) (by omega)) | exact (DX (by with_reducible assumption) (by omega) (by omega) (by omega)) | exact (EY (by with_reducible assumption) (by omega) (by omega) (by omega)) | exact (sB (by omega)) | exact (zk (by omega) (by omega)) | exact (List.take_of_length_le (wX (by omega))))
 all_goals try (refine ⟨0,?_⟩; (repeat' (first | with_reducible refine And.intro ?_ ?_ | with_reducible refine and_imp.2 ?_ | intro)))
 all_goals try (first | (first | with_reducible rfl | with_reducible assumption | omega | (refine aj ?_ ?_ <;> omega)) | exact rfl | exact (List.take_of_length_le (by omega)).symm | exact (Ex (by with_reducible assumption) (by omega) (by omega) (by omega)) | exact (Dx (by with_reducible assumption) (by omega) (by omega) (by omega)) | exact (DX (by with_reducible assumption) (by omega) (by omega) (by omega)) | exact (EY (by with_reducible assumption) (by omega) (by omega) (by omega)) | exact (sB (by omega)) | exact (zk (by omega) (by omega)) | exact (List.take_of_length_le (wX (by omega))))
 all_goals try (refine ⟨‹Nat› + 1,?_⟩; (repeat' (first | with_reducible refine And.intro ?_ ?_ | with_reducible refine and_imp.2 ?_ | intro)))
 all_goals (first | (first | with_reducible rfl | with_reducible assumption | omega | (refine aj ?_ ?_ <;> omega)) | exact rfl | exact (List.take_of_length_le (by omega)).symm | exact (Ex (by with_reducible assumption) (by omega) (by omega) (by omega)) | exact (Dx (by with_reducible assumption) (by omega) (by omega) (by omega)) | exact (DX (by with_reducible assumption) (by omega) (by omega) (by omega)) | exact (EY (by with_reducible assumption) (by omega) (by omega) (by omega)) | exact (sB (by omega)) | exact (zk (by omega) (by omega)) | exact (List.take_of_length_le (wX (by omega))))
def Ds:ct:=(bO 22 (bI (ah (kT (.nm .state)) aO) aP fun (st,_) (_)=>⟨[],[.agg (cellsOf (.nm .state) (dp st))],none,false⟩) (bO 21 (bI aO aP fun (_) (_)=>⟨[],[.c (.bool (.atom ((true))))],none,false⟩) tW))
theorem Ad:aU Tryz.prog (aq aF) Ds:=(ay (ax (ab bM al) ak fun (st,_) (_) _=>BP st ) (ay (ax al ak fun (_) (_) _=>Ab  ) mL))
end Go.Proofs.YtdggohppeeaipaaGreat
namespace Go.Proofs.YtdggohppeeaipaaGreat
open Go.RowKit
section
variable {s:State}
theorem Gi (o:¬ mayF s s.version=0\/3<=s.version):(true && !decide ((cQ s (Command.mk 8 0 0 0 0 (dk s.version 1) [] (Str.mk []))).2.code=0) && !decide ((fy s (dk s.version 1)).2=0) && decide ((cQ s (Command.mk 8 0 0 0 0 (dk s.version 1) [] (Str.mk []))).1=s))=true:=by
 have h:¬ mayF s s.version=0\/3<=s.version/\dk s.version 1=s.version+1:=by
  by_cases M:mayF s s.version=0
  ·have v:=nO (bX M).1
   exact .inr ⟨o.resolve_left fun h=>h M,uH ⟨by omega,by omega⟩⟩
  ·exact .inl M
 obtain ⟨a,b,c⟩:=EV h
 unfold iP at a c
 rw [decide_eq_false a,decide_eq_false b,decide_eq_true c]; rfl
theorem Eh (M:mayF s s.version=0) (l:s.version<3):(true && decide ((cQ s (Command.mk 8 0 0 0 0 (dk s.version 1) [] (Str.mk []))).2.code=0) && decide ((cQ s (Command.mk 8 0 0 0 0 (dk s.version 1) [] (Str.mk []))).2.n=dk s.version 1) && decide ((fy s (dk s.version 1)).2=0) && decide ((cQ s (Command.mk 8 0 0 0 0 (dk s.version 1) [] (Str.mk []))).1=(fy s (dk s.version 1)).1) && decide ((cQ (cQ s (Command.mk 8 0 0 0 0 (dk s.version 1) [] (Str.mk []))).1 (Command.mk 8 0 0 0 0 (dk s.version 1) [] (Str.mk []))).2.code=1) && decide ((cQ (cQ s (Command.mk 8 0 0 0 0 (dk s.version 1) [] (Str.mk []))).1 (Command.mk 8 0 0 0 0 (dk s.version 1) [] (Str.mk []))).1=(cQ s (Command.mk 8 0 0 0 0 (dk s.version 1) [] (Str.mk []))).1))=true:=by
 have v:=nO (bX M).1
 obtain ⟨a,b,c⟩:=AA M l
 unfold iP at a c
 rw [uH ⟨by omega,by omega⟩,a]
 dsimp only
 rw [b,c]
 simp only [decide_true,Bool.and_self]
end
theorem DL (st:State) (r0:Bool):cN aF (Fx Ds) [] Tryz.f6 [.agg (cellsOf (.nm .state) st)] [] [.c (.bool (.atom (r0)))]=((fun (q4:Nat)=>(fun (q3:Int)=>(fun (q2:Int)=>(fun (q1:State)=>(fun (q0:Command)=>I64 st.version->I64 st.next->I64 st.keep->I64 st.quota->st.sess.length*(32:Nat)<=q4->st.opens.length*(16:Nat)<=q4->st.snaps.length*(64:Nat)<=q4->I64 q1.version->I64 q1.next->I64 q1.keep->I64 q1.quota->q1.sess.length*(32:Nat)<=q4->q1.opens.length*(16:Nat)<=q4->q1.snaps.length*(64:Nat)<=q4->I64 (cQ q1 q0).fst.version->I64 (cQ q1 q0).fst.next->I64 (cQ q1 q0).fst.keep->I64 (cQ q1 q0).fst.quota->I64 (cQ q1 q0).snd.code->I64 (cQ q1 q0).snd.n->I64 (fy q1 (dk q1.version q2)).fst.version->I64 (fy q1 (dk q1.version q2)).fst.next->I64 (fy q1 (dk q1.version q2)).fst.keep->I64 (fy q1 (dk q1.version q2)).fst.quota->I64 (fy q1 (dk q1.version q2)).snd->I64 (mayF q1 q1.version)->(¬mayF q1 q1.version=q3\/(3:Int)<=q1.version->(true && !decide ((cQ q1 q0).snd.code=q3) && !decide ((fy q1 (dk q1.version q2)).snd=q3) && decide ((cQ q1 q0).fst=q1))=r0)/\(mayF q1 q1.version=q3/\q1.version<(3:Int)->I64 (cQ (cQ q1 q0).fst q0).fst.version->I64 (cQ (cQ q1 q0).fst q0).fst.next->I64 (cQ (cQ q1 q0).fst q0).fst.keep->I64 (cQ (cQ q1 q0).fst q0).fst.quota->I64 (cQ (cQ q1 q0).fst q0).snd.code->I64 (cQ (cQ q1 q0).fst q0).snd.n->(true && decide ((cQ q1 q0).snd.code=q3) && decide ((cQ q1 q0).snd.n=dk q1.version q2) && decide ((fy q1 (dk q1.version q2)).snd=q3) && decide ((cQ q1 q0).fst=(fy q1 (dk q1.version q2)).fst) && decide ((cQ (cQ q1 q0).fst q0).snd.code=q2) && decide ((cQ (cQ q1 q0).fst q0).fst=(cQ q1 q0).fst))=r0)) (Command.mk (8:Int) q3 q3 q3 q3 (dk q1.version q2) [] (Str.mk []))) (dp st)) (1:Int)) (0:Int)) (140737488355328:Nat)):=by kernel_rfl
theorem DE (st:State):Sat Tryz.prog (aq aF) 6 [.agg (cellsOf (.nm .state) st)] [] ⟨[],[.c (.bool (.atom ((true))))],none,false⟩:=by
 refine aR (Cj Ad) [] Tryz.func6 (by decide) (by kernel_rfl) ?_
 rw [DL]
 (repeat' (first | with_reducible refine And.intro ?_ ?_ | with_reducible refine and_imp.2 ?_ | intro))
 all_goals (first | (first | with_reducible rfl | with_reducible assumption | omega | (refine aj ?_ ?_ <;> omega)) | exact (Gi (by assumption)) | exact (Eh (by with_reducible assumption) (by with_reducible assumption)))
end Go.Proofs.YtdggohppeeaipaaGreat
namespace Go.Proofs.YtdggohppeeaipaaGreat
open Go.RowKit Go.ChangeShapes Go.WideShapes
def vP (shp:TypeId->Option Sh) (w:World):Cx:=cx ⟨shp,w.heap.size,fun _=>False⟩ [] w
theorem Eg {shp:TypeId->Option Sh} {w:World} {s:Sh} {b:Nat} (h:b<w.heap.size):(vP shp w).at s b:=⟨⟨h,fun ⟨_,_,h,_⟩=>by simp at h,fun h=>h⟩,.inl h⟩
def Tr (P:Program) (shp:TypeId->Option Sh) (t:TypeId) (s:Sh):Prop:=
 ∀ (H:Type) (enc:TypeId × Value->H) (w:World) (fuel:Nat) (cs:List Value) (x:DataW H × List MemPlace),
  DataW.trod enc P w 0 (fun _=>true) true fuel t cs=some x->(∀ n ∈ x.1.weights P t,n<=140737488351232)->(∀ q ∈ x.2,q.block<w.heap.size)->∃ y:den s,Pds (vP shp w) (cellsOf s y) cs
def EI:List Sh->List AV->Prop
 | [],asx=>asx=[]
 | s :: r,asx=>∃ (y:den s) (l:List AV),asx=cellsOf s y++l/\EI r l
def GJ:List Sh->Nat
 | []=>0
 | s :: r=>s.size+GJ r
def g_ (P:Program) (shp:TypeId->Option Sh) (fs:List Go.Field) (o:Nat) (ss:List Sh):Prop:=
 ∀ (H:Type) (enc:TypeId × Value->H) (w:World) (fuel:Nat) (cs:List Value) (xs:List (DataW H × List MemPlace)),
  cs.length=o+GJ ss->xs.length=fs.length->(∀ (i:Nat) (f:Go.Field),fs[i]? = some f->DataW.trod enc P w 0 (fun _=>true) true fuel f.type ((cs.drop f.offset).take (P.cellsOf f.type))=xs[i]?) ->
  (∀ n ∈ DataW.weightsEach P (fs.map (·.type)) (xs.map (·.1)),n<=140737488351232)->(∀ q ∈ xs.flatMap (·.2),q.block<w.heap.size)->∃ asx,EI ss asx/\Pds (vP shp w) asx (cs.drop o)
section
variable {P:Program} {shp:TypeId->Option Sh} {t:TypeId}
theorem Tr.int (h:P.underlying t=some (.int .i64)):Tr P shp t .int:=fun _ enc w fuel cs x hx _ _=>by
 obtain ⟨n,rfl,_,hw⟩:=DataW.trod_int h hx
 have h1:IntKind.i64.min = -9223372036854775808:=rfl
 have h2:IntKind.i64.max=9223372036854775807:=rfl
 simp only [Lit.wf,Bool.and_eq_true,decide_eq_true_eq] at hw
 exact ⟨n,.cons (.int ⟨by omega,by omega⟩) .nil⟩
theorem Tr.bool (h:P.underlying t=some .bool):Tr P shp t .bool:=fun _ enc w fuel cs x hx _ _=>by
 obtain ⟨n,rfl,_⟩:=DataW.trod_bool h hx
 exact ⟨n,.cons (Pd.bool (e:=.atom n)) .nil⟩
theorem Tr.u8 (h:P.underlying t=some (.int .u8)):Tr P shp t .u8:=fun _ enc w fuel cs x hx _ _=>by
 obtain ⟨n,rfl,_,hw⟩:=DataW.trod_int h hx
 have h1:IntKind.u8.min=0:=rfl
 have h2:IntKind.u8.max=255:=rfl
 simp only [Lit.wf,Bool.and_eq_true,decide_eq_true_eq] at hw
 refine ⟨UInt8.ofNat n.toNat,?_⟩
 have:n=((UInt8.ofNat n.toNat).toNat:Int):=by
  rw [UInt8.toNat_ofNat']; omega
 generalize hg:UInt8.ofNat n.toNat=b at this
 subst this
 exact .cons .u8 .nil
theorem Tr.u64 (h:P.underlying t=some (.int .u64)):Tr P shp t .u64:=fun _ enc w fuel cs x hx _ _=>by
 obtain ⟨n,rfl,_,hw⟩:=DataW.trod_int h hx
 have h1:IntKind.u64.min=0:=rfl
 have h2:IntKind.u64.max=18446744073709551615:=rfl
 simp only [Lit.wf,Bool.and_eq_true,decide_eq_true_eq] at hw
 refine ⟨⟨n.toNat⟩,?_⟩
 have:n=(n.toNat:Int):=by omega
 generalize hg:n.toNat=b at this
 subst this
 exact .cons (.u64 (by show b<_; omega)) .nil
theorem Tr.str (h:P.underlying t=some .string):Tr P shp t .str:=fun _ enc w fuel cs x hx hw _=>by
 obtain ⟨s,rfl,hx,_⟩:=DataW.trod_string h hx
 refine ⟨⟨s.data.toList⟩,?_⟩
 have:=hw s.data.toList.length (by rw [hx]; simp [DataW.weights])
 have e:=Pd.str (c:=vP shp w) (s:=⟨s.data.toList⟩) (by show s.data.toList.length<=_; omega)
 have e2:(⟨s.data.toList⟩:Str).val = .string s:=by simp [Str.val]
 rw [e2] at e
 exact .cons e .nil
theorem fT {H:Type} {e:TypeId}:∀ {ds:List (DataW H)} {d:DataW H},d ∈ ds->∀ n ∈ d.weights P e,n ∈ DataW.weightsAll P e ds
 | [],_,h,_,_=>by cases h
 | d0 :: ds,d,h,n,hn=>by
  rw [DataW.weightsAll,List.mem_append]
  rcases List.mem_cons.1 h with rfl | h
  ·exact .inl hn
  ·exact .inr (fT h n hn)
theorem wE {s:Sh} {xs:List (den s)} {y:den s}:(xs++[y]).flatMap (cellsOf s)=xs.flatMap (cellsOf s)++cellsOf s y:=by simp
theorem Tr.list {e:TypeId} {s:Sh} (ht:P.underlying t=some (.slice e)) (hC:P.cellsOf e=s.size) (hB:P.bytesOf e=s.bytes) (he:Tr P shp e s):Tr P shp t (.lst s):=fun H enc w fuel cs x hx hw hlt=>by
 have hp:=size_pos s
 rcases DataW.trod_slice ht hx with ⟨rfl,_⟩ | ⟨a,len,cap,elems,rest,n,rfl,rfl,rfl,_,hl,hc,hel,hget,hrest,_⟩
 ·exact ⟨([]:List (den s)),.cons (Pd.nV (.em (a:=none) (b:=true) rfl)) .nil⟩
 ·rw [hC] at *
  have step:∀ m,m<=len->∃ (cells:List Value) (xs:List (den s)),Pds (vP shp w) (xs.flatMap (cellsOf s)) cells/\xs.length=m/\CellsAt w a cells:=by
   intro m
   induction m with
   | zero=>intro _; exact ⟨[],[],.nil,rfl,CellsAt.nil⟩
   | succ m ih=>
    intro hm
    obtain ⟨cells,xs,h1,h2,h3⟩:=ih (by omega)
    have hg:=hget m (by omega)
    have hem:elems[m]? = some (elems[m]'(by omega)):=List.getElem?_eq_getElem (by omega)
    rw [hem,Option.bind_eq_some_iff] at hg
    obtain ⟨cs,hcs,htr⟩:=hg
    have hmem:elems[m]'(by omega) ∈ elems:=List.getElem_mem _
    obtain ⟨y,hy⟩:=he H enc w n cs _ htr
     (fun k hk=>hw k (by
      simp only [DataW.weights,ht,List.mem_cons,List.mem_append]
      exact .inr (.inl (fT (List.mem_map_of_mem hmem) k hk))))
     (fun q hq=>hlt q (by
      simp only [List.mem_append,List.mem_flatMap]
      exact .inr ⟨_,.inl hmem,hq⟩))
    obtain ⟨_,hcl,hat⟩:=World.cells?_some hcs
    refine ⟨cells++cs,xs++[y],by rw [wE]; exact h1.append hy,by simp [h2],fun j v hv=>?_⟩
    have hfl:cells.length=m*s.size:=by rw [<- h1.length,bD,h2]
    by_cases hj:j<m*s.size
    ·rw [List.getElem?_append_left (by omega)] at hv
     exact h3 j v hv
    ·rw [List.getElem?_append_right (by omega),hfl] at hv
     have hj2:=sk hv
     have:=hat (j - m*s.size) (by omega)
     rw [hv,add_add,show m*s.size+(j - m*s.size)=j by omega] at this
     exact this
  obtain ⟨cells,xs,h1,h2,h3⟩:=step len (Nat.le_refl _)
  have hwt:(elems.length+rest.length)*P.bytesOf e<=140737488351232:=hw _ (by simp [DataW.weights,ht])
  refine ⟨xs,.cons ?_ .nil⟩
  subst h2
  refine .fz (by omega) hc ?_ h1 ?_
  ·rw [hB] at hwt
   have:xs.length*s.bytes<=(elems.length+rest.length)*s.bytes:=Nat.mul_le_mul_right _ (by omega)
   omega
  ·by_cases h0:xs.length=0
   ·left; exact List.eq_nil_of_length_eq_zero h0
   ·right
    refine ⟨a,rfl,Eg ?_,h3⟩
    have:MemPlace.cell a.block (a.off+0) ∈ MemPlace.row a ((elems.length+rest.length)*s.size):=MemPlace.mem_row.2 ⟨0,Nat.mul_pos (by omega) hp,rfl⟩
    exact hlt _ (List.mem_append_left _ this)
theorem g_.nil {o:Nat}:g_ P shp [] o []:=fun H enc w fuel cs xs hl _ _ _ _=>⟨[],rfl,by rw [List.drop_eq_nil_of_le (by simp only [GJ] at hl; omega)]; exact .nil⟩
theorem g_.cons {f:Go.Field} {fs:List Go.Field} {o:Nat} {s:Sh} {ss:List Sh} (h:Tr P shp f.type s) (ho:f.offset=o) (hC:P.cellsOf f.type=s.size) (hr:g_ P shp fs (o+s.size) ss):g_ P shp (f :: fs) o (s :: ss):=fun H enc w fuel cs xs hl hx hf hw hlt=>by
 match xs,hx with
 | x :: xs,hx=>
  have hl':cs.length=o+(s.size+GJ ss):=hl
  have h1:=hf 0 f rfl
  rw [ho,hC] at h1
  obtain ⟨y,hy⟩:=h H enc w fuel _ x h1 (fun n hn=>hw n (by simp [DataW.weightsEach,hn])) (fun q hq=>hlt q (by simp [hq]))
  obtain ⟨z,hz1,hz2⟩:=hr H enc w fuel cs xs (by omega) (by simpa using hx) (fun i f' hi=>by simpa using hf (i+1) f' (by simpa using hi)) (fun n hn=>hw n (by simp only [List.map_cons,DataW.weightsEach,List.mem_append]; exact .inr hn)) (fun q hq=>hlt q (by simp only [List.flatMap_cons,List.mem_append]; exact .inr hq))
  refine ⟨cellsOf s y++z,⟨y,z,rfl,hz1⟩,?_⟩
  have:=hy.append hz2
  rwa [<- List.drop_drop,List.take_append_drop] at this
theorem Tr.struct {s:Sh} {ss:List Sh} {fs:Array Go.Field} (ht:P.underlying t=some (.struct fs)) (hC:P.cellsOf t=GJ ss) (hs:∀ asx,EI ss asx->∃ y:den s,asx=cellsOf s y) (h:g_ P shp fs.toList 0 ss):Tr P shp t s:=fun H enc w fuel cs x hx hw hlt=>by
 obtain ⟨xs,n,_,rfl,hl,hxl,hf⟩:=DataW.trod_struct ht hx
 obtain ⟨asx,h1,h2⟩:=h H enc w n cs xs (by omega) (by simpa using hxl) (fun i f hi=>hf i f (by simpa using hi)) (fun k hk=>hw k (by simpa [DataW.weights,ht] using hk)) hlt
 obtain ⟨y,rfl⟩:=hs asx h1
 exact ⟨y,by simpa using h2⟩
end
section
variable {H:Type} {enc:TypeId × Value->H} {P:Program} {shp:TypeId->Option Sh}
structure Ar (enc:TypeId × Value->H) (P:Program) (W:World) (t:TypeId) (v:Value):Prop where
 form:∃ base,Value.okWide P W .any base t v
 read:∃ d p fuel,DataW.trod enc P W 0 (fun _=>true) true fuel t v.cells.toList=some (d,p)/\(∀ n ∈ d.weights P t,n<=140737488351232)/\(∀ q ∈ p,q.block<W.heap.size)
variable {W:World} {t:TypeId} {v:Value}
theorem Ar.rp {s:Sh} (h:Ar enc P W t v) (ht:Tr P shp t s):∃ y:den s,Pds (vP shp W) (cellsOf s y) v.cells.toList:=by
 obtain ⟨d,p,fuel,h1,h2,h3⟩:=h.read
 exact ht H enc W fuel _ _ h1 h2 h3
theorem zJ {a:AV} {u:Value} (h:Pds (vP shp W) [a] [u]):ck (vP shp W) [] (.c a) u:=by cases h with | cons h1 _=>exact fH h1
theorem Ar.int (h:Ar enc P W t v) (ht:P.underlying t=some (.int .i64)):∃ y:Int,ck (vP shp W) [] (.c (.int y)) v:=by
 obtain ⟨base,hf⟩:=h.form
 obtain ⟨n,rfl⟩:=okWide_int ht hf
 obtain ⟨y,h1⟩:=h.rp (shp:=shp) (Tr.int ht)
 exact ⟨y,zJ (by simpa [Value.cells,cellsOf] using h1)⟩
theorem Ar.u8 (h:Ar enc P W t v) (ht:P.underlying t=some (.int .u8)):∃ y:UInt8,ck (vP shp W) [] (.c (.u8 y)) v:=by
 obtain ⟨base,hf⟩:=h.form
 obtain ⟨n,rfl⟩:=okWide_int ht hf
 obtain ⟨y,h1⟩:=h.rp (shp:=shp) (Tr.u8 ht)
 exact ⟨y,zJ (by simpa [Value.cells,cellsOf] using h1)⟩
theorem Ar.bool (h:Ar enc P W t v) (ht:P.underlying t=some .bool):∃ y:Bool,ck (vP shp W) [] (.c (.bool (.atom y))) v:=by
 obtain ⟨base,hf⟩:=h.form
 obtain ⟨b,rfl⟩:=okWide_bool ht hf
 exact ⟨b,Pd.bool (e:=.atom b)⟩
theorem Ar.struct {s:Sh} {fs:Array Go.Field} (h:Ar enc P W t v) (hu:P.underlying t=some (.struct fs)) (ht:Tr P shp t s):∃ x:den s,ck (vP shp W) [] (.agg (cellsOf s x)) v:=by
 obtain ⟨base,hf⟩:=h.form
 obtain ⟨cs,rfl,_⟩:=okWide_struct hu hf
 obtain ⟨y,h1⟩:=h.rp ht
 exact ⟨y,cs.toList,by simp,dF (by simpa [Value.cells] using h1)⟩
theorem Bn {f:Nat} {args:List TV1} {pre:List Prop} {e:BE} {vs:List Value} (h:Sat P shp f args [] ⟨pre,[.c (.bool e)],none,false⟩) (he:e.val=true) (hv:All2 (ck (vP shp W) []) args vs):gy P f vs.toArray W fun r W'=>r = .bool true/\Kp [] W W':=by
 refine (h.2 ⟨shp,W.heap.size,fun _=>False⟩ [] W vs rfl ⟨.nil,fun _ _ _ _ _ h=>by simp at h,fun _ _ _ h=>by simp at h,fun _ h=>h.elim,Nat.le_refl _⟩ hv).mono fun v w' ⟨us,h1,h2,h3⟩=>⟨?_,h2⟩
 cases h3 with | cons h4 h5=>
 cases h5
 have h4:Pd _ (.bool e) _:=h4
 cases h4
 rw [h1,he]; rfl
theorem Bf {base:Nat} {ts:List TypeId} {args:Array Value} {ds:List (DataW H)} {p:List MemPlace} (hf:∀ (j:Nat) t v,ts[j]? = some t->args[j]? = some v->Value.okWide P W .any base t v)
  (h:DataW.TrodAll enc P W 0 (fun _=>true) true ts args.toList ds p) (hw:∀ n ∈ DataW.weightsEach P ts ds,n<=140737488351232) (hlt:∀ q ∈ p,q.block<W.heap.size) :
  args.size=ts.length/\∀ (j:Nat) t v,ts[j]? = some t->args[j]? = some v->Ar enc P W t v:=by
 have key:∀ (ts:List TypeId) (vs:List Value) (ds:List (DataW H)) (p:List MemPlace),DataW.TrodAll enc P W 0 (fun _=>true) true ts vs ds p->(∀ n ∈ DataW.weightsEach P ts ds,n<=140737488351232)->(∀ q ∈ p,q.block<W.heap.size) ->
   vs.length=ts.length/\∀ (j:Nat) t v,ts[j]? = some t->vs[j]? = some v->∃ d p fuel,DataW.trod enc P W 0 (fun _=>true) true fuel t v.cells.toList=some (d,p)/\(∀ n ∈ d.weights P t,n<=140737488351232)/\(∀ q ∈ p,q.block<W.heap.size):=by
  intro ts
  induction ts with
  | nil=>intro vs ds p h _ _; obtain ⟨rfl,_,_⟩:=trodAll_nil h; exact ⟨rfl,fun j t v h=>by simp at h⟩
  | cons t ts ih=>
   intro vs ds p h hw hlt
   obtain ⟨v,vs,d,ds,p1,p2,rfl,rfl,rfl,h1,h2⟩:=trodAll_cons h
   obtain ⟨k1,k2⟩:=ih vs ds p2 h2 (fun n hn=>hw n (by rw [DataW.weightsEach,List.mem_append]; exact .inr hn)) (fun q hq=>hlt q (List.mem_append_right _ hq))
   refine ⟨by simp [k1],fun j t' v' ht hv=>?_⟩
   cases j with
   | zero=>
    simp at ht hv
    subst ht; subst hv
    obtain ⟨fuel,hf⟩:=h1
    exact ⟨d,p1,fuel,hf,fun n hn=>hw n (by rw [DataW.weightsEach,List.mem_append]; exact .inl hn),fun q hq=>hlt q (List.mem_append_left _ hq)⟩
   | succ j=>exact k2 j t' v' (by simpa using ht) (by simpa using hv)
 obtain ⟨k1,k2⟩:=key ts args.toList ds p h hw hlt
 exact ⟨by simpa using k1,fun j t v ht hv=>⟨⟨base,hf j t v ht hv⟩,k2 j t v ht (by simpa using hv)⟩⟩
theorem vH (hl:laidOutB P=true) {W':World} (hb:Below W.heap.size W W'):∀ (ts:List TypeId) (vs:List Value) (ds:List (DataW H)) (p:List MemPlace),ts.all (fun t=>P.readableRec t && decide (t<P.types.size))=true->DataW.TrodAll enc P W 0 (fun _=>true) true ts vs ds p->(∀ q ∈ p,q.block<W.heap.size) ->
  DataW.TrodAll enc P W' 0 (fun b=>decide (b<W.heap.size)) true ts vs ds p:=by
 intro ts
 induction ts with
 | nil=>intro vs ds p _ h _; obtain ⟨rfl,rfl,rfl⟩:=trodAll_nil h; rfl
 | cons t ts ih=>
  intro vs ds p hr h hlt
  obtain ⟨v,vs,d,ds,p1,p2,rfl,rfl,rfl,h1,h2⟩:=trodAll_cons h
  rw [List.all_cons,Bool.and_eq_true,Bool.and_eq_true,decide_eq_true_eq] at hr
  exact ⟨p1,p2,Below.trod hl hr.1.1 hr.1.2 h1 hb fun q hq=>hlt q (List.mem_append_left _ hq),ih vs ds p2 hr.2 h2 fun q hq=>hlt q (List.mem_append_right _ hq),rfl⟩
theorem Ae {fn:Func} {s:ChangeSpec} {tb:TypeId} {W':World} {args:Array Value} {ds:List (DataW H)} {p:List MemPlace} (hl:laidOutB P=true)
  (hrow:fn.params.toList.all (fun t=>P.readableRec t && decide (t<P.types.size))=true) (hr:fn.resultTypes = #[tb]) (hb:P.underlying tb=some .bool) (hv:s.vars=[])
  (hs:s.fn H (ds++[])={ results:=[.lit (.bool true)],args:=ds }) (hW:DataW.Whole enc P fn.params.toList s.vars false W args.toList ds [] p) (hA:DataW.TrodAll enc P W 0 (fun _=>true) true fn.params.toList args.toList ds p) (hlt:∀ q ∈ p,q.block<W.heap.size) (hk:Kp [] W W') :
  s.post enc P fn false true false false W args (.bool true) W':=by
 refine ⟨ds,[],p,[],p,[],hW,?_,?_,?_,hk.below.frame _,fun h=>by cases h⟩
 ·rw [hs,hr]
  exact trodAll_mk1 ⟨1,by simp [DataW.trod,Value.cells,hb]⟩
 ·rw [hs]
  exact vH hl hk.below _ _ _ _ hrow hA hlt
 ·rw [hs,hv]; rfl
theorem xW {C:Checked} {os:Os} {f:FuncId} {fn:Func} {s:ChangeSpec} {conds:List PathCond} {tb:TypeId} (own:ownKnob C.prog.godebug=none) (started:os.Started) (noInit:C.prog.inits.idxOf? f=none) (hfn:C.prog.funcs[f]? = some fn)
  (witness:∃ (w:World) (tape:Tape) (i:Input),w.os=os/\(w.forCall tape i).Shaped C.prog/\i.vars=[]/\Input.okWide C.prog (w.forCall tape i) .any w.heap.size f i /\
   s.pre6 enc C.prog fn conds false (w.forCall tape i).memory i.args/\({}:Assume).holds C.prog (lone (Frame.enter C.prog f i.args .normal) [] (w.forCall tape i)))
  (hl:laidOutB C.prog=true) (hrow:fn.params.toList.all (fun t=>C.prog.readableRec t && decide (t<C.prog.types.size))=true) (hr:fn.resultTypes = #[tb]) (hb:C.prog.underlying tb=some .bool) (hv:s.vars=[])
  (hs:∀ ds:List (DataW H),ds.length=fn.params.size->s.fn H ds={ results:=[.lit (.bool true)],args:=ds })
  (law:∀ (W:World) (args:Array Value),args.size=fn.params.toList.length->(∀ (j:Nat) t v,fn.params.toList[j]? = some t->args[j]? = some v->Ar enc C.prog W t v)->gy C.prog f args W fun r W'=>r = .bool true/\Kp [] W W') :
  ReturnsInHanded {} C os f .any (s.pre6 enc C.prog fn conds false) (s.post enc C.prog fn false true false false):=by
 refine returnsInHanded_of_change_sized own started noInit hfn witness ?_
 intro W base args ds gs before hval hW _ hsz _
 have hW0:=hW
 obtain ⟨p,q,hA,hV,rfl,_,_⟩:=hW
 rw [hv] at hV
 obtain ⟨rfl,rfl⟩:=trodVars_none hV
 simp only [List.append_nil] at hW0 hsz
 have hlt:∀ x ∈ p,x.block<W.heap.size:=fun x hx=>by simpa using hW0.lt x hx
 have hwt:∀ n ∈ DataW.weightsEach C.prog fn.params.toList ds,n<=140737488351232:=fun n hn=>by
  have hmem:n ∈ DataW.weightsEach C.prog (fn.params.toList++s.plain.varTypes C.prog) ds:=by
   have:∀ (ts us:List TypeId) (ds:List (DataW H)),n ∈ DataW.weightsEach C.prog ts ds->n ∈ DataW.weightsEach C.prog (ts++us) ds:=by
    intro ts
    induction ts with
    | nil=>intro us ds h; simp [DataW.weightsEach] at h
    | cons t ts ih=>
     intro us ds h
     cases ds with
     | nil=>simp [DataW.weightsEach] at h
     | cons d ds=>
      rw [DataW.weightsEach,List.mem_append] at h
      rw [List.cons_append,DataW.weightsEach,List.mem_append]
      exact h.imp id (ih us ds)
   exact this _ _ _ hn
  exact of_decide_eq_true (List.all_eq_true.1 hsz n hmem)
 obtain ⟨hsize,har⟩:=Bf (fun j t v ht hv=>hval j t v (by simpa using ht) hv) hA hwt hlt
 have hdl:ds.length=fn.params.size:=by
  have:∀ (ts:List TypeId) (vs:List Value) (ds:List (DataW H)) (p:List MemPlace),DataW.TrodAll enc C.prog W 0 (fun _=>true) true ts vs ds p->ds.length=ts.length:=by
   intro ts
   induction ts with
   | nil=>intro vs ds p h; obtain ⟨_,rfl,_⟩:=trodAll_nil h; rfl
   | cons t ts ih=>intro vs ds p h; obtain ⟨v,vs,d,ds,p1,p2,rfl,rfl,rfl,_,h2⟩:=trodAll_cons h; simp [ih vs ds p2 h2]
  simpa using this _ _ _ _ hA
 refine Calls.mono (law W args hsize har) fun e W' ⟨v,he,hv',hk⟩=>⟨v,he,?_⟩
 subst hv'
 exact Ae hl hrow hr hb hv (by rw [List.append_nil]; exact hs ds hdl) hW0 hA hlt hk
end
end Go.Proofs.YtdggohppeeaipaaGreat
namespace Go.Proofs.YtdggohppeeaipaaGreat
open Go.RowKit Go.ChangeShapes Go.WideShapes
theorem zn:ownKnob Tryz.prog.godebug=none:=by kernel_rfl
theorem yl:laidOutB Tryz.prog=true:=by kernel_rfl
theorem HY:Tr Tryz.prog (aq aF) 59 (.nm .snap):=Tr.struct (ss:=[.int,.int,(.lst .int),.bool,.str]) Tryz.underlying59 (by kernel_rfl) (fun cells h=>by
 obtain ⟨y0,l0,rfl,y1,l1,rfl,y2,l2,rfl,y3,l3,rfl,y4,l4,rfl,rfl⟩:=h
 exact ⟨⟨y0,y1,y2,y3,y4⟩,rfl⟩) (g_.cons (Tr.int Tryz.underlying3) rfl (by kernel_rfl) (g_.cons (Tr.int Tryz.underlying3) rfl (by kernel_rfl) (g_.cons (Tr.list Tryz.underlying27 (by kernel_rfl) (by kernel_rfl) (Tr.int Tryz.underlying3)) rfl (by kernel_rfl) (g_.cons (Tr.bool Tryz.underlying4) rfl (by kernel_rfl) (g_.cons (Tr.str Tryz.underlying9) rfl (by kernel_rfl) (g_.nil))))))
theorem Ip:Tr Tryz.prog (aq aF) 77 (.nm .opn):=Tr.struct (ss:=[.int,.int]) Tryz.underlying77 (by kernel_rfl) (fun cells h=>by
 obtain ⟨y0,l0,rfl,y1,l1,rfl,rfl⟩:=h
 exact ⟨⟨y0,y1⟩,rfl⟩) (g_.cons (Tr.int Tryz.underlying3) rfl (by kernel_rfl) (g_.cons (Tr.int Tryz.underlying3) rfl (by kernel_rfl) (g_.nil)))
theorem Ic:Tr Tryz.prog (aq aF) 35 (.nm .reply):=Tr.struct (ss:=[.int,.int]) Tryz.underlying35 (by kernel_rfl) (fun cells h=>by
 obtain ⟨y0,l0,rfl,y1,l1,rfl,rfl⟩:=h
 exact ⟨⟨y0,y1⟩,rfl⟩) (g_.cons (Tr.int Tryz.underlying33) rfl (by kernel_rfl) (g_.cons (Tr.int Tryz.underlying3) rfl (by kernel_rfl) (g_.nil)))
theorem HR:Tr Tryz.prog (aq aF) 44 (.nm .sess):=Tr.struct (ss:=[.int,.int,(.nm .reply)]) Tryz.underlying44 (by kernel_rfl) (fun cells h=>by
 obtain ⟨y0,l0,rfl,y1,l1,rfl,y2,l2,rfl,rfl⟩:=h
 exact ⟨⟨y0,y1,y2⟩,rfl⟩) (g_.cons (Tr.int Tryz.underlying3) rfl (by kernel_rfl) (g_.cons (Tr.int Tryz.underlying3) rfl (by kernel_rfl) (g_.cons (Ic) rfl (by kernel_rfl) (g_.nil))))
theorem Ij:Tr Tryz.prog (aq aF) 26 (.nm .state):=Tr.struct (ss:=[.int,.int,.int,.int,(.lst (.nm .sess)),(.lst (.nm .opn)),(.lst (.nm .snap))]) Tryz.underlying26 (by kernel_rfl) (fun cells h=>by
 obtain ⟨y0,l0,rfl,y1,l1,rfl,y2,l2,rfl,y3,l3,rfl,y4,l4,rfl,y5,l5,rfl,y6,l6,rfl,rfl⟩:=h
 exact ⟨⟨y0,y1,y2,y3,y4,y5,y6⟩,rfl⟩) (g_.cons (Tr.int Tryz.underlying3) rfl (by kernel_rfl) (g_.cons (Tr.int Tryz.underlying3) rfl (by kernel_rfl) (g_.cons (Tr.int Tryz.underlying3) rfl (by kernel_rfl) (g_.cons (Tr.int Tryz.underlying3) rfl (by kernel_rfl) (g_.cons (Tr.list Tryz.underlying22 (by kernel_rfl) (by kernel_rfl) (HR)) rfl (by kernel_rfl) (g_.cons (Tr.list Tryz.underlying23 (by kernel_rfl) (by kernel_rfl) (Ip)) rfl (by kernel_rfl) (g_.cons (Tr.list Tryz.underlying24 (by kernel_rfl) (by kernel_rfl) (HY)) rfl (by kernel_rfl) (g_.nil))))))))
set_option maxRecDepth 100000 in
theorem iV (os:Os) (started:os.Started) (H:Type) (enc:TypeId × Value->H) :
  ReturnsInHanded {} Tryz.checked os 6 .any (Rows.migrateBumpsSpec.pre6 enc Tryz.prog Tryz.f6 Rows.migrateBumpsRow.domain false) (Rows.migrateBumpsSpec.post enc Tryz.prog Tryz.f6 false true false false):=by
 refine xW (C:=Tryz.checked) zn started (by kernel_rfl) Tryz.func6 (ChangeSpec.witness6 (enc:=enc) (C:=Tryz.checked) false ⟨#[],#[.agg #[.int .i64 0,.int .i64 0,.int .i64 0,.int .i64 0,.slice none 0 0,.slice none 0 0,.slice none 0 0]],[]⟩ 8 (by kernel_rfl) (by kernel_rfl) (by kernel_rfl) (by kernel_rfl)) yl (by kernel_rfl) (by kernel_rfl) Tryz.underlying4 rfl (fun ds h=>?_) ?_
 ·match ds,h with
  | [d0],_=>rfl
 ·intro W args hs ha
  obtain ⟨l⟩:=args
  match l,hs with
  | [v0],_=>
   obtain ⟨x0,h0⟩:=Ar.struct (shp:=aq aF) (ha 0 26 _ rfl rfl) Tryz.underlying26 Ij
   exact Bn (DE x0) rfl (.cons h0 .nil)
theorem migrateBumps_holds:Rows.MigrateBumpsSaid:=
 OpenClaim.holds_of_wide 6 Tryz.f6 rfl rfl rfl rfl rfl rfl rfl ⟨rfl,rfl,rfl,rfl,rfl⟩ rfl rfl rfl rfl rfl (by kernel_rfl) Tryz.func6 (by kernel_rfl)
  (of_decide_eq_true (by kernel_rfl)) (by unfold Func.isWrapper; first | (rw [if_pos (by decide +kernel)]; kernel_rfl) | (rw [if_neg (by decide +kernel)]; exact ⟨rfl,rfl⟩))
  (fun os started H enc _=>iV os started H enc)
end Go.Proofs.YtdggohppeeaipaaGreat
