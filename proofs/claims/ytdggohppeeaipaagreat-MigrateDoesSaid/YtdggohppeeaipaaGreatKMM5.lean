/- What leads to the law, part 5. Conditions: each lemma's own. -/
import Derived.Test.YtdggohppeeaipaaGreatKMM4
set_option linter.unusedVariables false
set_option linter.unusedSimpArgs false
namespace Go.Proofs.YtdggohppeeaipaaGreat
open Go.RowKit
theorem cw {k:Nat} {n:Int} (h0:¬ (k:Int)=0) (hk:(k:Int)<n) (hn:n<=140737488355328):(eX (k:Int) 1).toNat=k - 1/\0<=eX (k:Int) 1/\eX (k:Int) 1<n:=by
 rw [Dt ⟨by omega,by omega⟩]; omega
theorem sO {st:State} {v:Int}:(aQ st.version 1 3 && aQ st.next 1 1048576 && aQ st.keep 0 8 && aQ st.quota 0 64 && (decide (st.quota=0) || decide (3<=v)) && decide ((st.snaps.length:Int)<=16))=(jh st v && aU aM Sess.client 8 (st.sess.take 0)):=(Bool.and_true _).symm
theorem rO {st:State} {v:Int} {k:Nat} (h:(st.sess.length:Int)<=k):(jh st v && aU aM Sess.client 8 (st.sess.take k))=((jh st v && aU aM Sess.client 8 (st.sess.take st.sess.length)) && aU aN Opn.set 8 (st.opens.take 0)):=by
 rw [List.take_of_length_le (by omega),List.take_length]; exact (Bool.and_true _).symm
theorem qE {B:Bool} {st:State} {v:Int} {k:Nat} (h:(st.opens.length:Int)<=k):(B && aU aN Opn.set 8 (st.opens.take k))=((B && aU aN Opn.set 8 (st.opens.take st.opens.length)) && cA st v (st.snaps.take 0)):=by
 rw [List.take_of_length_le (by omega),List.take_length]; exact (Bool.and_true _).symm
section
variable {B:Bool} {k:Nat}
theorem pf {l:List Sess} {x:Sess} (hx:l[k]? = some x):(B && aU aM Sess.client 8 (l.take (k+1)))=((((((B && aU aM Sess.client 8 (l.take k)) && aQ x.client 1 8) && aQ x.seq 0 1048576) && aQ x.last.code 0 99) && aQ x.last.n 0 1048576) && (decide ((k:Int)=0) || decide (aY Sess.client 0 (l.take k)<x.client))):=xC hx
theorem ja {l:List Opn} {x:Opn} (hx:l[k]? = some x):(B && aU aN Opn.set 8 (l.take (k+1)))=((((B && aU aN Opn.set 8 (l.take k)) && aQ x.set 1 8) && aQ x.client 1 8) && (decide ((k:Int)=0) || decide (aY Opn.set 0 (l.take k)<x.set))):=wg hx
theorem kU {l:List Sess} {x:Sess} (hx:l[k]? = some x) (a:(B && aU aM Sess.client 8 (l.take k))=true) (b:aQ x.client 1 8=true) (c:aQ x.seq 0 1048576=true) (d:aQ x.last.code 0 99=true) (e:aQ x.last.n 0 1048576=true) (h0:(k:Int)=0):true=(B && aU aM Sess.client 8 (l.take (k+1))):=by
 rw [pf hx,a,b,c,d,e,decide_eq_true h0]; rfl
theorem kE {l:List Sess} {x:Sess} (hx:l[k]? = some x) (a:(B && aU aM Sess.client 8 (l.take k))=true) (b:aQ x.client 1 8=true) (c:aQ x.seq 0 1048576=true) (d:aQ x.last.code 0 99=true) (e:aQ x.last.n 0 1048576=true) (h0:¬ (k:Int)=0) (hk:(k:Int)<l.length) (hl:(l.length:Int)<=140737488355328):decide ((l.getD (eX (k:Int) 1).toNat (dflt (.nm .sess))).client<x.client)=(B && aU aM Sess.client 8 (l.take (k+1))):=by
 have hs:=(cw h0 hk hl).1
 rw [pf hx,a,b,c,d,e,decide_eq_false h0,hs,fk (by omega) (gd (d:=dflt (.nm .sess)) (by omega))]; rfl
theorem sm {l:List Sess} {x:Sess} (hx:l[k]? = some x) (h:(((((B && aU aM Sess.client 8 (l.take k))=false\/aQ x.client 1 8=false)\/aQ x.seq 0 1048576=false)\/aQ x.last.code 0 99=false)\/aQ x.last.n 0 1048576=false)):false=(B && aU aM Sess.client 8 (l.take (k+1))):=by
 rw [pf hx]; rcases h with (((h | h) | h) | h) | h <;> rw [h] <;> simp
theorem kS {l:List Opn} {x:Opn} (hx:l[k]? = some x) (a:(B && aU aN Opn.set 8 (l.take k))=true) (b:aQ x.set 1 8=true) (c:aQ x.client 1 8=true) (h0:(k:Int)=0):true=(B && aU aN Opn.set 8 (l.take (k+1))):=by
 rw [ja hx,a,b,c,decide_eq_true h0]; rfl
theorem kM {l:List Opn} {x:Opn} (hx:l[k]? = some x) (a:(B && aU aN Opn.set 8 (l.take k))=true) (b:aQ x.set 1 8=true) (c:aQ x.client 1 8=true) (h0:¬ (k:Int)=0) (hk:(k:Int)<l.length) (hl:(l.length:Int)<=140737488355328):decide ((l.getD (eX (k:Int) 1).toNat (dflt (.nm .opn))).set<x.set)=(B && aU aN Opn.set 8 (l.take (k+1))):=by
 have hs:=(cw h0 hk hl).1
 rw [ja hx,a,b,c,decide_eq_false h0,hs,fk (by omega) (gd (d:=dflt (.nm .opn)) (by omega))]; rfl
theorem kL {l:List Opn} {x:Opn} (hx:l[k]? = some x) (h:(B && aU aN Opn.set 8 (l.take k))=false):false=(B && aU aN Opn.set 8 (l.take (k+1))):=by rw [ja hx,h]; rfl
theorem kX {l:List Opn} {x:Opn} (hx:l[k]? = some x) (h:aQ x.set 1 8=false):false=(B && aU aN Opn.set 8 (l.take (k+1))):=by rw [ja hx,h]; simp
theorem kV {l:List Opn} {x:Opn} (hx:l[k]? = some x) (h:aQ x.client 1 8=false):false=(B && aU aN Opn.set 8 (l.take (k+1))):=by rw [ja hx,h]; simp
variable {st:State} {v:Int}
theorem kD (hk:(k:Int)<st.snaps.length) (a:(B && cA st v (st.snaps.take k))=true) (b:dQ st.next v (st.snaps.getD k (dflt (.nm .snap)))=true) (h0:(k:Int)=0):true=(B && cA st v (st.snaps.take (k+1))):=by
 rw [gB (gd hk),a,b,decide_eq_true h0]; rfl
theorem kR (hk:(k:Int)<st.snaps.length) (a:(B && cA st v (st.snaps.take k))=true) (b:dQ st.next v (st.snaps.getD k (dflt (.nm .snap)))=true) (h0:¬ (k:Int)=0) (hl:(st.snaps.length:Int)<=140737488355328):decide ((st.snaps.getD (eX (k:Int) 1).toNat (dflt (.nm .snap))).id<(st.snaps.getD k (dflt (.nm .snap))).id)=(B && cA st v (st.snaps.take (k+1))):=by
 have hs:=(cw h0 hk hl).1
 rw [gB (gd (d:=dflt (.nm .snap)) hk),a,b,decide_eq_false h0,hs,fk (by omega) (gd (d:=dflt (.nm .snap)) (by omega))]; rfl
theorem kK (hk:(k:Int)<st.snaps.length) (a:(B && cA st v (st.snaps.take k))=false):false=(B && cA st v (st.snaps.take (k+1))):=by rw [gB (gd (d:=dflt (.nm .snap)) hk),a]; rfl
theorem kF (hk:(k:Int)<st.snaps.length) (b:dQ st.next v (st.snaps.getD k (dflt (.nm .snap)))=false):false=(B && cA st v (st.snaps.take (k+1))):=by rw [gB (gd (d:=dflt (.nm .snap)) hk),b]; simp
end
theorem rJ {st:State} {v:Int} {k:Nat} (hv:aQ v 1 3=true) (h:(((jh st v && aU aM Sess.client 8 (st.sess.take st.sess.length)) && aU aN Opn.set 8 (st.opens.take st.opens.length)) && cA st v (st.snaps.take k))=false) (hk:(st.snaps.length:Int)<=k):6=mayF st v:=
 HY (by rw [hv]; rfl) (Nat.le_refl _) (Nat.le_refl _) (by omega:st.snaps.length<=k) (by rw [h]; rfl)
theorem rD {st:State} {v:Int} {k:Nat} (hv:aQ v 1 3=true) (h:(((jh st v && aU aM Sess.client 8 (st.sess.take st.sess.length)) && aU aN Opn.set 8 (st.opens.take st.opens.length)) && cA st v (st.snaps.take k))=true) (hk:(st.snaps.length:Int)<=k):0=mayF st v:=
 ID (by rw [hv]; rfl) (Nat.le_refl _) (Nat.le_refl _) (by omega:st.snaps.length<=k) (by rw [h]; rfl)
theorem rT {st:State} {v:Int} (hv:aQ v 1 3=false):1=mayF st v:=JH (by rw [hv]; rfl)
def Ei (st:State) (v:Int):List (Nat × LI):=[(5,{ σ:=Nat,F:=fun k=>([(1,one (.int (v))),(2,one (.ptr 0 0)),(5,one (.bool (.atom (jh st v && aU aM Sess.client 8 (st.sess.take k))))),(6,one (.int k))],[.box 26 (cellsOf (.nm .state) ((st)))]),J:=fun k=>k<=st.sess.length,μ:=fun k=>st.sess.length - k }),(11,{ σ:=Nat,F:=fun k=>([(1,one (.int (v))),(2,one (.ptr 0 0)),(5,one (.bool (.atom ((jh st v && aU aM Sess.client 8 (st.sess.take st.sess.length)) && aU aN Opn.set 8 (st.opens.take k))))),(8,one (.int k))],[.box 26 (cellsOf (.nm .state) ((st)))]),J:=fun k=>k<=st.opens.length,μ:=fun k=>st.opens.length - k }),(16,{ σ:=Nat,F:=fun k=>([(1,one (.int (v))),(2,one (.ptr 0 0)),(5,one (.bool (.atom (((jh st v && aU aM Sess.client 8 (st.sess.take st.sess.length)) && aU aN Opn.set 8 (st.opens.take st.opens.length)) && cA st v (st.snaps.take k))))),(10,one (.int k))],[.box 26 (cellsOf (.nm .state) ((st)))]),J:=fun k=>k<=st.snaps.length,μ:=fun k=>st.snaps.length - k })]
theorem Gt (st:State) (v:Int) (r0:Int):cM aF (De As) (Ei st v) Tryz.f18 [.agg (cellsOf (.nm .state) st),.c (.int (v))] [] [.c (.int (r0))]=((fun (q13:den (Sh.nm NT.sess))=>(fun (q12:Bool)=>(fun (q11:Nat)=>(fun (q10:Prop)=>(fun (q9:den (Sh.nm NT.snap))=>(fun (q8:List Sess)=>(fun (q7:Int)=>(fun (q6:Int)=>(fun (q5:List Opn)=>(fun (q4:List Snap)=>(fun (q3:Int)=>(fun (q2:Bool)=>(fun (q1:Bool)=>(fun (q0:Prop)=>I64 st.version->I64 st.next->I64 st.keep->I64 st.quota->q8.length*(32:Nat)<=q11->q5.length*(16:Nat)<=q11->q4.length*(64:Nat)<=q11->I64 v->(aQ v q3 (3:Int)=false->q3=r0)/\(aQ v q3 (3:Int)=true->∃ (s0:Nat),(fun (q20:Int)=>(fun (q19:Int)=>(fun (q18:Int)=>(fun (q17:Bool)=>(fun (q16:Nat)=>(fun (q15:Nat)=>(fun (q14:Nat)=>(q10/\(aQ st.version q3 (3:Int) && aQ st.next q3 (1048576:Int) && aQ st.keep q6 q7 && aQ st.quota q6 (64:Int) && (decide (st.quota=q6) || decide ((3:Int)<=v)) && decide (q18<=(16:Int)))=(q12 && aU aM Sess.client q7 (List.take s0 q8))/\q6=(↑s0:Int)/\q0)/\s0<=q16/\∀ (s:Nat),(fun (q24:Int)=>(fun (q23:Int)=>(fun (q22:Bool)=>(fun (q21:den (Sh.nm NT.sess))=>s<=q16->(q24<q20->q6<=q24/\q24<q20/\∀ (x:Sess),q8[s]? = some x->I64 x.client->I64 x.seq->I64 x.last.code->I64 x.last.n->((((q22=true/\aQ x.client q3 q7=true)/\aQ x.seq q6 (1048576:Int)=true)/\aQ x.last.code q6 (99:Int)=true)/\aQ x.last.n q6 (1048576:Int)=true->(q24=q6->I64 q23/\∃ (s':Nat),(q10/\true=(q12 && aU aM Sess.client q7 (List.take s' q8))/\q23=(↑s':Int)/\q0)/\s' <= q16/\q16 - s' < q16 - s)/\(¬q24=q6->(q6<=eX q24 q3/\eX q24 q3<q20)/\(I64 q21.client->I64 q21.seq->I64 q21.last.code->I64 q21.last.n->I64 q23/\∃ (s':Nat),(q10/\decide (q21.client<x.client)=(q12 && aU aM Sess.client q7 (List.take s' q8))/\q23=(↑s':Int)/\q0)/\s' <= q16/\q16 - s' < q16 - s)))/\((((q22=false\/aQ x.client q3 q7=false)\/aQ x.seq q6 (1048576:Int)=false)\/aQ x.last.code q6 (99:Int)=false)\/aQ x.last.n q6 (1048576:Int)=false->I64 q23/\∃ (s':Nat),(q10/\false=(q12 && aU aM Sess.client q7 (List.take s' q8))/\q23=(↑s':Int)/\q0)/\s' <= q16/\q16 - s' < q16 - s))/\(q20<=q24->∃ (s0:Nat),(q10/\q22=(q1 && aU aN Opn.set q7 (List.take s0 q5))/\q6=(↑s0:Int)/\q0)/\s0<=q14/\∀ (s:Nat),(fun (q29:Int)=>(fun (q28:Int)=>(fun (q27:Bool)=>(fun (q26:den (Sh.nm NT.opn))=>(fun (q25:Prop)=>s<=q14->(q29<q19->q6<=q29/\q29<q19/\∀ (x:Opn),q5[s]? = some x->I64 x.set->I64 x.client->(q27=true->(aQ x.set q3 q7=true->(aQ x.client q3 q7=true->(q29=q6->I64 q28/\∃ (s':Nat),(q10/\true=(q1 && aU aN Opn.set q7 (List.take s' q5))/\q28=(↑s':Int)/\q0)/\s' <= q14/\q14 - s' < q14 - s)/\(¬q29=q6->(q6<=eX q29 q3/\eX q29 q3<q19)/\(I64 q26.set->I64 q26.client->I64 q28/\∃ (s':Nat),(q10/\decide (q26.set<x.set)=(q1 && aU aN Opn.set q7 (List.take s' q5))/\q28=(↑s':Int)/\q0)/\s' <= q14/\q14 - s' < q14 - s)))/\(aQ x.client q3 q7=false->q25))/\(aQ x.set q3 q7=false->q25))/\(q27=false->q25))/\(q19<=q29->∃ (s0:Nat),(q10/\q27=(q17 && cA st v (List.take s0 q4))/\q6=(↑s0:Int)/\q0)/\s0<=q15/\∀ (s:Nat),(fun (q34:Int)=>(fun (q33:Bool)=>(fun (q32:den (Sh.nm NT.snap))=>(fun (q31:den (Sh.nm NT.snap))=>(fun (q30:Prop)=>s<=q15->(q34<q18->q6<=q34/\q34<q18/\(I64 q32.id->I64 q32.set->q32.chunks.length*(8:Nat)<=q11->q32.tag.b.length<=q11->(q33=true->(dQ st.next v q32=true->(q34=q6->I64 (q34+q3)/\∃ (s':Nat),(q10/\true=(q17 && cA st v (List.take s' q4))/\q34+q3=(↑s':Int)/\q0)/\s' <= q15/\q15 - s' < q15 - s)/\(¬q34=q6->(q6<=eX q34 q3/\eX q34 q3<q18)/\(q6<=q34/\q34<q18)/\(I64 q31.id->I64 q31.set->q31.chunks.length*(8:Nat)<=q11->q31.tag.b.length<=q11->I64 q32.id->I64 q32.set->q32.chunks.length*(8:Nat)<=q11->q32.tag.b.length<=q11->I64 (q34+q3)/\∃ (s':Nat),(q10/\decide (q31.id<q32.id)=(q17 && cA st v (List.take s' q4))/\q34+q3=(↑s':Int)/\q0)/\s' <= q15/\q15 - s' < q15 - s)))/\(dQ st.next v q32=false->q30))/\(q33=false->q30)))/\(q18<=q34->(q33=false->(6:Int)=r0)/\(q33=true->q6=r0))) (I64 (q34+q3)/\∃ (s':Nat),(q10/\false=(q17 && cA st v (List.take s' q4))/\q34+q3=(↑s':Int)/\q0)/\s' <= q15/\q15 - s' < q15 - s)) (q4.getD (eX q34 q3).toNat q9)) (q4.getD s q9)) (q17 && cA st v (List.take s q4))) (↑s:Int))) (I64 q28/\∃ (s':Nat),(q10/\false=(q1 && aU aN Opn.set q7 (List.take s' q5))/\q28=(↑s':Int)/\q0)/\s' <= q14/\q14 - s' < q14 - s)) (q5.getD (eX q29 q3).toNat (dflt (Sh.nm NT.opn)))) (q1 && aU aN Opn.set q7 (List.take s q5))) (q29+q3)) (↑s:Int))) (q8.getD (eX q24 q3).toNat q13)) (q12 && aU aM Sess.client q7 (List.take s q8))) (q24+q3)) (↑s:Int)) q5.length) q4.length) q8.length) (q1 && q2)) (↑q4.length:Int)) (↑q5.length:Int)) (↑q8.length:Int))) (st.version=st.version/\st.next=st.next/\st.keep=st.keep/\st.quota=st.quota/\q8=q8/\q5=q5/\q4=q4)) (q12 && aU aM Sess.client q7 (List.take q8.length q8))) (aU aN Opn.set q7 (List.take q5.length q5))) (1:Int)) st.snaps) st.opens) (0:Int)) (8:Int)) st.sess) (dflt (Sh.nm NT.snap))) (v=v)) (140737488355328:Nat)) (jh st v)) (dflt (Sh.nm NT.sess))):=by kernel_rfl
theorem Ha (st:State) (v:Int):Sat Tryz.prog (au aF) 18 [.agg (cellsOf (.nm .state) st),.c (.int (v))] [] ⟨[],[.c (.int ((mayF st v)))],none,false⟩:=by
 refine aR (uU qH) (Ei st v) Tryz.func18 (by decide) (by kernel_rfl) ?_
 rw [Gt]
 (repeat' (first | with_reducible refine And.intro ?_ ?_ | with_reducible refine and_imp.2 ?_ | intro))
 all_goals try (first | (first | with_reducible rfl | with_reducible assumption | omega | (refine aq ?_ ?_ <;> omega)) | exact rfl | exact (rT (by with_reducible assumption)) | exact sO | exact (rO (by omega)) | exact (qE (by omega)) | exact (cw (by with_reducible assumption) (by with_reducible assumption) (by omega)).2.1 | exact (cw (by with_reducible assumption) (by with_reducible assumption) (by omega)).2.2 | exact (kU (by with_reducible assumption) (by with_reducible assumption) (by with_reducible assumption) (by with_reducible assumption) (by with_reducible assumption) (by with_reducible assumption) (by with_reducible assumption)) | exact (kE (by with_reducible assumption) (by with_reducible assumption) (by with_reducible assumption) (by with_reducible assumption) (by with_reducible assumption) (by with_reducible assumption) (by with_reducible assumption) (by with_reducible assumption) (by omega)) | exact (sm (by with_reducible assumption) (by with_reducible assumption)) | exact (kS (by with_reducible assumption) (by with_reducible assumption) (by with_reducible assumption) (by with_reducible assumption) (by with_reducible assumption)) | exact (kM (by with_reducible assumption) (by with_reducible assumption) (by with_reducible assumption) (by with_reducible assumption) (by with_reducible assumption) (by with_reducible assumption) (by omega)) | exact (kL (by with_reducible assumption) (by with_reducible assumption)) | exact (kX (by with_reducible assumption) (by with_reducible assumption)) | exact (kV (by with_reducible assumption) (by with_reducible assumption)) | exact (kD (by with_reducible assumption) (by with_reducible assumption) (by with_reducible assumption) (by with_reducible assumption)) | exact (kR (by with_reducible assumption) (by with_reducible assumption) (by with_reducible assumption) (by with_reducible assumption) (by omega)) | exact (kK (by with_reducible assumption) (by with_reducible assumption)) | exact (kF (by with_reducible assumption) (by with_reducible assumption)) | exact (rJ (by with_reducible assumption) (by with_reducible assumption) (by omega)) | exact (rD (by with_reducible assumption) (by with_reducible assumption) (by omega)))
 all_goals try (refine ⟨0,?_⟩; (repeat' (first | with_reducible refine And.intro ?_ ?_ | with_reducible refine and_imp.2 ?_ | intro)))
 all_goals try (first | (first | with_reducible rfl | with_reducible assumption | omega | (refine aq ?_ ?_ <;> omega)) | exact rfl | exact (rT (by with_reducible assumption)) | exact sO | exact (rO (by omega)) | exact (qE (by omega)) | exact (cw (by with_reducible assumption) (by with_reducible assumption) (by omega)).2.1 | exact (cw (by with_reducible assumption) (by with_reducible assumption) (by omega)).2.2 | exact (kU (by with_reducible assumption) (by with_reducible assumption) (by with_reducible assumption) (by with_reducible assumption) (by with_reducible assumption) (by with_reducible assumption) (by with_reducible assumption)) | exact (kE (by with_reducible assumption) (by with_reducible assumption) (by with_reducible assumption) (by with_reducible assumption) (by with_reducible assumption) (by with_reducible assumption) (by with_reducible assumption) (by with_reducible assumption) (by omega)) | exact (sm (by with_reducible assumption) (by with_reducible assumption)) | exact (kS (by with_reducible assumption) (by with_reducible assumption) (by with_reducible assumption) (by with_reducible assumption) (by with_reducible assumption)) | exact (kM (by with_reducible assumption) (by with_reducible assumption) (by with_reducible assumption) (by with_reducible assumption) (by with_reducible assumption) (by with_reducible assumption) (by omega)) | exact (kL (by with_reducible assumption) (by with_reducible assumption)) | exact (kX (by with_reducible assumption) (by with_reducible assumption)) | exact (kV (by with_reducible assumption) (by with_reducible assumption)) | exact (kD (by with_reducible assumption) (by with_reducible assumption) (by with_reducible assumption) (by with_reducible assumption)) | exact (kR (by with_reducible assumption) (by with_reducible assumption) (by with_reducible assumption) (by with_reducible assumption) (by omega)) | exact (kK (by with_reducible assumption) (by with_reducible assumption)) | exact (kF (by with_reducible assumption) (by with_reducible assumption)) | exact (rJ (by with_reducible assumption) (by with_reducible assumption) (by omega)) | exact (rD (by with_reducible assumption) (by with_reducible assumption) (by omega)))
 all_goals try (have hg:(‹Nat›:Int)<(st.sess.length:Int):=(by omega); clear hg; refine ⟨‹Nat› + 1,?_⟩; (repeat' (first | with_reducible refine And.intro ?_ ?_ | with_reducible refine and_imp.2 ?_ | intro)))
 all_goals try (first | (first | with_reducible rfl | with_reducible assumption | omega | (refine aq ?_ ?_ <;> omega)) | exact rfl | exact (rT (by with_reducible assumption)) | exact sO | exact (rO (by omega)) | exact (qE (by omega)) | exact (cw (by with_reducible assumption) (by with_reducible assumption) (by omega)).2.1 | exact (cw (by with_reducible assumption) (by with_reducible assumption) (by omega)).2.2 | exact (kU (by with_reducible assumption) (by with_reducible assumption) (by with_reducible assumption) (by with_reducible assumption) (by with_reducible assumption) (by with_reducible assumption) (by with_reducible assumption)) | exact (kE (by with_reducible assumption) (by with_reducible assumption) (by with_reducible assumption) (by with_reducible assumption) (by with_reducible assumption) (by with_reducible assumption) (by with_reducible assumption) (by with_reducible assumption) (by omega)) | exact (sm (by with_reducible assumption) (by with_reducible assumption)) | exact (kS (by with_reducible assumption) (by with_reducible assumption) (by with_reducible assumption) (by with_reducible assumption) (by with_reducible assumption)) | exact (kM (by with_reducible assumption) (by with_reducible assumption) (by with_reducible assumption) (by with_reducible assumption) (by with_reducible assumption) (by with_reducible assumption) (by omega)) | exact (kL (by with_reducible assumption) (by with_reducible assumption)) | exact (kX (by with_reducible assumption) (by with_reducible assumption)) | exact (kV (by with_reducible assumption) (by with_reducible assumption)) | exact (kD (by with_reducible assumption) (by with_reducible assumption) (by with_reducible assumption) (by with_reducible assumption)) | exact (kR (by with_reducible assumption) (by with_reducible assumption) (by with_reducible assumption) (by with_reducible assumption) (by omega)) | exact (kK (by with_reducible assumption) (by with_reducible assumption)) | exact (kF (by with_reducible assumption) (by with_reducible assumption)) | exact (rJ (by with_reducible assumption) (by with_reducible assumption) (by omega)) | exact (rD (by with_reducible assumption) (by with_reducible assumption) (by omega)))
 all_goals try (have hg:((st.sess.length:Nat):Int)<=(‹Nat›:Int):=(by omega); clear hg; refine ⟨0,?_⟩; (repeat' (first | with_reducible refine And.intro ?_ ?_ | with_reducible refine and_imp.2 ?_ | intro)))
 all_goals try (first | (first | with_reducible rfl | with_reducible assumption | omega | (refine aq ?_ ?_ <;> omega)) | exact rfl | exact (rT (by with_reducible assumption)) | exact sO | exact (rO (by omega)) | exact (qE (by omega)) | exact (cw (by with_reducible assumption) (by with_reducible assumption) (by omega)).2.1 | exact (cw (by with_reducible assumption) (by with_reducible assumption) (by omega)).2.2 | exact (kU (by with_reducible assumption) (by with_reducible assumption) (by with_reducible assumption) (by with_reducible assumption) (by with_reducible assumption) (by with_reducible assumption) (by with_reducible assumption)) | exact (kE (by with_reducible assumption) (by with_reducible assumption) (by with_reducible assumption) (by with_reducible assumption) (by with_reducible assumption) (by with_reducible assumption) (by with_reducible assumption) (by with_reducible assumption) (by omega)) | exact (sm (by with_reducible assumption) (by with_reducible assumption)) | exact (kS (by with_reducible assumption) (by with_reducible assumption) (by with_reducible assumption) (by with_reducible assumption) (by with_reducible assumption)) | exact (kM (by with_reducible assumption) (by with_reducible assumption) (by with_reducible assumption) (by with_reducible assumption) (by with_reducible assumption) (by with_reducible assumption) (by omega)) | exact (kL (by with_reducible assumption) (by with_reducible assumption)) | exact (kX (by with_reducible assumption) (by with_reducible assumption)) | exact (kV (by with_reducible assumption) (by with_reducible assumption)) | exact (kD (by with_reducible assumption) (by with_reducible assumption) (by with_reducible assumption) (by with_reducible assumption)) | exact (kR (by with_reducible assumption) (by with_reducible assumption) (by with_reducible assumption) (by with_reducible assumption) (by omega)) | exact (kK (by with_reducible assumption) (by with_reducible assumption)) | exact (kF (by with_reducible assumption) (by with_reducible assumption)) | exact (rJ (by with_reducible assumption) (by with_reducible assumption) (by omega)) | exact (rD (by with_reducible assumption) (by with_reducible assumption) (by omega)))
 all_goals try (have hg:(‹Nat›:Int)<(st.opens.length:Int):=(by omega); clear hg; refine ⟨‹Nat› + 1,?_⟩; (repeat' (first | with_reducible refine And.intro ?_ ?_ | with_reducible refine and_imp.2 ?_ | intro)))
 all_goals try (first | (first | with_reducible rfl | with_reducible assumption | omega | (refine aq ?_ ?_ <;> omega)) | exact rfl | exact (rT (by with_reducible assumption)) | exact sO | exact (rO (by omega)) | exact (qE (by omega)) | exact (cw (by with_reducible assumption) (by with_reducible assumption) (by omega)).2.1 | exact (cw (by with_reducible assumption) (by with_reducible assumption) (by omega)).2.2 | exact (kU (by with_reducible assumption) (by with_reducible assumption) (by with_reducible assumption) (by with_reducible assumption) (by with_reducible assumption) (by with_reducible assumption) (by with_reducible assumption)) | exact (kE (by with_reducible assumption) (by with_reducible assumption) (by with_reducible assumption) (by with_reducible assumption) (by with_reducible assumption) (by with_reducible assumption) (by with_reducible assumption) (by with_reducible assumption) (by omega)) | exact (sm (by with_reducible assumption) (by with_reducible assumption)) | exact (kS (by with_reducible assumption) (by with_reducible assumption) (by with_reducible assumption) (by with_reducible assumption) (by with_reducible assumption)) | exact (kM (by with_reducible assumption) (by with_reducible assumption) (by with_reducible assumption) (by with_reducible assumption) (by with_reducible assumption) (by with_reducible assumption) (by omega)) | exact (kL (by with_reducible assumption) (by with_reducible assumption)) | exact (kX (by with_reducible assumption) (by with_reducible assumption)) | exact (kV (by with_reducible assumption) (by with_reducible assumption)) | exact (kD (by with_reducible assumption) (by with_reducible assumption) (by with_reducible assumption) (by with_reducible assumption)) | exact (kR (by with_reducible assumption) (by with_reducible assumption) (by with_reducible assumption) (by with_reducible assumption) (by omega)) | exact (kK (by with_reducible assumption) (by with_reducible assumption)) | exact (kF (by with_reducible assumption) (by with_reducible assumption)) | exact (rJ (by with_reducible assumption) (by with_reducible assumption) (by omega)) | exact (rD (by with_reducible assumption) (by with_reducible assumption) (by omega)))
 all_goals try (have hg:((st.opens.length:Nat):Int)<=(‹Nat›:Int):=(by omega); clear hg; refine ⟨0,?_⟩; (repeat' (first | with_reducible refine And.intro ?_ ?_ | with_reducible refine and_imp.2 ?_ | intro)))
 all_goals try (first | (first | with_reducible rfl | with_reducible assumption | omega | (refine aq ?_ ?_ <;> omega)) | exact rfl | exact (rT (by with_reducible assumption)) | exact sO | exact (rO (by omega)) | exact (qE (by omega)) | exact (cw (by with_reducible assumption) (by with_reducible assumption) (by omega)).2.1 | exact (cw (by with_reducible assumption) (by with_reducible assumption) (by omega)).2.2 | exact (kU (by with_reducible assumption) (by with_reducible assumption) (by with_reducible assumption) (by with_reducible assumption) (by with_reducible assumption) (by with_reducible assumption) (by with_reducible assumption)) | exact (kE (by with_reducible assumption) (by with_reducible assumption) (by with_reducible assumption) (by with_reducible assumption) (by with_reducible assumption) (by with_reducible assumption) (by with_reducible assumption) (by with_reducible assumption) (by omega)) | exact (sm (by with_reducible assumption) (by with_reducible assumption)) | exact (kS (by with_reducible assumption) (by with_reducible assumption) (by with_reducible assumption) (by with_reducible assumption) (by with_reducible assumption)) | exact (kM (by with_reducible assumption) (by with_reducible assumption) (by with_reducible assumption) (by with_reducible assumption) (by with_reducible assumption) (by with_reducible assumption) (by omega)) | exact (kL (by with_reducible assumption) (by with_reducible assumption)) | exact (kX (by with_reducible assumption) (by with_reducible assumption)) | exact (kV (by with_reducible assumption) (by with_reducible assumption)) | exact (kD (by with_reducible assumption) (by with_reducible assumption) (by with_reducible assumption) (by with_reducible assumption)) | exact (kR (by with_reducible assumption) (by with_reducible assumption) (by with_reducible assumption) (by with_reducible assumption) (by omega)) | exact (kK (by with_reducible assumption) (by with_reducible assumption)) | exact (kF (by with_reducible assumption) (by with_reducible assumption)) | exact (rJ (by with_reducible assumption) (by with_reducible assumption) (by omega)) | exact (rD (by with_reducible assumption) (by with_reducible assumption) (by omega)))
 all_goals try (refine ⟨‹Nat› + 1,?_⟩; (repeat' (first | with_reducible refine And.intro ?_ ?_ | with_reducible refine and_imp.2 ?_ | intro)))
 all_goals try (first | (first | with_reducible rfl | with_reducible assumption | omega | (refine aq ?_ ?_ <;> omega)) | exact rfl | exact (rT (by with_reducible assumption)) | exact sO | exact (rO (by omega)) | exact (qE (by omega)) | exact (cw (by with_reducible assumption) (by with_reducible assumption) (by omega)).2.1 | exact (cw (by with_reducible assumption) (by with_reducible assumption) (by omega)).2.2 | exact (kU (by with_reducible assumption) (by with_reducible assumption) (by with_reducible assumption) (by with_reducible assumption) (by with_reducible assumption) (by with_reducible assumption) (by with_reducible assumption)) | exact (kE (by with_reducible assumption) (by with_reducible assumption) (by with_reducible assumption) (by with_reducible assumption) (by with_reducible assumption) (by with_reducible assumption) (by with_reducible assumption) (by with_reducible assumption) (by omega)) | exact (sm (by with_reducible assumption) (by with_reducible assumption)) | exact (kS (by with_reducible assumption) (by with_reducible assumption) (by with_reducible assumption) (by with_reducible assumption) (by with_reducible assumption)) | exact (kM (by with_reducible assumption) (by with_reducible assumption) (by with_reducible assumption) (by with_reducible assumption) (by with_reducible assumption) (by with_reducible assumption) (by omega)) | exact (kL (by with_reducible assumption) (by with_reducible assumption)) | exact (kX (by with_reducible assumption) (by with_reducible assumption)) | exact (kV (by with_reducible assumption) (by with_reducible assumption)) | exact (kD (by with_reducible assumption) (by with_reducible assumption) (by with_reducible assumption) (by with_reducible assumption)) | exact (kR (by with_reducible assumption) (by with_reducible assumption) (by with_reducible assumption) (by with_reducible assumption) (by omega)) | exact (kK (by with_reducible assumption) (by with_reducible assumption)) | exact (kF (by with_reducible assumption) (by with_reducible assumption)) | exact (rJ (by with_reducible assumption) (by with_reducible assumption) (by omega)) | exact (rD (by with_reducible assumption) (by with_reducible assumption) (by omega)))
 all_goals (first | (first | with_reducible rfl | with_reducible assumption | omega | (refine aq ?_ ?_ <;> omega)) | exact rfl | exact (rT (by with_reducible assumption)) | exact sO | exact (rO (by omega)) | exact (qE (by omega)) | exact (cw (by with_reducible assumption) (by with_reducible assumption) (by omega)).2.1 | exact (cw (by with_reducible assumption) (by with_reducible assumption) (by omega)).2.2 | exact (kU (by with_reducible assumption) (by with_reducible assumption) (by with_reducible assumption) (by with_reducible assumption) (by with_reducible assumption) (by with_reducible assumption) (by with_reducible assumption)) | exact (kE (by with_reducible assumption) (by with_reducible assumption) (by with_reducible assumption) (by with_reducible assumption) (by with_reducible assumption) (by with_reducible assumption) (by with_reducible assumption) (by with_reducible assumption) (by omega)) | exact (sm (by with_reducible assumption) (by with_reducible assumption)) | exact (kS (by with_reducible assumption) (by with_reducible assumption) (by with_reducible assumption) (by with_reducible assumption) (by with_reducible assumption)) | exact (kM (by with_reducible assumption) (by with_reducible assumption) (by with_reducible assumption) (by with_reducible assumption) (by with_reducible assumption) (by with_reducible assumption) (by omega)) | exact (kL (by with_reducible assumption) (by with_reducible assumption)) | exact (kX (by with_reducible assumption) (by with_reducible assumption)) | exact (kV (by with_reducible assumption) (by with_reducible assumption)) | exact (kD (by with_reducible assumption) (by with_reducible assumption) (by with_reducible assumption) (by with_reducible assumption)) | exact (kR (by with_reducible assumption) (by with_reducible assumption) (by with_reducible assumption) (by with_reducible assumption) (by omega)) | exact (kK (by with_reducible assumption) (by with_reducible assumption)) | exact (kF (by with_reducible assumption) (by with_reducible assumption)) | exact (rJ (by with_reducible assumption) (by with_reducible assumption) (by omega)) | exact (rD (by with_reducible assumption) (by with_reducible assumption) (by omega)))
def uZ:cC:=(bR 18 (bJ (ah (kT (.nm .state)) (ah (kC cI) aO)) aP fun (st,v,_) (_)=>⟨[],[.c (.int ((mayF st v)))],none,false⟩) As)
theorem nu:aX Tryz.prog (au aF) uZ:=(az (ay (ab bK (ab (av aw) al)) ao fun (st,v,_) (_) _=>Ha st v ) qH)
end Go.Proofs.YtdggohppeeaipaaGreat
namespace Go.Proofs.YtdggohppeeaipaaGreat
open Go.RowKit
theorem yU {c:Command} {lo hi:Int} (hlo:lo=(iQ c.kind).1) (hhi:hi=(iQ c.kind).2):((((((eO c.client (!decide (c.kind=8)) 1 8 && eO c.seq (!decide (c.kind=8) && !decide (c.kind=1)) 1 1048576) && eO c.set (aQ c.kind 2 4) 1 8) && eO c.id (decide (c.kind=5) || decide (c.kind=7) || aQ c.kind 9 11) 1 1048576) && eO c.n (decide (c.kind=6) || decide (c.kind=8) || decide (c.kind=12)) lo hi) && uG c) && (decide (((c.text.b.length:Nat):Int)=0) || (decide (c.kind=11) && decide (((c.text.b.length:Nat):Int)<=16))))=dr c:=by
 subst hlo; subst hhi; exact yf
theorem JL {c:Command} {v:Int} (h:aQ v 1 3=false\/bC c.kind=0):1=bh c v:=by
 refine Iv ?_
 rcases h with h | h
 ·rw [h]; rfl
 ·rw [decide_eq_true h,Bool.or_true]
theorem EW {c:Command} {v:Int} (h1:aQ v 1 3=true) (h2:¬ bC c.kind=0):(!(aQ v 1 3) || decide (bC c.kind=0))=false:=by rw [h1,decide_eq_false h2]; rfl
theorem Ho {c:Command} {v:Int} (h1:aQ v 1 3=true) (h2:¬ bC c.kind=0) (h3:v<bC c.kind):10=bh c v:=GL (EW h1 h2) h3
theorem JA {c:Command} {v lo hi:Int} {p:Prop} (h1:aQ v 1 3=true) (h2:¬ bC c.kind=0) (h3:bC c.kind<=v) (h:((((((eO c.client (!decide (c.kind=8)) 1 8=false\/eO c.seq (!decide (c.kind=8) && !decide (c.kind=1)) 1 1048576=false)\/eO c.set (aQ c.kind 2 4) 1 8=false)\/eO c.id (decide (c.kind=5) || decide (c.kind=7) || aQ c.kind 9 11) 1 1048576=false)\/eO c.n (decide (c.kind=6) || decide (c.kind=8) || decide (c.kind=12)) lo hi=false)\/p)\/¬ ((c.text.b.length:Nat):Int)=0/\(¬ c.kind=11\/16<((c.text.b.length:Nat):Int)))) (hlo:lo=(iQ c.kind).1) (hhi:hi=(iQ c.kind).2) (hp:p->uG c=false):1=bh c v:=by
 refine EO (EW h1 h2) (by omega) ?_
 rw [<- yU hlo hhi]
 rcases h with (((((h | h) | h) | h) | h) | h) | ⟨h,k⟩
 ·rw [h]; simp
 ·rw [h]; simp
 ·rw [h]; simp
 ·rw [h]; simp
 ·rw [h]; simp
 ·rw [hp h]; simp
 ·rcases k with k | k
  ·rw [decide_eq_false h,decide_eq_false k]; simp
  ·rw [decide_eq_false h,decide_eq_false (show ¬ ((c.text.b.length:Nat):Int)<=16 by omega)]; simp
theorem JE {c:Command} {v lo hi:Int} (h1:aQ v 1 3=true) (h2:¬ bC c.kind=0) (h3:bC c.kind<=v) (ha:eO c.client (!decide (c.kind=8)) 1 8=true) (hb:eO c.seq (!decide (c.kind=8) && !decide (c.kind=1)) 1 1048576=true) (hc:eO c.set (aQ c.kind 2 4) 1 8=true) (hd:eO c.id (decide (c.kind=5) || decide (c.kind=7) || aQ c.kind 9 11) 1 1048576=true) (he:eO c.n (decide (c.kind=6) || decide (c.kind=8) || decide (c.kind=12)) lo hi=true) (hq:uG c=true) (ht:((c.text.b.length:Nat):Int)=0\/c.kind=11/\((c.text.b.length:Nat):Int)<=16) (hlo:lo=(iQ c.kind).1) (hhi:hi=(iQ c.kind).2):0=bh c v:=by
 refine Hy (EW h1 h2) (by omega) ?_
 rw [<- yU hlo hhi,ha,hb,hc,hd,he,hq]
 rcases ht with ht | ⟨ht,k⟩
 ·rw [decide_eq_true ht]; rfl
 ·rw [decide_eq_true ht,decide_eq_true k]; simp
theorem Ip {c:Command} {b:Bool} (h:c.kind=3) (k:cr c.chunks=b):uG c=b:=by rw [uG,if_pos h]; exact k
theorem HV {c:Command} (h:¬ c.kind=3) (k:¬ ((c.chunks.length:Nat):Int)=0):uG c=false:=by rw [uG,if_neg h]; exact decide_eq_false k
theorem Et {c:Command} (h:¬ c.kind=3) (k:((c.chunks.length:Nat):Int)=0):uG c=true:=by rw [uG,if_neg h]; exact decide_eq_true k
theorem xc {a b:State} (h:((((¬ a.version=b.version\/¬ a.next=b.next)\/¬ a.keep=b.keep)\/¬ a.quota=b.quota)\/¬ ((a.sess.length:Nat):Int)=(b.sess.length:Nat))\/¬ ((a.opens.length:Nat):Int)=(b.opens.length:Nat)):false=decide (a=b):=by
 symm; apply decide_eq_false; rintro rfl; simp at h
theorem xM {a b:State} {s:Nat} (h:¬ (a.sess.getD s (dflt (.nm .sess))).client=(b.sess.getD s (dflt (.nm .sess))).client\/¬ (a.sess.getD s (dflt (.nm .sess))).seq=(b.sess.getD s (dflt (.nm .sess))).seq\/¬ (a.sess.getD s (dflt (.nm .sess))).last.code=(b.sess.getD s (dflt (.nm .sess))).last.code\/¬ (a.sess.getD s (dflt (.nm .sess))).last.n=(b.sess.getD s (dflt (.nm .sess))).last.n):false=decide (a=b):=by
 symm; apply decide_eq_false; rintro rfl; simp at h
theorem xF {a b:State} {s:Nat} (h:¬ (a.opens.getD s (dflt (.nm .opn))).set=(b.opens.getD s (dflt (.nm .opn))).set\/¬ (a.opens.getD s (dflt (.nm .opn))).client=(b.opens.getD s (dflt (.nm .opn))).client):false=decide (a=b):=by
 symm; apply decide_eq_false; rintro rfl; simp at h
theorem CA {x y:Sess} (h1:x.client=y.client) (h2:x.seq=y.seq) (h3:x.last.code=y.last.code) (h4:x.last.n=y.last.n):x=y:=by
 obtain ⟨a,b,⟨c,d⟩⟩:=x; obtain ⟨a',b',⟨c',d'⟩⟩:=y; simp_all
theorem Gd {x y:Opn} (h1:x.set=y.set) (h2:x.client=y.client):x=y:=by cases x; cases y; simp_all
theorem oi {a b:List Sess} {s:Nat} (h:a.take s=b.take s) (h1:(a.getD s (dflt (.nm .sess))).client=(b.getD s (dflt (.nm .sess))).client) (h2:(a.getD s (dflt (.nm .sess))).seq=(b.getD s (dflt (.nm .sess))).seq) (h3:(a.getD s (dflt (.nm .sess))).last.code=(b.getD s (dflt (.nm .sess))).last.code) (h4:(a.getD s (dflt (.nm .sess))).last.n=(b.getD s (dflt (.nm .sess))).last.n) (ha:s<a.length) (hb:s<b.length):a.take (s+1)=b.take (s+1):=uC h ha hb (CA h1 h2 h3 h4)
theorem oH {a b:List Opn} {s:Nat} (h:a.take s=b.take s) (h1:(a.getD s (dflt (.nm .opn))).set=(b.getD s (dflt (.nm .opn))).set) (h2:(a.getD s (dflt (.nm .opn))).client=(b.getD s (dflt (.nm .opn))).client) (ha:s<a.length) (hb:s<b.length):a.take (s+1)=b.take (s+1):=uC h ha hb (Gd h1 h2)
theorem wo {a b:State} {s q:Nat} (h1:a.version=b.version) (h2:a.next=b.next) (h3:a.keep=b.keep) (h4:a.quota=b.quota) (h5:a.sess.take s=b.sess.take s) (h6:a.opens.take q=b.opens.take q) (ha:a.sess.length<=s) (hb:b.sess.length<=s) (hc:a.opens.length<=q) (hd:b.opens.length<=q):decide (a.snaps=b.snaps)=decide (a=b):=by
 rw [List.take_of_length_le ha,List.take_of_length_le hb] at h5
 rw [List.take_of_length_le hc,List.take_of_length_le hd] at h6
 cases a; cases b; simp_all
def Bh (a:State) (b:State):List (Nat × LI):=[(4,{ σ:=Nat,F:=fun k=>([(2,one (.ptr 0 0)),(3,one (.ptr 1 0)),(5,one (.int k))],[.box 26 (cellsOf (.nm .state) ((a))),.box 26 (cellsOf (.nm .state) ((b)))]),J:=fun k=>k<=a.sess.length/\a.sess.take k=b.sess.take k,μ:=fun k=>a.sess.length - k }),(9,{ σ:=Nat,F:=fun k=>([(2,one (.ptr 0 0)),(3,one (.ptr 1 0)),(6,one (.int k))],[.box 26 (cellsOf (.nm .state) ((a))),.box 26 (cellsOf (.nm .state) ((b)))]),J:=fun k=>k<=a.opens.length/\a.opens.take k=b.opens.take k,μ:=fun k=>a.opens.length - k })]
theorem EP (c:Command) (v:Int) (r0:Int):cM aF uZ [] Tryz.f19 [.agg (cellsOf (.nm .command) c),.c (.int (v))] [] [.c (.int (r0))]=((fun (q14:Int)=>(fun (q13:Int)=>(fun (q12:Int)=>(fun (q11:Bool)=>(fun (q10:Int)=>(fun (q9:Int)=>(fun (q8:Int)=>(fun (q7:Int)=>(fun (q6:Int)=>(fun (q5:Prop)=>(fun (q4:Prop)=>(fun (q3:Prop)=>(fun (q2:Bool)=>(fun (q1:Prop)=>(fun (q0:Prop)=>I64 q6->I64 c.client->I64 c.seq->I64 c.set->I64 c.id->I64 c.n->c.chunks.length*(8:Nat)<=(140737488355328:Nat)->c.text.b.length<=(140737488355328:Nat)->I64 v->(aQ v q7 q9=true->I64 (bC q6))->(aQ v q7 q9=false\/bC q6=q8->q7=r0)/\(aQ v q7 q9=true/\¬bC q6=q8->I64 (bC q6)->(v<bC q6->(10:Int)=r0)/\(bC q6<=v->(q6=q10->(q6=(12:Int)->(q6=q9->(((q0\/eO c.n q2 q12 q14=false)\/q11=false)\/q3->q7=r0)/\(((q1/\eO c.n q2 q12 q14=true)/\q11=true)/\q4->q8=r0))/\(¬q6=q9->(((q0\/eO c.n q2 q12 q14=false)\/¬q5)\/q3->q7=r0)/\(((q1/\eO c.n q2 q12 q14=true)/\q5)/\q4->q8=r0)))/\(¬q6=(12:Int)->(q6=q9->(((q0\/eO c.n q2 q12 q9=false)\/q11=false)\/q3->q7=r0)/\(((q1/\eO c.n q2 q12 q9=true)/\q11=true)/\q4->q8=r0))/\(¬q6=q9->(((q0\/eO c.n q2 q12 q9=false)\/¬q5)\/q3->q7=r0)/\(((q1/\eO c.n q2 q12 q9=true)/\q5)/\q4->q8=r0))))/\(¬q6=q10->(q6=(12:Int)->(q6=q9->(((q0\/eO c.n q2 q8 q14=false)\/q11=false)\/q3->q7=r0)/\(((q1/\eO c.n q2 q8 q14=true)/\q11=true)/\q4->q8=r0))/\(¬q6=q9->(((q0\/eO c.n q2 q8 q14=false)\/¬q5)\/q3->q7=r0)/\(((q1/\eO c.n q2 q8 q14=true)/\q5)/\q4->q8=r0)))/\(¬q6=(12:Int)->(q6=q9->(((q0\/eO c.n q2 q8 q10=false)\/q11=false)\/q3->q7=r0)/\(((q1/\eO c.n q2 q8 q10=true)/\q11=true)/\q4->q8=r0))/\(¬q6=q9->(((q0\/eO c.n q2 q8 q10=false)\/¬q5)\/q3->q7=r0)/\(((q1/\eO c.n q2 q8 q10=true)/\q5)/\q4->q8=r0))))))) (((eO c.client (!decide (q6=q10)) q7 q10=false\/eO c.seq (!decide (q6=q10) && !decide (q6=q7)) q7 (1048576:Int)=false)\/eO c.set (aQ q6 q12 (4:Int)) q7 q10=false)\/eO c.id (decide (q6=(5:Int)) || decide (q6=(7:Int)) || aQ q6 (9:Int) (11:Int)) q7 (1048576:Int)=false)) (((eO c.client (!decide (q6=q10)) q7 q10=true/\eO c.seq (!decide (q6=q10) && !decide (q6=q7)) q7 (1048576:Int)=true)/\eO c.set (aQ q6 q12 (4:Int)) q7 q10=true)/\eO c.id (decide (q6=(5:Int)) || decide (q6=(7:Int)) || aQ q6 (9:Int) (11:Int)) q7 (1048576:Int)=true)) (decide (q6=(6:Int)) || decide (q6=q10) || decide (q6=(12:Int)))) (¬q13=q8/\(¬q6=(11:Int)\/(16:Int)<q13))) (q13=q8\/q6=(11:Int)/\q13<=(16:Int))) ((↑c.chunks.length:Int)=q8)) c.kind) (1:Int)) (0:Int)) (3:Int)) (8:Int)) (cr c.chunks)) (2:Int)) (↑c.text.b.length:Int)) (64:Int)):=by kernel_rfl
theorem FC (c:Command) (v:Int):Sat Tryz.prog (au aF) 19 [.agg (cellsOf (.nm .command) c),.c (.int (v))] [] ⟨[],[.c (.int ((bh c v)))],none,false⟩:=by
 refine aR nu [] Tryz.func19 (by decide) (by kernel_rfl) ?_
 rw [EP]
 (repeat' (first | with_reducible refine And.intro ?_ ?_ | with_reducible refine and_imp.2 ?_ | intro))
 all_goals (first | (first | with_reducible rfl | with_reducible assumption | omega | (refine aq ?_ ?_ <;> omega)) | exact JL (by assumption) | exact Ho (by with_reducible assumption) (by with_reducible assumption) (by omega) | exact JA (by with_reducible assumption) (by with_reducible assumption) (by omega) (by assumption) (by simp only [iQ]; (repeat split) <;> omega) (by simp only [iQ]; (repeat split) <;> omega) (fun hq=>by first | exact Ip (by with_reducible assumption) hq | exact HV (by with_reducible assumption) hq | exact Et (by with_reducible assumption) hq) | exact JE (by with_reducible assumption) (by with_reducible assumption) (by omega) (by with_reducible assumption) (by with_reducible assumption) (by with_reducible assumption) (by with_reducible assumption) (by with_reducible assumption) (by first | exact Ip (by with_reducible assumption) (by with_reducible assumption) | exact Et (by with_reducible assumption) (by with_reducible assumption)) (by assumption) (by simp only [iQ]; (repeat split) <;> omega) (by simp only [iQ]; (repeat split) <;> omega))
theorem DP (a:State) (b:State) (r0:Bool):cM aF uZ (Bh a b) Tryz.f16 [.agg (cellsOf (.nm .state) a),.agg (cellsOf (.nm .state) b)] [] [.c (.bool (.atom (r0)))]=((fun (q8:Nat)=>(fun (q7:Int)=>(fun (q6:List Opn)=>(fun (q5:List Sess)=>(fun (q4:den (Sh.nm NT.opn))=>(fun (q3:List Opn)=>(fun (q2:List Sess)=>(fun (q1:den (Sh.nm NT.sess))=>(fun (q0:Prop)=>I64 a.version->I64 a.next->I64 a.keep->I64 a.quota->q2.length*(32:Nat)<=q8->q3.length*(16:Nat)<=q8->a.snaps.length*(64:Nat)<=q8->I64 b.version->I64 b.next->I64 b.keep->I64 b.quota->q5.length*(32:Nat)<=q8->q6.length*(16:Nat)<=q8->b.snaps.length*(64:Nat)<=q8->(((((¬a.version=b.version\/¬a.next=b.next)\/¬a.keep=b.keep)\/¬a.quota=b.quota)\/¬(↑q2.length:Int)=(↑q5.length:Int))\/¬(↑q3.length:Int)=(↑q6.length:Int)->false=r0)/\(((((a.version=b.version/\a.next=b.next)/\a.keep=b.keep)/\a.quota=b.quota)/\(↑q2.length:Int)=(↑q5.length:Int))/\(↑q3.length:Int)=(↑q6.length:Int)->∃ (s0:Nat),(q7=(↑s0:Int)/\q0)/\(s0<=q2.length/\List.take s0 q2=List.take s0 q5)/\∀ (s:Nat),(fun (q10:den (Sh.nm NT.sess))=>(fun (q9:den (Sh.nm NT.sess))=>s<=q2.length/\List.take s q2=List.take s q5->((↑s:Int)<(↑q2.length:Int)->q7<=(↑s:Int)/\(↑s:Int)<(↑q2.length:Int)/\q7<=(↑s:Int)/\(↑s:Int)<(↑q5.length:Int)/\(I64 q10.client->I64 q10.seq->I64 q10.last.code->I64 q10.last.n->I64 q9.client->I64 q9.seq->I64 q9.last.code->I64 q9.last.n->(¬q10.client=q9.client\/¬q10.seq=q9.seq\/¬q10.last.code=q9.last.code\/¬q10.last.n=q9.last.n->false=r0)/\(q10.client=q9.client/\q10.seq=q9.seq/\q10.last.code=q9.last.code/\q10.last.n=q9.last.n->I64 ((↑s:Int)+(1:Int))/\∃ (s':Nat),((↑s:Int)+(1:Int)=(↑s':Int)/\q0)/\(s' <= q2.length/\List.take s' q2=List.take s' q5)/\q2.length - s' < q2.length - s)))/\((↑q2.length:Int)<=(↑s:Int)->∃ (s0:Nat),(q7=(↑s0:Int)/\q0)/\(s0<=q3.length/\List.take s0 q3=List.take s0 q6)/\∀ (s:Nat),(fun (q12:den (Sh.nm NT.opn))=>(fun (q11:den (Sh.nm NT.opn))=>s<=q3.length/\List.take s q3=List.take s q6->((↑s:Int)<(↑q3.length:Int)->q7<=(↑s:Int)/\(↑s:Int)<(↑q3.length:Int)/\q7<=(↑s:Int)/\(↑s:Int)<(↑q6.length:Int)/\(I64 q12.set->I64 q12.client->I64 q11.set->I64 q11.client->(¬q12.set=q11.set\/¬q12.client=q11.client->false=r0)/\(q12.set=q11.set/\q12.client=q11.client->I64 ((↑s:Int)+(1:Int))/\∃ (s':Nat),((↑s:Int)+(1:Int)=(↑s':Int)/\q0)/\(s' <= q3.length/\List.take s' q3=List.take s' q6)/\q3.length - s' < q3.length - s)))/\((↑q3.length:Int)<=(↑s:Int)->decide (a.snaps=b.snaps)=r0)) (q6.getD s q4)) (q3.getD s q4))) (q5.getD s q1)) (q2.getD s q1))) (a.version=a.version/\a.next=a.next/\a.keep=a.keep/\a.quota=a.quota/\q2=q2/\q3=q3/\a.snaps=a.snaps/\b.version=b.version/\b.next=b.next/\b.keep=b.keep/\b.quota=b.quota/\q5=q5/\q6=q6/\b.snaps=b.snaps)) (dflt (Sh.nm NT.sess))) a.sess) a.opens) (dflt (Sh.nm NT.opn))) b.sess) b.opens) (0:Int)) (140737488355328:Nat)):=by kernel_rfl
theorem CU (a:State) (b:State):Sat Tryz.prog (au aF) 16 [.agg (cellsOf (.nm .state) a),.agg (cellsOf (.nm .state) b)] [] ⟨[],[.c (.bool (.atom ((decide (a=b)))))],none,false⟩:=by
 refine aR nu (Bh a b) Tryz.func16 (by decide) (by kernel_rfl) ?_
 rw [DP]
 (repeat' (first | with_reducible refine And.intro ?_ ?_ | with_reducible refine and_imp.2 ?_ | intro))
 all_goals try (first | (first | with_reducible rfl | with_reducible assumption | omega | (refine aq ?_ ?_ <;> omega)) | exact rfl | exact (xc (by assumption)) | exact (xM (by assumption)) | exact (xF (by assumption)) | exact (oi (by with_reducible assumption) (by with_reducible assumption) (by with_reducible assumption) (by with_reducible assumption) (by with_reducible assumption) (by omega) (by omega)) | exact (oH (by with_reducible assumption) (by with_reducible assumption) (by with_reducible assumption) (by omega) (by omega)) | exact (wo (by with_reducible assumption) (by with_reducible assumption) (by with_reducible assumption) (by with_reducible assumption) (by with_reducible assumption) (by with_reducible assumption) (by omega) (by omega) (by omega) (by omega)))
 all_goals try (refine ⟨0,?_⟩; (repeat' (first | with_reducible refine And.intro ?_ ?_ | with_reducible refine and_imp.2 ?_ | intro)))
 all_goals try (first | (first | with_reducible rfl | with_reducible assumption | omega | (refine aq ?_ ?_ <;> omega)) | exact rfl | exact (xc (by assumption)) | exact (xM (by assumption)) | exact (xF (by assumption)) | exact (oi (by with_reducible assumption) (by with_reducible assumption) (by with_reducible assumption) (by with_reducible assumption) (by with_reducible assumption) (by omega) (by omega)) | exact (oH (by with_reducible assumption) (by with_reducible assumption) (by with_reducible assumption) (by omega) (by omega)) | exact (wo (by with_reducible assumption) (by with_reducible assumption) (by with_reducible assumption) (by with_reducible assumption) (by with_reducible assumption) (by with_reducible assumption) (by omega) (by omega) (by omega) (by omega)))
 all_goals try (have hg:(‹Nat›:Int)<(a.sess.length:Int):=(by omega); clear hg; refine ⟨‹Nat› + 1,?_⟩; (repeat' (first | with_reducible refine And.intro ?_ ?_ | with_reducible refine and_imp.2 ?_ | intro)))
 all_goals try (first | (first | with_reducible rfl | with_reducible assumption | omega | (refine aq ?_ ?_ <;> omega)) | exact rfl | exact (xc (by assumption)) | exact (xM (by assumption)) | exact (xF (by assumption)) | exact (oi (by with_reducible assumption) (by with_reducible assumption) (by with_reducible assumption) (by with_reducible assumption) (by with_reducible assumption) (by omega) (by omega)) | exact (oH (by with_reducible assumption) (by with_reducible assumption) (by with_reducible assumption) (by omega) (by omega)) | exact (wo (by with_reducible assumption) (by with_reducible assumption) (by with_reducible assumption) (by with_reducible assumption) (by with_reducible assumption) (by with_reducible assumption) (by omega) (by omega) (by omega) (by omega)))
 all_goals try (have hg:((a.sess.length:Nat):Int)<=(‹Nat›:Int):=(by omega); clear hg; refine ⟨0,?_⟩; (repeat' (first | with_reducible refine And.intro ?_ ?_ | with_reducible refine and_imp.2 ?_ | intro)))
 all_goals try (first | (first | with_reducible rfl | with_reducible assumption | omega | (refine aq ?_ ?_ <;> omega)) | exact rfl | exact (xc (by assumption)) | exact (xM (by assumption)) | exact (xF (by assumption)) | exact (oi (by with_reducible assumption) (by with_reducible assumption) (by with_reducible assumption) (by with_reducible assumption) (by with_reducible assumption) (by omega) (by omega)) | exact (oH (by with_reducible assumption) (by with_reducible assumption) (by with_reducible assumption) (by omega) (by omega)) | exact (wo (by with_reducible assumption) (by with_reducible assumption) (by with_reducible assumption) (by with_reducible assumption) (by with_reducible assumption) (by with_reducible assumption) (by omega) (by omega) (by omega) (by omega)))
 all_goals try (refine ⟨‹Nat› + 1,?_⟩; (repeat' (first | with_reducible refine And.intro ?_ ?_ | with_reducible refine and_imp.2 ?_ | intro)))
 all_goals try (first | (first | with_reducible rfl | with_reducible assumption | omega | (refine aq ?_ ?_ <;> omega)) | exact rfl | exact (xc (by assumption)) | exact (xM (by assumption)) | exact (xF (by assumption)) | exact (oi (by with_reducible assumption) (by with_reducible assumption) (by with_reducible assumption) (by with_reducible assumption) (by with_reducible assumption) (by omega) (by omega)) | exact (oH (by with_reducible assumption) (by with_reducible assumption) (by with_reducible assumption) (by omega) (by omega)) | exact (wo (by with_reducible assumption) (by with_reducible assumption) (by with_reducible assumption) (by with_reducible assumption) (by with_reducible assumption) (by with_reducible assumption) (by omega) (by omega) (by omega) (by omega)))
 all_goals (first | (first | with_reducible rfl | with_reducible assumption | omega | (refine aq ?_ ?_ <;> omega)) | exact rfl | exact (xc (by assumption)) | exact (xM (by assumption)) | exact (xF (by assumption)) | exact (oi (by with_reducible assumption) (by with_reducible assumption) (by with_reducible assumption) (by with_reducible assumption) (by with_reducible assumption) (by omega) (by omega)) | exact (oH (by with_reducible assumption) (by with_reducible assumption) (by with_reducible assumption) (by omega) (by omega)) | exact (wo (by with_reducible assumption) (by with_reducible assumption) (by with_reducible assumption) (by with_reducible assumption) (by with_reducible assumption) (by with_reducible assumption) (by omega) (by omega) (by omega) (by omega)))
def nX:cC:=(bR 16 (bJ (ah (kT (.nm .state)) (ah (kT (.nm .state)) aO)) aP fun (a,b,_) (_)=>⟨[],[.c (.bool (.atom ((decide (a=b)))))],none,false⟩) (bR 19 (bJ (ah (kT (.nm .command)) (ah (kC cI) aO)) aP fun (c,v,_) (_)=>⟨[],[.c (.int ((bh c v)))],none,false⟩) uZ))
theorem gu:aX Tryz.prog (au aF) nX:=(az (ay (ab bK (ab bK al)) ao fun (a,b,_) (_) _=>CU a b ) (az (ay (ab bK (ab (av aw) al)) ao fun (c,v,_) (_) _=>FC c v ) nu))
end Go.Proofs.YtdggohppeeaipaaGreat
namespace Go.Proofs.YtdggohppeeaipaaGreat
open Go.RowKit
def dm (xs:List Int) (c:Int):Bool:=decide (0<xs.getD c.toNat (dflt .int))
def dj (xs ys:List Int) (c:Int):Bool:=decide (0<xs.getD c.toNat (dflt .int)) && decide (ys.getD c.toNat (dflt .int)=0)
def fQ (p:Int->Bool) (k:Nat):List Int:=((List.range k).map fun (i:Nat)=>(i:Int)+1).filter p
theorem xt {p:Int->Bool} {k:Nat} (h:p ((k:Int)+1)=true):fQ p k++[(k:Int)+1]=fQ p (k+1):=by
 unfold fQ; rw [List.range_succ,List.map_append,List.filter_append]; simp [h]
theorem wJ {p:Int->Bool} {k:Nat} (h:p ((k:Int)+1)=false):fQ p k=fQ p (k+1):=by
 unfold fQ; rw [List.range_succ,List.map_append,List.filter_append]; simp [h]
theorem xL {p:Int->Bool} {k:Nat} (h:k<=64) (h2:64<(k:Int)+1):fQ p k=fQ p 64:=by rw [show k=64 by omega]
theorem jF {p:Int->Bool} {k:Nat} {n:Int} (h:k<=64):((fQ p k).length+[n].length)*8<=140737488355328:=by
 have:=List.length_filter_le p ((List.range k).map fun (i:Nat)=>(i:Int)+1)
 rw [List.length_map,List.length_range] at this
 unfold fQ; simp only [List.length_cons,List.length_nil]; omega
def bF (l:List Snap):List Int:=l.foldl (fun t x=>cH t x.chunks) (List.replicate 65 0)
theorem lS:∀ (l xs:List Int),(cH xs l).length=xs.length
 | [],_=>rfl
 | n :: l,xs=>by
  show (cH (if 1<=n/\n<=64 then xs.set n.toNat (xs.getD n.toNat 0+1) else xs) l).length=_
  rw [lS l]; split
  ·rw [List.length_set]
  ·rfl
theorem fW {l:List Snap} {x:Snap}:bF (l++[x])=cH (bF l) x.chunks:=by unfold bF; rw [List.foldl_append]; rfl
theorem tf {l:List Snap} {k:Nat} {x:Snap} (hx:l[k]? = some x):cH (bF (l.take k)) x.chunks=bF (l.take (k+1)):=by rw [aD hx,fW]
theorem pw {p:List Snap->Prop} (h0:p []) (hs:∀ l x,p l->p (l++[x])) (l:List Snap):p l:=by
 have:∀ r:List Snap,p r.reverse:=fun r=>by
  induction r with
  | nil=>exact h0
  | cons x r ih=>rw [List.reverse_cons]; exact hs _ _ ih
 have h:=this l.reverse
 rwa [List.reverse_reverse] at h
theorem dV (l:List Snap):(bF l).length=65:=by
 refine pw (p:=fun l=>(bF l).length=65) rfl (fun l x h=>?_) l
 rw [fW,lS,h]
theorem sN {l:List Snap} {x:Snap}:nch (l++[x])=nch l+x.chunks.length:=by unfold nch; simp
theorem AE (l:List Snap) (i:Nat):0<=(bF l).getD i 0/\(bF l).getD i 0<=nch l:=by
 refine pw (p:=fun l=>0<=(bF l).getD i 0/\(bF l).getD i 0<=nch l) ?_ (fun l x h=>?_) l
 ·show 0<=(List.replicate 65 (0:Int)).getD i 0/\(List.replicate 65 (0:Int)).getD i 0<=_
  rw [List.getD_eq_getElem?_getD,List.getElem?_replicate]; split <;> simp
 ·have:=tX x.chunks (bF l) i
  rw [fW,sN]; omega
theorem gD {l:List Snap} {k:Nat} {x:Snap} (hx:l[k]? = some x) (h:nch l<=1048576):oG (bF (l.take k)) x.chunks:=fun i=>by
 have h1:=AE (l.take k) i
 have h2:nch (l.take (k+1))<=nch l:=by
  unfold nch; rw [<- List.take_append_drop (k+1) l,List.flatMap_append,List.length_append,List.take_append_drop]; omega
 rw [aD hx,sN] at h2
 omega
theorem uR {l:List Snap} {m:List Int} {s:Sh} (h:nch l<=1048576) (hm:m.length*8<=140737488355328):oG (mm .int (bF l) 0 65) m:=fun i=>by
 rw [ei (dV l)]
 have h1:=AE l i
 omega
theorem vh:∀ (l xs:List Int) (c:Int),1<=c->c<=64->xs.length=65->(cH xs l).getD c.toNat 0=xs.getD c.toNat 0+(l.count c:Nat)
 | [],_,_,_,_,_=>by simp [cH]
 | n :: l,xs,c,h1,h2,h3=>by
  show (cH (if 1<=n/\n<=64 then xs.set n.toNat (xs.getD n.toNat 0+1) else xs) l).getD c.toNat 0=_
  rw [vh l _ c h1 h2 (by split; rw [List.length_set,h3]; exact h3),List.count_cons]
  split
  ·rw [rB]
   by_cases e:n=c
   ·subst e; rw [if_pos ⟨rfl,by omega⟩]; simp; omega
   ·rw [if_neg (by omega)]; simp [e]
  ·by_cases e:n=c
   ·omega
   ·simp [e]
theorem tH (l:List Snap) (c:Int) (h1:1<=c) (h2:c<=64):(bF l).getD c.toNat 0=(pB c l:Nat):=by
 refine pw (p:=fun l=>(bF l).getD c.toNat 0=(pB c l:Nat)) ?_ (fun l x h=>?_) l
 ·show (List.replicate 65 (0:Int)).getD c.toNat 0=_
  rw [List.getD_eq_getElem?_getD,List.getElem?_replicate]; split <;> simp [pB]
 ·rw [fW,vh _ _ _ h1 h2 (dV l),h]
  unfold pB; simp
theorem vT (l:List Snap):((fQ (dm (bF l)) 64).length:Int)=(distF l:Int):=by
 unfold fQ distF pQ
 rw [List.filter_map,List.length_map]
 congr 2
 apply List.filter_congr
 intro i hi
 rw [List.mem_range] at hi
 have:=tH l ((i:Int)+1) (by omega) (by omega)
 simp only [Function.comp,dm]
 rw [show (dflt .int)=(0:Int) from rfl,this]
 rw [decide_eq_decide]; omega
theorem zk (l m:List Snap) (id:Int) (e:m=bb id l):fQ (dj (bF l) (bF m)) 64=fu l id:=by
 subst e
 unfold fQ fu iA
 rw [List.filter_map]
 congr 1
 apply List.filter_congr
 intro i hi
 rw [List.mem_range] at hi
 have h1:=tH l ((i:Int)+1) (by omega) (by omega)
 have h2:=tH (bb id l) ((i:Int)+1) (by omega) (by omega)
 simp only [Function.comp,dj]
 rw [show (dflt .int)=(0:Int) from rfl,h1,h2]
 congr 1 <;> (rw [decide_eq_decide]; omega)
def BJ (l:List Snap):List (Nat × LI):=[(3,{ σ:=Nat,F:=fun k=>([(2,one (.ptr 0 0)),(3,one (.ptr 1 0)),(6,one (.fz (.nm .snap) (l))),(7,one (.int (l).length)),(8,one (.int k))],[.arr 108 .int 65 ((List.replicate 65 0)),.arr 108 .int 65 ((bF (l.take k)))]),J:=fun k=>k<=l.length,μ:=fun k=>l.length - k })]
def rf (l:List Snap) (id:Int):List (Nat × LI):=[(3,{ σ:=Nat,F:=fun k=>([(1,one (.int (id))),(5,one (.own 0)),(8,one (.fz (.nm .snap) (l))),(9,one (.int (l).length)),(10,one (.int k))],[.row 59 (.nm .snap) ((bb id (l.take k)))]),J:=fun k=>k<=l.length,μ:=fun k=>l.length - k })]
theorem Dg (n:Int) (xs:List Int) (r0:Bool):cM aF nX [] Tryz.f128 [.c (.int (n)),.c (.ptr 0 0)] [.arr 108 .int 65 (xs)] [.c (.bool (.atom (r0)))]=(I64 n->(0:Int)<=n/\n<(↑(65:Nat):Int)/\n.toNat<(65:Nat)/\(I64 (xs.getD n.toNat (dflt Sh.int))->decide ((0:Int)<xs.getD n.toNat (dflt Sh.int))=r0)):=by kernel_rfl
theorem Dp (n:Int) (xs:List Int) (h0:0<=n/\n<65):Sat Tryz.prog (au aF) 128 [.c (.int (n)),.c (.ptr 0 0)] [.arr 108 .int 65 (xs)] ⟨[0<=n/\n<65],[.c (.bool (.atom ((dm xs n))))],none,false⟩:=by
 refine aR gu [] Tryz.func128 (by decide) (by kernel_rfl) ?_
 rw [Dg]
 (repeat' (first | with_reducible refine And.intro ?_ ?_ | with_reducible refine and_imp.2 ?_ | intro)) <;> first | (first | with_reducible rfl | with_reducible assumption | omega | (refine aq ?_ ?_ <;> omega)) | rfl
theorem zZ (n:Int) (xs:List Int) (ys:List Int) (r0:Bool):cM aF nX [] Tryz.f129 [.c (.int (n)),.c (.ptr 0 0),.c (.ptr 1 0)] [.arr 108 .int 65 (xs),.arr 108 .int 65 (ys)] [.c (.bool (.atom (r0)))]=((fun (q1:Int)=>(fun (q0:den Sh.int)=>I64 n->q1<=n/\n<(↑(65:Nat):Int)/\n.toNat<(65:Nat)/\(I64 q0->(q1<q0->q1<=n/\n<(↑(65:Nat):Int)/\n.toNat<(65:Nat))/\((q1<q0->I64 (ys.getD n.toNat (dflt Sh.int)))->(decide (q1<q0) && decide (ys.getD n.toNat (dflt Sh.int)=q1))=r0))) (xs.getD n.toNat (dflt Sh.int))) (0:Int)):=by kernel_rfl
theorem yC (n:Int) (xs:List Int) (ys:List Int) (h0:0<=n/\n<65):Sat Tryz.prog (au aF) 129 [.c (.int (n)),.c (.ptr 0 0),.c (.ptr 1 0)] [.arr 108 .int 65 (xs),.arr 108 .int 65 (ys)] ⟨[0<=n/\n<65],[.c (.bool (.atom ((dj xs ys n))))],none,false⟩:=by
 refine aR gu [] Tryz.func129 (by decide) (by kernel_rfl) ?_
 rw [zZ]
 (repeat' (first | with_reducible refine And.intro ?_ ?_ | with_reducible refine and_imp.2 ?_ | intro)) <;> first | (first | with_reducible rfl | with_reducible assumption | omega | (refine aq ?_ ?_ <;> omega)) | rfl
theorem Db (l:List Snap) (r0:List Int):cM aF nX (BJ l) Tryz.f97 [.c (.fz (.nm .snap) (l))] [] [.agg (kn .int (r0) 0 65)]=((fun (q5:Nat)=>(fun (q4:Nat)=>(fun (q3:Nat)=>(fun (q2:Int)=>(fun (q1:den Sh.int)=>(fun (q0:List (den Sh.int))=>l.length*(64:Nat)<=(140737488355328:Nat)->∃ (s0:Nat),(l=l/\(↑l.length:Int)=(↑q5:Int)/\q2=(↑s0:Int)/\q0=List.replicate q3 (0:den Sh.int)/\q0=bF (List.take s0 l))/\s0<=q5/\∀ (s:Nat),(fun (q7:List Int)=>(fun (q6:List (den Sh.int))=>s<=q5->((↑s:Int)<(↑q5:Int)->q2<=(↑s:Int)/\(↑s:Int)<(↑l.length:Int)/\∀ (x:Snap),l[s]? = some x->I64 x.id->I64 x.set->x.chunks.length*(8:Nat)<=(140737488355328:Nat)->x.tag.b.length<=(140737488355328:Nat)->(∀ (i:Nat),q2<=q7.getD i q2/\q7.getD i q2+(↑x.chunks.length:Int)<=(4611686018427387904:Int))/\I64 ((↑s:Int)+(1:Int))/\∃ (s':Nat),(l=l/\(↑q5:Int)=(↑q5:Int)/\(↑s:Int)+(1:Int)=(↑s':Int)/\List.replicate q3 (0:den Sh.int)=List.replicate q3 (0:den Sh.int)/\cH q7 x.chunks=bF (List.take s' l))/\s' <= q5/\q5 - s' < q5 - s)/\((↑q5:Int)<=(↑s:Int)->q6.getD q4 q1=r0.getD q4 q1/\q6.getD (1:Nat) q1=r0.getD (1:Nat) q1/\q6.getD (2:Nat) q1=r0.getD (2:Nat) q1/\q6.getD (3:Nat) q1=r0.getD (3:Nat) q1/\q6.getD (4:Nat) q1=r0.getD (4:Nat) q1/\q6.getD (5:Nat) q1=r0.getD (5:Nat) q1/\q6.getD (6:Nat) q1=r0.getD (6:Nat) q1/\q6.getD (7:Nat) q1=r0.getD (7:Nat) q1/\q6.getD (8:Nat) q1=r0.getD (8:Nat) q1/\q6.getD (9:Nat) q1=r0.getD (9:Nat) q1/\q6.getD (10:Nat) q1=r0.getD (10:Nat) q1/\q6.getD (11:Nat) q1=r0.getD (11:Nat) q1/\q6.getD (12:Nat) q1=r0.getD (12:Nat) q1/\q6.getD (13:Nat) q1=r0.getD (13:Nat) q1/\q6.getD (14:Nat) q1=r0.getD (14:Nat) q1/\q6.getD (15:Nat) q1=r0.getD (15:Nat) q1/\q6.getD (16:Nat) q1=r0.getD (16:Nat) q1/\q6.getD (17:Nat) q1=r0.getD (17:Nat) q1/\q6.getD (18:Nat) q1=r0.getD (18:Nat) q1/\q6.getD (19:Nat) q1=r0.getD (19:Nat) q1/\q6.getD (20:Nat) q1=r0.getD (20:Nat) q1/\q6.getD (21:Nat) q1=r0.getD (21:Nat) q1/\q6.getD (22:Nat) q1=r0.getD (22:Nat) q1/\q6.getD (23:Nat) q1=r0.getD (23:Nat) q1/\q6.getD (24:Nat) q1=r0.getD (24:Nat) q1/\q6.getD (25:Nat) q1=r0.getD (25:Nat) q1/\q6.getD (26:Nat) q1=r0.getD (26:Nat) q1/\q6.getD (27:Nat) q1=r0.getD (27:Nat) q1/\q6.getD (28:Nat) q1=r0.getD (28:Nat) q1/\q6.getD (29:Nat) q1=r0.getD (29:Nat) q1/\q6.getD (30:Nat) q1=r0.getD (30:Nat) q1/\q6.getD (31:Nat) q1=r0.getD (31:Nat) q1/\q6.getD (32:Nat) q1=r0.getD (32:Nat) q1/\q6.getD (33:Nat) q1=r0.getD (33:Nat) q1/\q6.getD (34:Nat) q1=r0.getD (34:Nat) q1/\q6.getD (35:Nat) q1=r0.getD (35:Nat) q1/\q6.getD (36:Nat) q1=r0.getD (36:Nat) q1/\q6.getD (37:Nat) q1=r0.getD (37:Nat) q1/\q6.getD (38:Nat) q1=r0.getD (38:Nat) q1/\q6.getD (39:Nat) q1=r0.getD (39:Nat) q1/\q6.getD (40:Nat) q1=r0.getD (40:Nat) q1/\q6.getD (41:Nat) q1=r0.getD (41:Nat) q1/\q6.getD (42:Nat) q1=r0.getD (42:Nat) q1/\q6.getD (43:Nat) q1=r0.getD (43:Nat) q1/\q6.getD (44:Nat) q1=r0.getD (44:Nat) q1/\q6.getD (45:Nat) q1=r0.getD (45:Nat) q1/\q6.getD (46:Nat) q1=r0.getD (46:Nat) q1/\q6.getD (47:Nat) q1=r0.getD (47:Nat) q1/\q6.getD (48:Nat) q1=r0.getD (48:Nat) q1/\q6.getD (49:Nat) q1=r0.getD (49:Nat) q1/\q6.getD (50:Nat) q1=r0.getD (50:Nat) q1/\q6.getD (51:Nat) q1=r0.getD (51:Nat) q1/\q6.getD (52:Nat) q1=r0.getD (52:Nat) q1/\q6.getD (53:Nat) q1=r0.getD (53:Nat) q1/\q6.getD (54:Nat) q1=r0.getD (54:Nat) q1/\q6.getD (55:Nat) q1=r0.getD (55:Nat) q1/\q6.getD (56:Nat) q1=r0.getD (56:Nat) q1/\q6.getD (57:Nat) q1=r0.getD (57:Nat) q1/\q6.getD (58:Nat) q1=r0.getD (58:Nat) q1/\q6.getD (59:Nat) q1=r0.getD (59:Nat) q1/\q6.getD (60:Nat) q1=r0.getD (60:Nat) q1/\q6.getD (61:Nat) q1=r0.getD (61:Nat) q1/\q6.getD (62:Nat) q1=r0.getD (62:Nat) q1/\q6.getD (63:Nat) q1=r0.getD (63:Nat) q1/\q6.getD (64:Nat) q1=r0.getD (64:Nat) q1)) (mm Sh.int q7 q4 q3)) (bF (List.take s l))) [q2,q2,q2,q2,q2,q2,q2,q2,q2,q2,q2,q2,q2,q2,q2,q2,q2,q2,q2,q2,q2,q2,q2,q2,q2,q2,q2,q2,q2,q2,q2,q2,q2,q2,q2,q2,q2,q2,q2,q2,q2,q2,q2,q2,q2,q2,q2,q2,q2,q2,q2,q2,q2,q2,q2,q2,q2,q2,q2,q2,q2,q2,q2,q2,q2]) (dflt Sh.int)) (0:Int)) (65:Nat)) (0:Nat)) l.length):=by kernel_rfl
theorem CT (l:List Snap) (h0:nch l<=1048576):Sat Tryz.prog (au aF) 97 [.c (.fz (.nm .snap) (l))] [] ⟨[nch l<=1048576],[.agg (kn .int ((bF l)) 0 65)],none,false⟩:=by
 refine aR gu (BJ l) Tryz.func97 (by decide) (by kernel_rfl) ?_
 rw [Db]
 (repeat' (first | with_reducible refine And.intro ?_ ?_ | with_reducible refine and_imp.2 ?_ | intro))
 all_goals try (first | (first | with_reducible rfl | with_reducible assumption | omega | (refine aq ?_ ?_ <;> omega)) | exact rfl | exact (tf (by with_reducible assumption)) | exact (gD (by with_reducible assumption) (by with_reducible assumption) _).1 | exact (gD (by with_reducible assumption) (by with_reducible assumption) _).2 | exact (by rw [ei (dV _),List.take_of_length_le (by omega)]))
 all_goals try (refine ⟨0,?_⟩; (repeat' (first | with_reducible refine And.intro ?_ ?_ | with_reducible refine and_imp.2 ?_ | intro)))
 all_goals try (first | (first | with_reducible rfl | with_reducible assumption | omega | (refine aq ?_ ?_ <;> omega)) | exact rfl | exact (tf (by with_reducible assumption)) | exact (gD (by with_reducible assumption) (by with_reducible assumption) _).1 | exact (gD (by with_reducible assumption) (by with_reducible assumption) _).2 | exact (by rw [ei (dV _),List.take_of_length_le (by omega)]))
 all_goals try (refine ⟨‹Nat› + 1,?_⟩; (repeat' (first | with_reducible refine And.intro ?_ ?_ | with_reducible refine and_imp.2 ?_ | intro)))
 all_goals (first | (first | with_reducible rfl | with_reducible assumption | omega | (refine aq ?_ ?_ <;> omega)) | exact rfl | exact (tf (by with_reducible assumption)) | exact (gD (by with_reducible assumption) (by with_reducible assumption) _).1 | exact (gD (by with_reducible assumption) (by with_reducible assumption) _).2 | exact (by rw [ei (dV _),List.take_of_length_le (by omega)]))
theorem xo (l:List Snap) (id:Int) (r0:List Snap):tu aF nX (rf l id) Tryz.f100 [.c (.fz (.nm .snap) (l)),.c (.int (id))] [] [.c (.own 0)] [.row 59 (.nm .snap) (r0)]=((fun (q0:Nat)=>l.length*(64:Nat)<=(140737488355328:Nat)->I64 id->∃ (s0:Nat),(fun (q1:Int)=>(id=id/\l=l/\(↑l.length:Int)=q1/\(0:Int)=(↑s0:Int)/\bb id (List.take s0 l)=[])/\s0<=q0/\∀ (s:Nat),(fun (q3:List Snap)=>(fun (q2:Int)=>s<=q0->((↑s:Int)<q1->(0:Int)<=(↑s:Int)/\(↑s:Int)<(↑l.length:Int)/\∀ (x:Snap),(fun (q4:Prop)=>l[s]? = some x->I64 x.id->I64 x.set->q4->x.tag.b.length<=(140737488355328:Nat)->(¬x.id=id->q4->(q3.length+[x].length)*(64:Nat)<=(140737488355328:Nat)/\I64 q2/\∃ (s':Nat),(id=id/\l=l/\q1=q1/\q2=(↑s':Int)/\q3++[x]=bb id (List.take s' l))/\s' <= q0/\q0 - s' < q0 - s)/\(x.id=id->I64 q2/\∃ (s':Nat),(id=id/\l=l/\q1=q1/\q2=(↑s':Int)/\q3=bb id (List.take s' l))/\s' <= q0/\q0 - s' < q0 - s)) (x.chunks.length*(8:Nat)<=(140737488355328:Nat)))/\(q1<=(↑s:Int)->q3=r0)) ((↑s:Int)+(1:Int))) (bb id (List.take s l))) (↑q0:Int)) l.length):=by kernel_rfl
theorem wT (l:List Snap) (id:Int):Sat Tryz.prog (au aF) 100 [.c (.fz (.nm .snap) (l)),.c (.int (id))] [] ⟨[],[.c (.own 0)],some ([.row 59 (.nm .snap) ((bb id l))]),true⟩:=by
 refine eA gu (rf l id) Tryz.func100 (by decide) (by kernel_rfl) ?_
 rw [xo]
 (repeat' (first | with_reducible refine And.intro ?_ ?_ | with_reducible refine and_imp.2 ?_ | intro))
 all_goals try (first | (first | with_reducible rfl | with_reducible assumption | omega | (refine aq ?_ ?_ <;> omega)) | exact rfl | exact (Aq (by with_reducible assumption) (by with_reducible assumption) (by with_reducible assumption)) | exact (yR (by with_reducible assumption) (by with_reducible assumption)) | exact (tE (by omega)) | exact (ub (by omega) (by omega)))
 all_goals try (refine ⟨0,?_⟩; (repeat' (first | with_reducible refine And.intro ?_ ?_ | with_reducible refine and_imp.2 ?_ | intro)))
 all_goals try (first | (first | with_reducible rfl | with_reducible assumption | omega | (refine aq ?_ ?_ <;> omega)) | exact rfl | exact (Aq (by with_reducible assumption) (by with_reducible assumption) (by with_reducible assumption)) | exact (yR (by with_reducible assumption) (by with_reducible assumption)) | exact (tE (by omega)) | exact (ub (by omega) (by omega)))
 all_goals try (refine ⟨‹Nat› + 1,?_⟩; (repeat' (first | with_reducible refine And.intro ?_ ?_ | with_reducible refine and_imp.2 ?_ | intro)))
 all_goals (first | (first | with_reducible rfl | with_reducible assumption | omega | (refine aq ?_ ?_ <;> omega)) | exact rfl | exact (Aq (by with_reducible assumption) (by with_reducible assumption) (by with_reducible assumption)) | exact (yR (by with_reducible assumption) (by with_reducible assumption)) | exact (tE (by omega)) | exact (ub (by omega) (by omega)))
def uX:cC:=(bR 100 (bJ (ah (kC (cL (.nm .snap))) (ah (kC cI) aO)) aP fun (l,id,_) (_)=>⟨[],[.c (.own 0)],some ([.row 59 (.nm .snap) ((bb id l))]),true⟩) (bR 97 (bJ (ah (kC (cL (.nm .snap))) aO) aP fun (l,_) (_)=>⟨[nch l<=1048576],[.agg (kn .int ((bF l)) 0 65)],none,false⟩) (bR 129 (bJ (ah (kC cI) (ah (kC (bU 0 0)) (ah (kC (bU 1 0)) aO))) (aA (oQ 108 .int 65) (aA (oQ 108 .int 65) aP)) fun (n,_,_,_) (xs,ys,_)=>⟨[0<=n/\n<65],[.c (.bool (.atom ((dj xs ys n))))],none,false⟩) (bR 128 (bJ (ah (kC cI) (ah (kC (bU 0 0)) aO)) (aA (oQ 108 .int 65) aP) fun (n,_,_) (xs,_)=>⟨[0<=n/\n<65],[.c (.bool (.atom ((dm xs n))))],none,false⟩) nX))))
theorem mX:aX Tryz.prog (au aF) uX:=(az (ay (ab (av bO) (ab (av aw) al)) ao fun (l,id,_) (_) _=>wT l id ) (az (ay (ab (av bO) al) ao fun (l,_) (_) hp=>CT l (eP hp)) (az (ay (ab (av aw) (ab (av aJ) (ab (av aJ) al))) (ag fv (ag fv ao)) fun (n,_,_,_) (xs,ys,_) hp=>yC n xs ys (eP hp)) (az (ay (ab (av aw) (ab (av aJ) al)) (ag fv ao) fun (n,_,_) (xs,_) hp=>Dp n xs (eP hp)) gu))))
end Go.Proofs.YtdggohppeeaipaaGreat
namespace Go.Proofs.YtdggohppeeaipaaGreat
open Go.RowKit
def rk (xs:List Int):List (Nat × LI):=[(3,{ σ:=Nat,F:=fun k=>([(0,one (.fn 128 [] [(0,0)])),(3,one (.own 1)),(4,one (.int (k+1)))],[.arr 108 .int 65 ((xs)),.row 3 .int ((fQ (dm xs) k))]),J:=fun k=>k<=64,μ:=fun k=>64 - k })]
def qI (xs:List Int) (ys:List Int):List (Nat × LI):=[(3,{ σ:=Nat,F:=fun k=>([(0,one (.fn 129 [] [(0,0),(1,0)])),(3,one (.own 2)),(4,one (.int (k+1)))],[.arr 108 .int 65 ((xs)),.arr 108 .int 65 ((ys)),.row 3 .int ((fQ (dj xs ys) k))]),J:=fun k=>k<=64,μ:=fun k=>64 - k })]
theorem xE (xs:List Int) (r0:List Int):cM aF uX (rk xs) Tryz.f127 [.c (.fn 128 [] [(0,0)])] [.arr 108 .int 65 (xs)] [.c (.fz .int (r0))]=((fun (q1:Nat)=>(fun (q0:Int)=>∃ (s0:Nat),(q0=(↑s0:Int)+q0/\xs=xs/\fQ (dm xs) s0=[])/\s0<=q1/\∀ (s:Nat),(fun (q3:List Int)=>(fun (q2:Int)=>s<=q1->(q2<=(64:Int)->((0:Int)<=q2/\q2<(65:Int))/\(dm xs q2=true->(q3.length+[q2].length)*(8:Nat)<=(140737488355328:Nat)/\I64 (q2+q0)/\∃ (s':Nat),(q2+q0=(↑s':Int)+q0/\xs=xs/\q3++[q2]=fQ (dm xs) s')/\s' <= q1/\q1 - s' < q1 - s)/\(dm xs q2=false->I64 (q2+q0)/\∃ (s':Nat),(q2+q0=(↑s':Int)+q0/\xs=xs/\q3=fQ (dm xs) s')/\s' <= q1/\q1 - s' < q1 - s))/\((64:Int)<q2->q3=r0)) ((↑s:Int)+q0)) (fQ (dm xs) s)) (1:Int)) (64:Nat)):=by kernel_rfl
theorem xH (xs:List Int):Sat Tryz.prog (au aF) 127 [.c (.fn 128 [] [(0,0)])] [.arr 108 .int 65 (xs)] ⟨[],[.c (.fz .int ((fQ (dm xs) 64)))],none,false⟩:=by
 refine aR mX (rk xs) Tryz.func127 (by decide) (by kernel_rfl) ?_
 rw [xE]
 (repeat' (first | with_reducible refine And.intro ?_ ?_ | with_reducible refine and_imp.2 ?_ | intro))
 all_goals try (first | (first | with_reducible rfl | with_reducible assumption | omega | (refine aq ?_ ?_ <;> omega)) | exact rfl | exact (xt (by with_reducible assumption)) | exact (wJ (by with_reducible assumption)) | exact (xL (by omega) (by omega)) | exact (jF (by omega)) | exact (And.intro (by omega) (by omega)))
 all_goals try (refine ⟨0,?_⟩; (repeat' (first | with_reducible refine And.intro ?_ ?_ | with_reducible refine and_imp.2 ?_ | intro)))
 all_goals try (first | (first | with_reducible rfl | with_reducible assumption | omega | (refine aq ?_ ?_ <;> omega)) | exact rfl | exact (xt (by with_reducible assumption)) | exact (wJ (by with_reducible assumption)) | exact (xL (by omega) (by omega)) | exact (jF (by omega)) | exact (And.intro (by omega) (by omega)))
 all_goals try (refine ⟨‹Nat› + 1,?_⟩; (repeat' (first | with_reducible refine And.intro ?_ ?_ | with_reducible refine and_imp.2 ?_ | intro)))
 all_goals (first | (first | with_reducible rfl | with_reducible assumption | omega | (refine aq ?_ ?_ <;> omega)) | exact rfl | exact (xt (by with_reducible assumption)) | exact (wJ (by with_reducible assumption)) | exact (xL (by omega) (by omega)) | exact (jF (by omega)) | exact (And.intro (by omega) (by omega)))
theorem wk (xs:List Int) (ys:List Int) (r0:List Int):cM aF uX (qI xs ys) Tryz.f127 [.c (.fn 129 [] [(0,0),(1,0)])] [.arr 108 .int 65 (xs),.arr 108 .int 65 (ys)] [.c (.fz .int (r0))]=((fun (q1:Nat)=>(fun (q0:Int)=>∃ (s0:Nat),(q0=(↑s0:Int)+q0/\xs=xs/\ys=ys/\fQ (dj xs ys) s0=[])/\s0<=q1/\∀ (s:Nat),(fun (q3:List Int)=>(fun (q2:Int)=>s<=q1->(q2<=(64:Int)->((0:Int)<=q2/\q2<(65:Int))/\(dj xs ys q2=true->(q3.length+[q2].length)*(8:Nat)<=(140737488355328:Nat)/\I64 (q2+q0)/\∃ (s':Nat),(q2+q0=(↑s':Int)+q0/\xs=xs/\ys=ys/\q3++[q2]=fQ (dj xs ys) s')/\s' <= q1/\q1 - s' < q1 - s)/\(dj xs ys q2=false->I64 (q2+q0)/\∃ (s':Nat),(q2+q0=(↑s':Int)+q0/\xs=xs/\ys=ys/\q3=fQ (dj xs ys) s')/\s' <= q1/\q1 - s' < q1 - s))/\((64:Int)<q2->q3=r0)) ((↑s:Int)+q0)) (fQ (dj xs ys) s)) (1:Int)) (64:Nat)):=by kernel_rfl
theorem wG (xs:List Int) (ys:List Int):Sat Tryz.prog (au aF) 127 [.c (.fn 129 [] [(0,0),(1,0)])] [.arr 108 .int 65 (xs),.arr 108 .int 65 (ys)] ⟨[],[.c (.fz .int ((fQ (dj xs ys) 64)))],none,false⟩:=by
 refine aR mX (qI xs ys) Tryz.func127 (by decide) (by kernel_rfl) ?_
 rw [wk]
 (repeat' (first | with_reducible refine And.intro ?_ ?_ | with_reducible refine and_imp.2 ?_ | intro))
 all_goals try (first | (first | with_reducible rfl | with_reducible assumption | omega | (refine aq ?_ ?_ <;> omega)) | exact rfl | exact (xt (by with_reducible assumption)) | exact (wJ (by with_reducible assumption)) | exact (xL (by omega) (by omega)) | exact (jF (by omega)) | exact (And.intro (by omega) (by omega)))
 all_goals try (refine ⟨0,?_⟩; (repeat' (first | with_reducible refine And.intro ?_ ?_ | with_reducible refine and_imp.2 ?_ | intro)))
 all_goals try (first | (first | with_reducible rfl | with_reducible assumption | omega | (refine aq ?_ ?_ <;> omega)) | exact rfl | exact (xt (by with_reducible assumption)) | exact (wJ (by with_reducible assumption)) | exact (xL (by omega) (by omega)) | exact (jF (by omega)) | exact (And.intro (by omega) (by omega)))
 all_goals try (refine ⟨‹Nat› + 1,?_⟩; (repeat' (first | with_reducible refine And.intro ?_ ?_ | with_reducible refine and_imp.2 ?_ | intro)))
 all_goals (first | (first | with_reducible rfl | with_reducible assumption | omega | (refine aq ?_ ?_ <;> omega)) | exact rfl | exact (xt (by with_reducible assumption)) | exact (wJ (by with_reducible assumption)) | exact (xL (by omega) (by omega)) | exact (jF (by omega)) | exact (And.intro (by omega) (by omega)))
def vy:cC:=(bR 127 (bJ (ah (kC (lH 129 [] [(0,0),(1,0)])) aO) (aA (oQ 108 .int 65) (aA (oQ 108 .int 65) aP)) fun (_,_) (xs,ys,_)=>⟨[],[.c (.fz .int ((fQ (dj xs ys) 64)))],none,false⟩) (bR 127 (bJ (ah (kC (lH 128 [] [(0,0)])) aO) (aA (oQ 108 .int 65) aP) fun (_,_) (xs,_)=>⟨[],[.c (.fz .int ((fQ (dm xs) 64)))],none,false⟩) uX))
theorem lV:aX Tryz.prog (au aF) vy:=(az (ay (ab (av b_) al) (ag fv (ag fv ao)) fun (_,_) (xs,ys,_) _=>wG xs ys ) (az (ay (ab (av b_) al) (ag fv ao) fun (_,_) (xs,_) _=>xH xs ) mX))
end Go.Proofs.YtdggohppeeaipaaGreat
namespace Go.Proofs.YtdggohppeeaipaaGreat
open Go.RowKit
theorem Gc (xs:List Int) (r0:List Int):cM aF vy [] Tryz.f96 [.agg (kn .int (xs) 0 65)] [] [.c (.fz .int (r0))]=((fun (q1:List Int)=>(fun (q0:den Sh.int)=>I64 (xs.getD (0:Nat) q0)->I64 (xs.getD (1:Nat) q0)->I64 (xs.getD (2:Nat) q0)->I64 (xs.getD (3:Nat) q0)->I64 (xs.getD (4:Nat) q0)->I64 (xs.getD (5:Nat) q0)->I64 (xs.getD (6:Nat) q0)->I64 (xs.getD (7:Nat) q0)->I64 (xs.getD (8:Nat) q0)->I64 (xs.getD (9:Nat) q0)->I64 (xs.getD (10:Nat) q0)->I64 (xs.getD (11:Nat) q0)->I64 (xs.getD (12:Nat) q0)->I64 (xs.getD (13:Nat) q0)->I64 (xs.getD (14:Nat) q0)->I64 (xs.getD (15:Nat) q0)->I64 (xs.getD (16:Nat) q0)->I64 (xs.getD (17:Nat) q0)->I64 (xs.getD (18:Nat) q0)->I64 (xs.getD (19:Nat) q0)->I64 (xs.getD (20:Nat) q0)->I64 (xs.getD (21:Nat) q0)->I64 (xs.getD (22:Nat) q0)->I64 (xs.getD (23:Nat) q0)->I64 (xs.getD (24:Nat) q0)->I64 (xs.getD (25:Nat) q0)->I64 (xs.getD (26:Nat) q0)->I64 (xs.getD (27:Nat) q0)->I64 (xs.getD (28:Nat) q0)->I64 (xs.getD (29:Nat) q0)->I64 (xs.getD (30:Nat) q0)->I64 (xs.getD (31:Nat) q0)->I64 (xs.getD (32:Nat) q0)->I64 (xs.getD (33:Nat) q0)->I64 (xs.getD (34:Nat) q0)->I64 (xs.getD (35:Nat) q0)->I64 (xs.getD (36:Nat) q0)->I64 (xs.getD (37:Nat) q0)->I64 (xs.getD (38:Nat) q0)->I64 (xs.getD (39:Nat) q0)->I64 (xs.getD (40:Nat) q0)->I64 (xs.getD (41:Nat) q0)->I64 (xs.getD (42:Nat) q0)->I64 (xs.getD (43:Nat) q0)->I64 (xs.getD (44:Nat) q0)->I64 (xs.getD (45:Nat) q0)->I64 (xs.getD (46:Nat) q0)->I64 (xs.getD (47:Nat) q0)->I64 (xs.getD (48:Nat) q0)->I64 (xs.getD (49:Nat) q0)->I64 (xs.getD (50:Nat) q0)->I64 (xs.getD (51:Nat) q0)->I64 (xs.getD (52:Nat) q0)->I64 (xs.getD (53:Nat) q0)->I64 (xs.getD (54:Nat) q0)->I64 (xs.getD (55:Nat) q0)->I64 (xs.getD (56:Nat) q0)->I64 (xs.getD (57:Nat) q0)->I64 (xs.getD (58:Nat) q0)->I64 (xs.getD (59:Nat) q0)->I64 (xs.getD (60:Nat) q0)->I64 (xs.getD (61:Nat) q0)->I64 (xs.getD (62:Nat) q0)->I64 (xs.getD (63:Nat) q0)->I64 (xs.getD (64:Nat) q0)->q1.length*(8:Nat)<=(140737488355328:Nat)->q1=r0) (dflt Sh.int)) (fQ (dm (mm Sh.int xs (0:Nat) (65:Nat))) (64:Nat))):=by kernel_rfl
theorem Hd (xs:List Int) (h0:xs.length=65):Sat Tryz.prog (au aF) 96 [.agg (kn .int (xs) 0 65)] [] ⟨[xs.length=65],[.c (.fz .int ((fQ (dm xs) 64)))],none,false⟩:=by
 refine aR lV [] Tryz.func96 (by decide) (by kernel_rfl) ?_
 rw [Gc]
 (repeat' (first | with_reducible refine And.intro ?_ ?_ | with_reducible refine and_imp.2 ?_ | intro))
 all_goals (first | (first | with_reducible rfl | with_reducible assumption | omega | (refine aq ?_ ?_ <;> omega)) | exact (by rw [ei h0]) | exact (by rw [ei h0]; assumption))
theorem BI (l:List Snap) (id:Int) (r0:List Int):cM aF vy [] Tryz.f99 [.c (.fz (.nm .snap) (l)),.c (.int (id))] [] [.c (.fz .int (r0))]=((fun (q3:Nat)=>(fun (q2:List Int)=>(fun (q1:den Sh.int)=>(fun (q0:List Int)=>l.length*(64:Nat)<=(140737488355328:Nat)->I64 id->nch l<=(1048576:Nat)/\(I64 (q2.getD q3 q1)->I64 (q2.getD (1:Nat) q1)->I64 (q2.getD (2:Nat) q1)->I64 (q2.getD (3:Nat) q1)->I64 (q2.getD (4:Nat) q1)->I64 (q2.getD (5:Nat) q1)->I64 (q2.getD (6:Nat) q1)->I64 (q2.getD (7:Nat) q1)->I64 (q2.getD (8:Nat) q1)->I64 (q2.getD (9:Nat) q1)->I64 (q2.getD (10:Nat) q1)->I64 (q2.getD (11:Nat) q1)->I64 (q2.getD (12:Nat) q1)->I64 (q2.getD (13:Nat) q1)->I64 (q2.getD (14:Nat) q1)->I64 (q2.getD (15:Nat) q1)->I64 (q2.getD (16:Nat) q1)->I64 (q2.getD (17:Nat) q1)->I64 (q2.getD (18:Nat) q1)->I64 (q2.getD (19:Nat) q1)->I64 (q2.getD (20:Nat) q1)->I64 (q2.getD (21:Nat) q1)->I64 (q2.getD (22:Nat) q1)->I64 (q2.getD (23:Nat) q1)->I64 (q2.getD (24:Nat) q1)->I64 (q2.getD (25:Nat) q1)->I64 (q2.getD (26:Nat) q1)->I64 (q2.getD (27:Nat) q1)->I64 (q2.getD (28:Nat) q1)->I64 (q2.getD (29:Nat) q1)->I64 (q2.getD (30:Nat) q1)->I64 (q2.getD (31:Nat) q1)->I64 (q2.getD (32:Nat) q1)->I64 (q2.getD (33:Nat) q1)->I64 (q2.getD (34:Nat) q1)->I64 (q2.getD (35:Nat) q1)->I64 (q2.getD (36:Nat) q1)->I64 (q2.getD (37:Nat) q1)->I64 (q2.getD (38:Nat) q1)->I64 (q2.getD (39:Nat) q1)->I64 (q2.getD (40:Nat) q1)->I64 (q2.getD (41:Nat) q1)->I64 (q2.getD (42:Nat) q1)->I64 (q2.getD (43:Nat) q1)->I64 (q2.getD (44:Nat) q1)->I64 (q2.getD (45:Nat) q1)->I64 (q2.getD (46:Nat) q1)->I64 (q2.getD (47:Nat) q1)->I64 (q2.getD (48:Nat) q1)->I64 (q2.getD (49:Nat) q1)->I64 (q2.getD (50:Nat) q1)->I64 (q2.getD (51:Nat) q1)->I64 (q2.getD (52:Nat) q1)->I64 (q2.getD (53:Nat) q1)->I64 (q2.getD (54:Nat) q1)->I64 (q2.getD (55:Nat) q1)->I64 (q2.getD (56:Nat) q1)->I64 (q2.getD (57:Nat) q1)->I64 (q2.getD (58:Nat) q1)->I64 (q2.getD (59:Nat) q1)->I64 (q2.getD (60:Nat) q1)->I64 (q2.getD (61:Nat) q1)->I64 (q2.getD (62:Nat) q1)->I64 (q2.getD (63:Nat) q1)->I64 (q2.getD (64:Nat) q1)->nch (bb id l)<=(1048576:Nat)/\(I64 (q0.getD q3 q1)->I64 (q0.getD (1:Nat) q1)->I64 (q0.getD (2:Nat) q1)->I64 (q0.getD (3:Nat) q1)->I64 (q0.getD (4:Nat) q1)->I64 (q0.getD (5:Nat) q1)->I64 (q0.getD (6:Nat) q1)->I64 (q0.getD (7:Nat) q1)->I64 (q0.getD (8:Nat) q1)->I64 (q0.getD (9:Nat) q1)->I64 (q0.getD (10:Nat) q1)->I64 (q0.getD (11:Nat) q1)->I64 (q0.getD (12:Nat) q1)->I64 (q0.getD (13:Nat) q1)->I64 (q0.getD (14:Nat) q1)->I64 (q0.getD (15:Nat) q1)->I64 (q0.getD (16:Nat) q1)->I64 (q0.getD (17:Nat) q1)->I64 (q0.getD (18:Nat) q1)->I64 (q0.getD (19:Nat) q1)->I64 (q0.getD (20:Nat) q1)->I64 (q0.getD (21:Nat) q1)->I64 (q0.getD (22:Nat) q1)->I64 (q0.getD (23:Nat) q1)->I64 (q0.getD (24:Nat) q1)->I64 (q0.getD (25:Nat) q1)->I64 (q0.getD (26:Nat) q1)->I64 (q0.getD (27:Nat) q1)->I64 (q0.getD (28:Nat) q1)->I64 (q0.getD (29:Nat) q1)->I64 (q0.getD (30:Nat) q1)->I64 (q0.getD (31:Nat) q1)->I64 (q0.getD (32:Nat) q1)->I64 (q0.getD (33:Nat) q1)->I64 (q0.getD (34:Nat) q1)->I64 (q0.getD (35:Nat) q1)->I64 (q0.getD (36:Nat) q1)->I64 (q0.getD (37:Nat) q1)->I64 (q0.getD (38:Nat) q1)->I64 (q0.getD (39:Nat) q1)->I64 (q0.getD (40:Nat) q1)->I64 (q0.getD (41:Nat) q1)->I64 (q0.getD (42:Nat) q1)->I64 (q0.getD (43:Nat) q1)->I64 (q0.getD (44:Nat) q1)->I64 (q0.getD (45:Nat) q1)->I64 (q0.getD (46:Nat) q1)->I64 (q0.getD (47:Nat) q1)->I64 (q0.getD (48:Nat) q1)->I64 (q0.getD (49:Nat) q1)->I64 (q0.getD (50:Nat) q1)->I64 (q0.getD (51:Nat) q1)->I64 (q0.getD (52:Nat) q1)->I64 (q0.getD (53:Nat) q1)->I64 (q0.getD (54:Nat) q1)->I64 (q0.getD (55:Nat) q1)->I64 (q0.getD (56:Nat) q1)->I64 (q0.getD (57:Nat) q1)->I64 (q0.getD (58:Nat) q1)->I64 (q0.getD (59:Nat) q1)->I64 (q0.getD (60:Nat) q1)->I64 (q0.getD (61:Nat) q1)->I64 (q0.getD (62:Nat) q1)->I64 (q0.getD (63:Nat) q1)->I64 (q0.getD (64:Nat) q1)->(fQ (dj (mm Sh.int q2 q3 (65:Nat)) (mm Sh.int q0 q3 (65:Nat))) (64:Nat)).length*(8:Nat)<=(140737488355328:Nat)->fQ (dj (mm Sh.int q2 q3 (65:Nat)) (mm Sh.int q0 q3 (65:Nat))) (64:Nat)=r0))) (bF (bb id l))) (dflt Sh.int)) (bF l)) (0:Nat)):=by kernel_rfl
theorem Aj (l:List Snap) (id:Int) (h0:nch l<=1048576):Sat Tryz.prog (au aF) 99 [.c (.fz (.nm .snap) (l)),.c (.int (id))] [] ⟨[nch l<=1048576],[.c (.fz .int ((fu l id)))],none,false⟩:=by
 refine aR lV [] Tryz.func99 (by decide) (by kernel_rfl) ?_
 rw [BI]
 (repeat' (first | with_reducible refine And.intro ?_ ?_ | with_reducible refine and_imp.2 ?_ | intro))
 all_goals (first | (first | with_reducible rfl | with_reducible assumption | omega | (refine aq ?_ ?_ <;> omega)) | exact (Fa (by assumption)) | exact (by rw [ei (dV _),ei (dV _)]; exact zk _ _ _ rfl))
def vv:cC:=(bR 99 (bJ (ah (kC (cL (.nm .snap))) (ah (kC cI) aO)) aP fun (l,id,_) (_)=>⟨[nch l<=1048576],[.c (.fz .int ((fu l id)))],none,false⟩) (bR 96 (bJ (ah (kA .int 65) aO) aP fun (xs,_) (_)=>⟨[xs.length=65],[.c (.fz .int ((fQ (dm xs) 64)))],none,false⟩) vy))
theorem nh:aX Tryz.prog (au aF) vv:=(az (ay (ab (av bO) (ab (av aw) al)) ao fun (l,id,_) (_) hp=>Aj l id (eP hp)) (az (ay (ab Ig al) ao fun (xs,_) (_) hp=>Hd xs (eP hp)) lV))
end Go.Proofs.YtdggohppeeaipaaGreat
namespace Go.Proofs.YtdggohppeeaipaaGreat
open Go.RowKit
theorem sj (l:List Snap) (r0:Int):cM aF vv [] Tryz.f54 [.c (.fz (.nm .snap) (l))] [] [.c (.int (r0))]=((fun (q1:den Sh.int)=>(fun (q0:List Int)=>l.length*(64:Nat)<=(140737488355328:Nat)->nch l<=(1048576:Nat)/\(I64 (q0.getD (0:Nat) q1)->I64 (q0.getD (1:Nat) q1)->I64 (q0.getD (2:Nat) q1)->I64 (q0.getD (3:Nat) q1)->I64 (q0.getD (4:Nat) q1)->I64 (q0.getD (5:Nat) q1)->I64 (q0.getD (6:Nat) q1)->I64 (q0.getD (7:Nat) q1)->I64 (q0.getD (8:Nat) q1)->I64 (q0.getD (9:Nat) q1)->I64 (q0.getD (10:Nat) q1)->I64 (q0.getD (11:Nat) q1)->I64 (q0.getD (12:Nat) q1)->I64 (q0.getD (13:Nat) q1)->I64 (q0.getD (14:Nat) q1)->I64 (q0.getD (15:Nat) q1)->I64 (q0.getD (16:Nat) q1)->I64 (q0.getD (17:Nat) q1)->I64 (q0.getD (18:Nat) q1)->I64 (q0.getD (19:Nat) q1)->I64 (q0.getD (20:Nat) q1)->I64 (q0.getD (21:Nat) q1)->I64 (q0.getD (22:Nat) q1)->I64 (q0.getD (23:Nat) q1)->I64 (q0.getD (24:Nat) q1)->I64 (q0.getD (25:Nat) q1)->I64 (q0.getD (26:Nat) q1)->I64 (q0.getD (27:Nat) q1)->I64 (q0.getD (28:Nat) q1)->I64 (q0.getD (29:Nat) q1)->I64 (q0.getD (30:Nat) q1)->I64 (q0.getD (31:Nat) q1)->I64 (q0.getD (32:Nat) q1)->I64 (q0.getD (33:Nat) q1)->I64 (q0.getD (34:Nat) q1)->I64 (q0.getD (35:Nat) q1)->I64 (q0.getD (36:Nat) q1)->I64 (q0.getD (37:Nat) q1)->I64 (q0.getD (38:Nat) q1)->I64 (q0.getD (39:Nat) q1)->I64 (q0.getD (40:Nat) q1)->I64 (q0.getD (41:Nat) q1)->I64 (q0.getD (42:Nat) q1)->I64 (q0.getD (43:Nat) q1)->I64 (q0.getD (44:Nat) q1)->I64 (q0.getD (45:Nat) q1)->I64 (q0.getD (46:Nat) q1)->I64 (q0.getD (47:Nat) q1)->I64 (q0.getD (48:Nat) q1)->I64 (q0.getD (49:Nat) q1)->I64 (q0.getD (50:Nat) q1)->I64 (q0.getD (51:Nat) q1)->I64 (q0.getD (52:Nat) q1)->I64 (q0.getD (53:Nat) q1)->I64 (q0.getD (54:Nat) q1)->I64 (q0.getD (55:Nat) q1)->I64 (q0.getD (56:Nat) q1)->I64 (q0.getD (57:Nat) q1)->I64 (q0.getD (58:Nat) q1)->I64 (q0.getD (59:Nat) q1)->I64 (q0.getD (60:Nat) q1)->I64 (q0.getD (61:Nat) q1)->I64 (q0.getD (62:Nat) q1)->I64 (q0.getD (63:Nat) q1)->I64 (q0.getD (64:Nat) q1)->(mm Sh.int q0 (0:Nat) (65:Nat)).length=(65:Nat)/\((fQ (dm (mm Sh.int q0 (0:Nat) (65:Nat))) (64:Nat)).length*(8:Nat)<=(140737488355328:Nat)->(↑(fQ (dm (mm Sh.int q0 (0:Nat) (65:Nat))) (64:Nat)).length:Int)=r0))) (bF l)) (dflt Sh.int)):=by kernel_rfl
theorem sk (l:List Snap) (h0:nch l<=1048576):Sat Tryz.prog (au aF) 54 [.c (.fz (.nm .snap) (l))] [] ⟨[nch l<=1048576],[.c (.int (((distF l:Int))))],none,false⟩:=by
 refine aR nh [] Tryz.func54 (by decide) (by kernel_rfl) ?_
 rw [sj]
 (repeat' (first | with_reducible refine And.intro ?_ ?_ | with_reducible refine and_imp.2 ?_ | intro))
 all_goals (first | (first | with_reducible rfl | with_reducible assumption | omega | (refine aq ?_ ?_ <;> omega)) | exact (lE 65 0) | exact (by rw [ei (dV _)]; exact vT _))
theorem CL (l:List Snap) (m:List Int) (r0:Int):cM aF vv [] Tryz.f94 [.c (.fz (.nm .snap) (l)),.c (.fz .int (m))] [] [.c (.int (r0))]=((fun (q3:Nat)=>(fun (q2:Nat)=>(fun (q1:den Sh.int)=>(fun (q0:List Int)=>l.length*(64:Nat)<=(140737488355328:Nat)->m.length*(8:Nat)<=(140737488355328:Nat)->nch l<=(1048576:Nat)/\(I64 (q0.getD q2 q1)->I64 (q0.getD (1:Nat) q1)->I64 (q0.getD (2:Nat) q1)->I64 (q0.getD (3:Nat) q1)->I64 (q0.getD (4:Nat) q1)->I64 (q0.getD (5:Nat) q1)->I64 (q0.getD (6:Nat) q1)->I64 (q0.getD (7:Nat) q1)->I64 (q0.getD (8:Nat) q1)->I64 (q0.getD (9:Nat) q1)->I64 (q0.getD (10:Nat) q1)->I64 (q0.getD (11:Nat) q1)->I64 (q0.getD (12:Nat) q1)->I64 (q0.getD (13:Nat) q1)->I64 (q0.getD (14:Nat) q1)->I64 (q0.getD (15:Nat) q1)->I64 (q0.getD (16:Nat) q1)->I64 (q0.getD (17:Nat) q1)->I64 (q0.getD (18:Nat) q1)->I64 (q0.getD (19:Nat) q1)->I64 (q0.getD (20:Nat) q1)->I64 (q0.getD (21:Nat) q1)->I64 (q0.getD (22:Nat) q1)->I64 (q0.getD (23:Nat) q1)->I64 (q0.getD (24:Nat) q1)->I64 (q0.getD (25:Nat) q1)->I64 (q0.getD (26:Nat) q1)->I64 (q0.getD (27:Nat) q1)->I64 (q0.getD (28:Nat) q1)->I64 (q0.getD (29:Nat) q1)->I64 (q0.getD (30:Nat) q1)->I64 (q0.getD (31:Nat) q1)->I64 (q0.getD (32:Nat) q1)->I64 (q0.getD (33:Nat) q1)->I64 (q0.getD (34:Nat) q1)->I64 (q0.getD (35:Nat) q1)->I64 (q0.getD (36:Nat) q1)->I64 (q0.getD (37:Nat) q1)->I64 (q0.getD (38:Nat) q1)->I64 (q0.getD (39:Nat) q1)->I64 (q0.getD (40:Nat) q1)->I64 (q0.getD (41:Nat) q1)->I64 (q0.getD (42:Nat) q1)->I64 (q0.getD (43:Nat) q1)->I64 (q0.getD (44:Nat) q1)->I64 (q0.getD (45:Nat) q1)->I64 (q0.getD (46:Nat) q1)->I64 (q0.getD (47:Nat) q1)->I64 (q0.getD (48:Nat) q1)->I64 (q0.getD (49:Nat) q1)->I64 (q0.getD (50:Nat) q1)->I64 (q0.getD (51:Nat) q1)->I64 (q0.getD (52:Nat) q1)->I64 (q0.getD (53:Nat) q1)->I64 (q0.getD (54:Nat) q1)->I64 (q0.getD (55:Nat) q1)->I64 (q0.getD (56:Nat) q1)->I64 (q0.getD (57:Nat) q1)->I64 (q0.getD (58:Nat) q1)->I64 (q0.getD (59:Nat) q1)->I64 (q0.getD (60:Nat) q1)->I64 (q0.getD (61:Nat) q1)->I64 (q0.getD (62:Nat) q1)->I64 (q0.getD (63:Nat) q1)->I64 (q0.getD (64:Nat) q1)->(∀ (i:Nat),(fun (q4:Int)=>(0:Int)<=q4/\q4+(↑m.length:Int)<=(4611686018427387904:Int)) ((mm Sh.int q0 q2 q3).getD i (0:Int)))/\(mm Sh.int (cH (mm Sh.int q0 q2 q3) m) q2 q3).length=q3/\((fQ (dm (mm Sh.int (cH (mm Sh.int q0 q2 q3) m) q2 q3)) (64:Nat)).length*(8:Nat)<=(140737488355328:Nat)->(↑(fQ (dm (mm Sh.int (cH (mm Sh.int q0 q2 q3) m) q2 q3)) (64:Nat)).length:Int)=r0))) (bF l)) (dflt Sh.int)) (0:Nat)) (65:Nat)):=by kernel_rfl
theorem CY (l:List Snap) (m:List Int) (h0:nch l<=1048576):Sat Tryz.prog (au aF) 94 [.c (.fz (.nm .snap) (l)),.c (.fz .int (m))] [] ⟨[nch l<=1048576],[.c (.int (((distF (l++[⟨0,0,m,false,⟨[]⟩⟩]):Int))))],none,false⟩:=by
 refine aR nh [] Tryz.func94 (by decide) (by kernel_rfl) ?_
 rw [CL]
 (repeat' (first | with_reducible refine And.intro ?_ ?_ | with_reducible refine and_imp.2 ?_ | intro))
 all_goals (first | (first | with_reducible rfl | with_reducible assumption | omega | (refine aq ?_ ?_ <;> omega)) | exact (lE 65 0) | exact (uR (s:=.int) (by assumption) (by assumption) _).1 | exact (uR (s:=.int) (by assumption) (by assumption) _).2 | exact (by rw [ei (s:=.int) (xs:=cH _ _) (by rw [lS,lE]),ei (dV l)]; have:=vT (l++[Snap.mk 0 0 m false ⟨[]⟩]); rw [fW] at this; exact this))
def iC:cC:=(bR 94 (bJ (ah (kC (cL (.nm .snap))) (ah (kC (cL .int)) aO)) aP fun (l,m,_) (_)=>⟨[nch l<=1048576],[.c (.int (((distF (l++[⟨0,0,m,false,⟨[]⟩⟩]):Int))))],none,false⟩) (bR 54 (bJ (ah (kC (cL (.nm .snap))) aO) aP fun (l,_) (_)=>⟨[nch l<=1048576],[.c (.int (((distF l:Int))))],none,false⟩) vv))
theorem dN:aX Tryz.prog (au aF) iC:=(az (ay (ab (av bO) (ab (av bO) al)) ao fun (l,m,_) (_) hp=>CY l m (eP hp)) (az (ay (ab (av bO) al) ao fun (l,_) (_) hp=>sk l (eP hp)) nh))
end Go.Proofs.YtdggohppeeaipaaGreat
namespace Go.Proofs.YtdggohppeeaipaaGreat
open Go.RowKit
def fG {α:Type} (l:List α) (i:Nat) (x:α):List α:=l.take i++x :: l.drop i
def xp {α:Type} (l:List α) (i:Int):List α:=l.take i.toNat++l.drop (i+1).toNat
def bp (s:State) (c:Command):Int:=if 0<=ai Opn.set c.set s.opens/\¬ (s.opens.getD (ai Opn.set c.set s.opens).toNat (dflt (.nm .opn))).client=c.client then -1 else ai Opn.set c.set s.opens
def aW (s:State) (c:Command):State × Reply:=if 0<=ai Opn.set c.set s.opens then (s,⟨16,(s.opens.getD (ai Opn.set c.set s.opens).toNat (dflt (.nm .opn))).client⟩)
 else ({ s with opens:=fG s.opens (s.opens.takeWhile fun y=>decide (y.set<c.set)).length ⟨c.set,c.client⟩ },⟨0,0⟩)
def a_ (s:State) (c:Command):State × Reply:=if bp s c<0 then (s,⟨15,0⟩) else ({ s with opens:=xp s.opens (bp s c) },⟨0,0⟩)
def aS (s:State) (c:Command):State × Reply:=
 if bp s c<0 then (s,⟨15,0⟩)
 else if 16<=(s.snaps.length:Int)\/1048576<=s.next then (s,⟨20,0⟩)
 else if ¬ s.quota=0/\s.quota<(distF (s.snaps++[⟨0,0,c.chunks,false,⟨[]⟩⟩]):Int) then (s,⟨19,0⟩)
 else ({ s with next:=s.next+1,opens:=xp s.opens (bp s c),snaps:=s.snaps++[⟨s.next,c.set,c.chunks,false,⟨[]⟩⟩] },⟨0,s.next⟩)
def aK (s:State) (at_:Nat):State × Reply:=
 if (s.snaps.getD at_ (dflt (.nm .snap))).held=true then (s,⟨17,0⟩)
 else if fY s at_=true then (s,⟨18,0⟩)
 else ({ s with snaps:=bb (s.snaps.getD at_ (dflt (.nm .snap))).id s.snaps },⟨0,(fu s.snaps (s.snaps.getD at_ (dflt (.nm .snap))).id).length⟩)
def bj (s:State) (at_:Nat):State × Reply:=(s,⟨0,(s.snaps.getD at_ (dflt (.nm .snap))).chunks.length⟩)
def bq (b:Bool) (s:State) (at_:Nat):State × Reply:=
 if (s.snaps.getD at_ (dflt (.nm .snap))).held=b then (s,⟨0,0⟩)
 else ({ s with snaps:=s.snaps.set at_ { s.snaps.getD at_ (dflt (.nm .snap)) with held:=b } },⟨0,1⟩)
def cF (c:Command) (s:State) (at_:Nat):State × Reply:=({ s with snaps:=s.snaps.set at_ { s.snaps.getD at_ (dflt (.nm .snap)) with tag:=c.text } },⟨0,0⟩)
def df (c:Command) (s:State):State × Reply:=({ s with keep:=c.n },⟨0,0⟩)
def cn (c:Command) (s:State):State × Reply:=({ s with quota:=c.n },⟨0,distF s.snaps⟩)
theorem bI {α:Type} {key:α->Int} {want:Int} {l:List α} (h:0<=ai key want l):ai key want l<(l.length:Int):=by
 unfold ai at *
 split
 ·rename_i i hi
  have:=(List.findIdx?_eq_some_iff_getElem.1 hi).1
  omega
 ·omega
theorem AM {s:State} {c:Command} (h:0<=bp s c):bp s c+1<=(s.opens.length:Int):=by
 unfold bp at *
 split
 ·rename_i h1; rw [if_pos h1] at h; omega
 ·rename_i h1; rw [if_neg h1] at h
  have:=bI h
  omega
theorem xg (i:Int) (m:List Opn) (l:List Opn) (h0:0<=i/\i<=(l.length:Int)) (h1:l.length<1048576) (h2:m.length=1):Sat Tryz.prog (au aF) 92 [.c (.own 0),.c (.int (i)),.c (.fz (.nm .opn) (m))] [.row 77 (.nm .opn) (l)] ⟨[0<=i/\i<=(l.length:Int),l.length<1048576,m.length=1],[.c (.own 0)],some ([.row 77 (.nm .opn) ((l.take i.toNat++m++l.drop i.toNat))]),false⟩:=oW i l m h0 h1 h2
theorem tG (i:Int) (l:List Sess) (m:List Sess) (h0:0<=i/\i<=(l.length:Int)) (h1:l.length<1048576) (h2:m.length=1):Sat Tryz.prog (au aF) 36 [.c (.own 0),.c (.int (i)),.c (.own 1)] [.row 44 (.nm .sess) (l),.row 44 (.nm .sess) (m)] ⟨[0<=i/\i<=(l.length:Int),l.length<1048576,m.length=1],[.c (.own 0)],some ([.row 44 (.nm .sess) ((l.take i.toNat++m++l.drop i.toNat)),.row 44 (.nm .sess) ((m))]),false⟩:=qh i l m h0 h1 h2
theorem wC (i:Int) (j:Int) (l:List Opn) (h0:0<=i/\i<(l.length:Int)/\j=i+1):Sat Tryz.prog (au aF) 95 [.c (.own 0),.c (.int (i)),.c (.int (j))] [.row 77 (.nm .opn) (l)] ⟨[0<=i/\i<(l.length:Int)/\j=i+1],[.c (.own 0)],some ([.row 77 (.nm .opn) ((l.take i.toNat++l.drop j.toNat))]),false⟩:=sE i j l h0
theorem wW (c:Command) (v:Int) (nx:Int) (kp:Int) (qt:Int) (se:List Sess) (op:List Opn) (sn:List Snap) (r0:Int):cM aF iC [] Tryz.f93 [.c (.ptr 0 0),.agg (cellsOf (.nm .command) c)] [.box 26 ([.int (v),.int (nx),.int (kp),.int (qt),.own 1,.own 2,.own 3]),.row 44 (.nm .sess) (se),.row 77 (.nm .opn) (op),.row 59 (.nm .snap) (sn)] [.c (.int (r0))]=((fun (q0:Int)=>I64 c.kind->I64 c.client->I64 c.seq->I64 c.set->I64 c.id->I64 c.n->c.chunks.length*(8:Nat)<=(140737488355328:Nat)->c.text.b.length<=(140737488355328:Nat)->I64 q0->((0:Int)<=q0->(0:Int)<=q0/\q0<(↑op.length:Int))/\(((0:Int)<=q0->I64 (op.getD q0.toNat (dflt (Sh.nm NT.opn))).set/\I64 (op.getD q0.toNat (dflt (Sh.nm NT.opn))).client)->((0:Int)<=q0/\¬(op.getD q0.toNat (dflt (Sh.nm NT.opn))).client=c.client->(-1:Int)=r0)/\(q0<(0:Int)\/(op.getD q0.toNat (dflt (Sh.nm NT.opn))).client=c.client->q0=r0))) (ai Opn.set c.set op)):=by kernel_rfl
theorem xu (c:Command) (v:Int) (nx:Int) (kp:Int) (qt:Int) (se:List Sess) (op:List Opn) (sn:List Snap):Sat Tryz.prog (au aF) 93 [.c (.ptr 0 0),.agg (cellsOf (.nm .command) c)] [.box 26 ([.int (v),.int (nx),.int (kp),.int (qt),.own 1,.own 2,.own 3]),.row 44 (.nm .sess) (se),.row 77 (.nm .opn) (op),.row 59 (.nm .snap) (sn)] ⟨[],[.c (.int ((bp (State.mk v nx kp qt se op sn) c)))],none,false⟩:=by
 refine aR dN [] Tryz.func93 (by decide) (by kernel_rfl) ?_
 rw [wW]
 (repeat' (first | with_reducible refine And.intro ?_ ?_ | with_reducible refine and_imp.2 ?_ | intro))
 all_goals (first | (first | with_reducible rfl | with_reducible assumption | omega | (refine aq ?_ ?_ <;> omega)) | exact bI (by with_reducible assumption) | (unfold bp; grind))
theorem GX (c:Command) (v:Int) (nx:Int) (kp:Int) (qt:Int) (se:List Sess) (op:List Opn) (sn:List Snap) (r0:Reply) (r1:Command) (r2:Int) (r3:Int) (r4:Int) (r5:Int) (r6:List Sess) (r7:List Opn) (r8:List Snap):oq aF iC [] Tryz.f52 [.c (.ptr 0 0),.c (.ptr 1 0)] [.box 29 (cellsOf (.nm .command) (c)),.box 26 ([.int (v),.int (nx),.int (kp),.int (qt),.own 2,.own 3,.own 4]),.row 44 (.nm .sess) (se),.row 77 (.nm .opn) (op),.row 59 (.nm .snap) (sn)] [.agg (cellsOf (.nm .reply) r0)] [.box 29 (cellsOf (.nm .command) (r1)),.box 26 ([.int (r2),.int (r3),.int (r4),.int (r5),.own 2,.own 3,.own 4]),.row 44 (.nm .sess) (r6),.row 77 (.nm .opn) (r7),.row 59 (.nm .snap) (r8)]=((0:Int)=r0.code/\(0:Int)=r0.n/\c.kind=r1.kind/\c.client=r1.client/\c.seq=r1.seq/\c.set=r1.set/\c.id=r1.id/\c.n=r1.n/\c.chunks=r1.chunks/\c.text=r1.text/\v=r2/\nx=r3/\c.n=r4/\qt=r5/\se=r6/\op=r7/\sn=r8):=by kernel_rfl
theorem FG (c:Command) (v:Int) (nx:Int) (kp:Int) (qt:Int) (se:List Sess) (op:List Opn) (sn:List Snap):Sat Tryz.prog (au aF) 52 [.c (.ptr 0 0),.c (.ptr 1 0)] [.box 29 (cellsOf (.nm .command) (c)),.box 26 ([.int (v),.int (nx),.int (kp),.int (qt),.own 2,.own 3,.own 4]),.row 44 (.nm .sess) (se),.row 77 (.nm .opn) (op),.row 59 (.nm .snap) (sn)] ⟨[],[.agg (cellsOf (.nm .reply) ((df c (State.mk v nx kp qt se op sn)).2))],some ([.box 29 (cellsOf (.nm .command) ((c))),.box 26 ([.int ((((df c (State.mk v nx kp qt se op sn)).1).version)),.int ((((df c (State.mk v nx kp qt se op sn)).1).next)),.int ((((df c (State.mk v nx kp qt se op sn)).1).keep)),.int ((((df c (State.mk v nx kp qt se op sn)).1).quota)),.own 2,.own 3,.own 4]),.row 44 (.nm .sess) ((((df c (State.mk v nx kp qt se op sn)).1).sess)),.row 77 (.nm .opn) ((((df c (State.mk v nx kp qt se op sn)).1).opens)),.row 59 (.nm .snap) ((((df c (State.mk v nx kp qt se op sn)).1).snaps))]),false⟩:=by
 refine dz dN [] Tryz.func52 (by decide) (by kernel_rfl) ?_
 rw [GX]
 (repeat' (first | with_reducible refine And.intro ?_ ?_ | with_reducible refine and_imp.2 ?_ | intro))
 all_goals (first | (first | with_reducible rfl | with_reducible assumption | omega | (refine aq ?_ ?_ <;> omega)) | exact rfl)
theorem GQ (c:Command) (v:Int) (nx:Int) (kp:Int) (qt:Int) (se:List Sess) (op:List Opn) (sn:List Snap) (r0:Reply) (r1:Command) (r2:Int) (r3:Int) (r4:Int) (r5:Int) (r6:List Sess) (r7:List Opn) (r8:List Snap):oq aF iC [] Tryz.f53 [.c (.ptr 0 0),.c (.ptr 1 0)] [.box 29 (cellsOf (.nm .command) (c)),.box 26 ([.int (v),.int (nx),.int (kp),.int (qt),.own 2,.own 3,.own 4]),.row 44 (.nm .sess) (se),.row 77 (.nm .opn) (op),.row 59 (.nm .snap) (sn)] [.agg (cellsOf (.nm .reply) r0)] [.box 29 (cellsOf (.nm .command) (r1)),.box 26 ([.int (r2),.int (r3),.int (r4),.int (r5),.own 2,.own 3,.own 4]),.row 44 (.nm .sess) (r6),.row 77 (.nm .opn) (r7),.row 59 (.nm .snap) (r8)]=(nch sn<=(1048576:Nat)/\(I64 (↑(distF sn):Int)->(0:Int)=r0.code/\(↑(distF sn):Int)=r0.n/\c.kind=r1.kind/\c.client=r1.client/\c.seq=r1.seq/\c.set=r1.set/\c.id=r1.id/\c.n=r1.n/\c.chunks=r1.chunks/\c.text=r1.text/\v=r2/\nx=r3/\kp=r4/\c.n=r5/\se=r6/\op=r7/\sn=r8)):=by kernel_rfl
theorem Fu (c:Command) (v:Int) (nx:Int) (kp:Int) (qt:Int) (se:List Sess) (op:List Opn) (sn:List Snap) (h0:nch sn<=1048576):Sat Tryz.prog (au aF) 53 [.c (.ptr 0 0),.c (.ptr 1 0)] [.box 29 (cellsOf (.nm .command) (c)),.box 26 ([.int (v),.int (nx),.int (kp),.int (qt),.own 2,.own 3,.own 4]),.row 44 (.nm .sess) (se),.row 77 (.nm .opn) (op),.row 59 (.nm .snap) (sn)] ⟨[nch sn<=1048576],[.agg (cellsOf (.nm .reply) ((cn c (State.mk v nx kp qt se op sn)).2))],some ([.box 29 (cellsOf (.nm .command) ((c))),.box 26 ([.int ((((cn c (State.mk v nx kp qt se op sn)).1).version)),.int ((((cn c (State.mk v nx kp qt se op sn)).1).next)),.int ((((cn c (State.mk v nx kp qt se op sn)).1).keep)),.int ((((cn c (State.mk v nx kp qt se op sn)).1).quota)),.own 2,.own 3,.own 4]),.row 44 (.nm .sess) ((((cn c (State.mk v nx kp qt se op sn)).1).sess)),.row 77 (.nm .opn) ((((cn c (State.mk v nx kp qt se op sn)).1).opens)),.row 59 (.nm .snap) ((((cn c (State.mk v nx kp qt se op sn)).1).snaps))]),false⟩:=by
 refine dz dN [] Tryz.func53 (by decide) (by kernel_rfl) ?_
 rw [GQ]
 (repeat' (first | with_reducible refine And.intro ?_ ?_ | with_reducible refine and_imp.2 ?_ | intro))
 all_goals (first | (first | with_reducible rfl | with_reducible assumption | omega | (refine aq ?_ ?_ <;> omega)) | exact rfl)
theorem Dc (i:Int) (v:Int) (nx:Int) (kp:Int) (qt:Int) (se:List Sess) (op:List Opn) (sn:List Snap) (r0:Reply) (r1:Int) (r2:Int) (r3:Int) (r4:Int) (r5:List Sess) (r6:List Opn) (r7:List Snap):oq aF iC [] Tryz.f56 [.c (.ptr 0 0),.c (.int (i))] [.box 26 ([.int (v),.int (nx),.int (kp),.int (qt),.own 1,.own 2,.own 3]),.row 44 (.nm .sess) (se),.row 77 (.nm .opn) (op),.row 59 (.nm .snap) (sn)] [.agg (cellsOf (.nm .reply) r0)] [.box 26 ([.int (r1),.int (r2),.int (r3),.int (r4),.own 1,.own 2,.own 3]),.row 44 (.nm .sess) (r5),.row 77 (.nm .opn) (r6),.row 59 (.nm .snap) (r7)]=((fun (q2:Bool)=>(fun (q1:Prop)=>(fun (q0:den (Sh.nm NT.snap))=>I64 i->(0:Int)<=i/\i<(↑sn.length:Int)/\(I64 q0.id->I64 q0.set->q0.chunks.length*(8:Nat)<=(140737488355328:Nat)->q0.tag.b.length<=(140737488355328:Nat)->(q0.held=true->I64 (17:Int)->I64 (0:Int)->(17:Int)=r0.code/\q1)/\(q0.held=false->(q2=true->I64 (18:Int)->I64 (0:Int)->(18:Int)=r0.code/\q1)/\(q2=false->nch sn<=(1048576:Nat)/\((fu sn q0.id).length*(8:Nat)<=(140737488355328:Nat)->(0:Int)=r0.code/\(↑(fu sn q0.id).length:Int)=r0.n/\v=r1/\nx=r2/\kp=r3/\qt=r4/\se=r5/\op=r6/\bb q0.id sn=r7))))) (sn.getD i.toNat (dflt (Sh.nm NT.snap)))) ((0:Int)=r0.n/\v=r1/\nx=r2/\kp=r3/\qt=r4/\se=r5/\op=r6/\sn=r7)) (fY (State.mk v nx kp qt se op sn) i)):=by kernel_rfl
theorem CR (i:Int) (v:Int) (nx:Int) (kp:Int) (qt:Int) (se:List Sess) (op:List Opn) (sn:List Snap) (h0:0<=i/\i<(sn.length:Int)) (h1:nch sn<=1048576):Sat Tryz.prog (au aF) 56 [.c (.ptr 0 0),.c (.int (i))] [.box 26 ([.int (v),.int (nx),.int (kp),.int (qt),.own 1,.own 2,.own 3]),.row 44 (.nm .sess) (se),.row 77 (.nm .opn) (op),.row 59 (.nm .snap) (sn)] ⟨[0<=i/\i<(sn.length:Int),nch sn<=1048576],[.agg (cellsOf (.nm .reply) ((aK (State.mk v nx kp qt se op sn) i.toNat).2))],some ([.box 26 ([.int ((((aK (State.mk v nx kp qt se op sn) i.toNat).1).version)),.int ((((aK (State.mk v nx kp qt se op sn) i.toNat).1).next)),.int ((((aK (State.mk v nx kp qt se op sn) i.toNat).1).keep)),.int ((((aK (State.mk v nx kp qt se op sn) i.toNat).1).quota)),.own 1,.own 2,.own 3]),.row 44 (.nm .sess) ((((aK (State.mk v nx kp qt se op sn) i.toNat).1).sess)),.row 77 (.nm .opn) ((((aK (State.mk v nx kp qt se op sn) i.toNat).1).opens)),.row 59 (.nm .snap) ((((aK (State.mk v nx kp qt se op sn) i.toNat).1).snaps))]),false⟩:=by
 refine dz dN [] Tryz.func56 (by decide) (by kernel_rfl) ?_
 rw [Dc]
 have hi:((i.toNat:Nat):Int)=i:=by omega
 (repeat' (first | with_reducible refine And.intro ?_ ?_ | with_reducible refine and_imp.2 ?_ | intro))
 all_goals (first | (first | with_reducible rfl | with_reducible assumption | omega | (refine aq ?_ ?_ <;> omega)) | ((simp only [aK,hi]; simp_all) <;> (intros; omega)) | (simp only [aK,hi]; grind))
theorem EY (i:Int) (v:Int) (nx:Int) (kp:Int) (qt:Int) (se:List Sess) (op:List Opn) (sn:List Snap) (r0:Reply) (r1:Int) (r2:Int) (r3:Int) (r4:Int) (r5:List Sess) (r6:List Opn) (r7:List Snap):oq aF iC [] Tryz.f57 [.c (.int (i)),.c (.ptr 0 0)] [.box 26 ([.int (v),.int (nx),.int (kp),.int (qt),.own 1,.own 2,.own 3]),.row 44 (.nm .sess) (se),.row 77 (.nm .opn) (op),.row 59 (.nm .snap) (sn)] [.agg (cellsOf (.nm .reply) r0)] [.box 26 ([.int (r1),.int (r2),.int (r3),.int (r4),.own 1,.own 2,.own 3]),.row 44 (.nm .sess) (r5),.row 77 (.nm .opn) (r6),.row 59 (.nm .snap) (r7)]=((fun (q0:den (Sh.nm NT.snap))=>I64 i->(0:Int)<=i/\i<(↑sn.length:Int)/\(I64 q0.id->I64 q0.set->q0.chunks.length*(8:Nat)<=(140737488355328:Nat)->q0.tag.b.length<=(140737488355328:Nat)->(0:Int)=r0.code/\(↑q0.chunks.length:Int)=r0.n/\v=r1/\nx=r2/\kp=r3/\qt=r4/\se=r5/\op=r6/\sn=r7)) (sn.getD i.toNat (dflt (Sh.nm NT.snap)))):=by kernel_rfl
theorem EZ (i:Int) (v:Int) (nx:Int) (kp:Int) (qt:Int) (se:List Sess) (op:List Opn) (sn:List Snap) (h0:0<=i/\i<(sn.length:Int)):Sat Tryz.prog (au aF) 57 [.c (.int (i)),.c (.ptr 0 0)] [.box 26 ([.int (v),.int (nx),.int (kp),.int (qt),.own 1,.own 2,.own 3]),.row 44 (.nm .sess) (se),.row 77 (.nm .opn) (op),.row 59 (.nm .snap) (sn)] ⟨[0<=i/\i<(sn.length:Int)],[.agg (cellsOf (.nm .reply) ((bj (State.mk v nx kp qt se op sn) i.toNat).2))],some ([.box 26 ([.int ((((bj (State.mk v nx kp qt se op sn) i.toNat).1).version)),.int ((((bj (State.mk v nx kp qt se op sn) i.toNat).1).next)),.int ((((bj (State.mk v nx kp qt se op sn) i.toNat).1).keep)),.int ((((bj (State.mk v nx kp qt se op sn) i.toNat).1).quota)),.own 1,.own 2,.own 3]),.row 44 (.nm .sess) ((((bj (State.mk v nx kp qt se op sn) i.toNat).1).sess)),.row 77 (.nm .opn) ((((bj (State.mk v nx kp qt se op sn) i.toNat).1).opens)),.row 59 (.nm .snap) ((((bj (State.mk v nx kp qt se op sn) i.toNat).1).snaps))]),false⟩:=by
 refine dz dN [] Tryz.func57 (by decide) (by kernel_rfl) ?_
 rw [EY]
 (repeat' (first | with_reducible refine And.intro ?_ ?_ | with_reducible refine and_imp.2 ?_ | intro))
 all_goals (first | (first | with_reducible rfl | with_reducible assumption | omega | (refine aq ?_ ?_ <;> omega)) | rfl)
theorem BQ (i:Int) (c:Command) (v:Int) (nx:Int) (kp:Int) (qt:Int) (se:List Sess) (op:List Opn) (sn:List Snap) (r0:Reply) (r1:Command) (r2:Int) (r3:Int) (r4:Int) (r5:Int) (r6:List Sess) (r7:List Opn) (r8:List Snap):oq aF iC [] Tryz.f58 [.c (.int (i)),.c (.ptr 0 0),.c (.ptr 1 0)] [.box 29 (cellsOf (.nm .command) (c)),.box 26 ([.int (v),.int (nx),.int (kp),.int (qt),.own 2,.own 3,.own 4]),.row 44 (.nm .sess) (se),.row 77 (.nm .opn) (op),.row 59 (.nm .snap) (sn)] [.agg (cellsOf (.nm .reply) r0)] [.box 29 (cellsOf (.nm .command) (r1)),.box 26 ([.int (r2),.int (r3),.int (r4),.int (r5),.own 2,.own 3,.own 4]),.row 44 (.nm .sess) (r6),.row 77 (.nm .opn) (r7),.row 59 (.nm .snap) (r8)]=((fun (q0:den (Sh.nm NT.snap))=>I64 i->(0:Int)<=i/\i<(↑sn.length:Int)/\(I64 q0.id->I64 q0.set->q0.chunks.length*(8:Nat)<=(140737488355328:Nat)->q0.tag.b.length<=(140737488355328:Nat)->(0:Int)=r0.code/\(0:Int)=r0.n/\c.kind=r1.kind/\c.client=r1.client/\c.seq=r1.seq/\c.set=r1.set/\c.id=r1.id/\c.n=r1.n/\c.chunks=r1.chunks/\c.text=r1.text/\v=r2/\nx=r3/\kp=r4/\qt=r5/\se=r6/\op=r7/\sn.set i.toNat (Snap.mk q0.id q0.set q0.chunks q0.held c.text)=r8)) (sn.getD i.toNat (dflt (Sh.nm NT.snap)))):=by kernel_rfl
theorem DA (i:Int) (c:Command) (v:Int) (nx:Int) (kp:Int) (qt:Int) (se:List Sess) (op:List Opn) (sn:List Snap) (h0:0<=i/\i<(sn.length:Int)):Sat Tryz.prog (au aF) 58 [.c (.int (i)),.c (.ptr 0 0),.c (.ptr 1 0)] [.box 29 (cellsOf (.nm .command) (c)),.box 26 ([.int (v),.int (nx),.int (kp),.int (qt),.own 2,.own 3,.own 4]),.row 44 (.nm .sess) (se),.row 77 (.nm .opn) (op),.row 59 (.nm .snap) (sn)] ⟨[0<=i/\i<(sn.length:Int)],[.agg (cellsOf (.nm .reply) ((cF c (State.mk v nx kp qt se op sn) i.toNat).2))],some ([.box 29 (cellsOf (.nm .command) ((c))),.box 26 ([.int ((((cF c (State.mk v nx kp qt se op sn) i.toNat).1).version)),.int ((((cF c (State.mk v nx kp qt se op sn) i.toNat).1).next)),.int ((((cF c (State.mk v nx kp qt se op sn) i.toNat).1).keep)),.int ((((cF c (State.mk v nx kp qt se op sn) i.toNat).1).quota)),.own 2,.own 3,.own 4]),.row 44 (.nm .sess) ((((cF c (State.mk v nx kp qt se op sn) i.toNat).1).sess)),.row 77 (.nm .opn) ((((cF c (State.mk v nx kp qt se op sn) i.toNat).1).opens)),.row 59 (.nm .snap) ((((cF c (State.mk v nx kp qt se op sn) i.toNat).1).snaps))]),false⟩:=by
 refine dz dN [] Tryz.func58 (by decide) (by kernel_rfl) ?_
 rw [BQ]
 (repeat' (first | with_reducible refine And.intro ?_ ?_ | with_reducible refine and_imp.2 ?_ | intro))
 all_goals (first | (first | with_reducible rfl | with_reducible assumption | omega | (refine aq ?_ ?_ <;> omega)) | exact rfl)
theorem BD (i:Int) (v:Int) (nx:Int) (kp:Int) (qt:Int) (se:List Sess) (op:List Opn) (sn:List Snap) (b:Bool) (r0:Reply) (r1:Int) (r2:Int) (r3:Int) (r4:Int) (r5:List Sess) (r6:List Opn) (r7:List Snap) (r8:Bool):oq aF iC [] Tryz.f45 [.c (.int (i)),.c (.ptr 0 0),.c (.ptr 4 0)] [.box 26 ([.int (v),.int (nx),.int (kp),.int (qt),.own 1,.own 2,.own 3]),.row 44 (.nm .sess) (se),.row 77 (.nm .opn) (op),.row 59 (.nm .snap) (sn),.box 4 ([.bool (.atom (b))])] [.agg (cellsOf (.nm .reply) r0)] [.box 26 ([.int (r1),.int (r2),.int (r3),.int (r4),.own 1,.own 2,.own 3]),.row 44 (.nm .sess) (r5),.row 77 (.nm .opn) (r6),.row 59 (.nm .snap) (r7),.box 4 ([.bool (.atom (r8))])]=((fun (q0:den (Sh.nm NT.snap))=>I64 i->(0:Int)<=i/\i<(↑sn.length:Int)/\(I64 q0.id->I64 q0.set->q0.chunks.length*(8:Nat)<=(140737488355328:Nat)->q0.tag.b.length<=(140737488355328:Nat)->((q0.held == b)=true->(0:Int)=r0.code/\(0:Int)=r0.n/\v=r1/\nx=r2/\kp=r3/\qt=r4/\se=r5/\op=r6/\sn=r7/\b=r8)/\((q0.held == b)=false->(0:Int)=r0.code/\(1:Int)=r0.n/\v=r1/\nx=r2/\kp=r3/\qt=r4/\se=r5/\op=r6/\sn.set i.toNat (Snap.mk q0.id q0.set q0.chunks b q0.tag)=r7/\b=r8))) (sn.getD i.toNat (dflt (Sh.nm NT.snap)))):=by kernel_rfl
theorem zi (i:Int) (v:Int) (nx:Int) (kp:Int) (qt:Int) (se:List Sess) (op:List Opn) (sn:List Snap) (b:Bool) (h0:0<=i/\i<(sn.length:Int)):Sat Tryz.prog (au aF) 45 [.c (.int (i)),.c (.ptr 0 0),.c (.ptr 4 0)] [.box 26 ([.int (v),.int (nx),.int (kp),.int (qt),.own 1,.own 2,.own 3]),.row 44 (.nm .sess) (se),.row 77 (.nm .opn) (op),.row 59 (.nm .snap) (sn),.box 4 ([.bool (.atom (b))])] ⟨[0<=i/\i<(sn.length:Int)],[.agg (cellsOf (.nm .reply) ((bq b (State.mk v nx kp qt se op sn) i.toNat).2))],some ([.box 26 ([.int ((((bq b (State.mk v nx kp qt se op sn) i.toNat).1).version)),.int ((((bq b (State.mk v nx kp qt se op sn) i.toNat).1).next)),.int ((((bq b (State.mk v nx kp qt se op sn) i.toNat).1).keep)),.int ((((bq b (State.mk v nx kp qt se op sn) i.toNat).1).quota)),.own 1,.own 2,.own 3]),.row 44 (.nm .sess) ((((bq b (State.mk v nx kp qt se op sn) i.toNat).1).sess)),.row 77 (.nm .opn) ((((bq b (State.mk v nx kp qt se op sn) i.toNat).1).opens)),.row 59 (.nm .snap) ((((bq b (State.mk v nx kp qt se op sn) i.toNat).1).snaps)),.box 4 ([.bool (.atom ((b)))])]),false⟩:=by
 refine dz dN [] Tryz.func45 (by decide) (by kernel_rfl) ?_
 rw [BD]
 (repeat' (first | with_reducible refine And.intro ?_ ?_ | with_reducible refine and_imp.2 ?_ | intro))
 all_goals (first | (first | with_reducible rfl | with_reducible assumption | omega | (refine aq ?_ ?_ <;> omega)) | ((simp only [bq]; simp_all) <;> (intros; omega)) | (simp only [bq]; grind))
def oF:cC:=(bR 45 (bJ (ah (kC cI) (ah (kC (bU 0 0)) (ah (kC (bU 4 0)) aO))) (aA (bT 26 (ak cI (ak cI (ak cI (ak cI (ak (bd 1) (ak (bd 2) (ak (bd 3) bP)))))))) (aA (bf 44 (.nm .sess)) (aA (bf 77 (.nm .opn)) (aA (bf 59 (.nm .snap)) (aA (bT 4 (ak cB bP)) aP))))) fun (i,_,_,_) ((v,nx,kp,qt,_,_,_,_),se,op,sn,(b,_),_)=>⟨[0<=i/\i<(sn.length:Int)],[.agg (cellsOf (.nm .reply) ((bq b (State.mk v nx kp qt se op sn) i.toNat).2))],some ([.box 26 ([.int ((((bq b (State.mk v nx kp qt se op sn) i.toNat).1).version)),.int ((((bq b (State.mk v nx kp qt se op sn) i.toNat).1).next)),.int ((((bq b (State.mk v nx kp qt se op sn) i.toNat).1).keep)),.int ((((bq b (State.mk v nx kp qt se op sn) i.toNat).1).quota)),.own 1,.own 2,.own 3]),.row 44 (.nm .sess) ((((bq b (State.mk v nx kp qt se op sn) i.toNat).1).sess)),.row 77 (.nm .opn) ((((bq b (State.mk v nx kp qt se op sn) i.toNat).1).opens)),.row 59 (.nm .snap) ((((bq b (State.mk v nx kp qt se op sn) i.toNat).1).snaps)),.box 4 ([.bool (.atom ((b)))])]),false⟩) (bR 58 (bJ (ah (kC cI) (ah (kC (bU 0 0)) (ah (kC (bU 1 0)) aO))) (aA (bT 29 (qq (.nm .command) bP)) (aA (bT 26 (ak cI (ak cI (ak cI (ak cI (ak (bd 2) (ak (bd 3) (ak (bd 4) bP)))))))) (aA (bf 44 (.nm .sess)) (aA (bf 77 (.nm .opn)) (aA (bf 59 (.nm .snap)) aP))))) fun (i,_,_,_) ((c,_),(v,nx,kp,qt,_,_,_,_),se,op,sn,_)=>⟨[0<=i/\i<(sn.length:Int)],[.agg (cellsOf (.nm .reply) ((cF c (State.mk v nx kp qt se op sn) i.toNat).2))],some ([.box 29 (cellsOf (.nm .command) ((c))),.box 26 ([.int ((((cF c (State.mk v nx kp qt se op sn) i.toNat).1).version)),.int ((((cF c (State.mk v nx kp qt se op sn) i.toNat).1).next)),.int ((((cF c (State.mk v nx kp qt se op sn) i.toNat).1).keep)),.int ((((cF c (State.mk v nx kp qt se op sn) i.toNat).1).quota)),.own 2,.own 3,.own 4]),.row 44 (.nm .sess) ((((cF c (State.mk v nx kp qt se op sn) i.toNat).1).sess)),.row 77 (.nm .opn) ((((cF c (State.mk v nx kp qt se op sn) i.toNat).1).opens)),.row 59 (.nm .snap) ((((cF c (State.mk v nx kp qt se op sn) i.toNat).1).snaps))]),false⟩) (bR 57 (bJ (ah (kC cI) (ah (kC (bU 0 0)) aO)) (aA (bT 26 (ak cI (ak cI (ak cI (ak cI (ak (bd 1) (ak (bd 2) (ak (bd 3) bP)))))))) (aA (bf 44 (.nm .sess)) (aA (bf 77 (.nm .opn)) (aA (bf 59 (.nm .snap)) aP)))) fun (i,_,_) ((v,nx,kp,qt,_,_,_,_),se,op,sn,_)=>⟨[0<=i/\i<(sn.length:Int)],[.agg (cellsOf (.nm .reply) ((bj (State.mk v nx kp qt se op sn) i.toNat).2))],some ([.box 26 ([.int ((((bj (State.mk v nx kp qt se op sn) i.toNat).1).version)),.int ((((bj (State.mk v nx kp qt se op sn) i.toNat).1).next)),.int ((((bj (State.mk v nx kp qt se op sn) i.toNat).1).keep)),.int ((((bj (State.mk v nx kp qt se op sn) i.toNat).1).quota)),.own 1,.own 2,.own 3]),.row 44 (.nm .sess) ((((bj (State.mk v nx kp qt se op sn) i.toNat).1).sess)),.row 77 (.nm .opn) ((((bj (State.mk v nx kp qt se op sn) i.toNat).1).opens)),.row 59 (.nm .snap) ((((bj (State.mk v nx kp qt se op sn) i.toNat).1).snaps))]),false⟩) (bR 56 (bJ (ah (kC (bU 0 0)) (ah (kC cI) aO)) (aA (bT 26 (ak cI (ak cI (ak cI (ak cI (ak (bd 1) (ak (bd 2) (ak (bd 3) bP)))))))) (aA (bf 44 (.nm .sess)) (aA (bf 77 (.nm .opn)) (aA (bf 59 (.nm .snap)) aP)))) fun (_,i,_) ((v,nx,kp,qt,_,_,_,_),se,op,sn,_)=>⟨[0<=i/\i<(sn.length:Int),nch sn<=1048576],[.agg (cellsOf (.nm .reply) ((aK (State.mk v nx kp qt se op sn) i.toNat).2))],some ([.box 26 ([.int ((((aK (State.mk v nx kp qt se op sn) i.toNat).1).version)),.int ((((aK (State.mk v nx kp qt se op sn) i.toNat).1).next)),.int ((((aK (State.mk v nx kp qt se op sn) i.toNat).1).keep)),.int ((((aK (State.mk v nx kp qt se op sn) i.toNat).1).quota)),.own 1,.own 2,.own 3]),.row 44 (.nm .sess) ((((aK (State.mk v nx kp qt se op sn) i.toNat).1).sess)),.row 77 (.nm .opn) ((((aK (State.mk v nx kp qt se op sn) i.toNat).1).opens)),.row 59 (.nm .snap) ((((aK (State.mk v nx kp qt se op sn) i.toNat).1).snaps))]),false⟩) (bR 53 (bJ (ah (kC (bU 0 0)) (ah (kC (bU 1 0)) aO)) (aA (bT 29 (qq (.nm .command) bP)) (aA (bT 26 (ak cI (ak cI (ak cI (ak cI (ak (bd 2) (ak (bd 3) (ak (bd 4) bP)))))))) (aA (bf 44 (.nm .sess)) (aA (bf 77 (.nm .opn)) (aA (bf 59 (.nm .snap)) aP))))) fun (_,_,_) ((c,_),(v,nx,kp,qt,_,_,_,_),se,op,sn,_)=>⟨[nch sn<=1048576],[.agg (cellsOf (.nm .reply) ((cn c (State.mk v nx kp qt se op sn)).2))],some ([.box 29 (cellsOf (.nm .command) ((c))),.box 26 ([.int ((((cn c (State.mk v nx kp qt se op sn)).1).version)),.int ((((cn c (State.mk v nx kp qt se op sn)).1).next)),.int ((((cn c (State.mk v nx kp qt se op sn)).1).keep)),.int ((((cn c (State.mk v nx kp qt se op sn)).1).quota)),.own 2,.own 3,.own 4]),.row 44 (.nm .sess) ((((cn c (State.mk v nx kp qt se op sn)).1).sess)),.row 77 (.nm .opn) ((((cn c (State.mk v nx kp qt se op sn)).1).opens)),.row 59 (.nm .snap) ((((cn c (State.mk v nx kp qt se op sn)).1).snaps))]),false⟩) (bR 52 (bJ (ah (kC (bU 0 0)) (ah (kC (bU 1 0)) aO)) (aA (bT 29 (qq (.nm .command) bP)) (aA (bT 26 (ak cI (ak cI (ak cI (ak cI (ak (bd 2) (ak (bd 3) (ak (bd 4) bP)))))))) (aA (bf 44 (.nm .sess)) (aA (bf 77 (.nm .opn)) (aA (bf 59 (.nm .snap)) aP))))) fun (_,_,_) ((c,_),(v,nx,kp,qt,_,_,_,_),se,op,sn,_)=>⟨[],[.agg (cellsOf (.nm .reply) ((df c (State.mk v nx kp qt se op sn)).2))],some ([.box 29 (cellsOf (.nm .command) ((c))),.box 26 ([.int ((((df c (State.mk v nx kp qt se op sn)).1).version)),.int ((((df c (State.mk v nx kp qt se op sn)).1).next)),.int ((((df c (State.mk v nx kp qt se op sn)).1).keep)),.int ((((df c (State.mk v nx kp qt se op sn)).1).quota)),.own 2,.own 3,.own 4]),.row 44 (.nm .sess) ((((df c (State.mk v nx kp qt se op sn)).1).sess)),.row 77 (.nm .opn) ((((df c (State.mk v nx kp qt se op sn)).1).opens)),.row 59 (.nm .snap) ((((df c (State.mk v nx kp qt se op sn)).1).snaps))]),false⟩) (bR 93 (bJ (ah (kC (bU 0 0)) (ah (kT (.nm .command)) aO)) (aA (bT 26 (ak cI (ak cI (ak cI (ak cI (ak (bd 1) (ak (bd 2) (ak (bd 3) bP)))))))) (aA (bf 44 (.nm .sess)) (aA (bf 77 (.nm .opn)) (aA (bf 59 (.nm .snap)) aP)))) fun (_,c,_) ((v,nx,kp,qt,_,_,_,_),se,op,sn,_)=>⟨[],[.c (.int ((bp (State.mk v nx kp qt se op sn) c)))],none,false⟩) (bR 95 (bJ (ah (kC (bd 0)) (ah (kC cI) (ah (kC cI) aO))) (aA (bf 77 (.nm .opn)) aP) fun (_,i,j,_) (l,_)=>⟨[0<=i/\i<(l.length:Int)/\j=i+1],[.c (.own 0)],some ([.row 77 (.nm .opn) ((l.take i.toNat++l.drop j.toNat))]),false⟩) (bR 36 (bJ (ah (kC (bd 0)) (ah (kC cI) (ah (kC (bd 1)) aO))) (aA (bf 44 (.nm .sess)) (aA (bf 44 (.nm .sess)) aP)) fun (_,i,_,_) (l,m,_)=>⟨[0<=i/\i<=(l.length:Int),l.length<1048576,m.length=1],[.c (.own 0)],some ([.row 44 (.nm .sess) ((l.take i.toNat++m++l.drop i.toNat)),.row 44 (.nm .sess) ((m))]),false⟩) (bR 92 (bJ (ah (kC (bd 0)) (ah (kC cI) (ah (kC (cL (.nm .opn))) aO))) (aA (bf 77 (.nm .opn)) aP) fun (_,i,m,_) (l,_)=>⟨[0<=i/\i<=(l.length:Int),l.length<1048576,m.length=1],[.c (.own 0)],some ([.row 77 (.nm .opn) ((l.take i.toNat++m++l.drop i.toNat))]),false⟩) iC))))))))))
theorem gf:aX Tryz.prog (au aF) oF:=(az (ay (ab (av aw) (ab (av aJ) (ab (av aJ) al))) (ag (aH (ae aw (ae aw (ae aw (ae aw (ae aB (ae aB (ae aB aG)))))))) (ag aC (ag aC (ag aC (ag (aH (ae ox aG)) ao))))) fun (i,_,_,_) ((v,nx,kp,qt,_,_,_,_),se,op,sn,(b,_),_) hp=>zi i v nx kp qt se op sn b (eP hp)) (az (ay (ab (av aw) (ab (av aJ) (ab (av aJ) al))) (ag (aH (cX aG)) (ag (aH (ae aw (ae aw (ae aw (ae aw (ae aB (ae aB (ae aB aG)))))))) (ag aC (ag aC (ag aC ao))))) fun (i,_,_,_) ((c,_),(v,nx,kp,qt,_,_,_,_),se,op,sn,_) hp=>DA i c v nx kp qt se op sn (eP hp)) (az (ay (ab (av aw) (ab (av aJ) al)) (ag (aH (ae aw (ae aw (ae aw (ae aw (ae aB (ae aB (ae aB aG)))))))) (ag aC (ag aC (ag aC ao)))) fun (i,_,_) ((v,nx,kp,qt,_,_,_,_),se,op,sn,_) hp=>EZ i v nx kp qt se op sn (eP hp)) (az (ay (ab (av aJ) (ab (av aw) al)) (ag (aH (ae aw (ae aw (ae aw (ae aw (ae aB (ae aB (ae aB aG)))))))) (ag aC (ag aC (ag aC ao)))) fun (_,i,_) ((v,nx,kp,qt,_,_,_,_),se,op,sn,_) hp=>CR i v nx kp qt se op sn (eP hp) (eP (nQ hp))) (az (ay (ab (av aJ) (ab (av aJ) al)) (ag (aH (cX aG)) (ag (aH (ae aw (ae aw (ae aw (ae aw (ae aB (ae aB (ae aB aG)))))))) (ag aC (ag aC (ag aC ao))))) fun (_,_,_) ((c,_),(v,nx,kp,qt,_,_,_,_),se,op,sn,_) hp=>Fu c v nx kp qt se op sn (eP hp)) (az (ay (ab (av aJ) (ab (av aJ) al)) (ag (aH (cX aG)) (ag (aH (ae aw (ae aw (ae aw (ae aw (ae aB (ae aB (ae aB aG)))))))) (ag aC (ag aC (ag aC ao))))) fun (_,_,_) ((c,_),(v,nx,kp,qt,_,_,_,_),se,op,sn,_) _=>FG c v nx kp qt se op sn ) (az (ay (ab (av aJ) (ab bK al)) (ag (aH (ae aw (ae aw (ae aw (ae aw (ae aB (ae aB (ae aB aG)))))))) (ag aC (ag aC (ag aC ao)))) fun (_,c,_) ((v,nx,kp,qt,_,_,_,_),se,op,sn,_) _=>xu c v nx kp qt se op sn ) (az (ay (ab (av aB) (ab (av aw) (ab (av aw) al))) (ag aC ao) fun (_,i,j,_) (l,_) hp=>wC i j l (eP hp)) (az (ay (ab (av aB) (ab (av aw) (ab (av aB) al))) (ag aC (ag aC ao)) fun (_,i,_,_) (l,m,_) hp=>tG i l m (eP hp) (eP (nQ hp)) (eP (nQ (nQ hp)))) (az (ay (ab (av aB) (ab (av aw) (ab (av bO) al))) (ag aC ao) fun (_,i,m,_) (l,_) hp=>xg i m l (eP hp) (eP (nQ hp)) (eP (nQ (nQ hp)))) dN))))))))))
end Go.Proofs.YtdggohppeeaipaaGreat
namespace Go.Proofs.YtdggohppeeaipaaGreat
open Go.RowKit
theorem yK {α:Type} {p:α->Bool} {l:List α} {k:Nat} (h:(l.take k).all p=true) (hk:k<=l.length) (h2:(l.length:Int)<=k\/(k:Int)<l.length/\∃ x,l[k]? = some x/\p x=false):k=(l.takeWhile p).length:=by
 induction l generalizing k with
 | nil=>simp at hk; simp [hk]
 | cons a l ih=>
  cases k with
  | zero=>
   rcases h2 with h2 | ⟨_,x,hx,hp⟩
   ·simp at h2; omega
   ·simp at hx; subst hx; simp [hp]
  | succ k=>
   simp only [List.take_succ_cons,List.all_cons,Bool.and_eq_true] at h
   rw [List.takeWhile_cons,h.1,if_pos rfl,List.length_cons]
   congr 1
   refine ih h.2 (by simpa using hk) ?_
   rcases h2 with h2 | ⟨h3,x,hx,hp⟩
   ·left; simp at h2; omega
   ·right; refine ⟨by simp at h3; omega,x,by simpa using hx,hp⟩
theorem yc {v nx kp qt:Int} {se:List Sess} {op:List Opn} {sn:List Snap} {c:Command} {s:Nat} (h:ai Opn.set c.set op<0) (hs:s<=op.length) (ha:(op.take s).all (fun y=>decide (y.set<c.set))=true) (hb:(op.length:Int)<=s\/c.set<=(op.getD s (dflt (.nm .opn))).set):op.take s++[Opn.mk c.set c.client]++op.drop s=(aW (State.mk v nx kp qt se op sn) c).1.opens:=by
 have h1:¬ 0<=ai Opn.set c.set op:=by omega
 simp only [aW,if_neg h1]
 have:s=(op.takeWhile fun y=>decide (y.set<c.set)).length:=by
  refine yK ha hs ?_
  by_cases hl:(op.length:Int)<=s
  ·exact .inl hl
  ·refine .inr ⟨by omega,_,gd (d:=dflt (.nm .opn)) (by omega),?_⟩
   rcases hb with hb | hb
   ·omega
   ·exact decide_eq_false (by omega)
 rw [<- this]; simp [fG]
theorem xX {op:List Opn} {c:Command} {s:Nat} (ha:(op.take s).all (fun y=>decide (y.set<c.set))=true) (h:(s:Int)<op.length) (hb:(op.getD s (dflt (.nm .opn))).set<c.set):(op.take (s+1)).all (fun y=>decide (y.set<c.set))=true:=by
 rw [aD (gd (d:=dflt (.nm .opn)) h),List.all_append,ha]; simp only [List.all_cons,List.all_nil,decide_eq_true hb]; rfl
section
variable {v nx kp qt:Int} {se:List Sess} {op:List Opn} {sn:List Snap} {c:Command}
theorem Jw (h:ai Opn.set c.set op<0):aW (State.mk v nx kp qt se op sn) c=(State.mk v nx kp qt se (fG op (op.takeWhile fun y=>decide (y.set<c.set)).length ⟨c.set,c.client⟩) sn,⟨0,0⟩):=by
 have h1:¬ 0<=ai Opn.set c.set op:=by omega
 simp only [aW,if_neg h1]
theorem Jb (h:0<=ai Opn.set c.set op):aW (State.mk v nx kp qt se op sn) c=(State.mk v nx kp qt se op sn,⟨16,(op.getD (ai Opn.set c.set op).toNat (dflt (.nm .opn))).client⟩):=by
 simp only [aW,if_pos h]
theorem Kf (h:bp (State.mk v nx kp qt se op sn) c<0):a_ (State.mk v nx kp qt se op sn) c=(State.mk v nx kp qt se op sn,⟨15,0⟩):=by
 simp only [a_,if_pos h]
theorem Kd (h:0<=bp (State.mk v nx kp qt se op sn) c):a_ (State.mk v nx kp qt se op sn) c=(State.mk v nx kp qt se (op.take (bp (State.mk v nx kp qt se op sn) c).toNat++op.drop (bp (State.mk v nx kp qt se op sn) c+1).toNat) sn,⟨0,0⟩):=by
 have h1:¬ bp (State.mk v nx kp qt se op sn) c<0:=by omega
 simp only [a_,if_neg h1,xp]
end
def vR (c:Command) (v:Int) (nx:Int) (kp:Int) (qt:Int) (se:List Sess) (op:List Opn) (sn:List Snap):List (Nat × LI):=[(5,{ σ:=Nat,F:=fun k=>([(0,one (.ptr 0 0)),(3,one (.ptr 4 0)),(4,one (.ptr 5 0)),(6,one (.int k))],[.box 26 ([.int ((v)),.int ((nx)),.int ((kp)),.int ((qt)),.own 1,.own 2,.own 3]),.row 44 (.nm .sess) ((se)),.row 77 (.nm .opn) ((op)),.row 59 (.nm .snap) ((sn)),.box 29 (cellsOf (.nm .command) ((c))),.box 35 ([.int ((0)),.int ((0))])]),J:=fun k=>k<=op.length/\(op.take k).all (fun y=>decide (y.set<c.set))=true,μ:=fun k=>op.length - k })]
theorem yZ (c:Command) (v:Int) (nx:Int) (kp:Int) (qt:Int) (se:List Sess) (op:List Opn) (sn:List Snap) (r0:Reply) (r1:Int) (r2:Int) (r3:Int) (r4:Int) (r5:List Sess) (r6:List Opn) (r7:List Snap):oq aF oF (vR c v nx kp qt se op sn) Tryz.f47 [.c (.ptr 0 0),.agg (cellsOf (.nm .command) c)] [.box 26 ([.int (v),.int (nx),.int (kp),.int (qt),.own 1,.own 2,.own 3]),.row 44 (.nm .sess) (se),.row 77 (.nm .opn) (op),.row 59 (.nm .snap) (sn)] [.agg (cellsOf (.nm .reply) r0)] [.box 26 ([.int (r1),.int (r2),.int (r3),.int (r4),.own 1,.own 2,.own 3]),.row 44 (.nm .sess) (r5),.row 77 (.nm .opn) (r6),.row 59 (.nm .snap) (r7)]=((fun (q5:Int)=>(fun (q4:den (Sh.nm NT.opn))=>(fun (q3:Int)=>(fun (q2:Int)=>(fun (q1:Int)=>(fun (q0:Prop)=>I64 c.kind->I64 c.client->I64 c.seq->I64 q5->I64 c.id->I64 c.n->c.chunks.length*(8:Nat)<=(140737488355328:Nat)->c.text.b.length<=(140737488355328:Nat)->I64 q1->(q2<=q1->q2<=q1/\q1<q3/\(I64 (op.getD q1.toNat q4).set->I64 (op.getD q1.toNat q4).client->(16:Int)=r0.code/\(op.getD q1.toNat q4).client=r0.n/\v=r1/\nx=r2/\kp=r3/\qt=r4/\se=r5/\op=r6/\sn=r7))/\(q1<q2->∃ (s0:Nat),(q2=(↑s0:Int)/\q0)/\(s0<=op.length/\((List.take s0 op).all fun (y:Opn)=>decide (y.set<q5))=true)/\∀ (s:Nat),(fun (q7:Int)=>(fun (q6:Int)=>s<=op.length/\((List.take s op).all fun (y:Opn)=>decide (y.set<q5))=true->(q6<q3->q2<=q6/\q6<q3)/\((q6<q3->I64 q7/\I64 (op.getD s q4).client)->(q6<q3/\q7<q5->I64 (q6+(1:Int))/\∃ (s':Nat),(q6+(1:Int)=(↑s':Int)/\q0)/\(s' <= op.length/\((List.take s' op).all fun (y:Opn)=>decide (y.set<q5))=true)/\op.length - s' < op.length - s)/\(q3<=q6\/q5<=q7->((q2<=q6/\q6<=q3)/\op.length<(1048576:Nat)/\[Opn.mk q5 c.client].length=(1:Nat))/\q2=r0.code/\q2=r0.n/\v=r1/\nx=r2/\kp=r3/\qt=r4/\se=r5/\List.take s op++[Opn.mk q5 c.client]++List.drop s op=r6/\sn=r7))) (↑s:Int)) (op.getD s q4).set)) (v=v/\nx=nx/\kp=kp/\qt=qt/\se=se/\op=op/\sn=sn/\c.kind=c.kind/\c.client=c.client/\c.seq=c.seq/\q5=q5/\c.id=c.id/\c.n=c.n/\c.chunks=c.chunks/\c.text=c.text/\q2=q2/\q2=q2)) (ai Opn.set q5 op)) (0:Int)) (↑op.length:Int)) (dflt (Sh.nm NT.opn))) c.set):=by kernel_rfl
theorem xZ (c:Command) (v:Int) (nx:Int) (kp:Int) (qt:Int) (se:List Sess) (op:List Opn) (sn:List Snap) (h0:op.length<1048576):Sat Tryz.prog (au aF) 47 [.c (.ptr 0 0),.agg (cellsOf (.nm .command) c)] [.box 26 ([.int (v),.int (nx),.int (kp),.int (qt),.own 1,.own 2,.own 3]),.row 44 (.nm .sess) (se),.row 77 (.nm .opn) (op),.row 59 (.nm .snap) (sn)] ⟨[op.length<1048576],[.agg (cellsOf (.nm .reply) ((aW (State.mk v nx kp qt se op sn) c).2))],some ([.box 26 ([.int ((((aW (State.mk v nx kp qt se op sn) c).1).version)),.int ((((aW (State.mk v nx kp qt se op sn) c).1).next)),.int ((((aW (State.mk v nx kp qt se op sn) c).1).keep)),.int ((((aW (State.mk v nx kp qt se op sn) c).1).quota)),.own 1,.own 2,.own 3]),.row 44 (.nm .sess) ((((aW (State.mk v nx kp qt se op sn) c).1).sess)),.row 77 (.nm .opn) ((((aW (State.mk v nx kp qt se op sn) c).1).opens)),.row 59 (.nm .snap) ((((aW (State.mk v nx kp qt se op sn) c).1).snaps))]),false⟩:=by
 refine dz gf (vR c v nx kp qt se op sn) Tryz.func47 (by decide) (by kernel_rfl) ?_
 rw [yZ]
 (repeat' (first | with_reducible refine And.intro ?_ ?_ | with_reducible refine and_imp.2 ?_ | intro))
 all_goals try (first | (first | with_reducible rfl | with_reducible assumption | omega | (refine aq ?_ ?_ <;> omega)) | exact rfl | exact bI (by with_reducible assumption) | exact (xX (by with_reducible assumption) (by with_reducible assumption) (by with_reducible assumption)) | exact (yc (by with_reducible assumption) (by omega) (by with_reducible assumption) (by assumption)) | (rw [Jw]; omega) | (rw [Jb]; omega))
 all_goals try (refine ⟨0,?_⟩; (repeat' (first | with_reducible refine And.intro ?_ ?_ | with_reducible refine and_imp.2 ?_ | intro)))
 all_goals try (first | (first | with_reducible rfl | with_reducible assumption | omega | (refine aq ?_ ?_ <;> omega)) | exact rfl | exact bI (by with_reducible assumption) | exact (xX (by with_reducible assumption) (by with_reducible assumption) (by with_reducible assumption)) | exact (yc (by with_reducible assumption) (by omega) (by with_reducible assumption) (by assumption)) | (rw [Jw]; omega) | (rw [Jb]; omega))
 all_goals try (refine ⟨‹Nat› + 1,?_⟩; (repeat' (first | with_reducible refine And.intro ?_ ?_ | with_reducible refine and_imp.2 ?_ | intro)))
 all_goals (first | (first | with_reducible rfl | with_reducible assumption | omega | (refine aq ?_ ?_ <;> omega)) | exact rfl | exact bI (by with_reducible assumption) | exact (xX (by with_reducible assumption) (by with_reducible assumption) (by with_reducible assumption)) | exact (yc (by with_reducible assumption) (by omega) (by with_reducible assumption) (by assumption)) | (rw [Jw]; omega) | (rw [Jb]; omega))
theorem BG (c:Command) (v:Int) (nx:Int) (kp:Int) (qt:Int) (se:List Sess) (op:List Opn) (sn:List Snap) (r0:Reply) (r1:Int) (r2:Int) (r3:Int) (r4:Int) (r5:List Sess) (r6:List Opn) (r7:List Snap):oq aF oF [] Tryz.f51 [.c (.ptr 0 0),.agg (cellsOf (.nm .command) c)] [.box 26 ([.int (v),.int (nx),.int (kp),.int (qt),.own 1,.own 2,.own 3]),.row 44 (.nm .sess) (se),.row 77 (.nm .opn) (op),.row 59 (.nm .snap) (sn)] [.agg (cellsOf (.nm .reply) r0)] [.box 26 ([.int (r1),.int (r2),.int (r3),.int (r4),.own 1,.own 2,.own 3]),.row 44 (.nm .sess) (r5),.row 77 (.nm .opn) (r6),.row 59 (.nm .snap) (r7)]=((fun (q1:Int)=>(fun (q0:Int)=>I64 c.kind->I64 c.client->I64 c.seq->I64 c.set->I64 c.id->I64 c.n->c.chunks.length*(8:Nat)<=(140737488355328:Nat)->c.text.b.length<=(140737488355328:Nat)->I64 q0->(q0<q1->I64 (15:Int)->I64 q1->(15:Int)=r0.code/\q1=r0.n/\v=r1/\nx=r2/\kp=r3/\qt=r4/\se=r5/\op=r6/\sn=r7)/\(q1<=q0->I64 (q0+(1:Int))/\(q1<=q0/\q0<(↑op.length:Int)/\q0+(1:Int)=q0+(1:Int))/\q1=r0.code/\q1=r0.n/\v=r1/\nx=r2/\kp=r3/\qt=r4/\se=r5/\List.take q0.toNat op++List.drop (q0+(1:Int)).toNat op=r6/\sn=r7)) (bp (State.mk v nx kp qt se op sn) c)) (0:Int)):=by kernel_rfl
theorem zr (c:Command) (v:Int) (nx:Int) (kp:Int) (qt:Int) (se:List Sess) (op:List Opn) (sn:List Snap) (h0:op.length<1048576):Sat Tryz.prog (au aF) 51 [.c (.ptr 0 0),.agg (cellsOf (.nm .command) c)] [.box 26 ([.int (v),.int (nx),.int (kp),.int (qt),.own 1,.own 2,.own 3]),.row 44 (.nm .sess) (se),.row 77 (.nm .opn) (op),.row 59 (.nm .snap) (sn)] ⟨[op.length<1048576],[.agg (cellsOf (.nm .reply) ((a_ (State.mk v nx kp qt se op sn) c).2))],some ([.box 26 ([.int ((((a_ (State.mk v nx kp qt se op sn) c).1).version)),.int ((((a_ (State.mk v nx kp qt se op sn) c).1).next)),.int ((((a_ (State.mk v nx kp qt se op sn) c).1).keep)),.int ((((a_ (State.mk v nx kp qt se op sn) c).1).quota)),.own 1,.own 2,.own 3]),.row 44 (.nm .sess) ((((a_ (State.mk v nx kp qt se op sn) c).1).sess)),.row 77 (.nm .opn) ((((a_ (State.mk v nx kp qt se op sn) c).1).opens)),.row 59 (.nm .snap) ((((a_ (State.mk v nx kp qt se op sn) c).1).snaps))]),false⟩:=by
 refine dz gf [] Tryz.func51 (by decide) (by kernel_rfl) ?_
 rw [BG]
 have hl:0<=bp (State.mk v nx kp qt se op sn) c->bp (State.mk v nx kp qt se op sn) c+1<=(op.length:Int):=fun h=>AM h
 (repeat' (first | with_reducible refine And.intro ?_ ?_ | with_reducible refine and_imp.2 ?_ | intro))
 all_goals (first | (first | with_reducible rfl | with_reducible assumption | omega | (refine aq ?_ ?_ <;> omega)) | (rw [Kd]; omega) | (rw [Kf]; omega))
theorem we (c:Command) (v:Int) (nx:Int) (kp:Int) (qt:Int) (se:List Sess) (op:List Opn) (sn:List Snap) (r0:Reply) (r1:Int) (r2:Int) (r3:Int) (r4:Int) (r5:List Sess) (r6:List Opn) (r7:List Snap):oq aF oF [] Tryz.f49 [.c (.ptr 0 0),.agg (cellsOf (.nm .command) c)] [.box 26 ([.int (v),.int (nx),.int (kp),.int (qt),.own 1,.own 2,.own 3]),.row 44 (.nm .sess) (se),.row 77 (.nm .opn) (op),.row 59 (.nm .snap) (sn)] [.agg (cellsOf (.nm .reply) r0)] [.box 26 ([.int (r1),.int (r2),.int (r3),.int (r4),.own 1,.own 2,.own 3]),.row 44 (.nm .sess) (r5),.row 77 (.nm .opn) (r6),.row 59 (.nm .snap) (r7)]=((fun (q6:Snap)=>(fun (q5:Int)=>(fun (q4:Prop)=>(fun (q3:Int)=>(fun (q2:Int)=>(fun (q1:Prop)=>(fun (q0:Int)=>I64 c.kind->I64 c.client->I64 c.seq->I64 c.set->I64 c.id->I64 c.n->q4->c.text.b.length<=(140737488355328:Nat)->I64 q0->(q0<q3->I64 (15:Int)->I64 q3->(15:Int)=r0.code/\q1)/\(q3<=q0->((16:Int)<=(↑sn.length:Int)\/(1048576:Int)<=nx->I64 (20:Int)->I64 q3->(20:Int)=r0.code/\q1)/\((↑sn.length:Int)<(16:Int)/\nx<(1048576:Int)->(¬qt=q3->nch sn<=(1048576:Nat))/\((¬qt=q3->I64 q2)->(¬qt=q3/\qt<q2->I64 (19:Int)->I64 q3->(19:Int)=r0.code/\q1)/\(qt=q3\/q2<=qt->q4->(sn.length+[q6].length)*(64:Nat)<=(140737488355328:Nat)/\I64 (nx+q5)/\I64 (q0+q5)/\(q3<=q0/\q0<(↑op.length:Int)/\q0+q5=q0+q5)/\q3=r0.code/\nx=r0.n/\v=r1/\nx+q5=r2/\kp=r3/\qt=r4/\se=r5/\List.take q0.toNat op++List.drop (q0+q5).toNat op=r6/\sn++[q6]=r7))))) (bp (State.mk v nx kp qt se op sn) c)) (q3=r0.n/\v=r1/\nx=r2/\kp=r3/\qt=r4/\se=r5/\op=r6/\sn=r7)) (↑(distF (sn++[Snap.mk q3 q3 c.chunks false (Str.mk [])])):Int)) (0:Int)) (c.chunks.length*(8:Nat)<=(140737488355328:Nat))) (1:Int)) (Snap.mk nx c.set c.chunks false (Str.mk []))):=by kernel_rfl
theorem xa (c:Command) (v:Int) (nx:Int) (kp:Int) (qt:Int) (se:List Sess) (op:List Opn) (sn:List Snap) (h0:nch sn<=1048576) (h1:sn.length<1048576) (h2:op.length<1048576) (h3:0<=nx):Sat Tryz.prog (au aF) 49 [.c (.ptr 0 0),.agg (cellsOf (.nm .command) c)] [.box 26 ([.int (v),.int (nx),.int (kp),.int (qt),.own 1,.own 2,.own 3]),.row 44 (.nm .sess) (se),.row 77 (.nm .opn) (op),.row 59 (.nm .snap) (sn)] ⟨[nch sn<=1048576,sn.length<1048576,op.length<1048576,0<=nx],[.agg (cellsOf (.nm .reply) ((aS (State.mk v nx kp qt se op sn) c).2))],some ([.box 26 ([.int ((((aS (State.mk v nx kp qt se op sn) c).1).version)),.int ((((aS (State.mk v nx kp qt se op sn) c).1).next)),.int ((((aS (State.mk v nx kp qt se op sn) c).1).keep)),.int ((((aS (State.mk v nx kp qt se op sn) c).1).quota)),.own 1,.own 2,.own 3]),.row 44 (.nm .sess) ((((aS (State.mk v nx kp qt se op sn) c).1).sess)),.row 77 (.nm .opn) ((((aS (State.mk v nx kp qt se op sn) c).1).opens)),.row 59 (.nm .snap) ((((aS (State.mk v nx kp qt se op sn) c).1).snaps))]),false⟩:=by
 refine dz gf [] Tryz.func49 (by decide) (by kernel_rfl) ?_
 rw [we]
 have hl:0<=bp (State.mk v nx kp qt se op sn) c->bp (State.mk v nx kp qt se op sn) c+1<=(op.length:Int):=fun h=>AM h
 (repeat' (first | with_reducible refine And.intro ?_ ?_ | with_reducible refine and_imp.2 ?_ | intro))
 all_goals (first | (first | with_reducible rfl | with_reducible assumption | omega | (refine aq ?_ ?_ <;> omega)) | (simp only [aS,xp]; grind) | (simp only [List.length_cons,List.length_nil]; omega))
theorem GB (i:Int) (v:Int) (nx:Int) (kp:Int) (qt:Int) (se:List Sess) (op:List Opn) (sn:List Snap) (r0:Reply) (r1:Int) (r2:Int) (r3:Int) (r4:Int) (r5:List Sess) (r6:List Opn) (r7:List Snap):oq aF oF [] Tryz.f55 [.c (.int (i)),.c (.ptr 0 0)] [.box 26 ([.int (v),.int (nx),.int (kp),.int (qt),.own 1,.own 2,.own 3]),.row 44 (.nm .sess) (se),.row 77 (.nm .opn) (op),.row 59 (.nm .snap) (sn)] [.agg (cellsOf (.nm .reply) r0)] [.box 26 ([.int (r1),.int (r2),.int (r3),.int (r4),.own 1,.own 2,.own 3]),.row 44 (.nm .sess) (r5),.row 77 (.nm .opn) (r6),.row 59 (.nm .snap) (r7)]=((fun (q0:State × Reply)=>I64 i->((0:Int)<=i/\i<(↑sn.length:Int))/\nch sn<=(1048576:Nat)/\(I64 q0.snd.code->I64 q0.snd.n->q0.snd.code=r0.code/\q0.snd.n=r0.n/\q0.fst.version=r1/\q0.fst.next=r2/\q0.fst.keep=r3/\q0.fst.quota=r4/\q0.fst.sess=r5/\q0.fst.opens=r6/\q0.fst.snaps=r7)) (aK (State.mk v nx kp qt se op sn) i.toNat)):=by kernel_rfl
theorem Fk (i:Int) (v:Int) (nx:Int) (kp:Int) (qt:Int) (se:List Sess) (op:List Opn) (sn:List Snap) (h0:0<=i/\i<(sn.length:Int)) (h1:nch sn<=1048576):Sat Tryz.prog (au aF) 55 [.c (.int (i)),.c (.ptr 0 0)] [.box 26 ([.int (v),.int (nx),.int (kp),.int (qt),.own 1,.own 2,.own 3]),.row 44 (.nm .sess) (se),.row 77 (.nm .opn) (op),.row 59 (.nm .snap) (sn)] ⟨[0<=i/\i<(sn.length:Int),nch sn<=1048576],[.agg (cellsOf (.nm .reply) ((aK (State.mk v nx kp qt se op sn) i.toNat).2))],some ([.box 26 ([.int ((((aK (State.mk v nx kp qt se op sn) i.toNat).1).version)),.int ((((aK (State.mk v nx kp qt se op sn) i.toNat).1).next)),.int ((((aK (State.mk v nx kp qt se op sn) i.toNat).1).keep)),.int ((((aK (State.mk v nx kp qt se op sn) i.toNat).1).quota)),.own 1,.own 2,.own 3]),.row 44 (.nm .sess) ((((aK (State.mk v nx kp qt se op sn) i.toNat).1).sess)),.row 77 (.nm .opn) ((((aK (State.mk v nx kp qt se op sn) i.toNat).1).opens)),.row 59 (.nm .snap) ((((aK (State.mk v nx kp qt se op sn) i.toNat).1).snaps))]),false⟩:=by
 refine dz gf [] Tryz.func55 (by decide) (by kernel_rfl) ?_
 rw [GB]
 (repeat' (first | with_reducible refine And.intro ?_ ?_ | with_reducible refine and_imp.2 ?_ | intro))
 all_goals (first | (first | with_reducible rfl | with_reducible assumption | omega | (refine aq ?_ ?_ <;> omega)) | exact rfl)
def iE:cC:=(bR 55 (bJ (ah (kC cI) (ah (kC (bU 0 0)) aO)) (aA (bT 26 (ak cI (ak cI (ak cI (ak cI (ak (bd 1) (ak (bd 2) (ak (bd 3) bP)))))))) (aA (bf 44 (.nm .sess)) (aA (bf 77 (.nm .opn)) (aA (bf 59 (.nm .snap)) aP)))) fun (i,_,_) ((v,nx,kp,qt,_,_,_,_),se,op,sn,_)=>⟨[0<=i/\i<(sn.length:Int),nch sn<=1048576],[.agg (cellsOf (.nm .reply) ((aK (State.mk v nx kp qt se op sn) i.toNat).2))],some ([.box 26 ([.int ((((aK (State.mk v nx kp qt se op sn) i.toNat).1).version)),.int ((((aK (State.mk v nx kp qt se op sn) i.toNat).1).next)),.int ((((aK (State.mk v nx kp qt se op sn) i.toNat).1).keep)),.int ((((aK (State.mk v nx kp qt se op sn) i.toNat).1).quota)),.own 1,.own 2,.own 3]),.row 44 (.nm .sess) ((((aK (State.mk v nx kp qt se op sn) i.toNat).1).sess)),.row 77 (.nm .opn) ((((aK (State.mk v nx kp qt se op sn) i.toNat).1).opens)),.row 59 (.nm .snap) ((((aK (State.mk v nx kp qt se op sn) i.toNat).1).snaps))]),false⟩) (bR 49 (bJ (ah (kC (bU 0 0)) (ah (kT (.nm .command)) aO)) (aA (bT 26 (ak cI (ak cI (ak cI (ak cI (ak (bd 1) (ak (bd 2) (ak (bd 3) bP)))))))) (aA (bf 44 (.nm .sess)) (aA (bf 77 (.nm .opn)) (aA (bf 59 (.nm .snap)) aP)))) fun (_,c,_) ((v,nx,kp,qt,_,_,_,_),se,op,sn,_)=>⟨[nch sn<=1048576,sn.length<1048576,op.length<1048576,0<=nx],[.agg (cellsOf (.nm .reply) ((aS (State.mk v nx kp qt se op sn) c).2))],some ([.box 26 ([.int ((((aS (State.mk v nx kp qt se op sn) c).1).version)),.int ((((aS (State.mk v nx kp qt se op sn) c).1).next)),.int ((((aS (State.mk v nx kp qt se op sn) c).1).keep)),.int ((((aS (State.mk v nx kp qt se op sn) c).1).quota)),.own 1,.own 2,.own 3]),.row 44 (.nm .sess) ((((aS (State.mk v nx kp qt se op sn) c).1).sess)),.row 77 (.nm .opn) ((((aS (State.mk v nx kp qt se op sn) c).1).opens)),.row 59 (.nm .snap) ((((aS (State.mk v nx kp qt se op sn) c).1).snaps))]),false⟩) (bR 51 (bJ (ah (kC (bU 0 0)) (ah (kT (.nm .command)) aO)) (aA (bT 26 (ak cI (ak cI (ak cI (ak cI (ak (bd 1) (ak (bd 2) (ak (bd 3) bP)))))))) (aA (bf 44 (.nm .sess)) (aA (bf 77 (.nm .opn)) (aA (bf 59 (.nm .snap)) aP)))) fun (_,c,_) ((v,nx,kp,qt,_,_,_,_),se,op,sn,_)=>⟨[op.length<1048576],[.agg (cellsOf (.nm .reply) ((a_ (State.mk v nx kp qt se op sn) c).2))],some ([.box 26 ([.int ((((a_ (State.mk v nx kp qt se op sn) c).1).version)),.int ((((a_ (State.mk v nx kp qt se op sn) c).1).next)),.int ((((a_ (State.mk v nx kp qt se op sn) c).1).keep)),.int ((((a_ (State.mk v nx kp qt se op sn) c).1).quota)),.own 1,.own 2,.own 3]),.row 44 (.nm .sess) ((((a_ (State.mk v nx kp qt se op sn) c).1).sess)),.row 77 (.nm .opn) ((((a_ (State.mk v nx kp qt se op sn) c).1).opens)),.row 59 (.nm .snap) ((((a_ (State.mk v nx kp qt se op sn) c).1).snaps))]),false⟩) (bR 47 (bJ (ah (kC (bU 0 0)) (ah (kT (.nm .command)) aO)) (aA (bT 26 (ak cI (ak cI (ak cI (ak cI (ak (bd 1) (ak (bd 2) (ak (bd 3) bP)))))))) (aA (bf 44 (.nm .sess)) (aA (bf 77 (.nm .opn)) (aA (bf 59 (.nm .snap)) aP)))) fun (_,c,_) ((v,nx,kp,qt,_,_,_,_),se,op,sn,_)=>⟨[op.length<1048576],[.agg (cellsOf (.nm .reply) ((aW (State.mk v nx kp qt se op sn) c).2))],some ([.box 26 ([.int ((((aW (State.mk v nx kp qt se op sn) c).1).version)),.int ((((aW (State.mk v nx kp qt se op sn) c).1).next)),.int ((((aW (State.mk v nx kp qt se op sn) c).1).keep)),.int ((((aW (State.mk v nx kp qt se op sn) c).1).quota)),.own 1,.own 2,.own 3]),.row 44 (.nm .sess) ((((aW (State.mk v nx kp qt se op sn) c).1).sess)),.row 77 (.nm .opn) ((((aW (State.mk v nx kp qt se op sn) c).1).opens)),.row 59 (.nm .snap) ((((aW (State.mk v nx kp qt se op sn) c).1).snaps))]),false⟩) oF))))
theorem dP:aX Tryz.prog (au aF) iE:=(az (ay (ab (av aw) (ab (av aJ) al)) (ag (aH (ae aw (ae aw (ae aw (ae aw (ae aB (ae aB (ae aB aG)))))))) (ag aC (ag aC (ag aC ao)))) fun (i,_,_) ((v,nx,kp,qt,_,_,_,_),se,op,sn,_) hp=>Fk i v nx kp qt se op sn (eP hp) (eP (nQ hp))) (az (ay (ab (av aJ) (ab bK al)) (ag (aH (ae aw (ae aw (ae aw (ae aw (ae aB (ae aB (ae aB aG)))))))) (ag aC (ag aC (ag aC ao)))) fun (_,c,_) ((v,nx,kp,qt,_,_,_,_),se,op,sn,_) hp=>xa c v nx kp qt se op sn (eP hp) (eP (nQ hp)) (eP (nQ (nQ hp))) (eP (nQ (nQ (nQ hp))))) (az (ay (ab (av aJ) (ab bK al)) (ag (aH (ae aw (ae aw (ae aw (ae aw (ae aB (ae aB (ae aB aG)))))))) (ag aC (ag aC (ag aC ao)))) fun (_,c,_) ((v,nx,kp,qt,_,_,_,_),se,op,sn,_) hp=>zr c v nx kp qt se op sn (eP hp)) (az (ay (ab (av aJ) (ab bK al)) (ag (aH (ae aw (ae aw (ae aw (ae aw (ae aB (ae aB (ae aB aG)))))))) (ag aC (ag aC (ag aC ao)))) fun (_,c,_) ((v,nx,kp,qt,_,_,_,_),se,op,sn,_) hp=>xZ c v nx kp qt se op sn (eP hp)) gf))))
end Go.Proofs.YtdggohppeeaipaaGreat
namespace Go.Proofs.YtdggohppeeaipaaGreat
open Go.RowKit
def ax (f:State->Nat->State × Reply) (c:Command) (s:State):State × Reply:=if ai Snap.id c.id s.snaps<0 then (s,⟨15,0⟩) else f s (ai Snap.id c.id s.snaps).toNat
section
variable {v nx kp qt:Int} {se:List Sess} {op:List Opn} {sn:List Snap} {c:Command} {f:State->Nat->State × Reply}
theorem IN (h:ai Snap.id c.id sn<0):ax f c (State.mk v nx kp qt se op sn)=(State.mk v nx kp qt se op sn,⟨15,0⟩):=by
 simp only [ax,if_pos h]
theorem IK (h:0<=ai Snap.id c.id sn):ax f c (State.mk v nx kp qt se op sn)=f (State.mk v nx kp qt se op sn) (ai Snap.id c.id sn).toNat:=by
 have h1:¬ ai Snap.id c.id sn<0:=by omega
 simp only [ax,if_neg h1]
end
theorem FR (v:Int) (nx:Int) (kp:Int) (qt:Int) (se:List Sess) (op:List Opn) (sn:List Snap) (c:Command) (r0:Reply) (r1:Int) (r2:Int) (r3:Int) (r4:Int) (r5:List Sess) (r6:List Opn) (r7:List Snap) (r8:Command):oq aF iE [] Tryz.f46 [.c (.ptr 0 0),.c (.ptr 4 0)] [.box 26 ([.int (v),.int (nx),.int (kp),.int (qt),.own 1,.own 2,.own 3]),.row 44 (.nm .sess) (se),.row 77 (.nm .opn) (op),.row 59 (.nm .snap) (sn),.box 29 (cellsOf (.nm .command) (c))] [.agg (cellsOf (.nm .reply) r0)] [.box 26 ([.int (r1),.int (r2),.int (r3),.int (r4),.own 1,.own 2,.own 3]),.row 44 (.nm .sess) (r5),.row 77 (.nm .opn) (r6),.row 59 (.nm .snap) (r7),.box 29 (cellsOf (.nm .command) (r8))]=((fun (q0:State × Reply)=>op.length<(1048576:Nat)/\(I64 q0.snd.code->I64 q0.snd.n->q0.snd.code=r0.code/\q0.snd.n=r0.n/\q0.fst.version=r1/\q0.fst.next=r2/\q0.fst.keep=r3/\q0.fst.quota=r4/\q0.fst.sess=r5/\q0.fst.opens=r6/\q0.fst.snaps=r7/\c.kind=r8.kind/\c.client=r8.client/\c.seq=r8.seq/\c.set=r8.set/\c.id=r8.id/\c.n=r8.n/\c.chunks=r8.chunks/\c.text=r8.text)) (aW (State.mk v nx kp qt se op sn) c)):=by kernel_rfl
theorem FN (v:Int) (nx:Int) (kp:Int) (qt:Int) (se:List Sess) (op:List Opn) (sn:List Snap) (c:Command) (h0:op.length<1048576):Sat Tryz.prog (au aF) 46 [.c (.ptr 0 0),.c (.ptr 4 0)] [.box 26 ([.int (v),.int (nx),.int (kp),.int (qt),.own 1,.own 2,.own 3]),.row 44 (.nm .sess) (se),.row 77 (.nm .opn) (op),.row 59 (.nm .snap) (sn),.box 29 (cellsOf (.nm .command) (c))] ⟨[op.length<1048576],[.agg (cellsOf (.nm .reply) ((aW (State.mk v nx kp qt se op sn) c).2))],some ([.box 26 ([.int ((((aW (State.mk v nx kp qt se op sn) c).1).version)),.int ((((aW (State.mk v nx kp qt se op sn) c).1).next)),.int ((((aW (State.mk v nx kp qt se op sn) c).1).keep)),.int ((((aW (State.mk v nx kp qt se op sn) c).1).quota)),.own 1,.own 2,.own 3]),.row 44 (.nm .sess) ((((aW (State.mk v nx kp qt se op sn) c).1).sess)),.row 77 (.nm .opn) ((((aW (State.mk v nx kp qt se op sn) c).1).opens)),.row 59 (.nm .snap) ((((aW (State.mk v nx kp qt se op sn) c).1).snaps)),.box 29 (cellsOf (.nm .command) ((c)))]),false⟩:=by
 refine dz dP [] Tryz.func46 (by decide) (by kernel_rfl) ?_
 rw [FR]
 (repeat' (first | with_reducible refine And.intro ?_ ?_ | with_reducible refine and_imp.2 ?_ | intro))
 all_goals (first | (first | with_reducible rfl | with_reducible assumption | omega | (refine aq ?_ ?_ <;> omega)) | exact rfl)
theorem Ga (v:Int) (nx:Int) (kp:Int) (qt:Int) (se:List Sess) (op:List Opn) (sn:List Snap) (c:Command) (r0:Reply) (r1:Int) (r2:Int) (r3:Int) (r4:Int) (r5:List Sess) (r6:List Opn) (r7:List Snap) (r8:Command):oq aF iE [] Tryz.f48 [.c (.ptr 0 0),.c (.ptr 4 0)] [.box 26 ([.int (v),.int (nx),.int (kp),.int (qt),.own 1,.own 2,.own 3]),.row 44 (.nm .sess) (se),.row 77 (.nm .opn) (op),.row 59 (.nm .snap) (sn),.box 29 (cellsOf (.nm .command) (c))] [.agg (cellsOf (.nm .reply) r0)] [.box 26 ([.int (r1),.int (r2),.int (r3),.int (r4),.own 1,.own 2,.own 3]),.row 44 (.nm .sess) (r5),.row 77 (.nm .opn) (r6),.row 59 (.nm .snap) (r7),.box 29 (cellsOf (.nm .command) (r8))]=((fun (q0:State × Reply)=>nch sn<=(1048576:Nat)/\sn.length<(1048576:Nat)/\op.length<(1048576:Nat)/\(0:Int)<=nx/\(I64 q0.snd.code->I64 q0.snd.n->q0.snd.code=r0.code/\q0.snd.n=r0.n/\q0.fst.version=r1/\q0.fst.next=r2/\q0.fst.keep=r3/\q0.fst.quota=r4/\q0.fst.sess=r5/\q0.fst.opens=r6/\q0.fst.snaps=r7/\c.kind=r8.kind/\c.client=r8.client/\c.seq=r8.seq/\c.set=r8.set/\c.id=r8.id/\c.n=r8.n/\c.chunks=r8.chunks/\c.text=r8.text)) (aS (State.mk v nx kp qt se op sn) c)):=by kernel_rfl
theorem Ge (v:Int) (nx:Int) (kp:Int) (qt:Int) (se:List Sess) (op:List Opn) (sn:List Snap) (c:Command) (h0:nch sn<=1048576) (h1:sn.length<1048576) (h2:op.length<1048576) (h3:0<=nx):Sat Tryz.prog (au aF) 48 [.c (.ptr 0 0),.c (.ptr 4 0)] [.box 26 ([.int (v),.int (nx),.int (kp),.int (qt),.own 1,.own 2,.own 3]),.row 44 (.nm .sess) (se),.row 77 (.nm .opn) (op),.row 59 (.nm .snap) (sn),.box 29 (cellsOf (.nm .command) (c))] ⟨[nch sn<=1048576,sn.length<1048576,op.length<1048576,0<=nx],[.agg (cellsOf (.nm .reply) ((aS (State.mk v nx kp qt se op sn) c).2))],some ([.box 26 ([.int ((((aS (State.mk v nx kp qt se op sn) c).1).version)),.int ((((aS (State.mk v nx kp qt se op sn) c).1).next)),.int ((((aS (State.mk v nx kp qt se op sn) c).1).keep)),.int ((((aS (State.mk v nx kp qt se op sn) c).1).quota)),.own 1,.own 2,.own 3]),.row 44 (.nm .sess) ((((aS (State.mk v nx kp qt se op sn) c).1).sess)),.row 77 (.nm .opn) ((((aS (State.mk v nx kp qt se op sn) c).1).opens)),.row 59 (.nm .snap) ((((aS (State.mk v nx kp qt se op sn) c).1).snaps)),.box 29 (cellsOf (.nm .command) ((c)))]),false⟩:=by
 refine dz dP [] Tryz.func48 (by decide) (by kernel_rfl) ?_
 rw [Ga]
 (repeat' (first | with_reducible refine And.intro ?_ ?_ | with_reducible refine and_imp.2 ?_ | intro))
 all_goals (first | (first | with_reducible rfl | with_reducible assumption | omega | (refine aq ?_ ?_ <;> omega)) | exact rfl)
theorem Fy (v:Int) (nx:Int) (kp:Int) (qt:Int) (se:List Sess) (op:List Opn) (sn:List Snap) (c:Command) (r0:Reply) (r1:Int) (r2:Int) (r3:Int) (r4:Int) (r5:List Sess) (r6:List Opn) (r7:List Snap) (r8:Command):oq aF iE [] Tryz.f50 [.c (.ptr 0 0),.c (.ptr 4 0)] [.box 26 ([.int (v),.int (nx),.int (kp),.int (qt),.own 1,.own 2,.own 3]),.row 44 (.nm .sess) (se),.row 77 (.nm .opn) (op),.row 59 (.nm .snap) (sn),.box 29 (cellsOf (.nm .command) (c))] [.agg (cellsOf (.nm .reply) r0)] [.box 26 ([.int (r1),.int (r2),.int (r3),.int (r4),.own 1,.own 2,.own 3]),.row 44 (.nm .sess) (r5),.row 77 (.nm .opn) (r6),.row 59 (.nm .snap) (r7),.box 29 (cellsOf (.nm .command) (r8))]=((fun (q0:State × Reply)=>op.length<(1048576:Nat)/\(I64 q0.snd.code->I64 q0.snd.n->q0.snd.code=r0.code/\q0.snd.n=r0.n/\q0.fst.version=r1/\q0.fst.next=r2/\q0.fst.keep=r3/\q0.fst.quota=r4/\q0.fst.sess=r5/\q0.fst.opens=r6/\q0.fst.snaps=r7/\c.kind=r8.kind/\c.client=r8.client/\c.seq=r8.seq/\c.set=r8.set/\c.id=r8.id/\c.n=r8.n/\c.chunks=r8.chunks/\c.text=r8.text)) (a_ (State.mk v nx kp qt se op sn) c)):=by kernel_rfl
theorem Gp (v:Int) (nx:Int) (kp:Int) (qt:Int) (se:List Sess) (op:List Opn) (sn:List Snap) (c:Command) (h0:op.length<1048576):Sat Tryz.prog (au aF) 50 [.c (.ptr 0 0),.c (.ptr 4 0)] [.box 26 ([.int (v),.int (nx),.int (kp),.int (qt),.own 1,.own 2,.own 3]),.row 44 (.nm .sess) (se),.row 77 (.nm .opn) (op),.row 59 (.nm .snap) (sn),.box 29 (cellsOf (.nm .command) (c))] ⟨[op.length<1048576],[.agg (cellsOf (.nm .reply) ((a_ (State.mk v nx kp qt se op sn) c).2))],some ([.box 26 ([.int ((((a_ (State.mk v nx kp qt se op sn) c).1).version)),.int ((((a_ (State.mk v nx kp qt se op sn) c).1).next)),.int ((((a_ (State.mk v nx kp qt se op sn) c).1).keep)),.int ((((a_ (State.mk v nx kp qt se op sn) c).1).quota)),.own 1,.own 2,.own 3]),.row 44 (.nm .sess) ((((a_ (State.mk v nx kp qt se op sn) c).1).sess)),.row 77 (.nm .opn) ((((a_ (State.mk v nx kp qt se op sn) c).1).opens)),.row 59 (.nm .snap) ((((a_ (State.mk v nx kp qt se op sn) c).1).snaps)),.box 29 (cellsOf (.nm .command) ((c)))]),false⟩:=by
 refine dz dP [] Tryz.func50 (by decide) (by kernel_rfl) ?_
 rw [Fy]
 (repeat' (first | with_reducible refine And.intro ?_ ?_ | with_reducible refine and_imp.2 ?_ | intro))
 all_goals (first | (first | with_reducible rfl | with_reducible assumption | omega | (refine aq ?_ ?_ <;> omega)) | exact rfl)
theorem pd (v:Int) (nx:Int) (kp:Int) (qt:Int) (se:List Sess) (op:List Opn) (sn:List Snap) (c:Command) (r0:Int) (r1:Int) (r2:Int) (r3:Int) (r4:List Sess) (r5:List Opn) (r6:List Snap) (r7:Command):tu aF iE [] Tryz.f41 [.c (.fn 55 [] [(0,0)]),.c (.ptr 0 0),.c (.ptr 4 0)] [.box 26 ([.int (v),.int (nx),.int (kp),.int (qt),.own 1,.own 2,.own 3]),.row 44 (.nm .sess) (se),.row 77 (.nm .opn) (op),.row 59 (.nm .snap) (sn),.box 29 (cellsOf (.nm .command) (c))] [.c (.fn 42 [] [(0,0),(4,0),(5,0)])] [.box 26 ([.int (r0),.int (r1),.int (r2),.int (r3),.own 1,.own 2,.own 3]),.row 44 (.nm .sess) (r4),.row 77 (.nm .opn) (r5),.row 59 (.nm .snap) (r6),.box 29 (cellsOf (.nm .command) (r7)),.box 65 ([.fn 55 [] [(0,0)]])]=(v=r0/\nx=r1/\kp=r2/\qt=r3/\se=r4/\op=r5/\sn=r6/\c.kind=r7.kind/\c.client=r7.client/\c.seq=r7.seq/\c.set=r7.set/\c.id=r7.id/\c.n=r7.n/\c.chunks=r7.chunks/\c.text=r7.text):=by kernel_rfl
theorem pR (v:Int) (nx:Int) (kp:Int) (qt:Int) (se:List Sess) (op:List Opn) (sn:List Snap) (c:Command):Sat Tryz.prog (au aF) 41 [.c (.fn 55 [] [(0,0)]),.c (.ptr 0 0),.c (.ptr 4 0)] [.box 26 ([.int (v),.int (nx),.int (kp),.int (qt),.own 1,.own 2,.own 3]),.row 44 (.nm .sess) (se),.row 77 (.nm .opn) (op),.row 59 (.nm .snap) (sn),.box 29 (cellsOf (.nm .command) (c))] ⟨[],[.c (.fn 42 [] [(0,0),(4,0),(5,0)])],some ([.box 26 ([.int ((v)),.int ((nx)),.int ((kp)),.int ((qt)),.own 1,.own 2,.own 3]),.row 44 (.nm .sess) ((se)),.row 77 (.nm .opn) ((op)),.row 59 (.nm .snap) ((sn)),.box 29 (cellsOf (.nm .command) ((c))),.box 65 ([.fn 55 [] [(0,0)]])]),true⟩:=by
 refine eA dP [] Tryz.func41 (by decide) (by kernel_rfl) ?_
 rw [pd]
 (repeat' (first | with_reducible refine And.intro ?_ ?_ | with_reducible refine and_imp.2 ?_ | intro))
 all_goals (first | (first | with_reducible rfl | with_reducible assumption | omega | (refine aq ?_ ?_ <;> omega)) | exact rfl)
theorem sa (v:Int) (nx:Int) (kp:Int) (qt:Int) (se:List Sess) (op:List Opn) (sn:List Snap) (c:Command) (r0:Int) (r1:Int) (r2:Int) (r3:Int) (r4:List Sess) (r5:List Opn) (r6:List Snap) (r7:Command):tu aF iE [] Tryz.f41 [.c (.fn 57 [] [(0,0)]),.c (.ptr 0 0),.c (.ptr 4 0)] [.box 26 ([.int (v),.int (nx),.int (kp),.int (qt),.own 1,.own 2,.own 3]),.row 44 (.nm .sess) (se),.row 77 (.nm .opn) (op),.row 59 (.nm .snap) (sn),.box 29 (cellsOf (.nm .command) (c))] [.c (.fn 42 [] [(0,0),(4,0),(5,0)])] [.box 26 ([.int (r0),.int (r1),.int (r2),.int (r3),.own 1,.own 2,.own 3]),.row 44 (.nm .sess) (r4),.row 77 (.nm .opn) (r5),.row 59 (.nm .snap) (r6),.box 29 (cellsOf (.nm .command) (r7)),.box 65 ([.fn 57 [] [(0,0)]])]=(v=r0/\nx=r1/\kp=r2/\qt=r3/\se=r4/\op=r5/\sn=r6/\c.kind=r7.kind/\c.client=r7.client/\c.seq=r7.seq/\c.set=r7.set/\c.id=r7.id/\c.n=r7.n/\c.chunks=r7.chunks/\c.text=r7.text):=by kernel_rfl
theorem sF (v:Int) (nx:Int) (kp:Int) (qt:Int) (se:List Sess) (op:List Opn) (sn:List Snap) (c:Command):Sat Tryz.prog (au aF) 41 [.c (.fn 57 [] [(0,0)]),.c (.ptr 0 0),.c (.ptr 4 0)] [.box 26 ([.int (v),.int (nx),.int (kp),.int (qt),.own 1,.own 2,.own 3]),.row 44 (.nm .sess) (se),.row 77 (.nm .opn) (op),.row 59 (.nm .snap) (sn),.box 29 (cellsOf (.nm .command) (c))] ⟨[],[.c (.fn 42 [] [(0,0),(4,0),(5,0)])],some ([.box 26 ([.int ((v)),.int ((nx)),.int ((kp)),.int ((qt)),.own 1,.own 2,.own 3]),.row 44 (.nm .sess) ((se)),.row 77 (.nm .opn) ((op)),.row 59 (.nm .snap) ((sn)),.box 29 (cellsOf (.nm .command) ((c))),.box 65 ([.fn 57 [] [(0,0)]])]),true⟩:=by
 refine eA dP [] Tryz.func41 (by decide) (by kernel_rfl) ?_
 rw [sa]
 (repeat' (first | with_reducible refine And.intro ?_ ?_ | with_reducible refine and_imp.2 ?_ | intro))
 all_goals (first | (first | with_reducible rfl | with_reducible assumption | omega | (refine aq ?_ ?_ <;> omega)) | exact rfl)
theorem tP (c:Command) (v:Int) (nx:Int) (kp:Int) (qt:Int) (se:List Sess) (op:List Opn) (sn:List Snap) (r0:Command) (r1:Int) (r2:Int) (r3:Int) (r4:Int) (r5:List Sess) (r6:List Opn) (r7:List Snap):tu aF iE [] Tryz.f41 [.c (.fn 58 [] [(0,0),(1,0)]),.c (.ptr 1 0),.c (.ptr 0 0)] [.box 29 (cellsOf (.nm .command) (c)),.box 26 ([.int (v),.int (nx),.int (kp),.int (qt),.own 2,.own 3,.own 4]),.row 44 (.nm .sess) (se),.row 77 (.nm .opn) (op),.row 59 (.nm .snap) (sn)] [.c (.fn 42 [] [(1,0),(0,0),(5,0)])] [.box 29 (cellsOf (.nm .command) (r0)),.box 26 ([.int (r1),.int (r2),.int (r3),.int (r4),.own 2,.own 3,.own 4]),.row 44 (.nm .sess) (r5),.row 77 (.nm .opn) (r6),.row 59 (.nm .snap) (r7),.box 65 ([.fn 58 [] [(0,0),(1,0)]])]=(c.kind=r0.kind/\c.client=r0.client/\c.seq=r0.seq/\c.set=r0.set/\c.id=r0.id/\c.n=r0.n/\c.chunks=r0.chunks/\c.text=r0.text/\v=r1/\nx=r2/\kp=r3/\qt=r4/\se=r5/\op=r6/\sn=r7):=by kernel_rfl
theorem ur (c:Command) (v:Int) (nx:Int) (kp:Int) (qt:Int) (se:List Sess) (op:List Opn) (sn:List Snap):Sat Tryz.prog (au aF) 41 [.c (.fn 58 [] [(0,0),(1,0)]),.c (.ptr 1 0),.c (.ptr 0 0)] [.box 29 (cellsOf (.nm .command) (c)),.box 26 ([.int (v),.int (nx),.int (kp),.int (qt),.own 2,.own 3,.own 4]),.row 44 (.nm .sess) (se),.row 77 (.nm .opn) (op),.row 59 (.nm .snap) (sn)] ⟨[],[.c (.fn 42 [] [(1,0),(0,0),(5,0)])],some ([.box 29 (cellsOf (.nm .command) ((c))),.box 26 ([.int ((v)),.int ((nx)),.int ((kp)),.int ((qt)),.own 2,.own 3,.own 4]),.row 44 (.nm .sess) ((se)),.row 77 (.nm .opn) ((op)),.row 59 (.nm .snap) ((sn)),.box 65 ([.fn 58 [] [(0,0),(1,0)]])]),true⟩:=by
 refine eA dP [] Tryz.func41 (by decide) (by kernel_rfl) ?_
 rw [tP]
 (repeat' (first | with_reducible refine And.intro ?_ ?_ | with_reducible refine and_imp.2 ?_ | intro))
 all_goals (first | (first | with_reducible rfl | with_reducible assumption | omega | (refine aq ?_ ?_ <;> omega)) | exact rfl)
theorem rC (v:Int) (nx:Int) (kp:Int) (qt:Int) (se:List Sess) (op:List Opn) (sn:List Snap) (b:Bool) (c:Command) (r0:Int) (r1:Int) (r2:Int) (r3:Int) (r4:List Sess) (r5:List Opn) (r6:List Snap) (r7:Bool) (r8:Command):tu aF iE [] Tryz.f41 [.c (.fn 45 [] [(0,0),(4,0)]),.c (.ptr 0 0),.c (.ptr 5 0)] [.box 26 ([.int (v),.int (nx),.int (kp),.int (qt),.own 1,.own 2,.own 3]),.row 44 (.nm .sess) (se),.row 77 (.nm .opn) (op),.row 59 (.nm .snap) (sn),.box 4 ([.bool (.atom (b))]),.box 29 (cellsOf (.nm .command) (c))] [.c (.fn 42 [] [(0,0),(5,0),(6,0)])] [.box 26 ([.int (r0),.int (r1),.int (r2),.int (r3),.own 1,.own 2,.own 3]),.row 44 (.nm .sess) (r4),.row 77 (.nm .opn) (r5),.row 59 (.nm .snap) (r6),.box 4 ([.bool (.atom (r7))]),.box 29 (cellsOf (.nm .command) (r8)),.box 65 ([.fn 45 [] [(0,0),(4,0)]])]=(v=r0/\nx=r1/\kp=r2/\qt=r3/\se=r4/\op=r5/\sn=r6/\b=r7/\c.kind=r8.kind/\c.client=r8.client/\c.seq=r8.seq/\c.set=r8.set/\c.id=r8.id/\c.n=r8.n/\c.chunks=r8.chunks/\c.text=r8.text):=by kernel_rfl
theorem qS (v:Int) (nx:Int) (kp:Int) (qt:Int) (se:List Sess) (op:List Opn) (sn:List Snap) (b:Bool) (c:Command):Sat Tryz.prog (au aF) 41 [.c (.fn 45 [] [(0,0),(4,0)]),.c (.ptr 0 0),.c (.ptr 5 0)] [.box 26 ([.int (v),.int (nx),.int (kp),.int (qt),.own 1,.own 2,.own 3]),.row 44 (.nm .sess) (se),.row 77 (.nm .opn) (op),.row 59 (.nm .snap) (sn),.box 4 ([.bool (.atom (b))]),.box 29 (cellsOf (.nm .command) (c))] ⟨[],[.c (.fn 42 [] [(0,0),(5,0),(6,0)])],some ([.box 26 ([.int ((v)),.int ((nx)),.int ((kp)),.int ((qt)),.own 1,.own 2,.own 3]),.row 44 (.nm .sess) ((se)),.row 77 (.nm .opn) ((op)),.row 59 (.nm .snap) ((sn)),.box 4 ([.bool (.atom ((b)))]),.box 29 (cellsOf (.nm .command) ((c))),.box 65 ([.fn 45 [] [(0,0),(4,0)]])]),true⟩:=by
 refine eA dP [] Tryz.func41 (by decide) (by kernel_rfl) ?_
 rw [rC]
 (repeat' (first | with_reducible refine And.intro ?_ ?_ | with_reducible refine and_imp.2 ?_ | intro))
 all_goals (first | (first | with_reducible rfl | with_reducible assumption | omega | (refine aq ?_ ?_ <;> omega)) | exact rfl)
def mD:cC:=(bR 41 (bJ (ah (kC (lH 45 [] [(0,0),(4,0)])) (ah (kC (bU 0 0)) (ah (kC (bU 5 0)) aO))) (aA (bT 26 (ak cI (ak cI (ak cI (ak cI (ak (bd 1) (ak (bd 2) (ak (bd 3) bP)))))))) (aA (bf 44 (.nm .sess)) (aA (bf 77 (.nm .opn)) (aA (bf 59 (.nm .snap)) (aA (bT 4 (ak cB bP)) (aA (bT 29 (qq (.nm .command) bP)) aP)))))) fun (_,_,_,_) ((v,nx,kp,qt,_,_,_,_),se,op,sn,(b,_),(c,_),_)=>⟨[],[.c (.fn 42 [] [(0,0),(5,0),(6,0)])],some ([.box 26 ([.int ((v)),.int ((nx)),.int ((kp)),.int ((qt)),.own 1,.own 2,.own 3]),.row 44 (.nm .sess) ((se)),.row 77 (.nm .opn) ((op)),.row 59 (.nm .snap) ((sn)),.box 4 ([.bool (.atom ((b)))]),.box 29 (cellsOf (.nm .command) ((c))),.box 65 ([.fn 45 [] [(0,0),(4,0)]])]),true⟩) (bR 41 (bJ (ah (kC (lH 58 [] [(0,0),(1,0)])) (ah (kC (bU 1 0)) (ah (kC (bU 0 0)) aO))) (aA (bT 29 (qq (.nm .command) bP)) (aA (bT 26 (ak cI (ak cI (ak cI (ak cI (ak (bd 2) (ak (bd 3) (ak (bd 4) bP)))))))) (aA (bf 44 (.nm .sess)) (aA (bf 77 (.nm .opn)) (aA (bf 59 (.nm .snap)) aP))))) fun (_,_,_,_) ((c,_),(v,nx,kp,qt,_,_,_,_),se,op,sn,_)=>⟨[],[.c (.fn 42 [] [(1,0),(0,0),(5,0)])],some ([.box 29 (cellsOf (.nm .command) ((c))),.box 26 ([.int ((v)),.int ((nx)),.int ((kp)),.int ((qt)),.own 2,.own 3,.own 4]),.row 44 (.nm .sess) ((se)),.row 77 (.nm .opn) ((op)),.row 59 (.nm .snap) ((sn)),.box 65 ([.fn 58 [] [(0,0),(1,0)]])]),true⟩) (bR 41 (bJ (ah (kC (lH 57 [] [(0,0)])) (ah (kC (bU 0 0)) (ah (kC (bU 4 0)) aO))) (aA (bT 26 (ak cI (ak cI (ak cI (ak cI (ak (bd 1) (ak (bd 2) (ak (bd 3) bP)))))))) (aA (bf 44 (.nm .sess)) (aA (bf 77 (.nm .opn)) (aA (bf 59 (.nm .snap)) (aA (bT 29 (qq (.nm .command) bP)) aP))))) fun (_,_,_,_) ((v,nx,kp,qt,_,_,_,_),se,op,sn,(c,_),_)=>⟨[],[.c (.fn 42 [] [(0,0),(4,0),(5,0)])],some ([.box 26 ([.int ((v)),.int ((nx)),.int ((kp)),.int ((qt)),.own 1,.own 2,.own 3]),.row 44 (.nm .sess) ((se)),.row 77 (.nm .opn) ((op)),.row 59 (.nm .snap) ((sn)),.box 29 (cellsOf (.nm .command) ((c))),.box 65 ([.fn 57 [] [(0,0)]])]),true⟩) (bR 41 (bJ (ah (kC (lH 55 [] [(0,0)])) (ah (kC (bU 0 0)) (ah (kC (bU 4 0)) aO))) (aA (bT 26 (ak cI (ak cI (ak cI (ak cI (ak (bd 1) (ak (bd 2) (ak (bd 3) bP)))))))) (aA (bf 44 (.nm .sess)) (aA (bf 77 (.nm .opn)) (aA (bf 59 (.nm .snap)) (aA (bT 29 (qq (.nm .command) bP)) aP))))) fun (_,_,_,_) ((v,nx,kp,qt,_,_,_,_),se,op,sn,(c,_),_)=>⟨[],[.c (.fn 42 [] [(0,0),(4,0),(5,0)])],some ([.box 26 ([.int ((v)),.int ((nx)),.int ((kp)),.int ((qt)),.own 1,.own 2,.own 3]),.row 44 (.nm .sess) ((se)),.row 77 (.nm .opn) ((op)),.row 59 (.nm .snap) ((sn)),.box 29 (cellsOf (.nm .command) ((c))),.box 65 ([.fn 55 [] [(0,0)]])]),true⟩) (bR 50 (bJ (ah (kC (bU 0 0)) (ah (kC (bU 4 0)) aO)) (aA (bT 26 (ak cI (ak cI (ak cI (ak cI (ak (bd 1) (ak (bd 2) (ak (bd 3) bP)))))))) (aA (bf 44 (.nm .sess)) (aA (bf 77 (.nm .opn)) (aA (bf 59 (.nm .snap)) (aA (bT 29 (qq (.nm .command) bP)) aP))))) fun (_,_,_) ((v,nx,kp,qt,_,_,_,_),se,op,sn,(c,_),_)=>⟨[op.length<1048576],[.agg (cellsOf (.nm .reply) ((a_ (State.mk v nx kp qt se op sn) c).2))],some ([.box 26 ([.int ((((a_ (State.mk v nx kp qt se op sn) c).1).version)),.int ((((a_ (State.mk v nx kp qt se op sn) c).1).next)),.int ((((a_ (State.mk v nx kp qt se op sn) c).1).keep)),.int ((((a_ (State.mk v nx kp qt se op sn) c).1).quota)),.own 1,.own 2,.own 3]),.row 44 (.nm .sess) ((((a_ (State.mk v nx kp qt se op sn) c).1).sess)),.row 77 (.nm .opn) ((((a_ (State.mk v nx kp qt se op sn) c).1).opens)),.row 59 (.nm .snap) ((((a_ (State.mk v nx kp qt se op sn) c).1).snaps)),.box 29 (cellsOf (.nm .command) ((c)))]),false⟩) (bR 48 (bJ (ah (kC (bU 0 0)) (ah (kC (bU 4 0)) aO)) (aA (bT 26 (ak cI (ak cI (ak cI (ak cI (ak (bd 1) (ak (bd 2) (ak (bd 3) bP)))))))) (aA (bf 44 (.nm .sess)) (aA (bf 77 (.nm .opn)) (aA (bf 59 (.nm .snap)) (aA (bT 29 (qq (.nm .command) bP)) aP))))) fun (_,_,_) ((v,nx,kp,qt,_,_,_,_),se,op,sn,(c,_),_)=>⟨[nch sn<=1048576,sn.length<1048576,op.length<1048576,0<=nx],[.agg (cellsOf (.nm .reply) ((aS (State.mk v nx kp qt se op sn) c).2))],some ([.box 26 ([.int ((((aS (State.mk v nx kp qt se op sn) c).1).version)),.int ((((aS (State.mk v nx kp qt se op sn) c).1).next)),.int ((((aS (State.mk v nx kp qt se op sn) c).1).keep)),.int ((((aS (State.mk v nx kp qt se op sn) c).1).quota)),.own 1,.own 2,.own 3]),.row 44 (.nm .sess) ((((aS (State.mk v nx kp qt se op sn) c).1).sess)),.row 77 (.nm .opn) ((((aS (State.mk v nx kp qt se op sn) c).1).opens)),.row 59 (.nm .snap) ((((aS (State.mk v nx kp qt se op sn) c).1).snaps)),.box 29 (cellsOf (.nm .command) ((c)))]),false⟩) (bR 46 (bJ (ah (kC (bU 0 0)) (ah (kC (bU 4 0)) aO)) (aA (bT 26 (ak cI (ak cI (ak cI (ak cI (ak (bd 1) (ak (bd 2) (ak (bd 3) bP)))))))) (aA (bf 44 (.nm .sess)) (aA (bf 77 (.nm .opn)) (aA (bf 59 (.nm .snap)) (aA (bT 29 (qq (.nm .command) bP)) aP))))) fun (_,_,_) ((v,nx,kp,qt,_,_,_,_),se,op,sn,(c,_),_)=>⟨[op.length<1048576],[.agg (cellsOf (.nm .reply) ((aW (State.mk v nx kp qt se op sn) c).2))],some ([.box 26 ([.int ((((aW (State.mk v nx kp qt se op sn) c).1).version)),.int ((((aW (State.mk v nx kp qt se op sn) c).1).next)),.int ((((aW (State.mk v nx kp qt se op sn) c).1).keep)),.int ((((aW (State.mk v nx kp qt se op sn) c).1).quota)),.own 1,.own 2,.own 3]),.row 44 (.nm .sess) ((((aW (State.mk v nx kp qt se op sn) c).1).sess)),.row 77 (.nm .opn) ((((aW (State.mk v nx kp qt se op sn) c).1).opens)),.row 59 (.nm .snap) ((((aW (State.mk v nx kp qt se op sn) c).1).snaps)),.box 29 (cellsOf (.nm .command) ((c)))]),false⟩) iE)))))))
theorem eR:aX Tryz.prog (au aF) mD:=(az (ay (ab (av b_) (ab (av aJ) (ab (av aJ) al))) (ag (aH (ae aw (ae aw (ae aw (ae aw (ae aB (ae aB (ae aB aG)))))))) (ag aC (ag aC (ag aC (ag (aH (ae ox aG)) (ag (aH (cX aG)) ao)))))) fun (_,_,_,_) ((v,nx,kp,qt,_,_,_,_),se,op,sn,(b,_),(c,_),_) _=>qS v nx kp qt se op sn b c ) (az (ay (ab (av b_) (ab (av aJ) (ab (av aJ) al))) (ag (aH (cX aG)) (ag (aH (ae aw (ae aw (ae aw (ae aw (ae aB (ae aB (ae aB aG)))))))) (ag aC (ag aC (ag aC ao))))) fun (_,_,_,_) ((c,_),(v,nx,kp,qt,_,_,_,_),se,op,sn,_) _=>ur c v nx kp qt se op sn ) (az (ay (ab (av b_) (ab (av aJ) (ab (av aJ) al))) (ag (aH (ae aw (ae aw (ae aw (ae aw (ae aB (ae aB (ae aB aG)))))))) (ag aC (ag aC (ag aC (ag (aH (cX aG)) ao))))) fun (_,_,_,_) ((v,nx,kp,qt,_,_,_,_),se,op,sn,(c,_),_) _=>sF v nx kp qt se op sn c ) (az (ay (ab (av b_) (ab (av aJ) (ab (av aJ) al))) (ag (aH (ae aw (ae aw (ae aw (ae aw (ae aB (ae aB (ae aB aG)))))))) (ag aC (ag aC (ag aC (ag (aH (cX aG)) ao))))) fun (_,_,_,_) ((v,nx,kp,qt,_,_,_,_),se,op,sn,(c,_),_) _=>pR v nx kp qt se op sn c ) (az (ay (ab (av aJ) (ab (av aJ) al)) (ag (aH (ae aw (ae aw (ae aw (ae aw (ae aB (ae aB (ae aB aG)))))))) (ag aC (ag aC (ag aC (ag (aH (cX aG)) ao))))) fun (_,_,_) ((v,nx,kp,qt,_,_,_,_),se,op,sn,(c,_),_) hp=>Gp v nx kp qt se op sn c (eP hp)) (az (ay (ab (av aJ) (ab (av aJ) al)) (ag (aH (ae aw (ae aw (ae aw (ae aw (ae aB (ae aB (ae aB aG)))))))) (ag aC (ag aC (ag aC (ag (aH (cX aG)) ao))))) fun (_,_,_) ((v,nx,kp,qt,_,_,_,_),se,op,sn,(c,_),_) hp=>Ge v nx kp qt se op sn c (eP hp) (eP (nQ hp)) (eP (nQ (nQ hp))) (eP (nQ (nQ (nQ hp))))) (az (ay (ab (av aJ) (ab (av aJ) al)) (ag (aH (ae aw (ae aw (ae aw (ae aw (ae aB (ae aB (ae aB aG)))))))) (ag aC (ag aC (ag aC (ag (aH (cX aG)) ao))))) fun (_,_,_) ((v,nx,kp,qt,_,_,_,_),se,op,sn,(c,_),_) hp=>FN v nx kp qt se op sn c (eP hp)) dP)))))))
end Go.Proofs.YtdggohppeeaipaaGreat
namespace Go.Proofs.YtdggohppeeaipaaGreat
open Go.RowKit
theorem FD (b:Bool) (v:Int) (nx:Int) (kp:Int) (qt:Int) (se:List Sess) (op:List Opn) (sn:List Snap) (c:Command) (r0:Int) (r1:Int) (r2:Int) (r3:Int) (r4:List Sess) (r5:List Opn) (r6:List Snap) (r7:Command) (r8:Bool):tu aF mD [] Tryz.f44 [.c (.bool (.atom (b))),.c (.ptr 0 0),.c (.ptr 1 0)] [.box 67 ([.fn 41 [] [(1,0),(5,0)]]),.box 26 ([.int (v),.int (nx),.int (kp),.int (qt),.own 2,.own 3,.own 4]),.row 44 (.nm .sess) (se),.row 77 (.nm .opn) (op),.row 59 (.nm .snap) (sn),.box 29 (cellsOf (.nm .command) (c))] [.c (.fn 42 [] [(1,0),(5,0),(7,0)])] [.box 67 ([.fn 41 [] [(1,0),(5,0)]]),.box 26 ([.int (r0),.int (r1),.int (r2),.int (r3),.own 2,.own 3,.own 4]),.row 44 (.nm .sess) (r4),.row 77 (.nm .opn) (r5),.row 59 (.nm .snap) (r6),.box 29 (cellsOf (.nm .command) (r7)),.box 4 ([.bool (.atom (r8))]),.box 65 ([.fn 45 [] [(1,0),(6,0)]])]=(v=r0/\nx=r1/\kp=r2/\qt=r3/\se=r4/\op=r5/\sn=r6/\c.kind=r7.kind/\c.client=r7.client/\c.seq=r7.seq/\c.set=r7.set/\c.id=r7.id/\c.n=r7.n/\c.chunks=r7.chunks/\c.text=r7.text/\b=r8):=by kernel_rfl
theorem GK (b:Bool) (v:Int) (nx:Int) (kp:Int) (qt:Int) (se:List Sess) (op:List Opn) (sn:List Snap) (c:Command):Sat Tryz.prog (au aF) 44 [.c (.bool (.atom (b))),.c (.ptr 0 0),.c (.ptr 1 0)] [.box 67 ([.fn 41 [] [(1,0),(5,0)]]),.box 26 ([.int (v),.int (nx),.int (kp),.int (qt),.own 2,.own 3,.own 4]),.row 44 (.nm .sess) (se),.row 77 (.nm .opn) (op),.row 59 (.nm .snap) (sn),.box 29 (cellsOf (.nm .command) (c))] ⟨[],[.c (.fn 42 [] [(1,0),(5,0),(7,0)])],some ([.box 67 ([.fn 41 [] [(1,0),(5,0)]]),.box 26 ([.int ((v)),.int ((nx)),.int ((kp)),.int ((qt)),.own 2,.own 3,.own 4]),.row 44 (.nm .sess) ((se)),.row 77 (.nm .opn) ((op)),.row 59 (.nm .snap) ((sn)),.box 29 (cellsOf (.nm .command) ((c))),.box 4 ([.bool (.atom ((b)))]),.box 65 ([.fn 45 [] [(1,0),(6,0)]])]),true⟩:=by
 refine eA eR [] Tryz.func44 (by decide) (by kernel_rfl) ?_
 rw [FD]
 (repeat' (first | with_reducible refine And.intro ?_ ?_ | with_reducible refine and_imp.2 ?_ | intro))
 all_goals (first | (first | with_reducible rfl | with_reducible assumption | omega | (refine aq ?_ ?_ <;> omega)) | exact rfl)
theorem uc (v:Int) (nx:Int) (kp:Int) (qt:Int) (se:List Sess) (op:List Opn) (sn:List Snap) (c:Command) (r0:Reply) (r1:Int) (r2:Int) (r3:Int) (r4:Int) (r5:List Sess) (r6:List Opn) (r7:List Snap) (r8:Command):oq aF mD [] Tryz.f42 [.c (.ptr 0 0),.c (.ptr 4 0),.c (.ptr 5 0)] [.box 26 ([.int (v),.int (nx),.int (kp),.int (qt),.own 1,.own 2,.own 3]),.row 44 (.nm .sess) (se),.row 77 (.nm .opn) (op),.row 59 (.nm .snap) (sn),.box 29 (cellsOf (.nm .command) (c)),.box 65 ([.fn 55 [] [(0,0)]])] [.agg (cellsOf (.nm .reply) r0)] [.box 26 ([.int (r1),.int (r2),.int (r3),.int (r4),.own 1,.own 2,.own 3]),.row 44 (.nm .sess) (r5),.row 77 (.nm .opn) (r6),.row 59 (.nm .snap) (r7),.box 29 (cellsOf (.nm .command) (r8)),.box 65 ([.fn 55 [] [(0,0)]])]=((fun (q2:Int)=>(fun (q1:Prop)=>(fun (q0:State × Reply)=>I64 q2->(q2<(0:Int)->I64 (15:Int)->I64 (0:Int)->(15:Int)=r0.code/\(0:Int)=r0.n/\v=r1/\nx=r2/\kp=r3/\qt=r4/\se=r5/\op=r6/\sn=r7/\q1)/\((0:Int)<=q2->((0:Int)<=q2/\q2<(↑sn.length:Int))/\nch sn<=(1048576:Nat)/\(I64 q0.snd.code->I64 q0.snd.n->q0.snd.code=r0.code/\q0.snd.n=r0.n/\q0.fst.version=r1/\q0.fst.next=r2/\q0.fst.keep=r3/\q0.fst.quota=r4/\q0.fst.sess=r5/\q0.fst.opens=r6/\q0.fst.snaps=r7/\q1))) (aK (State.mk v nx kp qt se op sn) q2.toNat)) (c.kind=r8.kind/\c.client=r8.client/\c.seq=r8.seq/\c.set=r8.set/\c.id=r8.id/\c.n=r8.n/\c.chunks=r8.chunks/\c.text=r8.text)) (ai Snap.id c.id sn)):=by kernel_rfl
theorem tT (v:Int) (nx:Int) (kp:Int) (qt:Int) (se:List Sess) (op:List Opn) (sn:List Snap) (c:Command) (h0:nch sn<=1048576):Sat Tryz.prog (au aF) 42 [.c (.ptr 0 0),.c (.ptr 4 0),.c (.ptr 5 0)] [.box 26 ([.int (v),.int (nx),.int (kp),.int (qt),.own 1,.own 2,.own 3]),.row 44 (.nm .sess) (se),.row 77 (.nm .opn) (op),.row 59 (.nm .snap) (sn),.box 29 (cellsOf (.nm .command) (c)),.box 65 ([.fn 55 [] [(0,0)]])] ⟨[nch sn<=1048576],[.agg (cellsOf (.nm .reply) ((ax aK c (State.mk v nx kp qt se op sn)).2))],some ([.box 26 ([.int ((((ax aK c (State.mk v nx kp qt se op sn)).1).version)),.int ((((ax aK c (State.mk v nx kp qt se op sn)).1).next)),.int ((((ax aK c (State.mk v nx kp qt se op sn)).1).keep)),.int ((((ax aK c (State.mk v nx kp qt se op sn)).1).quota)),.own 1,.own 2,.own 3]),.row 44 (.nm .sess) ((((ax aK c (State.mk v nx kp qt se op sn)).1).sess)),.row 77 (.nm .opn) ((((ax aK c (State.mk v nx kp qt se op sn)).1).opens)),.row 59 (.nm .snap) ((((ax aK c (State.mk v nx kp qt se op sn)).1).snaps)),.box 29 (cellsOf (.nm .command) ((c))),.box 65 ([.fn 55 [] [(0,0)]])]),false⟩:=by
 refine dz eR [] Tryz.func42 (by decide) (by kernel_rfl) ?_
 rw [uc]
 (repeat' (first | with_reducible refine And.intro ?_ ?_ | with_reducible refine and_imp.2 ?_ | intro))
 all_goals (first | (first | with_reducible rfl | with_reducible assumption | omega | (refine aq ?_ ?_ <;> omega)) | exact bI (by with_reducible assumption) | (rw [IN] <;> first | rfl | omega) | (rw [IK] <;> first | rfl | omega))
theorem wx (v:Int) (nx:Int) (kp:Int) (qt:Int) (se:List Sess) (op:List Opn) (sn:List Snap) (c:Command) (r0:Reply) (r1:Int) (r2:Int) (r3:Int) (r4:Int) (r5:List Sess) (r6:List Opn) (r7:List Snap) (r8:Command):oq aF mD [] Tryz.f42 [.c (.ptr 0 0),.c (.ptr 4 0),.c (.ptr 5 0)] [.box 26 ([.int (v),.int (nx),.int (kp),.int (qt),.own 1,.own 2,.own 3]),.row 44 (.nm .sess) (se),.row 77 (.nm .opn) (op),.row 59 (.nm .snap) (sn),.box 29 (cellsOf (.nm .command) (c)),.box 65 ([.fn 57 [] [(0,0)]])] [.agg (cellsOf (.nm .reply) r0)] [.box 26 ([.int (r1),.int (r2),.int (r3),.int (r4),.own 1,.own 2,.own 3]),.row 44 (.nm .sess) (r5),.row 77 (.nm .opn) (r6),.row 59 (.nm .snap) (r7),.box 29 (cellsOf (.nm .command) (r8)),.box 65 ([.fn 57 [] [(0,0)]])]=((fun (q2:Int)=>(fun (q1:Prop)=>(fun (q0:State × Reply)=>I64 q2->(q2<(0:Int)->I64 (15:Int)->I64 (0:Int)->(15:Int)=r0.code/\(0:Int)=r0.n/\v=r1/\nx=r2/\kp=r3/\qt=r4/\se=r5/\op=r6/\sn=r7/\q1)/\((0:Int)<=q2->((0:Int)<=q2/\q2<(↑sn.length:Int))/\(I64 q0.snd.code->I64 q0.snd.n->q0.snd.code=r0.code/\q0.snd.n=r0.n/\q0.fst.version=r1/\q0.fst.next=r2/\q0.fst.keep=r3/\q0.fst.quota=r4/\q0.fst.sess=r5/\q0.fst.opens=r6/\q0.fst.snaps=r7/\q1))) (bj (State.mk v nx kp qt se op sn) q2.toNat)) (c.kind=r8.kind/\c.client=r8.client/\c.seq=r8.seq/\c.set=r8.set/\c.id=r8.id/\c.n=r8.n/\c.chunks=r8.chunks/\c.text=r8.text)) (ai Snap.id c.id sn)):=by kernel_rfl
theorem wz (v:Int) (nx:Int) (kp:Int) (qt:Int) (se:List Sess) (op:List Opn) (sn:List Snap) (c:Command):Sat Tryz.prog (au aF) 42 [.c (.ptr 0 0),.c (.ptr 4 0),.c (.ptr 5 0)] [.box 26 ([.int (v),.int (nx),.int (kp),.int (qt),.own 1,.own 2,.own 3]),.row 44 (.nm .sess) (se),.row 77 (.nm .opn) (op),.row 59 (.nm .snap) (sn),.box 29 (cellsOf (.nm .command) (c)),.box 65 ([.fn 57 [] [(0,0)]])] ⟨[],[.agg (cellsOf (.nm .reply) ((ax bj c (State.mk v nx kp qt se op sn)).2))],some ([.box 26 ([.int ((((ax bj c (State.mk v nx kp qt se op sn)).1).version)),.int ((((ax bj c (State.mk v nx kp qt se op sn)).1).next)),.int ((((ax bj c (State.mk v nx kp qt se op sn)).1).keep)),.int ((((ax bj c (State.mk v nx kp qt se op sn)).1).quota)),.own 1,.own 2,.own 3]),.row 44 (.nm .sess) ((((ax bj c (State.mk v nx kp qt se op sn)).1).sess)),.row 77 (.nm .opn) ((((ax bj c (State.mk v nx kp qt se op sn)).1).opens)),.row 59 (.nm .snap) ((((ax bj c (State.mk v nx kp qt se op sn)).1).snaps)),.box 29 (cellsOf (.nm .command) ((c))),.box 65 ([.fn 57 [] [(0,0)]])]),false⟩:=by
 refine dz eR [] Tryz.func42 (by decide) (by kernel_rfl) ?_
 rw [wx]
 (repeat' (first | with_reducible refine And.intro ?_ ?_ | with_reducible refine and_imp.2 ?_ | intro))
 all_goals (first | (first | with_reducible rfl | with_reducible assumption | omega | (refine aq ?_ ?_ <;> omega)) | exact bI (by with_reducible assumption) | (rw [IN] <;> first | rfl | omega) | (rw [IK] <;> first | rfl | omega))
theorem Af (v:Int) (nx:Int) (kp:Int) (qt:Int) (se:List Sess) (op:List Opn) (sn:List Snap) (c:Command) (r0:Reply) (r1:Int) (r2:Int) (r3:Int) (r4:Int) (r5:List Sess) (r6:List Opn) (r7:List Snap) (r8:Command):oq aF mD [] Tryz.f42 [.c (.ptr 0 0),.c (.ptr 4 0),.c (.ptr 5 0)] [.box 26 ([.int (v),.int (nx),.int (kp),.int (qt),.own 1,.own 2,.own 3]),.row 44 (.nm .sess) (se),.row 77 (.nm .opn) (op),.row 59 (.nm .snap) (sn),.box 29 (cellsOf (.nm .command) (c)),.box 65 ([.fn 58 [] [(4,0),(0,0)]])] [.agg (cellsOf (.nm .reply) r0)] [.box 26 ([.int (r1),.int (r2),.int (r3),.int (r4),.own 1,.own 2,.own 3]),.row 44 (.nm .sess) (r5),.row 77 (.nm .opn) (r6),.row 59 (.nm .snap) (r7),.box 29 (cellsOf (.nm .command) (r8)),.box 65 ([.fn 58 [] [(4,0),(0,0)]])]=((fun (q2:Int)=>(fun (q1:Prop)=>(fun (q0:State × Reply)=>I64 q2->(q2<(0:Int)->I64 (15:Int)->I64 (0:Int)->(15:Int)=r0.code/\(0:Int)=r0.n/\v=r1/\nx=r2/\kp=r3/\qt=r4/\se=r5/\op=r6/\sn=r7/\q1)/\((0:Int)<=q2->((0:Int)<=q2/\q2<(↑sn.length:Int))/\(I64 q0.snd.code->I64 q0.snd.n->q0.snd.code=r0.code/\q0.snd.n=r0.n/\q0.fst.version=r1/\q0.fst.next=r2/\q0.fst.keep=r3/\q0.fst.quota=r4/\q0.fst.sess=r5/\q0.fst.opens=r6/\q0.fst.snaps=r7/\q1))) (cF c (State.mk v nx kp qt se op sn) q2.toNat)) (c.kind=r8.kind/\c.client=r8.client/\c.seq=r8.seq/\c.set=r8.set/\c.id=r8.id/\c.n=r8.n/\c.chunks=r8.chunks/\c.text=r8.text)) (ai Snap.id c.id sn)):=by kernel_rfl
theorem yr (v:Int) (nx:Int) (kp:Int) (qt:Int) (se:List Sess) (op:List Opn) (sn:List Snap) (c:Command):Sat Tryz.prog (au aF) 42 [.c (.ptr 0 0),.c (.ptr 4 0),.c (.ptr 5 0)] [.box 26 ([.int (v),.int (nx),.int (kp),.int (qt),.own 1,.own 2,.own 3]),.row 44 (.nm .sess) (se),.row 77 (.nm .opn) (op),.row 59 (.nm .snap) (sn),.box 29 (cellsOf (.nm .command) (c)),.box 65 ([.fn 58 [] [(4,0),(0,0)]])] ⟨[],[.agg (cellsOf (.nm .reply) ((ax (cF c) c (State.mk v nx kp qt se op sn)).2))],some ([.box 26 ([.int ((((ax (cF c) c (State.mk v nx kp qt se op sn)).1).version)),.int ((((ax (cF c) c (State.mk v nx kp qt se op sn)).1).next)),.int ((((ax (cF c) c (State.mk v nx kp qt se op sn)).1).keep)),.int ((((ax (cF c) c (State.mk v nx kp qt se op sn)).1).quota)),.own 1,.own 2,.own 3]),.row 44 (.nm .sess) ((((ax (cF c) c (State.mk v nx kp qt se op sn)).1).sess)),.row 77 (.nm .opn) ((((ax (cF c) c (State.mk v nx kp qt se op sn)).1).opens)),.row 59 (.nm .snap) ((((ax (cF c) c (State.mk v nx kp qt se op sn)).1).snaps)),.box 29 (cellsOf (.nm .command) ((c))),.box 65 ([.fn 58 [] [(4,0),(0,0)]])]),false⟩:=by
 refine dz eR [] Tryz.func42 (by decide) (by kernel_rfl) ?_
 rw [Af]
 (repeat' (first | with_reducible refine And.intro ?_ ?_ | with_reducible refine and_imp.2 ?_ | intro))
 all_goals (first | (first | with_reducible rfl | with_reducible assumption | omega | (refine aq ?_ ?_ <;> omega)) | exact bI (by with_reducible assumption) | (rw [IN] <;> first | rfl | omega) | (rw [IK] <;> first | rfl | omega))
theorem wc (v:Int) (nx:Int) (kp:Int) (qt:Int) (se:List Sess) (op:List Opn) (sn:List Snap) (c:Command) (b:Bool) (r0:Reply) (r1:Int) (r2:Int) (r3:Int) (r4:Int) (r5:List Sess) (r6:List Opn) (r7:List Snap) (r8:Command) (r9:Bool):oq aF mD [] Tryz.f42 [.c (.ptr 0 0),.c (.ptr 4 0),.c (.ptr 5 0)] [.box 26 ([.int (v),.int (nx),.int (kp),.int (qt),.own 1,.own 2,.own 3]),.row 44 (.nm .sess) (se),.row 77 (.nm .opn) (op),.row 59 (.nm .snap) (sn),.box 29 (cellsOf (.nm .command) (c)),.box 65 ([.fn 45 [] [(0,0),(6,0)]]),.box 4 ([.bool (.atom (b))])] [.agg (cellsOf (.nm .reply) r0)] [.box 26 ([.int (r1),.int (r2),.int (r3),.int (r4),.own 1,.own 2,.own 3]),.row 44 (.nm .sess) (r5),.row 77 (.nm .opn) (r6),.row 59 (.nm .snap) (r7),.box 29 (cellsOf (.nm .command) (r8)),.box 65 ([.fn 45 [] [(0,0),(6,0)]]),.box 4 ([.bool (.atom (r9))])]=((fun (q2:Int)=>(fun (q1:Prop)=>(fun (q0:State × Reply)=>I64 q2->(q2<(0:Int)->I64 (15:Int)->I64 (0:Int)->(15:Int)=r0.code/\(0:Int)=r0.n/\v=r1/\nx=r2/\kp=r3/\qt=r4/\se=r5/\op=r6/\sn=r7/\q1)/\((0:Int)<=q2->((0:Int)<=q2/\q2<(↑sn.length:Int))/\(I64 q0.snd.code->I64 q0.snd.n->q0.snd.code=r0.code/\q0.snd.n=r0.n/\q0.fst.version=r1/\q0.fst.next=r2/\q0.fst.keep=r3/\q0.fst.quota=r4/\q0.fst.sess=r5/\q0.fst.opens=r6/\q0.fst.snaps=r7/\q1))) (bq b (State.mk v nx kp qt se op sn) q2.toNat)) (c.kind=r8.kind/\c.client=r8.client/\c.seq=r8.seq/\c.set=r8.set/\c.id=r8.id/\c.n=r8.n/\c.chunks=r8.chunks/\c.text=r8.text/\b=r9)) (ai Snap.id c.id sn)):=by kernel_rfl
theorem wN (v:Int) (nx:Int) (kp:Int) (qt:Int) (se:List Sess) (op:List Opn) (sn:List Snap) (c:Command) (b:Bool):Sat Tryz.prog (au aF) 42 [.c (.ptr 0 0),.c (.ptr 4 0),.c (.ptr 5 0)] [.box 26 ([.int (v),.int (nx),.int (kp),.int (qt),.own 1,.own 2,.own 3]),.row 44 (.nm .sess) (se),.row 77 (.nm .opn) (op),.row 59 (.nm .snap) (sn),.box 29 (cellsOf (.nm .command) (c)),.box 65 ([.fn 45 [] [(0,0),(6,0)]]),.box 4 ([.bool (.atom (b))])] ⟨[],[.agg (cellsOf (.nm .reply) ((ax (bq b) c (State.mk v nx kp qt se op sn)).2))],some ([.box 26 ([.int ((((ax (bq b) c (State.mk v nx kp qt se op sn)).1).version)),.int ((((ax (bq b) c (State.mk v nx kp qt se op sn)).1).next)),.int ((((ax (bq b) c (State.mk v nx kp qt se op sn)).1).keep)),.int ((((ax (bq b) c (State.mk v nx kp qt se op sn)).1).quota)),.own 1,.own 2,.own 3]),.row 44 (.nm .sess) ((((ax (bq b) c (State.mk v nx kp qt se op sn)).1).sess)),.row 77 (.nm .opn) ((((ax (bq b) c (State.mk v nx kp qt se op sn)).1).opens)),.row 59 (.nm .snap) ((((ax (bq b) c (State.mk v nx kp qt se op sn)).1).snaps)),.box 29 (cellsOf (.nm .command) ((c))),.box 65 ([.fn 45 [] [(0,0),(6,0)]]),.box 4 ([.bool (.atom ((b)))])]),false⟩:=by
 refine dz eR [] Tryz.func42 (by decide) (by kernel_rfl) ?_
 rw [wc]
 (repeat' (first | with_reducible refine And.intro ?_ ?_ | with_reducible refine and_imp.2 ?_ | intro))
 all_goals (first | (first | with_reducible rfl | with_reducible assumption | omega | (refine aq ?_ ?_ <;> omega)) | exact bI (by with_reducible assumption) | (rw [IN] <;> first | rfl | omega) | (rw [IK] <;> first | rfl | omega))
def xY:cC:=(bR 42 (bJ (ah (kC (bU 0 0)) (ah (kC (bU 4 0)) (ah (kC (bU 5 0)) aO))) (aA (bT 26 (ak cI (ak cI (ak cI (ak cI (ak (bd 1) (ak (bd 2) (ak (bd 3) bP)))))))) (aA (bf 44 (.nm .sess)) (aA (bf 77 (.nm .opn)) (aA (bf 59 (.nm .snap)) (aA (bT 29 (qq (.nm .command) bP)) (aA (bT 65 (ak (lH 45 [] [(0,0),(6,0)]) bP)) (aA (bT 4 (ak cB bP)) aP))))))) fun (_,_,_,_) ((v,nx,kp,qt,_,_,_,_),se,op,sn,(c,_),(_,_),(b,_),_)=>⟨[],[.agg (cellsOf (.nm .reply) ((ax (bq b) c (State.mk v nx kp qt se op sn)).2))],some ([.box 26 ([.int ((((ax (bq b) c (State.mk v nx kp qt se op sn)).1).version)),.int ((((ax (bq b) c (State.mk v nx kp qt se op sn)).1).next)),.int ((((ax (bq b) c (State.mk v nx kp qt se op sn)).1).keep)),.int ((((ax (bq b) c (State.mk v nx kp qt se op sn)).1).quota)),.own 1,.own 2,.own 3]),.row 44 (.nm .sess) ((((ax (bq b) c (State.mk v nx kp qt se op sn)).1).sess)),.row 77 (.nm .opn) ((((ax (bq b) c (State.mk v nx kp qt se op sn)).1).opens)),.row 59 (.nm .snap) ((((ax (bq b) c (State.mk v nx kp qt se op sn)).1).snaps)),.box 29 (cellsOf (.nm .command) ((c))),.box 65 ([.fn 45 [] [(0,0),(6,0)]]),.box 4 ([.bool (.atom ((b)))])]),false⟩) (bR 42 (bJ (ah (kC (bU 0 0)) (ah (kC (bU 4 0)) (ah (kC (bU 5 0)) aO))) (aA (bT 26 (ak cI (ak cI (ak cI (ak cI (ak (bd 1) (ak (bd 2) (ak (bd 3) bP)))))))) (aA (bf 44 (.nm .sess)) (aA (bf 77 (.nm .opn)) (aA (bf 59 (.nm .snap)) (aA (bT 29 (qq (.nm .command) bP)) (aA (bT 65 (ak (lH 58 [] [(4,0),(0,0)]) bP)) aP)))))) fun (_,_,_,_) ((v,nx,kp,qt,_,_,_,_),se,op,sn,(c,_),(_,_),_)=>⟨[],[.agg (cellsOf (.nm .reply) ((ax (cF c) c (State.mk v nx kp qt se op sn)).2))],some ([.box 26 ([.int ((((ax (cF c) c (State.mk v nx kp qt se op sn)).1).version)),.int ((((ax (cF c) c (State.mk v nx kp qt se op sn)).1).next)),.int ((((ax (cF c) c (State.mk v nx kp qt se op sn)).1).keep)),.int ((((ax (cF c) c (State.mk v nx kp qt se op sn)).1).quota)),.own 1,.own 2,.own 3]),.row 44 (.nm .sess) ((((ax (cF c) c (State.mk v nx kp qt se op sn)).1).sess)),.row 77 (.nm .opn) ((((ax (cF c) c (State.mk v nx kp qt se op sn)).1).opens)),.row 59 (.nm .snap) ((((ax (cF c) c (State.mk v nx kp qt se op sn)).1).snaps)),.box 29 (cellsOf (.nm .command) ((c))),.box 65 ([.fn 58 [] [(4,0),(0,0)]])]),false⟩) (bR 42 (bJ (ah (kC (bU 0 0)) (ah (kC (bU 4 0)) (ah (kC (bU 5 0)) aO))) (aA (bT 26 (ak cI (ak cI (ak cI (ak cI (ak (bd 1) (ak (bd 2) (ak (bd 3) bP)))))))) (aA (bf 44 (.nm .sess)) (aA (bf 77 (.nm .opn)) (aA (bf 59 (.nm .snap)) (aA (bT 29 (qq (.nm .command) bP)) (aA (bT 65 (ak (lH 57 [] [(0,0)]) bP)) aP)))))) fun (_,_,_,_) ((v,nx,kp,qt,_,_,_,_),se,op,sn,(c,_),(_,_),_)=>⟨[],[.agg (cellsOf (.nm .reply) ((ax bj c (State.mk v nx kp qt se op sn)).2))],some ([.box 26 ([.int ((((ax bj c (State.mk v nx kp qt se op sn)).1).version)),.int ((((ax bj c (State.mk v nx kp qt se op sn)).1).next)),.int ((((ax bj c (State.mk v nx kp qt se op sn)).1).keep)),.int ((((ax bj c (State.mk v nx kp qt se op sn)).1).quota)),.own 1,.own 2,.own 3]),.row 44 (.nm .sess) ((((ax bj c (State.mk v nx kp qt se op sn)).1).sess)),.row 77 (.nm .opn) ((((ax bj c (State.mk v nx kp qt se op sn)).1).opens)),.row 59 (.nm .snap) ((((ax bj c (State.mk v nx kp qt se op sn)).1).snaps)),.box 29 (cellsOf (.nm .command) ((c))),.box 65 ([.fn 57 [] [(0,0)]])]),false⟩) (bR 42 (bJ (ah (kC (bU 0 0)) (ah (kC (bU 4 0)) (ah (kC (bU 5 0)) aO))) (aA (bT 26 (ak cI (ak cI (ak cI (ak cI (ak (bd 1) (ak (bd 2) (ak (bd 3) bP)))))))) (aA (bf 44 (.nm .sess)) (aA (bf 77 (.nm .opn)) (aA (bf 59 (.nm .snap)) (aA (bT 29 (qq (.nm .command) bP)) (aA (bT 65 (ak (lH 55 [] [(0,0)]) bP)) aP)))))) fun (_,_,_,_) ((v,nx,kp,qt,_,_,_,_),se,op,sn,(c,_),(_,_),_)=>⟨[nch sn<=1048576],[.agg (cellsOf (.nm .reply) ((ax aK c (State.mk v nx kp qt se op sn)).2))],some ([.box 26 ([.int ((((ax aK c (State.mk v nx kp qt se op sn)).1).version)),.int ((((ax aK c (State.mk v nx kp qt se op sn)).1).next)),.int ((((ax aK c (State.mk v nx kp qt se op sn)).1).keep)),.int ((((ax aK c (State.mk v nx kp qt se op sn)).1).quota)),.own 1,.own 2,.own 3]),.row 44 (.nm .sess) ((((ax aK c (State.mk v nx kp qt se op sn)).1).sess)),.row 77 (.nm .opn) ((((ax aK c (State.mk v nx kp qt se op sn)).1).opens)),.row 59 (.nm .snap) ((((ax aK c (State.mk v nx kp qt se op sn)).1).snaps)),.box 29 (cellsOf (.nm .command) ((c))),.box 65 ([.fn 55 [] [(0,0)]])]),false⟩) (bR 44 (bJ (ah (kC cB) (ah (kC (bU 0 0)) (ah (kC (bU 1 0)) aO))) (aA (bT 67 (ak (lH 41 [] [(1,0),(5,0)]) bP)) (aA (bT 26 (ak cI (ak cI (ak cI (ak cI (ak (bd 2) (ak (bd 3) (ak (bd 4) bP)))))))) (aA (bf 44 (.nm .sess)) (aA (bf 77 (.nm .opn)) (aA (bf 59 (.nm .snap)) (aA (bT 29 (qq (.nm .command) bP)) aP)))))) fun (b,_,_,_) ((_,_),(v,nx,kp,qt,_,_,_,_),se,op,sn,(c,_),_)=>⟨[],[.c (.fn 42 [] [(1,0),(5,0),(7,0)])],some ([.box 67 ([.fn 41 [] [(1,0),(5,0)]]),.box 26 ([.int ((v)),.int ((nx)),.int ((kp)),.int ((qt)),.own 2,.own 3,.own 4]),.row 44 (.nm .sess) ((se)),.row 77 (.nm .opn) ((op)),.row 59 (.nm .snap) ((sn)),.box 29 (cellsOf (.nm .command) ((c))),.box 4 ([.bool (.atom ((b)))]),.box 65 ([.fn 45 [] [(1,0),(6,0)]])]),true⟩) mD)))))
theorem rz:aX Tryz.prog (au aF) xY:=(az (ay (ab (av aJ) (ab (av aJ) (ab (av aJ) al))) (ag (aH (ae aw (ae aw (ae aw (ae aw (ae aB (ae aB (ae aB aG)))))))) (ag aC (ag aC (ag aC (ag (aH (cX aG)) (ag (aH (ae b_ aG)) (ag (aH (ae ox aG)) ao))))))) fun (_,_,_,_) ((v,nx,kp,qt,_,_,_,_),se,op,sn,(c,_),(_,_),(b,_),_) _=>wN v nx kp qt se op sn c b ) (az (ay (ab (av aJ) (ab (av aJ) (ab (av aJ) al))) (ag (aH (ae aw (ae aw (ae aw (ae aw (ae aB (ae aB (ae aB aG)))))))) (ag aC (ag aC (ag aC (ag (aH (cX aG)) (ag (aH (ae b_ aG)) ao)))))) fun (_,_,_,_) ((v,nx,kp,qt,_,_,_,_),se,op,sn,(c,_),(_,_),_) _=>yr v nx kp qt se op sn c ) (az (ay (ab (av aJ) (ab (av aJ) (ab (av aJ) al))) (ag (aH (ae aw (ae aw (ae aw (ae aw (ae aB (ae aB (ae aB aG)))))))) (ag aC (ag aC (ag aC (ag (aH (cX aG)) (ag (aH (ae b_ aG)) ao)))))) fun (_,_,_,_) ((v,nx,kp,qt,_,_,_,_),se,op,sn,(c,_),(_,_),_) _=>wz v nx kp qt se op sn c ) (az (ay (ab (av aJ) (ab (av aJ) (ab (av aJ) al))) (ag (aH (ae aw (ae aw (ae aw (ae aw (ae aB (ae aB (ae aB aG)))))))) (ag aC (ag aC (ag aC (ag (aH (cX aG)) (ag (aH (ae b_ aG)) ao)))))) fun (_,_,_,_) ((v,nx,kp,qt,_,_,_,_),se,op,sn,(c,_),(_,_),_) hp=>tT v nx kp qt se op sn c (eP hp)) (az (ay (ab (av ox) (ab (av aJ) (ab (av aJ) al))) (ag (aH (ae b_ aG)) (ag (aH (ae aw (ae aw (ae aw (ae aw (ae aB (ae aB (ae aB aG)))))))) (ag aC (ag aC (ag aC (ag (aH (cX aG)) ao)))))) fun (b,_,_,_) ((_,_),(v,nx,kp,qt,_,_,_,_),se,op,sn,(c,_),_) _=>GK b v nx kp qt se op sn c ) eR)))))
end Go.Proofs.YtdggohppeeaipaaGreat
namespace Go.Proofs.YtdggohppeeaipaaGreat
open Go.RowKit
def bN (s:State) (c:Command):Int:=if mayF s s.version=0 then bh c s.version else 1
def nB (s:State) (c:Command):State × Reply:=
 if c.kind=11 then ax (cF c) c s
 else if c.kind=10 then ax (bq false) c s
 else if c.kind=9 then ax (bq true) c s
 else if c.kind=7 then ax bj c s
 else if c.kind=5 then ax aK c s
 else if c.kind=12 then cn c s
 else if c.kind=6 then df c s
 else if c.kind=4 then a_ s c
 else if c.kind=3 then aS s c
 else if c.kind=2 then aW s c
 else (s,⟨1,0⟩)
def bz (s:State) (c:Command):State × Reply:=if ¬ bN s c=0 then (s,⟨bN s c,0⟩) else nB s c
theorem pG {α:Type} {key:α->Int} {most:Int}:∀ {l:List α} {a:Int},aj key most a l=true->l=[]\/a+(l.length:Int)<=most
 | [],_,_=>.inl rfl
 | x :: l,a,h=>by
  simp only [aj,Bool.and_eq_true] at h
  have h1:=lf h.1
  rcases pG h.2 with h2 | h2
  ·subst h2; right; simp only [List.length_cons,List.length_nil]; omega
  ·right; simp only [List.length_cons]; omega
theorem bM {s:State} {v:Int} (h:mayF s v=0):aQ v 1 3=true/\bY s v=true/\gU s=true/\fK s=true/\cQ s v=true:=by
 unfold mayF at h
 split at h
 ·omega
 ·rename_i h1
  split at h
  ·omega
  ·rename_i h2
   simp at h1 h2
   exact ⟨h1,h2.1.1.1,h2.1.1.2,h2.1.2,h2.2⟩
theorem GP {s:State} {v:Int} (h:mayF s v=0):s.opens.length<=8:=by
 have h1:=(bM h).2.2.2.1
 simp only [fK,Bool.and_eq_true] at h1
 rcases pG h1.1 with h2 | h2
 ·rw [h2]; simp
 ·omega
theorem FV {s:State} {v:Int} (h:mayF s v=0):s.sess.length<=8:=by
 have h1:=(bM h).2.2.1
 simp only [gU,Bool.and_eq_true] at h1
 rcases pG h1.1 with h2 | h2
 ·rw [h2]; simp
 ·omega
theorem eN {s:State} {v:Int} (h:mayF s v=0):s.snaps.length<=16/\aj Snap.id (s.next - 1) 0 s.snaps=true/\∀ x ∈ s.snaps,bl v (cG v) x=true:=by
 have h1:=(bM h).2.2.2.2
 simp only [cQ,Bool.and_eq_true,Bool.not_eq_true',Bool.or_eq_false_iff,decide_eq_false_iff_not,Bool.not_eq_false',List.all_eq_true] at h1
 exact ⟨by omega,h1.1.2,h1.2⟩
theorem Ay {x:Snap} {v t:Int} (h:bl v t x=true):cr x.chunks=true:=by
 simp only [bl,Bool.and_eq_true,decide_eq_true_eq] at h
 cases hr:cr x.chunks with
 | true=>rfl
 | false=>have:=fw (l:=x.chunks) hr; omega
theorem yP:∀ {l:List Snap},(∀ x ∈ l,cr x.chunks=true)->nch l<=8*l.length
 | [],_=>Nat.le_refl _
 | x :: l,h=>by
  have h1:=yP (l:=l) fun y hy=>h y (List.mem_cons_of_mem _ hy)
  have h2:=(oR (h x (List.mem_cons_self))).2
  have e:nch (x :: l)=x.chunks.length+nch l:=by simp [nch]
  rw [e,List.length_cons]; omega
theorem DD {s:State} {v:Int} (h:mayF s v=0):nch s.snaps<=128:=by
 have h1:=eN h
 have:=yP (l:=s.snaps) fun x hx=>Ay (h1.2.2 x hx)
 omega
theorem ki {s:State} {v:Int} (h:mayF s v=0):1<=s.next/\s.next<=1048576:=by
 have h1:=(bM h).2.1
 simp only [bY,Bool.and_eq_true] at h1
 exact lf h1.1.1.2
theorem qV {s:State} {c:Command} (h:(if mayF s s.version=0 then bh c s.version else 1)=0):mayF s s.version=0:=by
 split at h
 ·assumption
 ·omega
theorem EV {s:State} {c:Command} (h:(if mayF s s.version=0 then bh c s.version else 1)=0):nch s.snaps<=1048576:=by have:=DD (qV h); omega
theorem Hu {s:State} {c:Command} (h:(if mayF s s.version=0 then bh c s.version else 1)=0):s.opens.length<1048576:=by have:=GP (qV h); omega
theorem vl {s:State} {c:Command} (h:(if mayF s s.version=0 then bh c s.version else 1)=0):s.sess.length<1048576:=by have:=FV (qV h); omega
theorem HN {s:State} {c:Command} (h:(if mayF s s.version=0 then bh c s.version else 1)=0):s.snaps.length<1048576:=by have:=(eN (qV h)).1; omega
theorem Iz {s:State} {c:Command} (h:(if mayF s s.version=0 then bh c s.version else 1)=0):0<=s.next:=by have:=ki (qV h); omega
theorem DR {s:State} {c:Command} (h:(if mayF s s.version=0 then bh c s.version else 1)=0):bz s c=nB s c:=by
 have h:bN s c=0:=h
 rw [bz,h]; rfl
theorem Jf {s:State} {c:Command} (h:¬ (if mayF s s.version=0 then bh c s.version else 1)=0):bz s c=(s,⟨(if mayF s s.version=0 then bh c s.version else 1),0⟩):=by
 have h:¬ bN s c=0:=h
 rw [bz,if_pos h]; rfl
theorem GA (st:State) (c:Command) (r0:Int) (r1:Int) (r2:Int) (r3:Int) (r4:Reply) (r5:List Sess) (r6:List Opn) (r7:List Snap):tu aF xY [] Tryz.f14 [.agg (cellsOf (.nm .state) st),.agg (cellsOf (.nm .command) c)] [] [.agg ([.int (r0),.int (r1),.int (r2),.int (r3),.own 0,.own 1,.own 2]),.agg (cellsOf (.nm .reply) r4)] [.row 44 (.nm .sess) (r5),.row 77 (.nm .opn) (r6),.row 59 (.nm .snap) (r7)]=((fun (q18:Reply)=>(fun (q17:Int)=>(fun (q16:Int)=>(fun (q15:Prop)=>(fun (q14:Prop)=>(fun (q13:Int)=>(fun (q12:State)=>(fun (q11:Prop)=>(fun (q10:State × Reply)=>(fun (q9:State × Reply)=>(fun (q8:State × Reply)=>(fun (q7:Int)=>(fun (q6:State × Reply)=>(fun (q5:State × Reply)=>(fun (q4:State × Reply)=>(fun (q3:State × Reply)=>(fun (q2:State × Reply)=>(fun (q1:State × Reply)=>(fun (q0:Int)=>I64 q17->I64 st.next->I64 st.keep->I64 st.quota->st.sess.length*(32:Nat)<=(140737488355328:Nat)->st.opens.length*(16:Nat)<=(140737488355328:Nat)->st.snaps.length*(64:Nat)<=(140737488355328:Nat)->I64 q7->I64 c.client->I64 c.seq->I64 c.set->I64 c.id->I64 c.n->c.chunks.length*(8:Nat)<=(140737488355328:Nat)->c.text.b.length<=(140737488355328:Nat)->I64 q17->I64 st.next->I64 st.keep->I64 st.quota->I64 q0->(¬q0=q16->I64 q0->I64 q16->q17=r0/\st.next=r1/\st.keep=r2/\st.quota=r3/\q0=q13/\q11)/\(q0=q16->(q7=(11:Int)->I64 q3.snd.code->I64 q3.snd.n->q3.fst.version=r0/\q3.fst.next=r1/\q3.fst.keep=r2/\q3.fst.quota=r3/\q3.snd.code=q13/\q3.snd.n=r4.n/\q3.fst.sess=r5/\q3.fst.opens=r6/\q3.fst.snaps=r7)/\(¬q7=(11:Int)->(q7=(10:Int)->I64 q1.snd.code->I64 q1.snd.n->q1.fst.version=r0/\q1.fst.next=r1/\q1.fst.keep=r2/\q1.fst.quota=r3/\q1.snd.code=q13/\q1.snd.n=r4.n/\q1.fst.sess=r5/\q1.fst.opens=r6/\q1.fst.snaps=r7)/\(¬q7=(10:Int)->(q7=(9:Int)->I64 q2.snd.code->I64 q2.snd.n->q2.fst.version=r0/\q2.fst.next=r1/\q2.fst.keep=r2/\q2.fst.quota=r3/\q2.snd.code=q13/\q2.snd.n=r4.n/\q2.fst.sess=r5/\q2.fst.opens=r6/\q2.fst.snaps=r7)/\(¬q7=(9:Int)->(q7=(7:Int)->I64 q4.snd.code->I64 q4.snd.n->q4.fst.version=r0/\q4.fst.next=r1/\q4.fst.keep=r2/\q4.fst.quota=r3/\q4.snd.code=q13/\q4.snd.n=r4.n/\q4.fst.sess=r5/\q4.fst.opens=r6/\q4.fst.snaps=r7)/\(¬q7=(7:Int)->(q7=(5:Int)->q15/\(I64 q5.snd.code->I64 q5.snd.n->q5.fst.version=r0/\q5.fst.next=r1/\q5.fst.keep=r2/\q5.fst.quota=r3/\q5.snd.code=q13/\q5.snd.n=r4.n/\q5.fst.sess=r5/\q5.fst.opens=r6/\q5.fst.snaps=r7))/\(¬q7=(5:Int)->(q7=(12:Int)->q15/\(I64 q10.snd.code->I64 q10.snd.n->q10.fst.version=r0/\q10.fst.next=r1/\q10.fst.keep=r2/\q10.fst.quota=r3/\q10.snd.code=q13/\q10.snd.n=r4.n/\q10.fst.sess=r5/\q10.fst.opens=r6/\q10.fst.snaps=r7))/\(¬q7=(12:Int)->(q7=(6:Int)->I64 q18.code->I64 q18.n->q12.version=r0/\q12.next=r1/\q12.keep=r2/\q12.quota=r3/\q18.code=q13/\q18.n=r4.n/\q12.sess=r5/\q12.opens=r6/\q12.snaps=r7)/\(¬q7=(6:Int)->(q7=(4:Int)->q14/\(I64 q8.snd.code->I64 q8.snd.n->q8.fst.version=r0/\q8.fst.next=r1/\q8.fst.keep=r2/\q8.fst.quota=r3/\q8.snd.code=q13/\q8.snd.n=r4.n/\q8.fst.sess=r5/\q8.fst.opens=r6/\q8.fst.snaps=r7))/\(¬q7=(4:Int)->(q7=(3:Int)->q15/\st.snaps.length<(1048576:Nat)/\q14/\q16<=st.next/\(I64 q6.snd.code->I64 q6.snd.n->q6.fst.version=r0/\q6.fst.next=r1/\q6.fst.keep=r2/\q6.fst.quota=r3/\q6.snd.code=q13/\q6.snd.n=r4.n/\q6.fst.sess=r5/\q6.fst.opens=r6/\q6.fst.snaps=r7))/\(¬q7=(3:Int)->(q7=(2:Int)->q14/\(I64 q9.snd.code->I64 q9.snd.n->q9.fst.version=r0/\q9.fst.next=r1/\q9.fst.keep=r2/\q9.fst.quota=r3/\q9.snd.code=q13/\q9.snd.n=r4.n/\q9.fst.sess=r5/\q9.fst.opens=r6/\q9.fst.snaps=r7))/\(¬q7=(2:Int)->I64 (1:Int)->I64 q16->q17=r0/\st.next=r1/\st.keep=r2/\st.quota=r3/\(1:Int)=q13/\q11)))))))))))) (if mayF st q17=q16 then bh c q17 else (1:Int))) (ax (bq false) c st)) (ax (bq true) c st)) (ax (cF c) c st)) (ax bj c st)) (ax aK c st)) (aS st c)) c.kind) (a_ st c)) (aW st c)) (cn c st)) (q16=r4.n/\st.sess=r5/\st.opens=r6/\st.snaps=r7)) (df c st).fst) r4.code) (st.opens.length<(1048576:Nat))) (nch st.snaps<=(1048576:Nat))) (0:Int)) st.version) (df c st).snd):=by kernel_rfl
theorem Gh (st:State) (c:Command):Sat Tryz.prog (au aF) 14 [.agg (cellsOf (.nm .state) st),.agg (cellsOf (.nm .command) c)] [] ⟨[],[.agg ([.int (((bz st c).1.version)),.int (((bz st c).1.next)),.int (((bz st c).1.keep)),.int (((bz st c).1.quota)),.own 0,.own 1,.own 2]),.agg (cellsOf (.nm .reply) ((bz st c).2))],some ([.row 44 (.nm .sess) (((bz st c).1.sess)),.row 77 (.nm .opn) (((bz st c).1.opens)),.row 59 (.nm .snap) (((bz st c).1.snaps))]),true⟩:=by
 refine eA rz [] Tryz.func14 (by decide) (by kernel_rfl) ?_
 rw [GA]
 (repeat' (first | with_reducible refine And.intro ?_ ?_ | with_reducible refine and_imp.2 ?_ | intro))
 all_goals (first | (first | with_reducible rfl | with_reducible assumption | omega | (refine aq ?_ ?_ <;> omega)) | exact (EV (by with_reducible assumption)) | exact (Hu (by with_reducible assumption)) | exact (vl (by with_reducible assumption)) | exact (HN (by with_reducible assumption)) | exact (Iz (by with_reducible assumption)) | (rw [Jf (by with_reducible assumption)]; done) | (rw [DR (by with_reducible assumption)]; simp only [nB, *]; done) | (rw [DR (by with_reducible assumption)]; simp [nB, *]; done))
def xS:cC:=(bR 14 (bJ (ah (kT (.nm .state)) (ah (kT (.nm .command)) aO)) aP fun (st,c,_) (_)=>⟨[],[.agg ([.int (((bz st c).1.version)),.int (((bz st c).1.next)),.int (((bz st c).1.keep)),.int (((bz st c).1.quota)),.own 0,.own 1,.own 2]),.agg (cellsOf (.nm .reply) ((bz st c).2))],some ([.row 44 (.nm .sess) (((bz st c).1.sess)),.row 77 (.nm .opn) (((bz st c).1.opens)),.row 59 (.nm .snap) (((bz st c).1.snaps))]),true⟩) xY)
theorem sq:aX Tryz.prog (au aF) xS:=(az (ay (ab bK (ab bK al)) ao fun (st,c,_) (_) _=>Gh st c ) rz)
end Go.Proofs.YtdggohppeeaipaaGreat
namespace Go.Proofs.YtdggohppeeaipaaGreat
open Go.RowKit
def bm (s:State) (c:Command):State × Reply:=
 if ai Sess.client c.client s.sess<0 then (s,⟨11,0⟩)
 else if c.seq=(s.sess.getD (ai Sess.client c.client s.sess).toNat (dflt (.nm .sess))).seq then (s,(s.sess.getD (ai Sess.client c.client s.sess).toNat (dflt (.nm .sess))).last)
 else if c.seq<(s.sess.getD (ai Sess.client c.client s.sess).toNat (dflt (.nm .sess))).seq then (s,⟨13,0⟩)
 else if (s.sess.getD (ai Sess.client c.client s.sess).toNat (dflt (.nm .sess))).seq+1<c.seq then (s,⟨14,0⟩)
 else ({ (bz s c).1 with sess:=(bz s c).1.sess.set (ai Sess.client c.client s.sess).toNat { (bz s c).1.sess.getD (ai Sess.client c.client s.sess).toNat (dflt (.nm .sess)) with seq:=c.seq,last:=(bz s c).2 } },(bz s c).2)
def cY (s:State) (c:Command):State × Reply:=
 if ¬ bN s c=0 then (s,⟨bN s c,0⟩)
 else if c.kind=8 then (if ¬ c.n=s.version+1 then (s,⟨1,0⟩) else ({ s with version:=c.n },⟨0,c.n⟩))
 else if c.kind=1 then (if 0<=ai Sess.client c.client s.sess then (s,⟨12,0⟩) else ({ s with sess:=fG s.sess (s.sess.takeWhile fun y=>decide (y.client<c.client)).length ⟨c.client,0,⟨0,0⟩⟩ },⟨0,0⟩))
 else bm s c
theorem BY {Q:State × Reply->Prop} {s:State} {c:Command} (h0:∀ e:Int,¬ e=0->Q (s,⟨e,0⟩))
  (hs:∀ f:State->Nat->State × Reply,bN s c=0->(f=cF c\/(∃ b,f=bq b)\/f=bj\/f=aK)->Q (ax f c s))
  (hq:bN s c=0->Q (cn c s)) (hk:bN s c=0->Q (df c s)) (ha:bN s c=0->Q (a_ s c)) (hc:bN s c=0->Q (aS s c)) (hb:bN s c=0->Q (aW s c)):Q (bz s c):=by
 unfold bz
 split
 ·exact h0 _ (by assumption)
 ·rename_i h
  have h:bN s c=0:=Classical.not_not.1 h
  unfold nB
  split
  ·exact hs _ h (.inl rfl)
  split
  ·exact hs _ h (.inr (.inl ⟨_,rfl⟩))
  split
  ·exact hs _ h (.inr (.inl ⟨_,rfl⟩))
  split
  ·exact hs _ h (.inr (.inr (.inl rfl)))
  split
  ·exact hs _ h (.inr (.inr (.inr rfl)))
  split
  ·exact hq h
  split
  ·exact hk h
  split
  ·exact ha h
  split
  ·exact hc h
  split
  ·exact hb h
  ·exact h0 1 (by decide)
theorem wD {Q:State × Reply->Prop} {f:State->Nat->State × Reply} {s:State} {c:Command} (h0:∀ e:Int,¬ e=0->Q (s,⟨e,0⟩)) (h:∀ n:Nat,(n:Int)=ai Snap.id c.id s.snaps->Q (f s n)):Q (ax f c s):=by
 unfold ax
 split
 ·exact h0 15 (by decide)
 ·exact h _ (by omega)
theorem oB {s:State} {c:Command}:(bz s c).1.sess=s.sess:=by
 refine BY (Q:=fun r=>r.1.sess=s.sess) (fun _ _=>rfl) (fun f _ hf=>?_) (fun _=>rfl) (fun _=>rfl) (fun _=>?_) (fun _=>?_) (fun _=>?_)
 ·refine wD (Q:=fun r=>r.1.sess=s.sess) (fun _ _=>rfl) fun n _=>?_
  rcases hf with rfl | ⟨b,rfl⟩ | rfl | rfl
  ·rfl
  ·unfold bq; split <;> rfl
  ·rfl
  ·unfold aK; split; rfl; split <;> rfl
 ·unfold a_; split <;> rfl
 ·unfold aS; split; rfl; split; rfl; split <;> rfl
 ·unfold aW; split <;> rfl
theorem sQ {l:List Sess} {k:Nat} {q:Int} {R:Reply} (h:k<l.length):(l.set k (Sess.mk (l.getD k (dflt (.nm .sess))).client q (l.getD k (dflt (.nm .sess))).last)).set k (Sess.mk ((l.set k (Sess.mk (l.getD k (dflt (.nm .sess))).client q (l.getD k (dflt (.nm .sess))).last)).getD k (dflt (.nm .sess))).client ((l.set k (Sess.mk (l.getD k (dflt (.nm .sess))).client q (l.getD k (dflt (.nm .sess))).last)).getD k (dflt (.nm .sess))).seq R)=l.set k { l.getD k (dflt (.nm .sess)) with seq:=q,last:=R }:=by
 have e:∀ x:Sess,(l.set k x).getD k (dflt (.nm .sess))=x:=fun x=>by
  rw [List.getD_eq_getElem?_getD,List.getElem?_set_self h]; rfl
 rw [e,List.set_set]
section
variable {v nx kp qt:Int} {se:List Sess} {op:List Opn} {sn:List Snap} {c:Command}
theorem IX (h:ai Sess.client c.client se<0):bm (State.mk v nx kp qt se op sn) c=(State.mk v nx kp qt se op sn,⟨11,0⟩):=by
 simp only [bm,if_pos h]
theorem IH (h:0<=ai Sess.client c.client se) (e:c.seq=(se.getD (ai Sess.client c.client se).toNat (dflt (.nm .sess))).seq):bm (State.mk v nx kp qt se op sn) c=(State.mk v nx kp qt se op sn,(se.getD (ai Sess.client c.client se).toNat (dflt (.nm .sess))).last):=by
 have h1:¬ ai Sess.client c.client se<0:=by omega
 simp only [bm,if_neg h1,if_pos e]
theorem IU (h:0<=ai Sess.client c.client se) (e:¬ c.seq=(se.getD (ai Sess.client c.client se).toNat (dflt (.nm .sess))).seq) (l:c.seq<(se.getD (ai Sess.client c.client se).toNat (dflt (.nm .sess))).seq):bm (State.mk v nx kp qt se op sn) c=(State.mk v nx kp qt se op sn,⟨13,0⟩):=by
 have h1:¬ ai Sess.client c.client se<0:=by omega
 simp only [bm,if_neg h1,if_neg e,if_pos l]
theorem II (h:0<=ai Sess.client c.client se) (e:¬ c.seq=(se.getD (ai Sess.client c.client se).toNat (dflt (.nm .sess))).seq) (l:(se.getD (ai Sess.client c.client se).toNat (dflt (.nm .sess))).seq<=c.seq) (g:(se.getD (ai Sess.client c.client se).toNat (dflt (.nm .sess))).seq+1<c.seq):bm (State.mk v nx kp qt se op sn) c=(State.mk v nx kp qt se op sn,⟨14,0⟩):=by
 have h1:¬ ai Sess.client c.client se<0:=by omega
 have h2:¬ c.seq<(se.getD (ai Sess.client c.client se).toNat (dflt (.nm .sess))).seq:=by omega
 simp only [bm,if_neg h1,if_neg e,if_neg h2,if_pos g]
theorem Ka (h:0<=ai Sess.client c.client se) (e:¬ c.seq=(se.getD (ai Sess.client c.client se).toNat (dflt (.nm .sess))).seq) (l:(se.getD (ai Sess.client c.client se).toNat (dflt (.nm .sess))).seq<=c.seq) (g:c.seq<=(se.getD (ai Sess.client c.client se).toNat (dflt (.nm .sess))).seq+1):bm (State.mk v nx kp qt se op sn) c=({ (bz (State.mk v nx kp qt se op sn) c).1 with sess:=(bz (State.mk v nx kp qt se op sn) c).1.sess.set (ai Sess.client c.client se).toNat { (bz (State.mk v nx kp qt se op sn) c).1.sess.getD (ai Sess.client c.client se).toNat (dflt (.nm .sess)) with seq:=c.seq,last:=(bz (State.mk v nx kp qt se op sn) c).2 } },(bz (State.mk v nx kp qt se op sn) c).2):=by
 have h1:¬ ai Sess.client c.client se<0:=by omega
 have h2:¬ c.seq<(se.getD (ai Sess.client c.client se).toNat (dflt (.nm .sess))).seq:=by omega
 have h3:¬ (se.getD (ai Sess.client c.client se).toNat (dflt (.nm .sess))).seq+1<c.seq:=by omega
 simp only [bm,if_neg h1,if_neg e,if_neg h2,if_neg h3]
theorem yw (h:0<=ai Sess.client c.client se):ai Sess.client c.client se<((bz (State.mk v nx kp qt se op sn) c).1.sess.length:Int):=by rw [oB]; exact bI h
theorem sC (h:0<=ai Sess.client c.client se):(ai Sess.client c.client se).toNat<(bz (State.mk v nx kp qt se op sn) c).1.sess.length:=by have:=yw (v:=v) (nx:=nx) (kp:=kp) (qt:=qt) (op:=op) (sn:=sn) h; omega
theorem HZ {x:Sess} (h:0<=ai Sess.client c.client se):ai Sess.client c.client se<(((bz (State.mk v nx kp qt se op sn) c).1.sess.set (ai Sess.client c.client se).toNat x).length:Int):=by rw [List.length_set]; exact yw h
theorem Jj (h:bN (State.mk v nx kp qt se op sn) c=0) (h0:0<=ai Sess.client c.client se):I64 ((se.getD (ai Sess.client c.client se).toNat (dflt (.nm .sess))).seq+1):=by
 have h1:=(bM (qV h)).2.2.1
 simp only [gU,Bool.and_eq_true,List.all_eq_true] at h1
 have h2:=h1.2 _ (List.mem_of_getElem? (gd (d:=dflt (.nm .sess)) (k:=(ai Sess.client c.client se).toNat) (l:=se) (by have:=bI h0; omega)))
 simp only [aM,Bool.and_eq_true] at h2
 have h3:=lf h2.1.1
 constructor <;> omega
end
theorem zR (v:Int) (nx:Int) (kp:Int) (qt:Int) (c:Command) (se:List Sess) (op:List Opn) (sn:List Snap) (r0:Int) (r1:Int) (r2:Int) (r3:Int) (r4:Reply) (r5:List Sess) (r6:List Opn) (r7:List Snap):oq aF xS [] Tryz.f37 [.agg ([.int (v),.int (nx),.int (kp),.int (qt),.own 0,.own 1,.own 2]),.agg (cellsOf (.nm .command) c)] [.row 44 (.nm .sess) (se),.row 77 (.nm .opn) (op),.row 59 (.nm .snap) (sn)] [.agg ([.int (r0),.int (r1),.int (r2),.int (r3),.own 0,.own 1,.own 2]),.agg (cellsOf (.nm .reply) r4)] [.row 44 (.nm .sess) (r5),.row 77 (.nm .opn) (r6),.row 59 (.nm .snap) (r7)]=((fun (q7:Prop)=>(fun (q6:Int)=>(fun (q5:Int)=>(fun (q4:Prop)=>(fun (q3:den (Sh.nm NT.sess))=>(fun (q2:State × Reply)=>(fun (q1:Int)=>(fun (q0:den (Sh.nm NT.sess))=>I64 v->I64 nx->I64 kp->I64 qt->I64 c.kind->I64 c.client->I64 q6->I64 c.set->I64 c.id->I64 c.n->c.chunks.length*(8:Nat)<=(140737488355328:Nat)->c.text.b.length<=(140737488355328:Nat)->I64 q1->(q1<q5->I64 (11:Int)->I64 q5->v=r0/\nx=r1/\kp=r2/\qt=r3/\(11:Int)=r4.code/\q4)/\(q5<=q1->q5<=q1/\q1<(↑se.length:Int)/\(I64 (se.getD q1.toNat q3).client->I64 (se.getD q1.toNat q3).seq->I64 (se.getD q1.toNat q3).last.code->I64 (se.getD q1.toNat q3).last.n->(q6=(se.getD q1.toNat q3).seq->v=r0/\nx=r1/\kp=r2/\qt=r3/\(se.getD q1.toNat q3).last.code=r4.code/\(se.getD q1.toNat q3).last.n=r4.n/\q7)/\(¬q6=(se.getD q1.toNat q3).seq->(q6<(se.getD q1.toNat q3).seq->I64 (13:Int)->I64 q5->v=r0/\nx=r1/\kp=r2/\qt=r3/\(13:Int)=r4.code/\q4)/\((se.getD q1.toNat q3).seq<=q6->I64 ((se.getD q1.toNat q3).seq+(1:Int))/\((se.getD q1.toNat q3).seq+(1:Int)<q6->I64 (14:Int)->I64 q5->v=r0/\nx=r1/\kp=r2/\qt=r3/\(14:Int)=r4.code/\q4)/\(q6<=(se.getD q1.toNat q3).seq+(1:Int)->I64 q2.fst.version->I64 q2.fst.next->I64 q2.fst.keep->I64 q2.fst.quota->I64 q2.snd.code->I64 q2.snd.n->(q5<=q1/\q1<(↑q2.fst.sess.length:Int))/\(I64 q0.client->I64 q0.seq->I64 q0.last.code->I64 q0.last.n->q5<=q1/\q1<(↑(q2.fst.sess.set q1.toNat (Sess.mk q0.client q6 q0.last)).length:Int))/\(I64 q0.client->I64 q0.seq->I64 q0.last.code->I64 q0.last.n->I64 ((q2.fst.sess.set q1.toNat (Sess.mk q0.client q6 q0.last)).getD q1.toNat q3).client->I64 ((q2.fst.sess.set q1.toNat (Sess.mk q0.client q6 q0.last)).getD q1.toNat q3).seq->I64 ((q2.fst.sess.set q1.toNat (Sess.mk q0.client q6 q0.last)).getD q1.toNat q3).last.code->I64 ((q2.fst.sess.set q1.toNat (Sess.mk q0.client q6 q0.last)).getD q1.toNat q3).last.n->q2.fst.version=r0/\q2.fst.next=r1/\q2.fst.keep=r2/\q2.fst.quota=r3/\q2.snd.code=r4.code/\q2.snd.n=r4.n/\(q2.fst.sess.set q1.toNat (Sess.mk q0.client q6 q0.last)).set q1.toNat (Sess.mk ((q2.fst.sess.set q1.toNat (Sess.mk q0.client q6 q0.last)).getD q1.toNat q3).client ((q2.fst.sess.set q1.toNat (Sess.mk q0.client q6 q0.last)).getD q1.toNat q3).seq q2.snd)=r5/\q2.fst.opens=r6/\q2.fst.snaps=r7))))))) (q2.fst.sess.getD q1.toNat q3)) (ai Sess.client c.client se)) (bz (State.mk v nx kp qt se op sn) c)) (dflt (Sh.nm NT.sess))) (q5=r4.n/\q7)) (0:Int)) c.seq) (se=r5/\op=r6/\sn=r7)):=by kernel_rfl
theorem za (v:Int) (nx:Int) (kp:Int) (qt:Int) (c:Command) (se:List Sess) (op:List Opn) (sn:List Snap) (h0:bN (State.mk v nx kp qt se op sn) c=0):Sat Tryz.prog (au aF) 37 [.agg ([.int (v),.int (nx),.int (kp),.int (qt),.own 0,.own 1,.own 2]),.agg (cellsOf (.nm .command) c)] [.row 44 (.nm .sess) (se),.row 77 (.nm .opn) (op),.row 59 (.nm .snap) (sn)] ⟨[bN (State.mk v nx kp qt se op sn) c=0],[.agg ([.int (((bm (State.mk v nx kp qt se op sn) c).1.version)),.int (((bm (State.mk v nx kp qt se op sn) c).1.next)),.int (((bm (State.mk v nx kp qt se op sn) c).1.keep)),.int (((bm (State.mk v nx kp qt se op sn) c).1.quota)),.own 0,.own 1,.own 2]),.agg (cellsOf (.nm .reply) ((bm (State.mk v nx kp qt se op sn) c).2))],some ([.row 44 (.nm .sess) (((bm (State.mk v nx kp qt se op sn) c).1.sess)),.row 77 (.nm .opn) (((bm (State.mk v nx kp qt se op sn) c).1.opens)),.row 59 (.nm .snap) (((bm (State.mk v nx kp qt se op sn) c).1.snaps))]),false⟩:=by
 refine dz sq [] Tryz.func37 (by decide) (by kernel_rfl) ?_
 rw [zR]
 (repeat' (first | with_reducible refine And.intro ?_ ?_ | with_reducible refine and_imp.2 ?_ | intro))
 all_goals (first | (first | with_reducible rfl | with_reducible assumption | omega | (refine aq ?_ ?_ <;> omega)) | exact bI (by with_reducible assumption) | exact yw (by with_reducible assumption) | exact HZ (by with_reducible assumption) | exact Jj (by with_reducible assumption) (by with_reducible assumption) | (rw [IX] <;> first | rfl | with_reducible assumption | exact sQ (sC (by with_reducible assumption))) | (rw [IH] <;> first | rfl | with_reducible assumption | exact sQ (sC (by with_reducible assumption))) | (rw [IU] <;> first | rfl | with_reducible assumption | exact sQ (sC (by with_reducible assumption))) | (rw [II] <;> first | rfl | with_reducible assumption | exact sQ (sC (by with_reducible assumption))) | (rw [Ka] <;> first | rfl | with_reducible assumption | exact sQ (sC (by with_reducible assumption))))
def Ao:cC:=(bR 37 (bJ (ah (kG (ak cI (ak cI (ak cI (ak cI (ak (bd 0) (ak (bd 1) (ak (bd 2) bP)))))))) (ah (kT (.nm .command)) aO)) (aA (bf 44 (.nm .sess)) (aA (bf 77 (.nm .opn)) (aA (bf 59 (.nm .snap)) aP))) fun ((v,nx,kp,qt,_,_,_,_),c,_) (se,op,sn,_)=>⟨[bN (State.mk v nx kp qt se op sn) c=0],[.agg ([.int (((bm (State.mk v nx kp qt se op sn) c).1.version)),.int (((bm (State.mk v nx kp qt se op sn) c).1.next)),.int (((bm (State.mk v nx kp qt se op sn) c).1.keep)),.int (((bm (State.mk v nx kp qt se op sn) c).1.quota)),.own 0,.own 1,.own 2]),.agg (cellsOf (.nm .reply) ((bm (State.mk v nx kp qt se op sn) c).2))],some ([.row 44 (.nm .sess) (((bm (State.mk v nx kp qt se op sn) c).1.sess)),.row 77 (.nm .opn) (((bm (State.mk v nx kp qt se op sn) c).1.opens)),.row 59 (.nm .snap) (((bm (State.mk v nx kp qt se op sn) c).1.snaps))]),false⟩) xS)
theorem sK:aX Tryz.prog (au aF) Ao:=(az (ay (ab (Ii (ae aw (ae aw (ae aw (ae aw (ae aB (ae aB (ae aB aG)))))))) (ab bK al)) (ag aC (ag aC (ag aC ao))) fun ((v,nx,kp,qt,_,_,_,_),c,_) (se,op,sn,_) hp=>za v nx kp qt c se op sn (eP hp)) sq)
end Go.Proofs.YtdggohppeeaipaaGreat
namespace Go.Proofs.YtdggohppeeaipaaGreat
open Go.RowKit
section
variable {s:State} {c:Command}
theorem Gs (h:(if mayF s s.version=0 then bh c s.version else 1)=0):bN s c=0:=h
theorem Gy (h:(if mayF s s.version=0 then bh c s.version else 1)=0):I64 (s.version+1):=by
 have h1:=(bM (qV h)).2.1
 simp only [bY,Bool.and_eq_true] at h1
 have:=lf h1.1.1.1
 constructor <;> omega
theorem IQ (h:¬ (if mayF s s.version=0 then bh c s.version else 1)=0):cY s c=(s,⟨(if mayF s s.version=0 then bh c s.version else 1),0⟩):=by
 have h:¬ bN s c=0:=h
 rw [cY,if_pos h]; rfl
theorem HI (h:(if mayF s s.version=0 then bh c s.version else 1)=0):cY s c=if c.kind=8 then (if ¬ c.n=s.version+1 then (s,⟨1,0⟩) else ({ s with version:=c.n },⟨0,c.n⟩))
 else if c.kind=1 then (if 0<=ai Sess.client c.client s.sess then (s,⟨12,0⟩) else ({ s with sess:=fG s.sess (s.sess.takeWhile fun y=>decide (y.client<c.client)).length ⟨c.client,0,⟨0,0⟩⟩ },⟨0,0⟩))
 else bm s c:=by
 have h:¬ ¬ bN s c=0:=fun k=>k h
 rw [cY,if_neg h]
theorem DI (h:(if mayF s s.version=0 then bh c s.version else 1)=0) (k:c.kind=8) (n:¬ c.n=s.version+1):cY s c=(s,⟨1,0⟩):=by rw [HI h,if_pos k,if_pos n]
theorem CC (h:(if mayF s s.version=0 then bh c s.version else 1)=0) (k:c.kind=8) (n:c.n=s.version+1):cY s c=({ s with version:=c.n },⟨0,c.n⟩):=by rw [HI h,if_pos k,if_neg (fun h=>h n)]
theorem wa (h:(if mayF s s.version=0 then bh c s.version else 1)=0) (k:c.kind=1) (n:0<=ai Sess.client c.client s.sess):cY s c=(s,⟨12,0⟩):=by rw [HI h,if_neg (by omega),if_pos k,if_pos n]
theorem xd (h:(if mayF s s.version=0 then bh c s.version else 1)=0) (k:c.kind=1) (n:ai Sess.client c.client s.sess<0):cY s c=({ s with sess:=fG s.sess (s.sess.takeWhile fun y=>decide (y.client<c.client)).length ⟨c.client,0,⟨0,0⟩⟩ },⟨0,0⟩):=by rw [HI h,if_neg (by omega),if_pos k,if_neg (by omega)]
theorem xA (h:(if mayF s s.version=0 then bh c s.version else 1)=0) (k:¬ c.kind=8) (n:¬ c.kind=1):cY s c=bm s c:=by rw [HI h,if_neg k,if_neg n]
theorem cE {l:List Sess} {k:Nat} {x:Sess} (hs:k<=l.length) (ha:(l.take k).all (fun y=>decide (y.client<c.client))=true) (hb:(l.length:Int)<=k\/c.client<=(l.getD k (dflt (.nm .sess))).client):l.take k++[x]++l.drop k=fG l (l.takeWhile fun y=>decide (y.client<c.client)).length x:=by
 have:k=(l.takeWhile fun y=>decide (y.client<c.client)).length:=by
  refine yK ha hs ?_
  by_cases hl:(l.length:Int)<=k
  ·exact .inl hl
  ·refine .inr ⟨by omega,_,gd (d:=dflt (.nm .sess)) (by omega),?_⟩
   rcases hb with hb | hb
   ·omega
   ·exact decide_eq_false (by omega)
 rw [<- this]; simp [fG]
theorem yQ {l:List Sess} {k:Nat} (ha:(l.take k).all (fun y=>decide (y.client<c.client))=true) (h:(k:Int)<l.length) (hb:(l.getD k (dflt (.nm .sess))).client<c.client):(l.take (k+1)).all (fun y=>decide (y.client<c.client))=true:=by
 rw [aD (gd (d:=dflt (.nm .sess)) h),List.all_append,ha]; simp only [List.all_cons,List.all_nil,decide_eq_true hb]; rfl
end
def HT (st:State) (c:Command):List (Nat × LI):=[(15,{ σ:=Nat,F:=fun k=>([(2,one (.ptr 0 0)),(3,one (.ptr 1 0)),(4,one (.ptr 2 0)),(5,one (.ptr 3 0)),(7,one (.int k))],[.box 26 ([.int ((st.version)),.int ((st.next)),.int ((st.keep)),.int ((st.quota)),.own 4,.own 5,.own 6]),.box 29 (cellsOf (.nm .command) ((c))),.box 26 ([.int ((0)),.int ((0)),.int ((0)),.int ((0)),.em true,.em true,.em true]),.box 35 ([.int ((0)),.int ((0))]),.row 44 (.nm .sess) ((st.sess)),.row 77 (.nm .opn) ((st.opens)),.row 59 (.nm .snap) ((st.snaps))]),J:=fun k=>k<=st.sess.length/\(st.sess.take k).all (fun y=>decide (y.client<c.client))=true,μ:=fun k=>st.sess.length - k })]
theorem HU (st:State) (c:Command) (r0:Int) (r1:Int) (r2:Int) (r3:Int) (r4:Reply) (r5:List Sess) (r6:List Opn) (r7:List Snap):tu aF Ao (HT st c) Tryz.f12 [.agg (cellsOf (.nm .state) st),.agg (cellsOf (.nm .command) c)] [] [.agg ([.int (r0),.int (r1),.int (r2),.int (r3),.own 0,.own 1,.own 2]),.agg (cellsOf (.nm .reply) r4)] [.row 44 (.nm .sess) (r5),.row 77 (.nm .opn) (r6),.row 59 (.nm .snap) (r7)]=((fun (q12:Reply)=>(fun (q11:den (Sh.nm NT.sess))=>(fun (q10:Prop)=>(fun (q9:Prop)=>(fun (q8:Prop)=>(fun (q7:Int)=>(fun (q6:Int)=>(fun (q5:Prop)=>(fun (q4:State)=>(fun (q3:Int)=>(fun (q2:List Sess)=>(fun (q1:Int)=>(fun (q0:Prop)=>I64 q3->I64 st.next->I64 st.keep->I64 st.quota->q2.length*(32:Nat)<=(140737488355328:Nat)->st.opens.length*(16:Nat)<=(140737488355328:Nat)->st.snaps.length*(64:Nat)<=(140737488355328:Nat)->I64 c.kind->I64 q7->I64 c.seq->I64 c.set->I64 c.id->I64 c.n->c.chunks.length*(8:Nat)<=(140737488355328:Nat)->c.text.b.length<=(140737488355328:Nat)->I64 q3->I64 st.next->I64 st.keep->I64 st.quota->I64 (if mayF st q3=q1 then bh c q3 else q6)->(¬(if mayF st q3=q1 then bh c q3 else q6)=q1->I64 (if mayF st q3=q1 then bh c q3 else q6)->I64 q1->q3=r0/\q10/\q9/\q8/\(if mayF st q3=q1 then bh c q3 else q6)=r4.code/\q1=r4.n/\q2=r5/\q5)/\((if mayF st q3=q1 then bh c q3 else q6)=q1->(c.kind=(8:Int)->I64 (q3+q6)/\(¬c.n=q3+q6->I64 q6->I64 q1->q3=r0/\q10/\q9/\q8/\q6=r4.code/\q1=r4.n/\q2=r5/\q5)/\(c.n=q3+q6->c.n=r0/\q10/\q9/\q8/\q1=r4.code/\c.n=r4.n/\q2=r5/\q5))/\(¬c.kind=(8:Int)->(c.kind=q6->I64 (ai Sess.client q7 q2)->(q1<=ai Sess.client q7 q2->I64 (12:Int)->I64 q1->q3=r0/\q10/\q9/\q8/\(12:Int)=r4.code/\q1=r4.n/\q2=r5/\q5)/\(ai Sess.client q7 q2<q1->∃ (s0:Nat),(fun (q13:Int)=>(q1=(↑s0:Int)/\q0)/\(s0<=q2.length/\((List.take s0 q2).all fun (y:Sess)=>decide (y.client<q7))=true)/\∀ (s:Nat),(fun (q15:Int)=>(fun (q14:den (Sh.nm NT.sess))=>s<=q2.length/\((List.take s q2).all fun (y:Sess)=>decide (y.client<q7))=true->(q15<q13->q1<=q15/\q15<q13)/\((q15<q13->I64 q14.client/\I64 q14.seq/\I64 q14.last.code/\I64 q14.last.n)->(q15<q13/\q14.client<q7->I64 (q15+q6)/\∃ (s':Nat),(q15+q6=(↑s':Int)/\q0)/\(s' <= q2.length/\((List.take s' q2).all fun (y:Sess)=>decide (y.client<q7))=true)/\q2.length - s' < q2.length - s)/\(q13<=q15\/q7<=q14.client->(q1<=q15/\q15<=q13)/\q2.length<(1048576:Nat)/\[Sess.mk q7 q1 (Reply.mk q1 q1)].length=(1:Nat)/\q3=r0/\q10/\q9/\q8/\q1=r4.code/\q1=r4.n/\List.take s q2++[Sess.mk q7 q1 (Reply.mk q1 q1)]++List.drop s q2=r5/\q5))) (q2.getD s q11)) (↑s:Int)) (↑q2.length:Int)))/\(¬c.kind=q6->bN st c=q1/\(I64 q4.version->I64 q4.next->I64 q4.keep->I64 q4.quota->I64 q12.code->I64 q12.n->q4.version=r0/\q4.next=r1/\q4.keep=r2/\q4.quota=r3/\q12.code=r4.code/\q12.n=r4.n/\q4.sess=r5/\q4.opens=r6/\q4.snaps=r7))))) (q3=q3/\st.next=st.next/\st.keep=st.keep/\st.quota=st.quota/\c.kind=c.kind/\q7=q7/\c.seq=c.seq/\c.set=c.set/\c.id=c.id/\c.n=c.n/\c.chunks=c.chunks/\c.text=c.text/\q1=q1/\q1=q1/\q1=q1/\q1=q1/\q1=q1/\q1=q1/\q2=q2/\st.opens=st.opens/\st.snaps=st.snaps)) (0:Int)) st.sess) st.version) (bm st c).fst) (st.opens=r6/\st.snaps=r7)) (1:Int)) c.client) (st.quota=r3)) (st.keep=r2)) (st.next=r1)) (dflt (Sh.nm NT.sess))) (bm st c).snd):=by kernel_rfl
theorem Ia (st:State) (c:Command):Sat Tryz.prog (au aF) 12 [.agg (cellsOf (.nm .state) st),.agg (cellsOf (.nm .command) c)] [] ⟨[],[.agg ([.int (((cY st c).1.version)),.int (((cY st c).1.next)),.int (((cY st c).1.keep)),.int (((cY st c).1.quota)),.own 0,.own 1,.own 2]),.agg (cellsOf (.nm .reply) ((cY st c).2))],some ([.row 44 (.nm .sess) (((cY st c).1.sess)),.row 77 (.nm .opn) (((cY st c).1.opens)),.row 59 (.nm .snap) (((cY st c).1.snaps))]),true⟩:=by
 refine eA sK (HT st c) Tryz.func12 (by decide) (by kernel_rfl) ?_
 rw [HU]
 (repeat' (first | with_reducible refine And.intro ?_ ?_ | with_reducible refine and_imp.2 ?_ | intro))
 all_goals try (first | (first | with_reducible rfl | with_reducible assumption | omega | (refine aq ?_ ?_ <;> omega)) | exact rfl | exact Gs (by with_reducible assumption) | exact Gy (by with_reducible assumption) | exact vl (by with_reducible assumption) | exact yQ (by with_reducible assumption) (by with_reducible assumption) (by with_reducible assumption) | (rw [IQ] <;> first | rfl | with_reducible assumption | exact cE (by omega) (by with_reducible assumption) (by assumption)) | (rw [DI] <;> first | rfl | with_reducible assumption | exact cE (by omega) (by with_reducible assumption) (by assumption)) | (rw [CC] <;> first | rfl | with_reducible assumption | exact cE (by omega) (by with_reducible assumption) (by assumption)) | (rw [wa] <;> first | rfl | with_reducible assumption | exact cE (by omega) (by with_reducible assumption) (by assumption)) | (rw [xd] <;> first | rfl | with_reducible assumption | exact cE (by omega) (by with_reducible assumption) (by assumption)) | (rw [xA] <;> first | rfl | with_reducible assumption | exact cE (by omega) (by with_reducible assumption) (by assumption)))
 all_goals try (refine ⟨0,?_⟩; (repeat' (first | with_reducible refine And.intro ?_ ?_ | with_reducible refine and_imp.2 ?_ | intro)))
 all_goals try (first | (first | with_reducible rfl | with_reducible assumption | omega | (refine aq ?_ ?_ <;> omega)) | exact rfl | exact Gs (by with_reducible assumption) | exact Gy (by with_reducible assumption) | exact vl (by with_reducible assumption) | exact yQ (by with_reducible assumption) (by with_reducible assumption) (by with_reducible assumption) | (rw [IQ] <;> first | rfl | with_reducible assumption | exact cE (by omega) (by with_reducible assumption) (by assumption)) | (rw [DI] <;> first | rfl | with_reducible assumption | exact cE (by omega) (by with_reducible assumption) (by assumption)) | (rw [CC] <;> first | rfl | with_reducible assumption | exact cE (by omega) (by with_reducible assumption) (by assumption)) | (rw [wa] <;> first | rfl | with_reducible assumption | exact cE (by omega) (by with_reducible assumption) (by assumption)) | (rw [xd] <;> first | rfl | with_reducible assumption | exact cE (by omega) (by with_reducible assumption) (by assumption)) | (rw [xA] <;> first | rfl | with_reducible assumption | exact cE (by omega) (by with_reducible assumption) (by assumption)))
 all_goals try (refine ⟨‹Nat› + 1,?_⟩; (repeat' (first | with_reducible refine And.intro ?_ ?_ | with_reducible refine and_imp.2 ?_ | intro)))
 all_goals (first | (first | with_reducible rfl | with_reducible assumption | omega | (refine aq ?_ ?_ <;> omega)) | exact rfl | exact Gs (by with_reducible assumption) | exact Gy (by with_reducible assumption) | exact vl (by with_reducible assumption) | exact yQ (by with_reducible assumption) (by with_reducible assumption) (by with_reducible assumption) | (rw [IQ] <;> first | rfl | with_reducible assumption | exact cE (by omega) (by with_reducible assumption) (by assumption)) | (rw [DI] <;> first | rfl | with_reducible assumption | exact cE (by omega) (by with_reducible assumption) (by assumption)) | (rw [CC] <;> first | rfl | with_reducible assumption | exact cE (by omega) (by with_reducible assumption) (by assumption)) | (rw [wa] <;> first | rfl | with_reducible assumption | exact cE (by omega) (by with_reducible assumption) (by assumption)) | (rw [xd] <;> first | rfl | with_reducible assumption | exact cE (by omega) (by with_reducible assumption) (by assumption)) | (rw [xA] <;> first | rfl | with_reducible assumption | exact cE (by omega) (by with_reducible assumption) (by assumption)))
def Er:cC:=(bR 12 (bJ (ah (kT (.nm .state)) (ah (kT (.nm .command)) aO)) aP fun (st,c,_) (_)=>⟨[],[.agg ([.int (((cY st c).1.version)),.int (((cY st c).1.next)),.int (((cY st c).1.keep)),.int (((cY st c).1.quota)),.own 0,.own 1,.own 2]),.agg (cellsOf (.nm .reply) ((cY st c).2))],some ([.row 44 (.nm .sess) (((cY st c).1.sess)),.row 77 (.nm .opn) (((cY st c).1.opens)),.row 59 (.nm .snap) (((cY st c).1.snaps))]),true⟩) Ao)
theorem zo:aX Tryz.prog (au aF) Er:=(az (ay (ab bK (ab bK al)) ao fun (st,c,_) (_) _=>Ia st c ) sK)
end Go.Proofs.YtdggohppeeaipaaGreat
namespace Go.Proofs.YtdggohppeeaipaaGreat
open Go.RowKit
def EB:cC:=Er
theorem yp:aX Tryz.prog (au aF) EB:=zo
end Go.Proofs.YtdggohppeeaipaaGreat
namespace Go.Proofs.YtdggohppeeaipaaGreat
open Go.RowKit
def Ez:cC:=EB
theorem zO:aX Tryz.prog (au aF) Ez:=yp
end Go.Proofs.YtdggohppeeaipaaGreat
namespace Go.Proofs.YtdggohppeeaipaaGreat
open Go.RowKit
section
variable {s:State} {c:Command}
theorem iN {α:Type} {key:α->Int} {l:List α} {k:Nat} {x d:α} (hk:k<l.length) (h:key x=key (l.getD k d)):(l.set k x).map key=l.map key:=by
 rw [List.map_set,h,List.getD_eq_getElem?_getD,List.getElem?_eq_getElem hk,Option.getD_some]
 have:key l[k]=(l.map key)[k]'(by rw [List.length_map]; exact hk):=by rw [List.getElem_map]
 rw [this,List.set_getElem_self]
theorem Je (h0:mayF s s.version=0) (h:¬ bh c s.version=0):cY s c=(s,⟨bh c s.version,0⟩):=by
 have e:(if mayF s s.version=0 then bh c s.version else 1)=bh c s.version:=if_pos h0
 have:=IQ (s:=s) (c:=c) (by rw [e]; exact h)
 rwa [e] at this
theorem nG (h0:mayF s s.version=0) (h:bh c s.version=0):(if mayF s s.version=0 then bh c s.version else 1)=0:=by rw [if_pos h0]; exact h
theorem pZ (h0:mayF s s.version=0) (h1:bh c s.version=0) (h3:¬ c.kind=8) (h4:¬ c.kind=1) (hk:0<=ai Sess.client c.client s.sess) (hq:c.seq=(s.sess.getD (ai Sess.client c.client s.sess).toNat (dflt (.nm .sess))).seq+1) :
  cY s c=(State.mk (bz s c).1.version (bz s c).1.next (bz s c).1.keep (bz s c).1.quota (s.sess.set (ai Sess.client c.client s.sess).toNat (Sess.mk (s.sess.getD (ai Sess.client c.client s.sess).toNat (dflt (.nm .sess))).client c.seq (bz s c).2)) (bz s c).1.opens (bz s c).1.snaps,(bz s c).2):=by
 rw [xA (nG h0 h1) h3 h4]
 obtain ⟨v,nx,kp,qt,se,op,sn⟩:=s
 rw [Ka hk (by dsimp only at *; omega) (by dsimp only at *; omega) (by dsimp only at *; omega)]
 simp only [oB]
theorem DZ (h0:mayF s s.version=0) (h1:bh c s.version=0) (h3:¬ c.kind=8) (h4:¬ c.kind=1) (h:ai Sess.client c.client s.sess<0\/¬ c.seq=(s.sess.getD (ai Sess.client c.client s.sess).toNat (dflt (.nm .sess))).seq+1):(cY s c).1=s:=by
 rw [xA (nG h0 h1) h3 h4]
 by_cases hk:ai Sess.client c.client s.sess<0
 ·rw [show bm s c=_ from IX hk]
 ·have hk:0<=ai Sess.client c.client s.sess:=by omega
  have h:=h.resolve_left (by omega)
  by_cases e:c.seq=(s.sess.getD (ai Sess.client c.client s.sess).toNat (dflt (.nm .sess))).seq
  ·rw [show bm s c=_ from IH hk e]
  ·by_cases l:c.seq<(s.sess.getD (ai Sess.client c.client s.sess).toNat (dflt (.nm .sess))).seq
   ·rw [show bm s c=_ from IU hk e l]
   ·rw [show bm s c=_ from II hk e (by omega) (by omega)]
end
end Go.Proofs.YtdggohppeeaipaaGreat
namespace Go.Proofs.YtdggohppeeaipaaGreat
open Go.RowKit
theorem dL {c:Command} {v:Int} (h:bh c v=0):(1<=v/\v<=3)/\¬ bC c.kind=0/\bC c.kind<=v/\dr c=true:=by
 unfold bh at h
 split at h
 ·cases h
 ·rename_i h1
  rw [Bool.or_eq_true,not_or] at h1
  simp only [Bool.not_eq_true',Bool.not_eq_false,decide_eq_true_eq] at h1
  split at h
  ·cases h
  ·split at h
   ·cases h
   ·rename_i h2 h3
    exact ⟨lf h1.1,h1.2,by omega,by simpa using h3⟩
theorem AI {c:Command} {v:Int}:0<=bh c v/\bh c v<=99:=by
 unfold bh; (repeat' split) <;> omega
theorem oa {s:State} {c:Command}:0<=bN s c/\bN s c<=99:=by
 unfold bN; split
 ·exact AI
 ·omega
theorem eY {s:State} {c:Command} (h:bN s c=0):mayF s s.version=0/\bh c s.version=0:=by
 have h1:=qV (s:=s) (c:=c) h
 refine ⟨h1,?_⟩
 unfold bN at h; rwa [if_pos h1] at h
theorem jY {s:State} {v:Int} (h1:aQ v 1 3=true) (h2:bY s v=true) (h3:gU s=true) (h4:fK s=true) (h5:cQ s v=true):mayF s v=0:=by
 unfold mayF; simp [h1,h2,h3,h4,h5]
theorem jR {s:State} {v:Int} (h1:s.snaps.length<=16) (h2:aj Snap.id (s.next - 1) 0 s.snaps=true) (h3:∀ x ∈ s.snaps,bl v (cG v) x=true):cQ s v=true:=by
 unfold cQ
 rw [h2,decide_eq_false (by omega),List.all_eq_true.2 h3]; rfl
section
variable {α:Type} {key:α->Int} {most:Int}
theorem BK:∀ {l:List α} {a b:Int},a<=b->aj key most b l=true->aj key most a l=true
 | [],_,_,_,_=>rfl
 | x :: l,a,b,h,k=>by
  simp only [aj,Bool.and_eq_true] at k ⊢
  have:=lf k.1
  exact ⟨by unfold aQ; rw [Bool.and_eq_true,decide_eq_true_eq,decide_eq_true_eq]; omega,k.2⟩
theorem pM {l l':List α} (h:l'.Sublist l):∀ {a:Int},aj key most a l=true->aj key most a l' = true:=by
 induction h with
 | slnil=>intro a _; rfl
 | cons x _ ih=>
  intro a k
  simp only [aj,Bool.and_eq_true] at k
  have:=lf k.1
  exact ih (BK (by omega) k.2)
 | cons_cons x _ ih=>
  intro a k
  simp only [aj,Bool.and_eq_true] at k ⊢
  exact ⟨k.1,ih k.2⟩
theorem iV:∀ {l:List α} {a:Int},aj key most a l=aj id most a (l.map key)
 | [],_=>rfl
 | x :: l,a=>by
  show (aQ (key x) (a+1) most && aj key most (key x) l)=(aQ (key x) (a+1) most && aj id most (key x) (l.map key))
  rw [iV (l:=l)]
theorem vr {x:α} {m2:Int} (hx:most<key x) (hm:key x<=m2):∀ {l:List α} {a:Int},a<=most->aj key most a l=true->aj key m2 a (l++[x])=true
 | [],a,ha,_=>by
  simp only [List.nil_append,aj,Bool.and_true]
  unfold aQ; rw [Bool.and_eq_true,decide_eq_true_eq,decide_eq_true_eq]; omega
 | y :: l,a,_,k=>by
  simp only [List.cons_append,aj,Bool.and_eq_true] at k ⊢
  have:=lf k.1
  exact ⟨by unfold aQ; rw [Bool.and_eq_true,decide_eq_true_eq,decide_eq_true_eq]; omega,vr hx hm (by omega) k.2⟩
theorem pY {x:α}:∀ {l:List α} {a:Int},aj key most a l=true->a<key x->key x<=most->(∀ y ∈ l,¬ key y=key x)->aj key most a (fG l (l.takeWhile fun y=>decide (key y<key x)).length x)=true
 | [],a,_,h1,h2,_=>by
  show (aQ (key x) (a+1) most && true)=true
  unfold aQ; simp; omega
 | y :: l,a,k,h1,h2,hn=>by
  simp only [aj,Bool.and_eq_true] at k
  have h3:=lf k.1
  have h4:=hn y (List.mem_cons_self)
  by_cases h:key y<key x
  ·have e:fG (y :: l) ((y :: l).takeWhile fun y=>decide (key y<key x)).length x=y :: fG l (l.takeWhile fun y=>decide (key y<key x)).length x:=by
    rw [List.takeWhile_cons,decide_eq_true h,if_pos rfl]; rfl
   rw [e]
   simp only [aj,Bool.and_eq_true]
   exact ⟨k.1,pY k.2 h h2 fun z hz=>hn z (List.mem_cons_of_mem _ hz)⟩
  ·have e:fG (y :: l) ((y :: l).takeWhile fun y=>decide (key y<key x)).length x=x :: y :: l:=by
    rw [List.takeWhile_cons,decide_eq_false h]; rfl
   rw [e]
   simp only [aj,Bool.and_eq_true]
   refine ⟨?_,?_,k.2⟩
   ·unfold aQ; rw [Bool.and_eq_true,decide_eq_true_eq,decide_eq_true_eq]; omega
   ·unfold aQ; rw [Bool.and_eq_true,decide_eq_true_eq,decide_eq_true_eq]; omega
theorem vq {l:List α} {i:Nat} {x y:α} (h:y ∈ fG l i x):y=x\/y ∈ l:=by
 unfold fG at h
 rcases List.mem_append.1 h with h | h
 ·exact .inr (List.mem_of_mem_take h)
 ·rcases List.mem_cons.1 h with h | h
  ·exact .inl h
  ·exact .inr (List.mem_of_mem_drop h)
theorem uE {l:List α} {i:Int} (h:0<=i):(xp l i).Sublist l:=by
 unfold xp
 rw [show (i+1).toNat=i.toNat+1 by omega]
 have h1:(l.drop (i.toNat+1)).Sublist (l.drop i.toNat):=by
  rw [<- List.drop_drop]; exact List.drop_sublist 1 _
 have h2:=(List.Sublist.refl (l.take i.toNat)).append h1
 rwa [List.take_append_drop] at h2
theorem lL {want:Int} {l:List α} (h:ai key want l<0):∀ x ∈ l,¬ key x=want:=by
 refine hU.1 ?_
 unfold ai at *
 split
 ·rename_i i hi; rw [hi] at h; dsimp only at h; omega
 ·rfl
end
theorem gE {c:Command} (h:dr c=true):(fS c.kind).1<=c.n/\c.n<=(fS c.kind).2/\uG c=true/\Hk c=true/\fP c.client 8 (!([(8:Int)].contains c.kind))=true/\fP c.seq 1048576 (!([(1:Int),8].contains c.kind))=true/\fP c.set 8 ([(2:Int),3,4].contains c.kind)=true:=by
 unfold dr at h
 simp only [Bool.and_eq_true,decide_eq_true_eq] at h
 obtain ⟨⟨⟨⟨⟨⟨⟨h1,h2⟩,h3⟩,h4⟩,h5⟩,h6⟩,h7⟩,h8⟩:=h
 exact ⟨h1,h2,h3,h4,h5,h6,h7⟩
theorem mz {c:Command} (h:dr c=true) (k:¬ c.kind=8):1<=c.client/\c.client<=8:=by
 have h1:=(gE h).2.2.2.2.1
 have e:(!([(8:Int)].contains c.kind))=true:=by simp [k]
 rw [e] at h1; unfold fP at h1; simpa using h1
theorem CP {c:Command} (h:dr c=true) (k:¬ c.kind=8) (k1:¬ c.kind=1):1<=c.seq/\c.seq<=1048576:=by
 have h1:=(gE h).2.2.2.2.2.1
 have e:(!([(1:Int),8].contains c.kind))=true:=by simp [k,k1]
 rw [e] at h1; unfold fP at h1; simpa using h1
theorem vp {c:Command} (h:dr c=true) (k:c.kind=2\/c.kind=3\/c.kind=4):1<=c.set/\c.set<=8:=by
 have h1:=(gE h).2.2.2.2.2.2
 have e:([(2:Int),3,4].contains c.kind)=true:=by rcases k with k | k | k <;> rw [k] <;> decide
 rw [e] at h1; unfold fP at h1; simpa using h1
theorem zN {c:Command} (h:dr c=true):(c.kind=8->2<=c.n/\c.n<=3)/\(c.kind=6->0<=c.n/\c.n<=8)/\(c.kind=12->0<=c.n/\c.n<=64):=by
 obtain ⟨h1,h2,_⟩:=gE h
 refine ⟨fun k=>?_,fun k=>?_,fun k=>?_⟩ <;> (rw [k] at h1 h2; exact ⟨h1,h2⟩)
theorem Cg {c:Command} (h:dr c=true) (k:c.kind=11):(c.text.b.length:Int)<=16:=by
 have h1:=(gE h).2.2.2.1
 unfold Hk at h1; rw [if_pos k] at h1; simpa using h1
theorem th {c:Command} (h:dr c=true) (k:c.kind=3):cK c.chunks=0:=by
 have h1:=(gE h).2.2.1
 unfold uG at h1; rw [if_pos k] at h1; exact (eD h1).symm
theorem wE {l:List Snap}:distF l<=64:=Cw
theorem AR {l:List Snap} {id:Int}:(fu l id).length<=64:=by
 have:=GY (l:=l) (id:=id) (k:=64) (n:=0) (Nat.le_refl _)
 unfold fu iA
 rw [List.length_map]
 refine Nat.le_trans (List.length_filter_le _ _) ?_
 simp
end Go.Proofs.YtdggohppeeaipaaGreat
namespace Go.Proofs.YtdggohppeeaipaaGreat
open Go.RowKit
theorem lJ {s:State} {v:Int} (a:aQ s.version 1 3=true) (b:aQ s.next 1 1048576=true) (c:aQ s.keep 0 8=true) (d:aQ s.quota 0 (if v<3 then 0 else 64)=true):bY s v=true:=by
 unfold bY; rw [a,b,c,d]; rfl
theorem eV {s:State} {v:Int} (h:bY s v=true):aQ s.version 1 3=true/\aQ s.next 1 1048576=true/\aQ s.keep 0 8=true/\aQ s.quota 0 (if v<3 then 0 else 64)=true:=by
 unfold bY at h; simp only [Bool.and_eq_true] at h; exact ⟨h.1.1.1,h.1.1.2,h.1.2,h.2⟩
theorem sX {n a b:Int} (h1:a<=n) (h2:n<=b):aQ n a b=true:=by unfold aQ; rw [decide_eq_true h1,decide_eq_true h2]; rfl
theorem e_ {s:State} (M:mayF s s.version=0) {nx:Int} {op:List Opn} {sn:List Snap} (hn:1<=nx/\nx<=1048576) (ho:aj Opn.set 8 0 op=true/\∀ x ∈ op,aN x=true) (h1:sn.length<=16) (h2:aj Snap.id (nx - 1) 0 sn=true) (h3:∀ x ∈ sn,bl s.version (cG s.version) x=true):mayF (State.mk s.version nx s.keep s.quota s.sess op sn) s.version=0:=by
 obtain ⟨k1,k2,k3,k4,k5⟩:=bM M
 obtain ⟨n1,n2,n3,n4⟩:=eV k2
 refine jY k1 (lJ n1 (sX hn.1 hn.2) n3 n4) k3 ?_ (jR h1 h2 h3)
 show (aj Opn.set 8 0 op && op.all aN)=true
 rw [ho.1,List.all_eq_true.2 ho.2]; rfl
theorem cW {s:State} (M:mayF s s.version=0):aj Opn.set 8 0 s.opens=true/\∀ x ∈ s.opens,aN x=true:=by
 have h:=(bM M).2.2.2.1
 simp only [fK,Bool.and_eq_true,List.all_eq_true] at h
 exact h
theorem iY {s:State} {v:Int} (M:mayF s v=0):aj Sess.client 8 0 s.sess=true/\∀ x ∈ s.sess,aM x=true:=by
 have h:=(bM M).2.2.1
 simp only [gU,Bool.and_eq_true,List.all_eq_true] at h
 exact h
theorem fJ {v t:Int} {x:Snap} (h:bl v t x=true):cK x.chunks=0/\aQ x.set 1 8=true/\(x.held=false\/2<=v)/\((x.tag.b.length:Nat):Int)<=t:=by
 simp only [bl,Bool.and_eq_true,decide_eq_true_eq,Bool.or_eq_true,Bool.not_eq_true'] at h
 exact ⟨h.1.1.1,h.1.1.2,h.1.2,h.2⟩
theorem jq {v t:Int} {x:Snap} (h1:cK x.chunks=0) (h2:aQ x.set 1 8=true) (h3:x.held=false\/2<=v) (h4:((x.tag.b.length:Nat):Int)<=t):bl v t x=true:=by
 simp only [bl,Bool.and_eq_true,decide_eq_true_eq,Bool.or_eq_true,Bool.not_eq_true']
 exact ⟨⟨⟨h1,h2⟩,h3⟩,h4⟩
theorem me {s:State} (M:mayF s s.version=0) {n:Nat} (h:n<s.snaps.length):bl s.version (cG s.version) (s.snaps.getD n (dflt (.nm .snap)))=true:=
 (eN M).2.2 _ (List.mem_of_getElem? (gd (d:=dflt (.nm .snap)) (by omega)))
theorem vx {s:State} (M:mayF s s.version=0) {n:Nat} (h:n<s.snaps.length) {x:Snap} (hi:x.id=(s.snaps.getD n (dflt (.nm .snap))).id) (hx:bl s.version (cG s.version) x=true):mayF (State.mk s.version s.next s.keep s.quota s.sess s.opens (s.snaps.set n x)) s.version=0:=by
 obtain ⟨k1,k2,k3⟩:=eN M
 refine e_ M (ki M) (cW M) (by rw [List.length_set]; exact k1) ?_ fun y hy=>?_
 ·rw [iV,iN (d:=dflt (.nm .snap)) h hi,<- iV]; exact k2
 ·rcases List.mem_or_eq_of_mem_set hy with hy | rfl
  ·exact k3 y hy
  ·exact hx
structure ActOk (s:State) (r:State × Reply):Prop where
 may:mayF r.1 r.1.version=0
 ver:r.1.version=s.version
 nxt:s.next<=r.1.next/\r.1.next<=s.next+1
 code:0<=r.2.code/\r.2.code<=99
 n:0<=r.2.n/\r.2.n<=1048576
theorem ActOk.refl {s:State} (M:mayF s s.version=0) {e n:Int} (h1:0<=e/\e<=99) (h2:0<=n/\n<=1048576):ActOk s (s,⟨e,n⟩):=⟨M,rfl,⟨Int.le_refl _,by show s.next<=s.next+1; omega⟩,h1,h2⟩
theorem AN {Q:State × Reply->Prop} {s:State} {c:Command} (h0:∀ e:Int,¬ e=0->0<=e->e<=99->Q (s,⟨e,0⟩))
  (ht:bN s c=0->c.kind=11->Q (ax (cF c) c s)) (hh:∀ b,bN s c=0->(b=true->c.kind=9)->(c.kind=9\/c.kind=10)->Q (ax (bq b) c s)) (hl:bN s c=0->c.kind=7->Q (ax bj c s)) (hp:bN s c=0->c.kind=5->Q (ax aK c s))
  (hq:bN s c=0->c.kind=12->Q (cn c s)) (hk:bN s c=0->c.kind=6->Q (df c s)) (ha:bN s c=0->c.kind=4->Q (a_ s c)) (hc:bN s c=0->c.kind=3->Q (aS s c)) (hb:bN s c=0->c.kind=2->Q (aW s c)):Q (bz s c):=by
 unfold bz
 split
 ·exact h0 _ (by assumption) oa.1 oa.2
 ·rename_i h
  have h:bN s c=0:=Classical.not_not.1 h
  unfold nB
  split
  ·exact ht h (by assumption)
  split
  ·rename_i _ k; exact hh _ h (fun e=>by cases e) (.inr k)
  split
  ·rename_i _ _ k; exact hh _ h (fun _=>k) (.inl k)
  split
  ·exact hl h (by assumption)
  split
  ·exact hp h (by assumption)
  split
  ·exact hq h (by assumption)
  split
  ·exact hk h (by assumption)
  split
  ·exact ha h (by assumption)
  split
  ·exact hc h (by assumption)
  split
  ·exact hb h (by assumption)
  ·exact h0 1 (by decide) (by decide) (by decide)
theorem fF {Q:State × Reply->Prop} {f:State->Nat->State × Reply} {s:State} {c:Command} (h0:Q (s,⟨15,0⟩)) (h:∀ n:Nat,(n:Int)=ai Snap.id c.id s.snaps->n<s.snaps.length->Q (f s n)):Q (ax f c s):=by
 unfold ax
 split
 ·exact h0
 ·rename_i hp
  have:=bI (key:=Snap.id) (want:=c.id) (l:=s.snaps) (by omega)
  exact h _ (by omega) (by omega)
theorem AB {s:State} {c:Command} (M:mayF s s.version=0):ActOk s (bz s c):=by
 have mk:∀ {e:Int},0<=e->e<=99->ActOk s (s,⟨e,0⟩):=fun h1 h2=>ActOk.refl M ⟨h1,h2⟩ ⟨Int.le_refl _,by decide⟩
 have one:s.next<=s.next+1:=by omega
 have z:(0:Int)<=0/\(0:Int)<=99:=by decide
 have zn:(0:Int)<=0/\(0:Int)<=1048576:=by decide
 have z1:(0:Int)<=1/\(1:Int)<=1048576:=by decide
 refine AN (fun e _ h1 h2=>mk h1 h2) (fun A k=>?_) (fun b A kb k=>?_) (fun A k=>?_) (fun A k=>?_) (fun A k=>?_) (fun A k=>?_) (fun A k=>?_) (fun A k=>?_) (fun A k=>?_)
 ·-- a tag
  obtain ⟨⟨v1,v2⟩,_,nv,F⟩:=dL (eY A).2
  refine fF (Q:=ActOk s) (mk (by decide) (by decide)) fun n hn hl=>?_
  obtain ⟨p1,p2,p3,p4⟩:=fJ (me M hl)
  rw [k,show bC 11=3 from rfl] at nv
  have tm:cG s.version=16:=by unfold cG; rw [if_neg (by omega)]
  refine ⟨vx M hl rfl (jq p1 p2 p3 ?_),rfl,⟨Int.le_refl _,one⟩,z,zn⟩
  rw [tm]; exact Cg F k
 ·-- a hold
  obtain ⟨⟨v1,v2⟩,_,nv,F⟩:=dL (eY A).2
  refine fF (Q:=ActOk s) (mk (by decide) (by decide)) fun n hn hl=>?_
  obtain ⟨p1,p2,p3,p4⟩:=fJ (me M hl)
  unfold bq
  split
  ·exact mk (by decide) (by decide)
  ·refine ⟨vx M hl rfl (jq p1 p2 (.inr ?_) p4),rfl,⟨Int.le_refl _,one⟩,z,z1⟩
   rcases k with k | k
   ·rw [k,show bC 9=2 from rfl] at nv; exact nv
   ·rw [k,show bC 10=2 from rfl] at nv; exact nv
 ·-- a look
  refine fF (Q:=ActOk s) (mk (by decide) (by decide)) fun n hn hl=>?_
  have h1:=oR (Ay (me M hl))
  exact ActOk.refl M ⟨by decide,by decide⟩ ⟨by omega,by omega⟩
 ·-- a prune
  refine fF (Q:=ActOk s) (mk (by decide) (by decide)) fun n hn hl=>?_
  unfold aK
  split
  ·exact mk (by decide) (by decide)
  split
  ·exact mk (by decide) (by decide)
  ·obtain ⟨k1,k2,k3⟩:=eN M
   have hs:(bb (s.snaps.getD n (dflt (.nm .snap))).id s.snaps).Sublist s.snaps:=List.filter_sublist
   have hf:=AR (l:=s.snaps) (id:=(s.snaps.getD n (dflt (.nm .snap))).id)
   exact ⟨e_ M (ki M) (cW M) (Nat.le_trans hs.length_le k1) (pM hs k2) fun x hx=>k3 x (hs.subset hx),rfl,⟨Int.le_refl _,one⟩,z,⟨by dsimp only; omega,by dsimp only; omega⟩⟩
 ·-- a quota
  obtain ⟨⟨v1,v2⟩,_,nv,F⟩:=dL (eY A).2
  rw [k,show bC 12=3 from rfl] at nv
  obtain ⟨k1,k2,k3,k4,k5⟩:=bM M
  obtain ⟨n1,n2,n3,n4⟩:=eV k2
  have hn:=(zN F).2.2 k
  have hd:=wE (l:=s.snaps)
  refine ⟨jY k1 (lJ n1 n2 n3 ?_) k3 k4 k5,rfl,⟨Int.le_refl _,one⟩,z,⟨by show (0:Int)<=(distF s.snaps:Int); omega,by show (distF s.snaps:Int)<=1048576; omega⟩⟩
  show aQ c.n 0 (if s.version<3 then 0 else 64)=true
  rw [if_neg (by omega)]; exact sX hn.1 hn.2
 ·-- a keep
  obtain ⟨_,_,_,F⟩:=dL (eY A).2
  obtain ⟨k1,k2,k3,k4,k5⟩:=bM M
  obtain ⟨n1,n2,n3,n4⟩:=eV k2
  have hn:=(zN F).2.1 k
  exact ⟨jY k1 (lJ n1 n2 (sX hn.1 hn.2) n4) k3 k4 k5,rfl,⟨Int.le_refl _,one⟩,z,zn⟩
 ·-- an abort
  unfold a_
  split
  ·exact mk (by decide) (by decide)
  ·obtain ⟨k1,k2,k3⟩:=eN M
   have hs:=uE (l:=s.opens) (i:=bp s c) (by omega)
   exact ⟨e_ M (ki M) ⟨pM hs (cW M).1,fun x hx=>(cW M).2 x (hs.subset hx)⟩ k1 k2 k3,rfl,⟨Int.le_refl _,one⟩,z,zn⟩
 ·-- a commit
  obtain ⟨⟨v1,v2⟩,_,nv,F⟩:=dL (eY A).2
  unfold aS
  split
  ·exact mk (by decide) (by decide)
  split
  ·exact mk (by decide) (by decide)
  split
  ·exact mk (by decide) (by decide)
  ·rename_i o1 o2 o3
   obtain ⟨k1,k2,k3⟩:=eN M
   have hnx:=ki M
   have hs:=uE (l:=s.opens) (i:=bp s c) (by omega)
   have hset:=vp F (.inr (.inl k))
   refine ⟨e_ M ⟨by omega,by omega⟩ ⟨pM hs (cW M).1,fun x hx=>(cW M).2 x (hs.subset hx)⟩ (by rw [List.length_append]; simp only [List.length_cons,List.length_nil]; omega) ?_ fun x hx=>?_,rfl,⟨by dsimp only; omega,by dsimp only; omega⟩,z,⟨by dsimp only; omega,by dsimp only; omega⟩⟩
   ·exact vr (most:=s.next - 1) (by dsimp only; omega) (by dsimp only; omega) (by omega) k2
   ·rcases List.mem_append.1 hx with hx | hx
    ·exact k3 x hx
    ·rw [List.mem_singleton] at hx; subst hx
     refine jq (th F k) (sX hset.1 hset.2) (.inl rfl) ?_
     show (0:Int)<=cG s.version
     unfold cG; split <;> decide
 ·-- a begin
  obtain ⟨⟨v1,v2⟩,_,nv,F⟩:=dL (eY A).2
  have hset:=vp F (.inl k)
  have hcl:=mz F (by omega)
  unfold aW
  split
  ·rename_i hp
   have hl:=bI hp
   have ho:=(cW M).2 _ (List.mem_of_getElem? (gd (d:=dflt (.nm .opn)) (k:=(ai Opn.set c.set s.opens).toNat) (l:=s.opens) (by omega)))
   have:=lf (show aQ _ 1 8=true from ho)
   exact ActOk.refl M ⟨by decide,by decide⟩ ⟨by omega,by omega⟩
  ·rename_i hp
   obtain ⟨k1,k2,k3⟩:=eN M
   refine ⟨e_ M (ki M) ⟨pY (x:=Opn.mk c.set c.client) (cW M).1 (by dsimp only; omega) (by dsimp only; omega) fun y hy=>lL (key:=Opn.set) (want:=c.set) (l:=s.opens) (by omega) y hy,fun x hx=>?_⟩ k1 k2 k3,rfl,⟨Int.le_refl _,one⟩,z,zn⟩
   rcases vq hx with rfl | hx
   ·exact sX hcl.1 hcl.2
   ·exact (cW M).2 x hx
end Go.Proofs.YtdggohppeeaipaaGreat
namespace Go.Proofs.YtdggohppeeaipaaGreat
open Go.RowKit
theorem od {s:State} {v:Int} (M:mayF s v=0) {se:List Sess} (h:aj Sess.client 8 0 se=true/\∀ x ∈ se,aM x=true):mayF (State.mk s.version s.next s.keep s.quota se s.opens s.snaps) v=0:=by
 obtain ⟨k1,k2,k3,k4,k5⟩:=bM M
 refine jY k1 k2 ?_ k4 k5
 show (aj Sess.client 8 0 se && se.all aM)=true
 rw [h.1,List.all_eq_true.2 h.2]; rfl
theorem By {s:State} {c:Command} (M:mayF s s.version=0) (h:bh c s.version=0) (k:c.kind=8) (hn:c.n=s.version+1):mayF (State.mk c.n s.next s.keep s.quota s.sess s.opens s.snaps) c.n=0:=by
 obtain ⟨⟨v1,v2⟩,_,nv,F⟩:=dL h
 have hr:=(zN F).1 k
 obtain ⟨k1,k2,k3,k4,k5⟩:=bM M
 obtain ⟨n1,n2,n3,n4⟩:=eV k2
 obtain ⟨s1,s2,s3⟩:=eN M
 have hq:=lf n4
 refine jY (sX (by omega) hr.2) (lJ (sX (by dsimp only; omega) hr.2) n2 n3 ?_) k3 k4 (jR s1 s2 fun x hx=>?_)
 ·show aQ s.quota 0 (if c.n<3 then 0 else 64)=true
  refine sX hq.1 ?_
  have:=hq.2
  split at this <;> split <;> omega
 ·obtain ⟨p1,p2,p3,p4⟩:=fJ (s3 x hx)
  refine jq p1 p2 (p3.imp id fun h=>by omega) (Int.le_trans p4 ?_)
  unfold cG; split <;> split <;> omega
theorem Dx {s:State} {c:Command} (M:mayF s s.version=0) (h:bh c s.version=0) (k:c.kind=1) (hp:ai Sess.client c.client s.sess<0):mayF (State.mk s.version s.next s.keep s.quota (fG s.sess (s.sess.takeWhile fun y=>decide (y.client<c.client)).length ⟨c.client,0,⟨0,0⟩⟩) s.opens s.snaps) s.version=0:=by
 obtain ⟨_,_,_,F⟩:=dL h
 have hc:=mz F (by omega)
 refine od M ⟨pY (x:=Sess.mk c.client 0 (Reply.mk 0 0)) (iY M).1 (by dsimp only; omega) (by dsimp only; omega) fun y hy=>lL (key:=Sess.client) (want:=c.client) (l:=s.sess) hp y hy,fun x hx=>?_⟩
 rcases vq hx with rfl | hx
 ·rfl
 ·exact (iY M).2 x hx
theorem AT {s:State} {c:Command} (M:mayF s s.version=0) (h:bh c s.version=0) (h3:¬ c.kind=8) (h4:¬ c.kind=1) (hk:0<=ai Sess.client c.client s.sess):mayF (State.mk (bz s c).1.version (bz s c).1.next (bz s c).1.keep (bz s c).1.quota (s.sess.set (ai Sess.client c.client s.sess).toNat (Sess.mk (s.sess.getD (ai Sess.client c.client s.sess).toNat (dflt (.nm .sess))).client c.seq (bz s c).2)) (bz s c).1.opens (bz s c).1.snaps) (bz s c).1.version=0:=by
 obtain ⟨a1,a2,a3,a4,a5⟩:=AB (c:=c) M
 obtain ⟨_,_,_,F⟩:=dL h
 have hq:=CP F h3 h4
 have hl:=bI hk
 have hn:(ai Sess.client c.client s.sess).toNat<s.sess.length:=by omega
 refine od a1 ⟨?_,fun x hx=>?_⟩
 ·rw [iV,iN (d:=dflt (.nm .sess)) (x:=Sess.mk (s.sess.getD (ai Sess.client c.client s.sess).toNat (dflt (.nm .sess))).client c.seq (bz s c).2) hn rfl,<- iV]; exact (iY M).1
 ·rcases List.mem_or_eq_of_mem_set hx with hx | rfl
  ·exact (iY M).2 x hx
  ·show ((aQ c.seq 0 1048576 && aQ (bz s c).2.code 0 99) && aQ (bz s c).2.n 0 1048576)=true
   rw [sX (n:=c.seq) (a:=0) (b:=1048576) (by omega) hq.2,sX a4.1 a4.2,sX a5.1 a5.2]; rfl
end Go.Proofs.YtdggohppeeaipaaGreat
