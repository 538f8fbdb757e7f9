/- What leads to the law, part 5. Conditions: each lemma's own. -/
import Derived.Test.YtdggohppeeaipaaGreatKBM4
set_option linter.unusedVariables false
set_option linter.unusedSimpArgs false
namespace Go.Proofs.YtdggohppeeaipaaGreat
open Go.RowKit
theorem cm {k:Nat} {n:Int} (h0:¬ (k:Int)=0) (hk:(k:Int)<n) (hn:n<=140737488355328):(eK (k:Int) 1).toNat=k - 1/\0<=eK (k:Int) 1/\eK (k:Int) 1<n:=by
 rw [CE ⟨by omega,by omega⟩]; omega
theorem p_ {st:State} {v:Int}:(ba st.version 1 3 && ba st.next 1 1048576 && ba st.keep 0 8 && ba st.quota 0 64 && (decide (st.quota=0) || decide (3<=v)) && decide ((st.snaps.length:Int)<=16))=(iG st v && aS aN Sess.client 8 (st.sess.take 0)):=(Bool.and_true _).symm
theorem rA {st:State} {v:Int} {k:Nat} (h:(st.sess.length:Int)<=k):(iG st v && aS aN Sess.client 8 (st.sess.take k))=((iG st v && aS aN Sess.client 8 (st.sess.take st.sess.length)) && aS aM Opn.set 8 (st.opens.take 0)):=by
 rw [List.take_of_length_le (by omega),List.take_length]; exact (Bool.and_true _).symm
theorem pZ {B:Bool} {st:State} {v:Int} {k:Nat} (h:(st.opens.length:Int)<=k):(B && aS aM Opn.set 8 (st.opens.take k))=((B && aS aM Opn.set 8 (st.opens.take st.opens.length)) && cu st v (st.snaps.take 0)):=by
 rw [List.take_of_length_le (by omega),List.take_length]; exact (Bool.and_true _).symm
section
variable {B:Bool} {k:Nat}
theorem pt {l:List Sess} {x:Sess} (hx:l[k]? = some x):(B && aS aN Sess.client 8 (l.take (k+1)))=((((((B && aS aN Sess.client 8 (l.take k)) && ba x.client 1 8) && ba x.seq 0 1048576) && ba x.last.code 0 99) && ba x.last.n 0 1048576) && (decide ((k:Int)=0) || decide (aW Sess.client 0 (l.take k)<x.client))):=vE hx
theorem iM {l:List Opn} {x:Opn} (hx:l[k]? = some x):(B && aS aM Opn.set 8 (l.take (k+1)))=((((B && aS aM Opn.set 8 (l.take k)) && ba x.set 1 8) && ba x.client 1 8) && (decide ((k:Int)=0) || decide (aW Opn.set 0 (l.take k)<x.set))):=vk hx
theorem jV {l:List Sess} {x:Sess} (hx:l[k]? = some x) (a:(B && aS aN Sess.client 8 (l.take k))=true) (b:ba x.client 1 8=true) (c:ba x.seq 0 1048576=true) (d:ba x.last.code 0 99=true) (e:ba x.last.n 0 1048576=true) (h0:(k:Int)=0):true=(B && aS aN Sess.client 8 (l.take (k+1))):=by
 rw [pt hx,a,b,c,d,e,decide_eq_true h0]; rfl
theorem kg {l:List Sess} {x:Sess} (hx:l[k]? = some x) (a:(B && aS aN Sess.client 8 (l.take k))=true) (b:ba x.client 1 8=true) (c:ba x.seq 0 1048576=true) (d:ba x.last.code 0 99=true) (e:ba x.last.n 0 1048576=true) (h0:¬ (k:Int)=0) (hk:(k:Int)<l.length) (hl:(l.length:Int)<=140737488355328):decide ((l.getD (eK (k:Int) 1).toNat (dflt (.nm .sess))).client<x.client)=(B && aS aN Sess.client 8 (l.take (k+1))):=by
 have hs:=(cm h0 hk hl).1
 rw [pt hx,a,b,c,d,e,decide_eq_false h0,hs,eY (by omega) (gd (d:=dflt (.nm .sess)) (by omega))]; rfl
theorem qj {l:List Sess} {x:Sess} (hx:l[k]? = some x) (h:(((((B && aS aN Sess.client 8 (l.take k))=false\/ba x.client 1 8=false)\/ba x.seq 0 1048576=false)\/ba x.last.code 0 99=false)\/ba x.last.n 0 1048576=false)):false=(B && aS aN Sess.client 8 (l.take (k+1))):=by
 rw [pt hx]; rcases h with (((h | h) | h) | h) | h <;> rw [h] <;> simp
theorem ka {l:List Opn} {x:Opn} (hx:l[k]? = some x) (a:(B && aS aM Opn.set 8 (l.take k))=true) (b:ba x.set 1 8=true) (c:ba x.client 1 8=true) (h0:(k:Int)=0):true=(B && aS aM Opn.set 8 (l.take (k+1))):=by
 rw [iM hx,a,b,c,decide_eq_true h0]; rfl
theorem jT {l:List Opn} {x:Opn} (hx:l[k]? = some x) (a:(B && aS aM Opn.set 8 (l.take k))=true) (b:ba x.set 1 8=true) (c:ba x.client 1 8=true) (h0:¬ (k:Int)=0) (hk:(k:Int)<l.length) (hl:(l.length:Int)<=140737488355328):decide ((l.getD (eK (k:Int) 1).toNat (dflt (.nm .opn))).set<x.set)=(B && aS aM Opn.set 8 (l.take (k+1))):=by
 have hs:=(cm h0 hk hl).1
 rw [iM hx,a,b,c,decide_eq_false h0,hs,eY (by omega) (gd (d:=dflt (.nm .opn)) (by omega))]; rfl
theorem ku {l:List Opn} {x:Opn} (hx:l[k]? = some x) (h:(B && aS aM Opn.set 8 (l.take k))=false):false=(B && aS aM Opn.set 8 (l.take (k+1))):=by rw [iM hx,h]; rfl
theorem kz {l:List Opn} {x:Opn} (hx:l[k]? = some x) (h:ba x.set 1 8=false):false=(B && aS aM Opn.set 8 (l.take (k+1))):=by rw [iM hx,h]; simp
theorem kj {l:List Opn} {x:Opn} (hx:l[k]? = some x) (h:ba x.client 1 8=false):false=(B && aS aM Opn.set 8 (l.take (k+1))):=by rw [iM hx,h]; simp
variable {st:State} {v:Int}
theorem ke (hk:(k:Int)<st.snaps.length) (a:(B && cu st v (st.snaps.take k))=true) (b:dK st.next v (st.snaps.getD k (dflt (.nm .snap)))=true) (h0:(k:Int)=0):true=(B && cu st v (st.snaps.take (k+1))):=by
 rw [gf (gd hk),a,b,decide_eq_true h0]; rfl
theorem jU (hk:(k:Int)<st.snaps.length) (a:(B && cu st v (st.snaps.take k))=true) (b:dK st.next v (st.snaps.getD k (dflt (.nm .snap)))=true) (h0:¬ (k:Int)=0) (hl:(st.snaps.length:Int)<=140737488355328):decide ((st.snaps.getD (eK (k:Int) 1).toNat (dflt (.nm .snap))).id<(st.snaps.getD k (dflt (.nm .snap))).id)=(B && cu st v (st.snaps.take (k+1))):=by
 have hs:=(cm h0 hk hl).1
 rw [gf (gd (d:=dflt (.nm .snap)) hk),a,b,decide_eq_false h0,hs,eY (by omega) (gd (d:=dflt (.nm .snap)) (by omega))]; rfl
theorem jS (hk:(k:Int)<st.snaps.length) (a:(B && cu st v (st.snaps.take k))=false):false=(B && cu st v (st.snaps.take (k+1))):=by rw [gf (gd (d:=dflt (.nm .snap)) hk),a]; rfl
theorem kr (hk:(k:Int)<st.snaps.length) (b:dK st.next v (st.snaps.getD k (dflt (.nm .snap)))=false):false=(B && cu st v (st.snaps.take (k+1))):=by rw [gf (gd (d:=dflt (.nm .snap)) hk),b]; simp
end
theorem qi {st:State} {v:Int} {k:Nat} (hv:ba v 1 3=true) (h:(((iG st v && aS aN Sess.client 8 (st.sess.take st.sess.length)) && aS aM Opn.set 8 (st.opens.take st.opens.length)) && cu st v (st.snaps.take k))=false) (hk:(st.snaps.length:Int)<=k):6=mayF st v:=
 GK (by rw [hv]; rfl) (Nat.le_refl _) (Nat.le_refl _) (by omega:st.snaps.length<=k) (by rw [h]; rfl)
theorem qg {st:State} {v:Int} {k:Nat} (hv:ba v 1 3=true) (h:(((iG st v && aS aN Sess.client 8 (st.sess.take st.sess.length)) && aS aM Opn.set 8 (st.opens.take st.opens.length)) && cu st v (st.snaps.take k))=true) (hk:(st.snaps.length:Int)<=k):0=mayF st v:=
 Gs (by rw [hv]; rfl) (Nat.le_refl _) (Nat.le_refl _) (by omega:st.snaps.length<=k) (by rw [h]; rfl)
theorem pD {st:State} {v:Int} (hv:ba v 1 3=false):1=mayF st v:=Hu (by rw [hv]; rfl)
def CQ (st:State) (v:Int):List (Nat × LI):=[(5,{ σ:=Nat,F:=fun k=>([(1,one (.int (v))),(2,one (.ptr 0 0)),(5,one (.bool (.atom (iG st v && aS aN Sess.client 8 (st.sess.take k))))),(6,one (.int k))],[.box 26 (cellsOf (.nm .state) ((st)))]),J:=fun k=>k<=st.sess.length,μ:=fun k=>st.sess.length - k }),(11,{ σ:=Nat,F:=fun k=>([(1,one (.int (v))),(2,one (.ptr 0 0)),(5,one (.bool (.atom ((iG st v && aS aN Sess.client 8 (st.sess.take st.sess.length)) && aS aM Opn.set 8 (st.opens.take k))))),(8,one (.int k))],[.box 26 (cellsOf (.nm .state) ((st)))]),J:=fun k=>k<=st.opens.length,μ:=fun k=>st.opens.length - k }),(16,{ σ:=Nat,F:=fun k=>([(1,one (.int (v))),(2,one (.ptr 0 0)),(5,one (.bool (.atom (((iG st v && aS aN Sess.client 8 (st.sess.take st.sess.length)) && aS aM Opn.set 8 (st.opens.take st.opens.length)) && cu st v (st.snaps.take k))))),(10,one (.int k))],[.box 26 (cellsOf (.nm .state) ((st)))]),J:=fun k=>k<=st.snaps.length,μ:=fun k=>st.snaps.length - k })]
theorem Fc (st:State) (v:Int) (r0:Int):cN aF (CF yH) (CQ st v) Tryz.f18 [.agg (cellsOf (.nm .state) st),.c (.int (v))] [] [.c (.int (r0))]=((fun (q13:den (Sh.nm NT.sess))=>(fun (q12:Bool)=>(fun (q11:Nat)=>(fun (q10:Prop)=>(fun (q9:den (Sh.nm NT.snap))=>(fun (q8:List Sess)=>(fun (q7:Int)=>(fun (q6:Int)=>(fun (q5:List Opn)=>(fun (q4:List Snap)=>(fun (q3:Int)=>(fun (q2:Bool)=>(fun (q1:Bool)=>(fun (q0:Prop)=>I64 st.version->I64 st.next->I64 st.keep->I64 st.quota->q8.length*(32:Nat)<=q11->q5.length*(16:Nat)<=q11->q4.length*(64:Nat)<=q11->I64 v->(ba v q3 (3:Int)=false->q3=r0)/\(ba v q3 (3:Int)=true->∃ (s0:Nat),(fun (q20:Int)=>(fun (q19:Int)=>(fun (q18:Int)=>(fun (q17:Bool)=>(fun (q16:Nat)=>(fun (q15:Nat)=>(fun (q14:Nat)=>(q10/\(ba st.version q3 (3:Int) && ba st.next q3 (1048576:Int) && ba st.keep q6 q7 && ba st.quota q6 (64:Int) && (decide (st.quota=q6) || decide ((3:Int)<=v)) && decide (q18<=(16:Int)))=(q12 && aS aN Sess.client q7 (List.take s0 q8))/\q6=(↑s0:Int)/\q0)/\s0<=q16/\∀ (s:Nat),(fun (q24:Int)=>(fun (q23:Int)=>(fun (q22:Bool)=>(fun (q21:den (Sh.nm NT.sess))=>s<=q16->(q24<q20->q6<=q24/\q24<q20/\∀ (x:Sess),q8[s]? = some x->I64 x.client->I64 x.seq->I64 x.last.code->I64 x.last.n->((((q22=true/\ba x.client q3 q7=true)/\ba x.seq q6 (1048576:Int)=true)/\ba x.last.code q6 (99:Int)=true)/\ba x.last.n q6 (1048576:Int)=true->(q24=q6->I64 q23/\∃ (s':Nat),(q10/\true=(q12 && aS aN Sess.client q7 (List.take s' q8))/\q23=(↑s':Int)/\q0)/\s' <= q16/\q16 - s' < q16 - s)/\(¬q24=q6->(q6<=eK q24 q3/\eK q24 q3<q20)/\(I64 q21.client->I64 q21.seq->I64 q21.last.code->I64 q21.last.n->I64 q23/\∃ (s':Nat),(q10/\decide (q21.client<x.client)=(q12 && aS aN Sess.client q7 (List.take s' q8))/\q23=(↑s':Int)/\q0)/\s' <= q16/\q16 - s' < q16 - s)))/\((((q22=false\/ba x.client q3 q7=false)\/ba x.seq q6 (1048576:Int)=false)\/ba x.last.code q6 (99:Int)=false)\/ba x.last.n q6 (1048576:Int)=false->I64 q23/\∃ (s':Nat),(q10/\false=(q12 && aS aN Sess.client q7 (List.take s' q8))/\q23=(↑s':Int)/\q0)/\s' <= q16/\q16 - s' < q16 - s))/\(q20<=q24->∃ (s0:Nat),(q10/\q22=(q1 && aS aM Opn.set q7 (List.take s0 q5))/\q6=(↑s0:Int)/\q0)/\s0<=q14/\∀ (s:Nat),(fun (q29:Int)=>(fun (q28:Int)=>(fun (q27:Bool)=>(fun (q26:den (Sh.nm NT.opn))=>(fun (q25:Prop)=>s<=q14->(q29<q19->q6<=q29/\q29<q19/\∀ (x:Opn),q5[s]? = some x->I64 x.set->I64 x.client->(q27=true->(ba x.set q3 q7=true->(ba x.client q3 q7=true->(q29=q6->I64 q28/\∃ (s':Nat),(q10/\true=(q1 && aS aM Opn.set q7 (List.take s' q5))/\q28=(↑s':Int)/\q0)/\s' <= q14/\q14 - s' < q14 - s)/\(¬q29=q6->(q6<=eK q29 q3/\eK q29 q3<q19)/\(I64 q26.set->I64 q26.client->I64 q28/\∃ (s':Nat),(q10/\decide (q26.set<x.set)=(q1 && aS aM Opn.set q7 (List.take s' q5))/\q28=(↑s':Int)/\q0)/\s' <= q14/\q14 - s' < q14 - s)))/\(ba x.client q3 q7=false->q25))/\(ba x.set q3 q7=false->q25))/\(q27=false->q25))/\(q19<=q29->∃ (s0:Nat),(q10/\q27=(q17 && cu st v (List.take s0 q4))/\q6=(↑s0:Int)/\q0)/\s0<=q15/\∀ (s:Nat),(fun (q34:Int)=>(fun (q33:Bool)=>(fun (q32:den (Sh.nm NT.snap))=>(fun (q31:den (Sh.nm NT.snap))=>(fun (q30:Prop)=>s<=q15->(q34<q18->q6<=q34/\q34<q18/\(I64 q32.id->I64 q32.set->q32.chunks.length*(8:Nat)<=q11->q32.tag.b.length<=q11->(q33=true->(dK st.next v q32=true->(q34=q6->I64 (q34+q3)/\∃ (s':Nat),(q10/\true=(q17 && cu st v (List.take s' q4))/\q34+q3=(↑s':Int)/\q0)/\s' <= q15/\q15 - s' < q15 - s)/\(¬q34=q6->(q6<=eK q34 q3/\eK q34 q3<q18)/\(q6<=q34/\q34<q18)/\(I64 q31.id->I64 q31.set->q31.chunks.length*(8:Nat)<=q11->q31.tag.b.length<=q11->I64 q32.id->I64 q32.set->q32.chunks.length*(8:Nat)<=q11->q32.tag.b.length<=q11->I64 (q34+q3)/\∃ (s':Nat),(q10/\decide (q31.id<q32.id)=(q17 && cu st v (List.take s' q4))/\q34+q3=(↑s':Int)/\q0)/\s' <= q15/\q15 - s' < q15 - s)))/\(dK st.next v q32=false->q30))/\(q33=false->q30)))/\(q18<=q34->(q33=false->(6:Int)=r0)/\(q33=true->q6=r0))) (I64 (q34+q3)/\∃ (s':Nat),(q10/\false=(q17 && cu st v (List.take s' q4))/\q34+q3=(↑s':Int)/\q0)/\s' <= q15/\q15 - s' < q15 - s)) (q4.getD (eK q34 q3).toNat q9)) (q4.getD s q9)) (q17 && cu st v (List.take s q4))) (↑s:Int))) (I64 q28/\∃ (s':Nat),(q10/\false=(q1 && aS aM Opn.set q7 (List.take s' q5))/\q28=(↑s':Int)/\q0)/\s' <= q14/\q14 - s' < q14 - s)) (q5.getD (eK q29 q3).toNat (dflt (Sh.nm NT.opn)))) (q1 && aS aM Opn.set q7 (List.take s q5))) (q29+q3)) (↑s:Int))) (q8.getD (eK q24 q3).toNat q13)) (q12 && aS aN Sess.client q7 (List.take s q8))) (q24+q3)) (↑s:Int)) q5.length) q4.length) q8.length) (q1 && q2)) (↑q4.length:Int)) (↑q5.length:Int)) (↑q8.length:Int))) (st.version=st.version/\st.next=st.next/\st.keep=st.keep/\st.quota=st.quota/\q8=q8/\q5=q5/\q4=q4)) (q12 && aS aN Sess.client q7 (List.take q8.length q8))) (aS aM Opn.set q7 (List.take q5.length q5))) (1:Int)) st.snaps) st.opens) (0:Int)) (8:Int)) st.sess) (dflt (Sh.nm NT.snap))) (v=v)) (140737488355328:Nat)) (iG st v)) (dflt (Sh.nm NT.sess))):=by kernel_rfl
theorem ES (st:State) (v:Int):Sat Tryz.prog (aq aF) 18 [.agg (cellsOf (.nm .state) st),.c (.int (v))] [] ⟨[],[.c (.int ((mayF st v)))],none,false⟩:=by
 refine aR (uE qY) (CQ st v) Tryz.func18 (by decide) (by kernel_rfl) ?_
 rw [Fc]
 (repeat' (first | with_reducible refine And.intro ?_ ?_ | with_reducible refine and_imp.2 ?_ | intro))
 all_goals try (first | (first | with_reducible rfl | with_reducible assumption | omega | (refine aj ?_ ?_ <;> omega)) | exact rfl | exact (pD (by with_reducible assumption)) | exact p_ | exact (rA (by omega)) | exact (pZ (by omega)) | exact (cm (by with_reducible assumption) (by with_reducible assumption) (by omega)).2.1 | exact (cm (by with_reducible assumption) (by with_reducible assumption) (by omega)).2.2 | exact (jV (by with_reducible assumption) (by with_reducible assumption) (by with_reducible assumption) (by with_reducible assumption) (by with_reducible assumption) (by with_reducible assumption) (by with_reducible assumption)) | exact (kg (by with_reducible assumption) (by with_reducible assumption) (by with_reducible assumption) (by with_reducible assumption) (by with_reducible assumption) (by with_reducible assumption) (by with_reducible assumption) (by with_reducible assumption) (by omega)) | exact (qj (by with_reducible assumption) (by with_reducible assumption)) | exact (ka (by with_reducible assumption) (by with_reducible assumption) (by with_reducible assumption) (by with_reducible assumption) (by with_reducible assumption)) | exact (jT (by with_reducible assumption) (by with_reducible assumption) (by with_reducible assumption) (by with_reducible assumption) (by with_reducible assumption) (by with_reducible assumption) (by omega)) | exact (ku (by with_reducible assumption) (by with_reducible assumption)) | exact (kz (by with_reducible assumption) (by with_reducible assumption)) | exact (kj (by with_reducible assumption) (by with_reducible assumption)) | exact (ke (by with_reducible assumption) (by with_reducible assumption) (by with_reducible assumption) (by with_reducible assumption)) | exact (jU (by with_reducible assumption) (by with_reducible assumption) (by with_reducible assumption) (by with_reducible assumption) (by omega)) | exact (jS (by with_reducible assumption) (by with_reducible assumption)) | exact (kr (by with_reducible assumption) (by with_reducible assumption)) | exact (qi (by with_reducible assumption) (by with_reducible assumption) (by omega)) | exact (qg (by with_reducible assumption) (by with_reducible assumption) (by omega)))
 all_goals try (refine ⟨0,?_⟩; (repeat' (first | with_reducible refine And.intro ?_ ?_ | with_reducible refine and_imp.2 ?_ | intro)))
 all_goals try (first | (first | with_reducible rfl | with_reducible assumption | omega | (refine aj ?_ ?_ <;> omega)) | exact rfl | exact (pD (by with_reducible assumption)) | exact p_ | exact (rA (by omega)) | exact (pZ (by omega)) | exact (cm (by with_reducible assumption) (by with_reducible assumption) (by omega)).2.1 | exact (cm (by with_reducible assumption) (by with_reducible assumption) (by omega)).2.2 | exact (jV (by with_reducible assumption) (by with_reducible assumption) (by with_reducible assumption) (by with_reducible assumption) (by with_reducible assumption) (by with_reducible assumption) (by with_reducible assumption)) | exact (kg (by with_reducible assumption) (by with_reducible assumption) (by with_reducible assumption) (by with_reducible assumption) (by with_reducible assumption) (by with_reducible assumption) (by with_reducible assumption) (by with_reducible assumption) (by omega)) | exact (qj (by with_reducible assumption) (by with_reducible assumption)) | exact (ka (by with_reducible assumption) (by with_reducible assumption) (by with_reducible assumption) (by with_reducible assumption) (by with_reducible assumption)) | exact (jT (by with_reducible assumption) (by with_reducible assumption) (by with_reducible assumption) (by with_reducible assumption) (by with_reducible assumption) (by with_reducible assumption) (by omega)) | exact (ku (by with_reducible assumption) (by with_reducible assumption)) | exact (kz (by with_reducible assumption) (by with_reducible assumption)) | exact (kj (by with_reducible assumption) (by with_reducible assumption)) | exact (ke (by with_reducible assumption) (by with_reducible assumption) (by with_reducible assumption) (by with_reducible assumption)) | exact (jU (by with_reducible assumption) (by with_reducible assumption) (by with_reducible assumption) (by with_reducible assumption) (by omega)) | exact (jS (by with_reducible assumption) (by with_reducible assumption)) | exact (kr (by with_reducible assumption) (by with_reducible assumption)) | exact (qi (by with_reducible assumption) (by with_reducible assumption) (by omega)) | exact (qg (by with_reducible assumption) (by with_reducible assumption) (by omega)))
 all_goals try (have hg:(‹Nat›:Int)<(st.sess.length:Int):=(by omega); clear hg; refine ⟨‹Nat› + 1,?_⟩; (repeat' (first | with_reducible refine And.intro ?_ ?_ | with_reducible refine and_imp.2 ?_ | intro)))
 all_goals try (first | (first | with_reducible rfl | with_reducible assumption | omega | (refine aj ?_ ?_ <;> omega)) | exact rfl | exact (pD (by with_reducible assumption)) | exact p_ | exact (rA (by omega)) | exact (pZ (by omega)) | exact (cm (by with_reducible assumption) (by with_reducible assumption) (by omega)).2.1 | exact (cm (by with_reducible assumption) (by with_reducible assumption) (by omega)).2.2 | exact (jV (by with_reducible assumption) (by with_reducible assumption) (by with_reducible assumption) (by with_reducible assumption) (by with_reducible assumption) (by with_reducible assumption) (by with_reducible assumption)) | exact (kg (by with_reducible assumption) (by with_reducible assumption) (by with_reducible assumption) (by with_reducible assumption) (by with_reducible assumption) (by with_reducible assumption) (by with_reducible assumption) (by with_reducible assumption) (by omega)) | exact (qj (by with_reducible assumption) (by with_reducible assumption)) | exact (ka (by with_reducible assumption) (by with_reducible assumption) (by with_reducible assumption) (by with_reducible assumption) (by with_reducible assumption)) | exact (jT (by with_reducible assumption) (by with_reducible assumption) (by with_reducible assumption) (by with_reducible assumption) (by with_reducible assumption) (by with_reducible assumption) (by omega)) | exact (ku (by with_reducible assumption) (by with_reducible assumption)) | exact (kz (by with_reducible assumption) (by with_reducible assumption)) | exact (kj (by with_reducible assumption) (by with_reducible assumption)) | exact (ke (by with_reducible assumption) (by with_reducible assumption) (by with_reducible assumption) (by with_reducible assumption)) | exact (jU (by with_reducible assumption) (by with_reducible assumption) (by with_reducible assumption) (by with_reducible assumption) (by omega)) | exact (jS (by with_reducible assumption) (by with_reducible assumption)) | exact (kr (by with_reducible assumption) (by with_reducible assumption)) | exact (qi (by with_reducible assumption) (by with_reducible assumption) (by omega)) | exact (qg (by with_reducible assumption) (by with_reducible assumption) (by omega)))
 all_goals try (have hg:((st.sess.length:Nat):Int)<=(‹Nat›:Int):=(by omega); clear hg; refine ⟨0,?_⟩; (repeat' (first | with_reducible refine And.intro ?_ ?_ | with_reducible refine and_imp.2 ?_ | intro)))
 all_goals try (first | (first | with_reducible rfl | with_reducible assumption | omega | (refine aj ?_ ?_ <;> omega)) | exact rfl | exact (pD (by with_reducible assumption)) | exact p_ | exact (rA (by omega)) | exact (pZ (by omega)) | exact (cm (by with_reducible assumption) (by with_reducible assumption) (by omega)).2.1 | exact (cm (by with_reducible assumption) (by with_reducible assumption) (by omega)).2.2 | exact (jV (by with_reducible assumption) (by with_reducible assumption) (by with_reducible assumption) (by with_reducible assumption) (by with_reducible assumption) (by with_reducible assumption) (by with_reducible assumption)) | exact (kg (by with_reducible assumption) (by with_reducible assumption) (by with_reducible assumption) (by with_reducible assumption) (by with_reducible assumption) (by with_reducible assumption) (by with_reducible assumption) (by with_reducible assumption) (by omega)) | exact (qj (by with_reducible assumption) (by with_reducible assumption)) | exact (ka (by with_reducible assumption) (by with_reducible assumption) (by with_reducible assumption) (by with_reducible assumption) (by with_reducible assumption)) | exact (jT (by with_reducible assumption) (by with_reducible assumption) (by with_reducible assumption) (by with_reducible assumption) (by with_reducible assumption) (by with_reducible assumption) (by omega)) | exact (ku (by with_reducible assumption) (by with_reducible assumption)) | exact (kz (by with_reducible assumption) (by with_reducible assumption)) | exact (kj (by with_reducible assumption) (by with_reducible assumption)) | exact (ke (by with_reducible assumption) (by with_reducible assumption) (by with_reducible assumption) (by with_reducible assumption)) | exact (jU (by with_reducible assumption) (by with_reducible assumption) (by with_reducible assumption) (by with_reducible assumption) (by omega)) | exact (jS (by with_reducible assumption) (by with_reducible assumption)) | exact (kr (by with_reducible assumption) (by with_reducible assumption)) | exact (qi (by with_reducible assumption) (by with_reducible assumption) (by omega)) | exact (qg (by with_reducible assumption) (by with_reducible assumption) (by omega)))
 all_goals try (have hg:(‹Nat›:Int)<(st.opens.length:Int):=(by omega); clear hg; refine ⟨‹Nat› + 1,?_⟩; (repeat' (first | with_reducible refine And.intro ?_ ?_ | with_reducible refine and_imp.2 ?_ | intro)))
 all_goals try (first | (first | with_reducible rfl | with_reducible assumption | omega | (refine aj ?_ ?_ <;> omega)) | exact rfl | exact (pD (by with_reducible assumption)) | exact p_ | exact (rA (by omega)) | exact (pZ (by omega)) | exact (cm (by with_reducible assumption) (by with_reducible assumption) (by omega)).2.1 | exact (cm (by with_reducible assumption) (by with_reducible assumption) (by omega)).2.2 | exact (jV (by with_reducible assumption) (by with_reducible assumption) (by with_reducible assumption) (by with_reducible assumption) (by with_reducible assumption) (by with_reducible assumption) (by with_reducible assumption)) | exact (kg (by with_reducible assumption) (by with_reducible assumption) (by with_reducible assumption) (by with_reducible assumption) (by with_reducible assumption) (by with_reducible assumption) (by with_reducible assumption) (by with_reducible assumption) (by omega)) | exact (qj (by with_reducible assumption) (by with_reducible assumption)) | exact (ka (by with_reducible assumption) (by with_reducible assumption) (by with_reducible assumption) (by with_reducible assumption) (by with_reducible assumption)) | exact (jT (by with_reducible assumption) (by with_reducible assumption) (by with_reducible assumption) (by with_reducible assumption) (by with_reducible assumption) (by with_reducible assumption) (by omega)) | exact (ku (by with_reducible assumption) (by with_reducible assumption)) | exact (kz (by with_reducible assumption) (by with_reducible assumption)) | exact (kj (by with_reducible assumption) (by with_reducible assumption)) | exact (ke (by with_reducible assumption) (by with_reducible assumption) (by with_reducible assumption) (by with_reducible assumption)) | exact (jU (by with_reducible assumption) (by with_reducible assumption) (by with_reducible assumption) (by with_reducible assumption) (by omega)) | exact (jS (by with_reducible assumption) (by with_reducible assumption)) | exact (kr (by with_reducible assumption) (by with_reducible assumption)) | exact (qi (by with_reducible assumption) (by with_reducible assumption) (by omega)) | exact (qg (by with_reducible assumption) (by with_reducible assumption) (by omega)))
 all_goals try (have hg:((st.opens.length:Nat):Int)<=(‹Nat›:Int):=(by omega); clear hg; refine ⟨0,?_⟩; (repeat' (first | with_reducible refine And.intro ?_ ?_ | with_reducible refine and_imp.2 ?_ | intro)))
 all_goals try (first | (first | with_reducible rfl | with_reducible assumption | omega | (refine aj ?_ ?_ <;> omega)) | exact rfl | exact (pD (by with_reducible assumption)) | exact p_ | exact (rA (by omega)) | exact (pZ (by omega)) | exact (cm (by with_reducible assumption) (by with_reducible assumption) (by omega)).2.1 | exact (cm (by with_reducible assumption) (by with_reducible assumption) (by omega)).2.2 | exact (jV (by with_reducible assumption) (by with_reducible assumption) (by with_reducible assumption) (by with_reducible assumption) (by with_reducible assumption) (by with_reducible assumption) (by with_reducible assumption)) | exact (kg (by with_reducible assumption) (by with_reducible assumption) (by with_reducible assumption) (by with_reducible assumption) (by with_reducible assumption) (by with_reducible assumption) (by with_reducible assumption) (by with_reducible assumption) (by omega)) | exact (qj (by with_reducible assumption) (by with_reducible assumption)) | exact (ka (by with_reducible assumption) (by with_reducible assumption) (by with_reducible assumption) (by with_reducible assumption) (by with_reducible assumption)) | exact (jT (by with_reducible assumption) (by with_reducible assumption) (by with_reducible assumption) (by with_reducible assumption) (by with_reducible assumption) (by with_reducible assumption) (by omega)) | exact (ku (by with_reducible assumption) (by with_reducible assumption)) | exact (kz (by with_reducible assumption) (by with_reducible assumption)) | exact (kj (by with_reducible assumption) (by with_reducible assumption)) | exact (ke (by with_reducible assumption) (by with_reducible assumption) (by with_reducible assumption) (by with_reducible assumption)) | exact (jU (by with_reducible assumption) (by with_reducible assumption) (by with_reducible assumption) (by with_reducible assumption) (by omega)) | exact (jS (by with_reducible assumption) (by with_reducible assumption)) | exact (kr (by with_reducible assumption) (by with_reducible assumption)) | exact (qi (by with_reducible assumption) (by with_reducible assumption) (by omega)) | exact (qg (by with_reducible assumption) (by with_reducible assumption) (by omega)))
 all_goals try (refine ⟨‹Nat› + 1,?_⟩; (repeat' (first | with_reducible refine And.intro ?_ ?_ | with_reducible refine and_imp.2 ?_ | intro)))
 all_goals try (first | (first | with_reducible rfl | with_reducible assumption | omega | (refine aj ?_ ?_ <;> omega)) | exact rfl | exact (pD (by with_reducible assumption)) | exact p_ | exact (rA (by omega)) | exact (pZ (by omega)) | exact (cm (by with_reducible assumption) (by with_reducible assumption) (by omega)).2.1 | exact (cm (by with_reducible assumption) (by with_reducible assumption) (by omega)).2.2 | exact (jV (by with_reducible assumption) (by with_reducible assumption) (by with_reducible assumption) (by with_reducible assumption) (by with_reducible assumption) (by with_reducible assumption) (by with_reducible assumption)) | exact (kg (by with_reducible assumption) (by with_reducible assumption) (by with_reducible assumption) (by with_reducible assumption) (by with_reducible assumption) (by with_reducible assumption) (by with_reducible assumption) (by with_reducible assumption) (by omega)) | exact (qj (by with_reducible assumption) (by with_reducible assumption)) | exact (ka (by with_reducible assumption) (by with_reducible assumption) (by with_reducible assumption) (by with_reducible assumption) (by with_reducible assumption)) | exact (jT (by with_reducible assumption) (by with_reducible assumption) (by with_reducible assumption) (by with_reducible assumption) (by with_reducible assumption) (by with_reducible assumption) (by omega)) | exact (ku (by with_reducible assumption) (by with_reducible assumption)) | exact (kz (by with_reducible assumption) (by with_reducible assumption)) | exact (kj (by with_reducible assumption) (by with_reducible assumption)) | exact (ke (by with_reducible assumption) (by with_reducible assumption) (by with_reducible assumption) (by with_reducible assumption)) | exact (jU (by with_reducible assumption) (by with_reducible assumption) (by with_reducible assumption) (by with_reducible assumption) (by omega)) | exact (jS (by with_reducible assumption) (by with_reducible assumption)) | exact (kr (by with_reducible assumption) (by with_reducible assumption)) | exact (qi (by with_reducible assumption) (by with_reducible assumption) (by omega)) | exact (qg (by with_reducible assumption) (by with_reducible assumption) (by omega)))
 all_goals (first | (first | with_reducible rfl | with_reducible assumption | omega | (refine aj ?_ ?_ <;> omega)) | exact rfl | exact (pD (by with_reducible assumption)) | exact p_ | exact (rA (by omega)) | exact (pZ (by omega)) | exact (cm (by with_reducible assumption) (by with_reducible assumption) (by omega)).2.1 | exact (cm (by with_reducible assumption) (by with_reducible assumption) (by omega)).2.2 | exact (jV (by with_reducible assumption) (by with_reducible assumption) (by with_reducible assumption) (by with_reducible assumption) (by with_reducible assumption) (by with_reducible assumption) (by with_reducible assumption)) | exact (kg (by with_reducible assumption) (by with_reducible assumption) (by with_reducible assumption) (by with_reducible assumption) (by with_reducible assumption) (by with_reducible assumption) (by with_reducible assumption) (by with_reducible assumption) (by omega)) | exact (qj (by with_reducible assumption) (by with_reducible assumption)) | exact (ka (by with_reducible assumption) (by with_reducible assumption) (by with_reducible assumption) (by with_reducible assumption) (by with_reducible assumption)) | exact (jT (by with_reducible assumption) (by with_reducible assumption) (by with_reducible assumption) (by with_reducible assumption) (by with_reducible assumption) (by with_reducible assumption) (by omega)) | exact (ku (by with_reducible assumption) (by with_reducible assumption)) | exact (kz (by with_reducible assumption) (by with_reducible assumption)) | exact (kj (by with_reducible assumption) (by with_reducible assumption)) | exact (ke (by with_reducible assumption) (by with_reducible assumption) (by with_reducible assumption) (by with_reducible assumption)) | exact (jU (by with_reducible assumption) (by with_reducible assumption) (by with_reducible assumption) (by with_reducible assumption) (by omega)) | exact (jS (by with_reducible assumption) (by with_reducible assumption)) | exact (kr (by with_reducible assumption) (by with_reducible assumption)) | exact (qi (by with_reducible assumption) (by with_reducible assumption) (by omega)) | exact (qg (by with_reducible assumption) (by with_reducible assumption) (by omega)))
def z_:ct:=(bO 18 (bI (ah (kT (.nm .state)) (ah (kC cI) aO)) aP fun (st,v,_) (_)=>⟨[],[.c (.int ((mayF st v)))],none,false⟩) yH)
theorem pR:aU Tryz.prog (aq aF) z_:=(ay (ax (ab bM (ab (ao av) al)) ak fun (st,v,_) (_) _=>ES st v ) qY)
end Go.Proofs.YtdggohppeeaipaaGreat
namespace Go.Proofs.YtdggohppeeaipaaGreat
open Go.RowKit
theorem vY {a b:State} (h:((((¬ a.version=b.version\/¬ a.next=b.next)\/¬ a.keep=b.keep)\/¬ a.quota=b.quota)\/¬ ((a.sess.length:Nat):Int)=(b.sess.length:Nat))\/¬ ((a.opens.length:Nat):Int)=(b.opens.length:Nat)):false=decide (a=b):=by
 symm; apply decide_eq_false; rintro rfl; simp at h
theorem vS {a b:State} {s:Nat} (h:¬ (a.sess.getD s (dflt (.nm .sess))).client=(b.sess.getD s (dflt (.nm .sess))).client\/¬ (a.sess.getD s (dflt (.nm .sess))).seq=(b.sess.getD s (dflt (.nm .sess))).seq\/¬ (a.sess.getD s (dflt (.nm .sess))).last.code=(b.sess.getD s (dflt (.nm .sess))).last.code\/¬ (a.sess.getD s (dflt (.nm .sess))).last.n=(b.sess.getD s (dflt (.nm .sess))).last.n):false=decide (a=b):=by
 symm; apply decide_eq_false; rintro rfl; simp at h
theorem vr {a b:State} {s:Nat} (h:¬ (a.opens.getD s (dflt (.nm .opn))).set=(b.opens.getD s (dflt (.nm .opn))).set\/¬ (a.opens.getD s (dflt (.nm .opn))).client=(b.opens.getD s (dflt (.nm .opn))).client):false=decide (a=b):=by
 symm; apply decide_eq_false; rintro rfl; simp at h
theorem CI {x y:Sess} (h1:x.client=y.client) (h2:x.seq=y.seq) (h3:x.last.code=y.last.code) (h4:x.last.n=y.last.n):x=y:=by
 obtain ⟨a,b,⟨c,d⟩⟩:=x; obtain ⟨a',b',⟨c',d'⟩⟩:=y; simp_all
theorem Ep {x y:Opn} (h1:x.set=y.set) (h2:x.client=y.client):x=y:=by cases x; cases y; simp_all
theorem nB {a b:List Sess} {s:Nat} (h:a.take s=b.take s) (h1:(a.getD s (dflt (.nm .sess))).client=(b.getD s (dflt (.nm .sess))).client) (h2:(a.getD s (dflt (.nm .sess))).seq=(b.getD s (dflt (.nm .sess))).seq) (h3:(a.getD s (dflt (.nm .sess))).last.code=(b.getD s (dflt (.nm .sess))).last.code) (h4:(a.getD s (dflt (.nm .sess))).last.n=(b.getD s (dflt (.nm .sess))).last.n) (ha:s<a.length) (hb:s<b.length):a.take (s+1)=b.take (s+1):=uv h ha hb (CI h1 h2 h3 h4)
theorem nz {a b:List Opn} {s:Nat} (h:a.take s=b.take s) (h1:(a.getD s (dflt (.nm .opn))).set=(b.getD s (dflt (.nm .opn))).set) (h2:(a.getD s (dflt (.nm .opn))).client=(b.getD s (dflt (.nm .opn))).client) (ha:s<a.length) (hb:s<b.length):a.take (s+1)=b.take (s+1):=uv h ha hb (Ep h1 h2)
theorem wF {a b:State} {s q:Nat} (h1:a.version=b.version) (h2:a.next=b.next) (h3:a.keep=b.keep) (h4:a.quota=b.quota) (h5:a.sess.take s=b.sess.take s) (h6:a.opens.take q=b.opens.take q) (ha:a.sess.length<=s) (hb:b.sess.length<=s) (hc:a.opens.length<=q) (hd:b.opens.length<=q):decide (a.snaps=b.snaps)=decide (a=b):=by
 rw [List.take_of_length_le ha,List.take_of_length_le hb] at h5
 rw [List.take_of_length_le hc,List.take_of_length_le hd] at h6
 cases a; cases b; simp_all
def yK (a:State) (b:State):List (Nat × LI):=[(4,{ σ:=Nat,F:=fun k=>([(2,one (.ptr 0 0)),(3,one (.ptr 1 0)),(5,one (.int k))],[.box 26 (cellsOf (.nm .state) ((a))),.box 26 (cellsOf (.nm .state) ((b)))]),J:=fun k=>k<=a.sess.length/\a.sess.take k=b.sess.take k,μ:=fun k=>a.sess.length - k }),(9,{ σ:=Nat,F:=fun k=>([(2,one (.ptr 0 0)),(3,one (.ptr 1 0)),(6,one (.int k))],[.box 26 (cellsOf (.nm .state) ((a))),.box 26 (cellsOf (.nm .state) ((b)))]),J:=fun k=>k<=a.opens.length/\a.opens.take k=b.opens.take k,μ:=fun k=>a.opens.length - k })]
theorem Bu (a:State) (b:State) (r0:Bool):cN aF z_ (yK a b) Tryz.f16 [.agg (cellsOf (.nm .state) a),.agg (cellsOf (.nm .state) b)] [] [.c (.bool (.atom (r0)))]=((fun (q8:Nat)=>(fun (q7:Int)=>(fun (q6:List Opn)=>(fun (q5:List Sess)=>(fun (q4:den (Sh.nm NT.opn))=>(fun (q3:List Opn)=>(fun (q2:List Sess)=>(fun (q1:den (Sh.nm NT.sess))=>(fun (q0:Prop)=>I64 a.version->I64 a.next->I64 a.keep->I64 a.quota->q2.length*(32:Nat)<=q8->q3.length*(16:Nat)<=q8->a.snaps.length*(64:Nat)<=q8->I64 b.version->I64 b.next->I64 b.keep->I64 b.quota->q5.length*(32:Nat)<=q8->q6.length*(16:Nat)<=q8->b.snaps.length*(64:Nat)<=q8->(((((¬a.version=b.version\/¬a.next=b.next)\/¬a.keep=b.keep)\/¬a.quota=b.quota)\/¬(↑q2.length:Int)=(↑q5.length:Int))\/¬(↑q3.length:Int)=(↑q6.length:Int)->false=r0)/\(((((a.version=b.version/\a.next=b.next)/\a.keep=b.keep)/\a.quota=b.quota)/\(↑q2.length:Int)=(↑q5.length:Int))/\(↑q3.length:Int)=(↑q6.length:Int)->∃ (s0:Nat),(q7=(↑s0:Int)/\q0)/\(s0<=q2.length/\List.take s0 q2=List.take s0 q5)/\∀ (s:Nat),(fun (q10:den (Sh.nm NT.sess))=>(fun (q9:den (Sh.nm NT.sess))=>s<=q2.length/\List.take s q2=List.take s q5->((↑s:Int)<(↑q2.length:Int)->q7<=(↑s:Int)/\(↑s:Int)<(↑q2.length:Int)/\q7<=(↑s:Int)/\(↑s:Int)<(↑q5.length:Int)/\(I64 q10.client->I64 q10.seq->I64 q10.last.code->I64 q10.last.n->I64 q9.client->I64 q9.seq->I64 q9.last.code->I64 q9.last.n->(¬q10.client=q9.client\/¬q10.seq=q9.seq\/¬q10.last.code=q9.last.code\/¬q10.last.n=q9.last.n->false=r0)/\(q10.client=q9.client/\q10.seq=q9.seq/\q10.last.code=q9.last.code/\q10.last.n=q9.last.n->I64 ((↑s:Int)+(1:Int))/\∃ (s':Nat),((↑s:Int)+(1:Int)=(↑s':Int)/\q0)/\(s' <= q2.length/\List.take s' q2=List.take s' q5)/\q2.length - s' < q2.length - s)))/\((↑q2.length:Int)<=(↑s:Int)->∃ (s0:Nat),(q7=(↑s0:Int)/\q0)/\(s0<=q3.length/\List.take s0 q3=List.take s0 q6)/\∀ (s:Nat),(fun (q12:den (Sh.nm NT.opn))=>(fun (q11:den (Sh.nm NT.opn))=>s<=q3.length/\List.take s q3=List.take s q6->((↑s:Int)<(↑q3.length:Int)->q7<=(↑s:Int)/\(↑s:Int)<(↑q3.length:Int)/\q7<=(↑s:Int)/\(↑s:Int)<(↑q6.length:Int)/\(I64 q12.set->I64 q12.client->I64 q11.set->I64 q11.client->(¬q12.set=q11.set\/¬q12.client=q11.client->false=r0)/\(q12.set=q11.set/\q12.client=q11.client->I64 ((↑s:Int)+(1:Int))/\∃ (s':Nat),((↑s:Int)+(1:Int)=(↑s':Int)/\q0)/\(s' <= q3.length/\List.take s' q3=List.take s' q6)/\q3.length - s' < q3.length - s)))/\((↑q3.length:Int)<=(↑s:Int)->decide (a.snaps=b.snaps)=r0)) (q6.getD s q4)) (q3.getD s q4))) (q5.getD s q1)) (q2.getD s q1))) (a.version=a.version/\a.next=a.next/\a.keep=a.keep/\a.quota=a.quota/\q2=q2/\q3=q3/\a.snaps=a.snaps/\b.version=b.version/\b.next=b.next/\b.keep=b.keep/\b.quota=b.quota/\q5=q5/\q6=q6/\b.snaps=b.snaps)) (dflt (Sh.nm NT.sess))) a.sess) a.opens) (dflt (Sh.nm NT.opn))) b.sess) b.opens) (0:Int)) (140737488355328:Nat)):=by kernel_rfl
theorem Cf (a:State) (b:State):Sat Tryz.prog (aq aF) 16 [.agg (cellsOf (.nm .state) a),.agg (cellsOf (.nm .state) b)] [] ⟨[],[.c (.bool (.atom ((decide (a=b)))))],none,false⟩:=by
 refine aR pR (yK a b) Tryz.func16 (by decide) (by kernel_rfl) ?_
 rw [Bu]
 (repeat' (first | with_reducible refine And.intro ?_ ?_ | with_reducible refine and_imp.2 ?_ | intro))
 all_goals try (first | (first | with_reducible rfl | with_reducible assumption | omega | (refine aj ?_ ?_ <;> omega)) | exact rfl | exact (vY (by assumption)) | exact (vS (by assumption)) | exact (vr (by assumption)) | exact (nB (by with_reducible assumption) (by with_reducible assumption) (by with_reducible assumption) (by with_reducible assumption) (by with_reducible assumption) (by omega) (by omega)) | exact (nz (by with_reducible assumption) (by with_reducible assumption) (by with_reducible assumption) (by omega) (by omega)) | exact (wF (by with_reducible assumption) (by with_reducible assumption) (by with_reducible assumption) (by with_reducible assumption) (by with_reducible assumption) (by with_reducible assumption) (by omega) (by omega) (by omega) (by omega)))
 all_goals try (refine ⟨0,?_⟩; (repeat' (first | with_reducible refine And.intro ?_ ?_ | with_reducible refine and_imp.2 ?_ | intro)))
 all_goals try (first | (first | with_reducible rfl | with_reducible assumption | omega | (refine aj ?_ ?_ <;> omega)) | exact rfl | exact (vY (by assumption)) | exact (vS (by assumption)) | exact (vr (by assumption)) | exact (nB (by with_reducible assumption) (by with_reducible assumption) (by with_reducible assumption) (by with_reducible assumption) (by with_reducible assumption) (by omega) (by omega)) | exact (nz (by with_reducible assumption) (by with_reducible assumption) (by with_reducible assumption) (by omega) (by omega)) | exact (wF (by with_reducible assumption) (by with_reducible assumption) (by with_reducible assumption) (by with_reducible assumption) (by with_reducible assumption) (by with_reducible assumption) (by omega) (by omega) (by omega) (by omega)))
 all_goals try (have hg:(‹Nat›:Int)<(a.sess.length:Int):=(by omega); clear hg; refine ⟨‹Nat› + 1,?_⟩; (repeat' (first | with_reducible refine And.intro ?_ ?_ | with_reducible refine and_imp.2 ?_ | intro)))
 all_goals try (first | (first | with_reducible rfl | with_reducible assumption | omega | (refine aj ?_ ?_ <;> omega)) | exact rfl | exact (vY (by assumption)) | exact (vS (by assumption)) | exact (vr (by assumption)) | exact (nB (by with_reducible assumption) (by with_reducible assumption) (by with_reducible assumption) (by with_reducible assumption) (by with_reducible assumption) (by omega) (by omega)) | exact (nz (by with_reducible assumption) (by with_reducible assumption) (by with_reducible assumption) (by omega) (by omega)) | exact (wF (by with_reducible assumption) (by with_reducible assumption) (by with_reducible assumption) (by with_reducible assumption) (by with_reducible assumption) (by with_reducible assumption) (by omega) (by omega) (by omega) (by omega)))
 all_goals try (have hg:((a.sess.length:Nat):Int)<=(‹Nat›:Int):=(by omega); clear hg; refine ⟨0,?_⟩; (repeat' (first | with_reducible refine And.intro ?_ ?_ | with_reducible refine and_imp.2 ?_ | intro)))
 all_goals try (first | (first | with_reducible rfl | with_reducible assumption | omega | (refine aj ?_ ?_ <;> omega)) | exact rfl | exact (vY (by assumption)) | exact (vS (by assumption)) | exact (vr (by assumption)) | exact (nB (by with_reducible assumption) (by with_reducible assumption) (by with_reducible assumption) (by with_reducible assumption) (by with_reducible assumption) (by omega) (by omega)) | exact (nz (by with_reducible assumption) (by with_reducible assumption) (by with_reducible assumption) (by omega) (by omega)) | exact (wF (by with_reducible assumption) (by with_reducible assumption) (by with_reducible assumption) (by with_reducible assumption) (by with_reducible assumption) (by with_reducible assumption) (by omega) (by omega) (by omega) (by omega)))
 all_goals try (refine ⟨‹Nat› + 1,?_⟩; (repeat' (first | with_reducible refine And.intro ?_ ?_ | with_reducible refine and_imp.2 ?_ | intro)))
 all_goals try (first | (first | with_reducible rfl | with_reducible assumption | omega | (refine aj ?_ ?_ <;> omega)) | exact rfl | exact (vY (by assumption)) | exact (vS (by assumption)) | exact (vr (by assumption)) | exact (nB (by with_reducible assumption) (by with_reducible assumption) (by with_reducible assumption) (by with_reducible assumption) (by with_reducible assumption) (by omega) (by omega)) | exact (nz (by with_reducible assumption) (by with_reducible assumption) (by with_reducible assumption) (by omega) (by omega)) | exact (wF (by with_reducible assumption) (by with_reducible assumption) (by with_reducible assumption) (by with_reducible assumption) (by with_reducible assumption) (by with_reducible assumption) (by omega) (by omega) (by omega) (by omega)))
 all_goals (first | (first | with_reducible rfl | with_reducible assumption | omega | (refine aj ?_ ?_ <;> omega)) | exact rfl | exact (vY (by assumption)) | exact (vS (by assumption)) | exact (vr (by assumption)) | exact (nB (by with_reducible assumption) (by with_reducible assumption) (by with_reducible assumption) (by with_reducible assumption) (by with_reducible assumption) (by omega) (by omega)) | exact (nz (by with_reducible assumption) (by with_reducible assumption) (by with_reducible assumption) (by omega) (by omega)) | exact (wF (by with_reducible assumption) (by with_reducible assumption) (by with_reducible assumption) (by with_reducible assumption) (by with_reducible assumption) (by with_reducible assumption) (by omega) (by omega) (by omega) (by omega)))
def nE:ct:=(bO 16 (bI (ah (kT (.nm .state)) (ah (kT (.nm .state)) aO)) aP fun (a,b,_) (_)=>⟨[],[.c (.bool (.atom ((decide (a=b)))))],none,false⟩) z_)
theorem fC:aU Tryz.prog (aq aF) nE:=(ay (ax (ab bM (ab bM al)) ak fun (a,b,_) (_) _=>Cf a b ) pR)
end Go.Proofs.YtdggohppeeaipaaGreat
namespace Go.Proofs.YtdggohppeeaipaaGreat
open Go.RowKit
def dh (xs:List Int) (c:Int):Bool:=decide (0<xs.getD c.toNat (dflt .int))
def db (xs ys:List Int) (c:Int):Bool:=decide (0<xs.getD c.toNat (dflt .int)) && decide (ys.getD c.toNat (dflt .int)=0)
def fw (p:Int->Bool) (k:Nat):List Int:=((List.range k).map fun (i:Nat)=>(i:Int)+1).filter p
theorem vR {p:Int->Bool} {k:Nat} (h:p ((k:Int)+1)=true):fw p k++[(k:Int)+1]=fw p (k+1):=by
 unfold fw; rw [List.range_succ,List.map_append,List.filter_append]; simp [h]
theorem vh {p:Int->Bool} {k:Nat} (h:p ((k:Int)+1)=false):fw p k=fw p (k+1):=by
 unfold fw; rw [List.range_succ,List.map_append,List.filter_append]; simp [h]
theorem vl {p:Int->Bool} {k:Nat} (h:k<=64) (h2:64<(k:Int)+1):fw p k=fw p 64:=by rw [show k=64 by omega]
theorem jC {p:Int->Bool} {k:Nat} {n:Int} (h:k<=64):((fw p k).length+[n].length)*8<=140737488355328:=by
 have:=List.length_filter_le p ((List.range k).map fun (i:Nat)=>(i:Int)+1)
 rw [List.length_map,List.length_range] at this
 unfold fw; simp only [List.length_cons,List.length_nil]; omega
def bC (l:List Snap):List Int:=l.foldl (fun t x=>cD t x.chunks) (List.replicate 65 0)
theorem lS:∀ (l xs:List Int),(cD xs l).length=xs.length
 | [],_=>rfl
 | n :: l,xs=>by
  show (cD (if 1<=n/\n<=64 then xs.set n.toNat (xs.getD n.toNat 0+1) else xs) l).length=_
  rw [lS l]; split
  ·rw [List.length_set]
  ·rfl
theorem fY {l:List Snap} {x:Snap}:bC (l++[x])=cD (bC l) x.chunks:=by unfold bC; rw [List.foldl_append]; rfl
theorem tq {l:List Snap} {k:Nat} {x:Snap} (hx:l[k]? = some x):cD (bC (l.take k)) x.chunks=bC (l.take (k+1)):=by rw [aD hx,fY]
theorem oU {p:List Snap->Prop} (h0:p []) (hs:∀ l x,p l->p (l++[x])) (l:List Snap):p l:=by
 have:∀ r:List Snap,p r.reverse:=fun r=>by
  induction r with
  | nil=>exact h0
  | cons x r ih=>rw [List.reverse_cons]; exact hs _ _ ih
 have h:=this l.reverse
 rwa [List.reverse_reverse] at h
theorem dR (l:List Snap):(bC l).length=65:=by
 refine oU (p:=fun l=>(bC l).length=65) rfl (fun l x h=>?_) l
 rw [fY,lS,h]
theorem pL {l:List Snap} {x:Snap}:nch (l++[x])=nch l+x.chunks.length:=by unfold nch; simp
theorem xq (l:List Snap) (i:Nat):0<=(bC l).getD i 0/\(bC l).getD i 0<=nch l:=by
 refine oU (p:=fun l=>0<=(bC l).getD i 0/\(bC l).getD i 0<=nch l) ?_ (fun l x h=>?_) l
 ·show 0<=(List.replicate 65 (0:Int)).getD i 0/\(List.replicate 65 (0:Int)).getD i 0<=_
  rw [List.getD_eq_getElem?_getD,List.getElem?_replicate]; split <;> simp
 ·have:=tp x.chunks (bC l) i
  rw [fY,pL]; omega
theorem gi {l:List Snap} {k:Nat} {x:Snap} (hx:l[k]? = some x) (h:nch l<=1048576):nr (bC (l.take k)) x.chunks:=fun i=>by
 have h1:=xq (l.take k) i
 have h2:nch (l.take (k+1))<=nch l:=by
  unfold nch; rw [<- List.take_append_drop (k+1) l,List.flatMap_append,List.length_append,List.take_append_drop]; omega
 rw [aD hx,pL] at h2
 omega
theorem tX {l:List Snap} {m:List Int} {s:Sh} (h:nch l<=1048576) (hm:m.length*8<=140737488355328):nr (lV .int (bC l) 0 65) m:=fun i=>by
 rw [d_ (dR l)]
 have h1:=xq l i
 omega
theorem uj:∀ (l xs:List Int) (c:Int),1<=c->c<=64->xs.length=65->(cD xs l).getD c.toNat 0=xs.getD c.toNat 0+(l.count c:Nat)
 | [],_,_,_,_,_=>by simp [cD]
 | n :: l,xs,c,h1,h2,h3=>by
  show (cD (if 1<=n/\n<=64 then xs.set n.toNat (xs.getD n.toNat 0+1) else xs) l).getD c.toNat 0=_
  rw [uj l _ c h1 h2 (by split; rw [List.length_set,h3]; exact h3),List.count_cons]
  split
  ·rw [pQ]
   by_cases e:n=c
   ·subst e; rw [if_pos ⟨rfl,by omega⟩]; simp; omega
   ·rw [if_neg (by omega)]; simp [e]
  ·by_cases e:n=c
   ·omega
   ·simp [e]
theorem sO (l:List Snap) (c:Int) (h1:1<=c) (h2:c<=64):(bC l).getD c.toNat 0=(s_ c l:Nat):=by
 refine oU (p:=fun l=>(bC l).getD c.toNat 0=(s_ c l:Nat)) ?_ (fun l x h=>?_) l
 ·show (List.replicate 65 (0:Int)).getD c.toNat 0=_
  rw [List.getD_eq_getElem?_getD,List.getElem?_replicate]; split <;> simp [s_]
 ·rw [fY,uj _ _ _ h1 h2 (dR l),h]
  unfold s_; simp
theorem uD (l:List Snap):((fw (dh (bC l)) 64).length:Int)=(distF l:Int):=by
 unfold fw distF xS
 rw [List.filter_map,List.length_map]
 congr 2
 apply List.filter_congr
 intro i hi
 rw [List.mem_range] at hi
 have:=sO l ((i:Int)+1) (by omega) (by omega)
 simp only [Function.comp,dh]
 rw [show (dflt .int)=(0:Int) from rfl,this]
 rw [decide_eq_decide]; omega
theorem xz (l m:List Snap) (id:Int) (e:m=bb id l):fw (db (bC l) (bC m)) 64=gF l id:=by
 subst e
 unfold fw gF um
 rw [List.filter_map]
 congr 1
 apply List.filter_congr
 intro i hi
 rw [List.mem_range] at hi
 have h1:=sO l ((i:Int)+1) (by omega) (by omega)
 have h2:=sO (bb id l) ((i:Int)+1) (by omega) (by omega)
 simp only [Function.comp,db]
 rw [show (dflt .int)=(0:Int) from rfl,h1,h2]
 congr 1 <;> (rw [decide_eq_decide]; omega)
def zd (l:List Snap):List (Nat × LI):=[(3,{ σ:=Nat,F:=fun k=>([(2,one (.ptr 0 0)),(3,one (.ptr 1 0)),(6,one (.fz (.nm .snap) (l))),(7,one (.int (l).length)),(8,one (.int k))],[.arr 108 .int 65 ((List.replicate 65 0)),.arr 108 .int 65 ((bC (l.take k)))]),J:=fun k=>k<=l.length,μ:=fun k=>l.length - k })]
def pP (l:List Snap) (id:Int):List (Nat × LI):=[(3,{ σ:=Nat,F:=fun k=>([(1,one (.int (id))),(5,one (.own 0)),(8,one (.fz (.nm .snap) (l))),(9,one (.int (l).length)),(10,one (.int k))],[.row 59 (.nm .snap) ((bb id (l.take k)))]),J:=fun k=>k<=l.length,μ:=fun k=>l.length - k })]
theorem Bl (n:Int) (xs:List Int) (r0:Bool):cN aF nE [] Tryz.f128 [.c (.int (n)),.c (.ptr 0 0)] [.arr 108 .int 65 (xs)] [.c (.bool (.atom (r0)))]=(I64 n->(0:Int)<=n/\n<(↑(65:Nat):Int)/\n.toNat<(65:Nat)/\(I64 (xs.getD n.toNat (dflt Sh.int))->decide ((0:Int)<xs.getD n.toNat (dflt Sh.int))=r0)):=by kernel_rfl
theorem CG (n:Int) (xs:List Int) (h0:0<=n/\n<65):Sat Tryz.prog (aq aF) 128 [.c (.int (n)),.c (.ptr 0 0)] [.arr 108 .int 65 (xs)] ⟨[0<=n/\n<65],[.c (.bool (.atom ((dh xs n))))],none,false⟩:=by
 refine aR fC [] Tryz.func128 (by decide) (by kernel_rfl) ?_
 rw [Bl]
 (repeat' (first | with_reducible refine And.intro ?_ ?_ | with_reducible refine and_imp.2 ?_ | intro)) <;> first | (first | with_reducible rfl | with_reducible assumption | omega | (refine aj ?_ ?_ <;> omega)) | rfl
theorem yg (n:Int) (xs:List Int) (ys:List Int) (r0:Bool):cN aF nE [] Tryz.f129 [.c (.int (n)),.c (.ptr 0 0),.c (.ptr 1 0)] [.arr 108 .int 65 (xs),.arr 108 .int 65 (ys)] [.c (.bool (.atom (r0)))]=((fun (q1:Int)=>(fun (q0:den Sh.int)=>I64 n->q1<=n/\n<(↑(65:Nat):Int)/\n.toNat<(65:Nat)/\(I64 q0->(q1<q0->q1<=n/\n<(↑(65:Nat):Int)/\n.toNat<(65:Nat))/\((q1<q0->I64 (ys.getD n.toNat (dflt Sh.int)))->(decide (q1<q0) && decide (ys.getD n.toNat (dflt Sh.int)=q1))=r0))) (xs.getD n.toNat (dflt Sh.int))) (0:Int)):=by kernel_rfl
theorem xt (n:Int) (xs:List Int) (ys:List Int) (h0:0<=n/\n<65):Sat Tryz.prog (aq aF) 129 [.c (.int (n)),.c (.ptr 0 0),.c (.ptr 1 0)] [.arr 108 .int 65 (xs),.arr 108 .int 65 (ys)] ⟨[0<=n/\n<65],[.c (.bool (.atom ((db xs ys n))))],none,false⟩:=by
 refine aR fC [] Tryz.func129 (by decide) (by kernel_rfl) ?_
 rw [yg]
 (repeat' (first | with_reducible refine And.intro ?_ ?_ | with_reducible refine and_imp.2 ?_ | intro)) <;> first | (first | with_reducible rfl | with_reducible assumption | omega | (refine aj ?_ ?_ <;> omega)) | rfl
theorem AW (l:List Snap) (r0:List Int):cN aF nE (zd l) Tryz.f97 [.c (.fz (.nm .snap) (l))] [] [.agg (jI .int (r0) 0 65)]=((fun (q5:Nat)=>(fun (q4:Nat)=>(fun (q3:Nat)=>(fun (q2:Int)=>(fun (q1:den Sh.int)=>(fun (q0:List (den Sh.int))=>l.length*(64:Nat)<=(140737488355328:Nat)->∃ (s0:Nat),(l=l/\(↑l.length:Int)=(↑q5:Int)/\q2=(↑s0:Int)/\q0=List.replicate q3 (0:den Sh.int)/\q0=bC (List.take s0 l))/\s0<=q5/\∀ (s:Nat),(fun (q7:List Int)=>(fun (q6:List (den Sh.int))=>s<=q5->((↑s:Int)<(↑q5:Int)->q2<=(↑s:Int)/\(↑s:Int)<(↑l.length:Int)/\∀ (x:Snap),l[s]? = some x->I64 x.id->I64 x.set->x.chunks.length*(8:Nat)<=(140737488355328:Nat)->x.tag.b.length<=(140737488355328:Nat)->(∀ (i:Nat),q2<=q7.getD i q2/\q7.getD i q2+(↑x.chunks.length:Int)<=(4611686018427387904:Int))/\I64 ((↑s:Int)+(1:Int))/\∃ (s':Nat),(l=l/\(↑q5:Int)=(↑q5:Int)/\(↑s:Int)+(1:Int)=(↑s':Int)/\List.replicate q3 (0:den Sh.int)=List.replicate q3 (0:den Sh.int)/\cD q7 x.chunks=bC (List.take s' l))/\s' <= q5/\q5 - s' < q5 - s)/\((↑q5:Int)<=(↑s:Int)->q6.getD q4 q1=r0.getD q4 q1/\q6.getD (1:Nat) q1=r0.getD (1:Nat) q1/\q6.getD (2:Nat) q1=r0.getD (2:Nat) q1/\q6.getD (3:Nat) q1=r0.getD (3:Nat) q1/\q6.getD (4:Nat) q1=r0.getD (4:Nat) q1/\q6.getD (5:Nat) q1=r0.getD (5:Nat) q1/\q6.getD (6:Nat) q1=r0.getD (6:Nat) q1/\q6.getD (7:Nat) q1=r0.getD (7:Nat) q1/\q6.getD (8:Nat) q1=r0.getD (8:Nat) q1/\q6.getD (9:Nat) q1=r0.getD (9:Nat) q1/\q6.getD (10:Nat) q1=r0.getD (10:Nat) q1/\q6.getD (11:Nat) q1=r0.getD (11:Nat) q1/\q6.getD (12:Nat) q1=r0.getD (12:Nat) q1/\q6.getD (13:Nat) q1=r0.getD (13:Nat) q1/\q6.getD (14:Nat) q1=r0.getD (14:Nat) q1/\q6.getD (15:Nat) q1=r0.getD (15:Nat) q1/\q6.getD (16:Nat) q1=r0.getD (16:Nat) q1/\q6.getD (17:Nat) q1=r0.getD (17:Nat) q1/\q6.getD (18:Nat) q1=r0.getD (18:Nat) q1/\q6.getD (19:Nat) q1=r0.getD (19:Nat) q1/\q6.getD (20:Nat) q1=r0.getD (20:Nat) q1/\q6.getD (21:Nat) q1=r0.getD (21:Nat) q1/\q6.getD (22:Nat) q1=r0.getD (22:Nat) q1/\q6.getD (23:Nat) q1=r0.getD (23:Nat) q1/\q6.getD (24:Nat) q1=r0.getD (24:Nat) q1/\q6.getD (25:Nat) q1=r0.getD (25:Nat) q1/\q6.getD (26:Nat) q1=r0.getD (26:Nat) q1/\q6.getD (27:Nat) q1=r0.getD (27:Nat) q1/\q6.getD (28:Nat) q1=r0.getD (28:Nat) q1/\q6.getD (29:Nat) q1=r0.getD (29:Nat) q1/\q6.getD (30:Nat) q1=r0.getD (30:Nat) q1/\q6.getD (31:Nat) q1=r0.getD (31:Nat) q1/\q6.getD (32:Nat) q1=r0.getD (32:Nat) q1/\q6.getD (33:Nat) q1=r0.getD (33:Nat) q1/\q6.getD (34:Nat) q1=r0.getD (34:Nat) q1/\q6.getD (35:Nat) q1=r0.getD (35:Nat) q1/\q6.getD (36:Nat) q1=r0.getD (36:Nat) q1/\q6.getD (37:Nat) q1=r0.getD (37:Nat) q1/\q6.getD (38:Nat) q1=r0.getD (38:Nat) q1/\q6.getD (39:Nat) q1=r0.getD (39:Nat) q1/\q6.getD (40:Nat) q1=r0.getD (40:Nat) q1/\q6.getD (41:Nat) q1=r0.getD (41:Nat) q1/\q6.getD (42:Nat) q1=r0.getD (42:Nat) q1/\q6.getD (43:Nat) q1=r0.getD (43:Nat) q1/\q6.getD (44:Nat) q1=r0.getD (44:Nat) q1/\q6.getD (45:Nat) q1=r0.getD (45:Nat) q1/\q6.getD (46:Nat) q1=r0.getD (46:Nat) q1/\q6.getD (47:Nat) q1=r0.getD (47:Nat) q1/\q6.getD (48:Nat) q1=r0.getD (48:Nat) q1/\q6.getD (49:Nat) q1=r0.getD (49:Nat) q1/\q6.getD (50:Nat) q1=r0.getD (50:Nat) q1/\q6.getD (51:Nat) q1=r0.getD (51:Nat) q1/\q6.getD (52:Nat) q1=r0.getD (52:Nat) q1/\q6.getD (53:Nat) q1=r0.getD (53:Nat) q1/\q6.getD (54:Nat) q1=r0.getD (54:Nat) q1/\q6.getD (55:Nat) q1=r0.getD (55:Nat) q1/\q6.getD (56:Nat) q1=r0.getD (56:Nat) q1/\q6.getD (57:Nat) q1=r0.getD (57:Nat) q1/\q6.getD (58:Nat) q1=r0.getD (58:Nat) q1/\q6.getD (59:Nat) q1=r0.getD (59:Nat) q1/\q6.getD (60:Nat) q1=r0.getD (60:Nat) q1/\q6.getD (61:Nat) q1=r0.getD (61:Nat) q1/\q6.getD (62:Nat) q1=r0.getD (62:Nat) q1/\q6.getD (63:Nat) q1=r0.getD (63:Nat) q1/\q6.getD (64:Nat) q1=r0.getD (64:Nat) q1)) (lV Sh.int q7 q4 q3)) (bC (List.take s l))) [q2,q2,q2,q2,q2,q2,q2,q2,q2,q2,q2,q2,q2,q2,q2,q2,q2,q2,q2,q2,q2,q2,q2,q2,q2,q2,q2,q2,q2,q2,q2,q2,q2,q2,q2,q2,q2,q2,q2,q2,q2,q2,q2,q2,q2,q2,q2,q2,q2,q2,q2,q2,q2,q2,q2,q2,q2,q2,q2,q2,q2,q2,q2,q2,q2]) (dflt Sh.int)) (0:Int)) (65:Nat)) (0:Nat)) l.length):=by kernel_rfl
theorem BT (l:List Snap) (h0:nch l<=1048576):Sat Tryz.prog (aq aF) 97 [.c (.fz (.nm .snap) (l))] [] ⟨[nch l<=1048576],[.agg (jI .int ((bC l)) 0 65)],none,false⟩:=by
 refine aR fC (zd l) Tryz.func97 (by decide) (by kernel_rfl) ?_
 rw [AW]
 (repeat' (first | with_reducible refine And.intro ?_ ?_ | with_reducible refine and_imp.2 ?_ | intro))
 all_goals try (first | (first | with_reducible rfl | with_reducible assumption | omega | (refine aj ?_ ?_ <;> omega)) | exact rfl | exact (tq (by with_reducible assumption)) | exact (gi (by with_reducible assumption) (by with_reducible assumption) _).1 | exact (gi (by with_reducible assumption) (by with_reducible assumption) _).2 | exact (by rw [d_ (dR _),List.take_of_length_le (by omega)]))
 all_goals try (refine ⟨0,?_⟩; (repeat' (first | with_reducible refine And.intro ?_ ?_ | with_reducible refine and_imp.2 ?_ | intro)))
 all_goals try (first | (first | with_reducible rfl | with_reducible assumption | omega | (refine aj ?_ ?_ <;> omega)) | exact rfl | exact (tq (by with_reducible assumption)) | exact (gi (by with_reducible assumption) (by with_reducible assumption) _).1 | exact (gi (by with_reducible assumption) (by with_reducible assumption) _).2 | exact (by rw [d_ (dR _),List.take_of_length_le (by omega)]))
 all_goals try (refine ⟨‹Nat› + 1,?_⟩; (repeat' (first | with_reducible refine And.intro ?_ ?_ | with_reducible refine and_imp.2 ?_ | intro)))
 all_goals (first | (first | with_reducible rfl | with_reducible assumption | omega | (refine aj ?_ ?_ <;> omega)) | exact rfl | exact (tq (by with_reducible assumption)) | exact (gi (by with_reducible assumption) (by with_reducible assumption) _).1 | exact (gi (by with_reducible assumption) (by with_reducible assumption) _).2 | exact (by rw [d_ (dR _),List.take_of_length_le (by omega)]))
theorem wu (l:List Snap) (id:Int) (r0:List Snap):sq aF nE (pP l id) Tryz.f100 [.c (.fz (.nm .snap) (l)),.c (.int (id))] [] [.c (.own 0)] [.row 59 (.nm .snap) (r0)]=((fun (q0:Nat)=>l.length*(64:Nat)<=(140737488355328:Nat)->I64 id->∃ (s0:Nat),(fun (q1:Int)=>(id=id/\l=l/\(↑l.length:Int)=q1/\(0:Int)=(↑s0:Int)/\bb id (List.take s0 l)=[])/\s0<=q0/\∀ (s:Nat),(fun (q3:List Snap)=>(fun (q2:Int)=>s<=q0->((↑s:Int)<q1->(0:Int)<=(↑s:Int)/\(↑s:Int)<(↑l.length:Int)/\∀ (x:Snap),(fun (q4:Prop)=>l[s]? = some x->I64 x.id->I64 x.set->q4->x.tag.b.length<=(140737488355328:Nat)->(¬x.id=id->q4->(q3.length+[x].length)*(64:Nat)<=(140737488355328:Nat)/\I64 q2/\∃ (s':Nat),(id=id/\l=l/\q1=q1/\q2=(↑s':Int)/\q3++[x]=bb id (List.take s' l))/\s' <= q0/\q0 - s' < q0 - s)/\(x.id=id->I64 q2/\∃ (s':Nat),(id=id/\l=l/\q1=q1/\q2=(↑s':Int)/\q3=bb id (List.take s' l))/\s' <= q0/\q0 - s' < q0 - s)) (x.chunks.length*(8:Nat)<=(140737488355328:Nat)))/\(q1<=(↑s:Int)->q3=r0)) ((↑s:Int)+(1:Int))) (bb id (List.take s l))) (↑q0:Int)) l.length):=by kernel_rfl
theorem vi (l:List Snap) (id:Int):Sat Tryz.prog (aq aF) 100 [.c (.fz (.nm .snap) (l)),.c (.int (id))] [] ⟨[],[.c (.own 0)],some ([.row 59 (.nm .snap) ((bb id l))]),true⟩:=by
 refine ew fC (pP l id) Tryz.func100 (by decide) (by kernel_rfl) ?_
 rw [wu]
 (repeat' (first | with_reducible refine And.intro ?_ ?_ | with_reducible refine and_imp.2 ?_ | intro))
 all_goals try (first | (first | with_reducible rfl | with_reducible assumption | omega | (refine aj ?_ ?_ <;> omega)) | exact rfl | exact (zy (by with_reducible assumption) (by with_reducible assumption) (by with_reducible assumption)) | exact (Ag (by with_reducible assumption) (by with_reducible assumption)) | exact (tz (by omega)) | exact (sT (by omega) (by omega)))
 all_goals try (refine ⟨0,?_⟩; (repeat' (first | with_reducible refine And.intro ?_ ?_ | with_reducible refine and_imp.2 ?_ | intro)))
 all_goals try (first | (first | with_reducible rfl | with_reducible assumption | omega | (refine aj ?_ ?_ <;> omega)) | exact rfl | exact (zy (by with_reducible assumption) (by with_reducible assumption) (by with_reducible assumption)) | exact (Ag (by with_reducible assumption) (by with_reducible assumption)) | exact (tz (by omega)) | exact (sT (by omega) (by omega)))
 all_goals try (refine ⟨‹Nat› + 1,?_⟩; (repeat' (first | with_reducible refine And.intro ?_ ?_ | with_reducible refine and_imp.2 ?_ | intro)))
 all_goals (first | (first | with_reducible rfl | with_reducible assumption | omega | (refine aj ?_ ?_ <;> omega)) | exact rfl | exact (zy (by with_reducible assumption) (by with_reducible assumption) (by with_reducible assumption)) | exact (Ag (by with_reducible assumption) (by with_reducible assumption)) | exact (tz (by omega)) | exact (sT (by omega) (by omega)))
def uS:ct:=(bO 100 (bI (ah (kC (cL (.nm .snap))) (ah (kC cI) aO)) aP fun (l,id,_) (_)=>⟨[],[.c (.own 0)],some ([.row 59 (.nm .snap) ((bb id l))]),true⟩) (bO 97 (bI (ah (kC (cL (.nm .snap))) aO) aP fun (l,_) (_)=>⟨[nch l<=1048576],[.agg (jI .int ((bC l)) 0 65)],none,false⟩) (bO 129 (bI (ah (kC cI) (ah (kC (bN 0 0)) (ah (kC (bN 1 0)) aO))) (az (pz 108 .int 65) (az (pz 108 .int 65) aP)) fun (n,_,_,_) (xs,ys,_)=>⟨[0<=n/\n<65],[.c (.bool (.atom ((db xs ys n))))],none,false⟩) (bO 128 (bI (ah (kC cI) (ah (kC (bN 0 0)) aO)) (az (pz 108 .int 65) aP) fun (n,_,_) (xs,_)=>⟨[0<=n/\n<65],[.c (.bool (.atom ((dh xs n))))],none,false⟩) nE))))
theorem mb:aU Tryz.prog (aq aF) uS:=(ay (ax (ab (ao bF) (ab (ao av) al)) ak fun (l,id,_) (_) _=>vi l id ) (ay (ax (ab (ao bF) al) ak fun (l,_) (_) hp=>BT l (eI hp)) (ay (ax (ab (ao av) (ab (ao aJ) (ab (ao aJ) al))) (ag fp (ag fp ak)) fun (n,_,_,_) (xs,ys,_) hp=>xt n xs ys (eI hp)) (ay (ax (ab (ao av) (ab (ao aJ) al)) (ag fp ak) fun (n,_,_) (xs,_) hp=>CG n xs (eI hp)) fC))))
end Go.Proofs.YtdggohppeeaipaaGreat
namespace Go.Proofs.YtdggohppeeaipaaGreat
open Go.RowKit
def rL (xs:List Int):List (Nat × LI):=[(3,{ σ:=Nat,F:=fun k=>([(0,one (.fn 128 [] [(0,0)])),(3,one (.own 1)),(4,one (.int (k+1)))],[.arr 108 .int 65 ((xs)),.row 3 .int ((fw (dh xs) k))]),J:=fun k=>k<=64,μ:=fun k=>64 - k })]
def rk (xs:List Int) (ys:List Int):List (Nat × LI):=[(3,{ σ:=Nat,F:=fun k=>([(0,one (.fn 129 [] [(0,0),(1,0)])),(3,one (.own 2)),(4,one (.int (k+1)))],[.arr 108 .int 65 ((xs)),.arr 108 .int 65 ((ys)),.row 3 .int ((fw (db xs ys) k))]),J:=fun k=>k<=64,μ:=fun k=>64 - k })]
theorem wh (xs:List Int) (r0:List Int):cN aF uS (rL xs) Tryz.f127 [.c (.fn 128 [] [(0,0)])] [.arr 108 .int 65 (xs)] [.c (.fz .int (r0))]=((fun (q1:Nat)=>(fun (q0:Int)=>∃ (s0:Nat),(q0=(↑s0:Int)+q0/\xs=xs/\fw (dh xs) s0=[])/\s0<=q1/\∀ (s:Nat),(fun (q3:List Int)=>(fun (q2:Int)=>s<=q1->(q2<=(64:Int)->((0:Int)<=q2/\q2<(65:Int))/\(dh xs q2=true->(q3.length+[q2].length)*(8:Nat)<=(140737488355328:Nat)/\I64 (q2+q0)/\∃ (s':Nat),(q2+q0=(↑s':Int)+q0/\xs=xs/\q3++[q2]=fw (dh xs) s')/\s' <= q1/\q1 - s' < q1 - s)/\(dh xs q2=false->I64 (q2+q0)/\∃ (s':Nat),(q2+q0=(↑s':Int)+q0/\xs=xs/\q3=fw (dh xs) s')/\s' <= q1/\q1 - s' < q1 - s))/\((64:Int)<q2->q3=r0)) ((↑s:Int)+q0)) (fw (dh xs) s)) (1:Int)) (64:Nat)):=by kernel_rfl
theorem vL (xs:List Int):Sat Tryz.prog (aq aF) 127 [.c (.fn 128 [] [(0,0)])] [.arr 108 .int 65 (xs)] ⟨[],[.c (.fz .int ((fw (dh xs) 64)))],none,false⟩:=by
 refine aR mb (rL xs) Tryz.func127 (by decide) (by kernel_rfl) ?_
 rw [wh]
 (repeat' (first | with_reducible refine And.intro ?_ ?_ | with_reducible refine and_imp.2 ?_ | intro))
 all_goals try (first | (first | with_reducible rfl | with_reducible assumption | omega | (refine aj ?_ ?_ <;> omega)) | exact rfl | exact (vR (by with_reducible assumption)) | exact (vh (by with_reducible assumption)) | exact (vl (by omega) (by omega)) | exact (jC (by omega)) | exact (And.intro (by omega) (by omega)))
 all_goals try (refine ⟨0,?_⟩; (repeat' (first | with_reducible refine And.intro ?_ ?_ | with_reducible refine and_imp.2 ?_ | intro)))
 all_goals try (first | (first | with_reducible rfl | with_reducible assumption | omega | (refine aj ?_ ?_ <;> omega)) | exact rfl | exact (vR (by with_reducible assumption)) | exact (vh (by with_reducible assumption)) | exact (vl (by omega) (by omega)) | exact (jC (by omega)) | exact (And.intro (by omega) (by omega)))
 all_goals try (refine ⟨‹Nat› + 1,?_⟩; (repeat' (first | with_reducible refine And.intro ?_ ?_ | with_reducible refine and_imp.2 ?_ | intro)))
 all_goals (first | (first | with_reducible rfl | with_reducible assumption | omega | (refine aj ?_ ?_ <;> omega)) | exact rfl | exact (vR (by with_reducible assumption)) | exact (vh (by with_reducible assumption)) | exact (vl (by omega) (by omega)) | exact (jC (by omega)) | exact (And.intro (by omega) (by omega)))
theorem vQ (xs:List Int) (ys:List Int) (r0:List Int):cN aF uS (rk xs ys) Tryz.f127 [.c (.fn 129 [] [(0,0),(1,0)])] [.arr 108 .int 65 (xs),.arr 108 .int 65 (ys)] [.c (.fz .int (r0))]=((fun (q1:Nat)=>(fun (q0:Int)=>∃ (s0:Nat),(q0=(↑s0:Int)+q0/\xs=xs/\ys=ys/\fw (db xs ys) s0=[])/\s0<=q1/\∀ (s:Nat),(fun (q3:List Int)=>(fun (q2:Int)=>s<=q1->(q2<=(64:Int)->((0:Int)<=q2/\q2<(65:Int))/\(db xs ys q2=true->(q3.length+[q2].length)*(8:Nat)<=(140737488355328:Nat)/\I64 (q2+q0)/\∃ (s':Nat),(q2+q0=(↑s':Int)+q0/\xs=xs/\ys=ys/\q3++[q2]=fw (db xs ys) s')/\s' <= q1/\q1 - s' < q1 - s)/\(db xs ys q2=false->I64 (q2+q0)/\∃ (s':Nat),(q2+q0=(↑s':Int)+q0/\xs=xs/\ys=ys/\q3=fw (db xs ys) s')/\s' <= q1/\q1 - s' < q1 - s))/\((64:Int)<q2->q3=r0)) ((↑s:Int)+q0)) (fw (db xs ys) s)) (1:Int)) (64:Nat)):=by kernel_rfl
theorem vX (xs:List Int) (ys:List Int):Sat Tryz.prog (aq aF) 127 [.c (.fn 129 [] [(0,0),(1,0)])] [.arr 108 .int 65 (xs),.arr 108 .int 65 (ys)] ⟨[],[.c (.fz .int ((fw (db xs ys) 64)))],none,false⟩:=by
 refine aR mb (rk xs ys) Tryz.func127 (by decide) (by kernel_rfl) ?_
 rw [vQ]
 (repeat' (first | with_reducible refine And.intro ?_ ?_ | with_reducible refine and_imp.2 ?_ | intro))
 all_goals try (first | (first | with_reducible rfl | with_reducible assumption | omega | (refine aj ?_ ?_ <;> omega)) | exact rfl | exact (vR (by with_reducible assumption)) | exact (vh (by with_reducible assumption)) | exact (vl (by omega) (by omega)) | exact (jC (by omega)) | exact (And.intro (by omega) (by omega)))
 all_goals try (refine ⟨0,?_⟩; (repeat' (first | with_reducible refine And.intro ?_ ?_ | with_reducible refine and_imp.2 ?_ | intro)))
 all_goals try (first | (first | with_reducible rfl | with_reducible assumption | omega | (refine aj ?_ ?_ <;> omega)) | exact rfl | exact (vR (by with_reducible assumption)) | exact (vh (by with_reducible assumption)) | exact (vl (by omega) (by omega)) | exact (jC (by omega)) | exact (And.intro (by omega) (by omega)))
 all_goals try (refine ⟨‹Nat› + 1,?_⟩; (repeat' (first | with_reducible refine And.intro ?_ ?_ | with_reducible refine and_imp.2 ?_ | intro)))
 all_goals (first | (first | with_reducible rfl | with_reducible assumption | omega | (refine aj ?_ ?_ <;> omega)) | exact rfl | exact (vR (by with_reducible assumption)) | exact (vh (by with_reducible assumption)) | exact (vl (by omega) (by omega)) | exact (jC (by omega)) | exact (And.intro (by omega) (by omega)))
def uZ:ct:=(bO 127 (bI (ah (kC (kR 129 [] [(0,0),(1,0)])) aO) (az (pz 108 .int 65) (az (pz 108 .int 65) aP)) fun (_,_) (xs,ys,_)=>⟨[],[.c (.fz .int ((fw (db xs ys) 64)))],none,false⟩) (bO 127 (bI (ah (kC (kR 128 [] [(0,0)])) aO) (az (pz 108 .int 65) aP) fun (_,_) (xs,_)=>⟨[],[.c (.fz .int ((fw (dh xs) 64)))],none,false⟩) uS))
theorem mP:aU Tryz.prog (aq aF) uZ:=(ay (ax (ab (ao bV) al) (ag fp (ag fp ak)) fun (_,_) (xs,ys,_) _=>vX xs ys ) (ay (ax (ab (ao bV) al) (ag fp ak) fun (_,_) (xs,_) _=>vL xs ) mb))
end Go.Proofs.YtdggohppeeaipaaGreat
namespace Go.Proofs.YtdggohppeeaipaaGreat
open Go.RowKit
theorem Dz (xs:List Int) (r0:List Int):cN aF uZ [] Tryz.f96 [.agg (jI .int (xs) 0 65)] [] [.c (.fz .int (r0))]=((fun (q1:List Int)=>(fun (q0:den Sh.int)=>I64 (xs.getD (0:Nat) q0)->I64 (xs.getD (1:Nat) q0)->I64 (xs.getD (2:Nat) q0)->I64 (xs.getD (3:Nat) q0)->I64 (xs.getD (4:Nat) q0)->I64 (xs.getD (5:Nat) q0)->I64 (xs.getD (6:Nat) q0)->I64 (xs.getD (7:Nat) q0)->I64 (xs.getD (8:Nat) q0)->I64 (xs.getD (9:Nat) q0)->I64 (xs.getD (10:Nat) q0)->I64 (xs.getD (11:Nat) q0)->I64 (xs.getD (12:Nat) q0)->I64 (xs.getD (13:Nat) q0)->I64 (xs.getD (14:Nat) q0)->I64 (xs.getD (15:Nat) q0)->I64 (xs.getD (16:Nat) q0)->I64 (xs.getD (17:Nat) q0)->I64 (xs.getD (18:Nat) q0)->I64 (xs.getD (19:Nat) q0)->I64 (xs.getD (20:Nat) q0)->I64 (xs.getD (21:Nat) q0)->I64 (xs.getD (22:Nat) q0)->I64 (xs.getD (23:Nat) q0)->I64 (xs.getD (24:Nat) q0)->I64 (xs.getD (25:Nat) q0)->I64 (xs.getD (26:Nat) q0)->I64 (xs.getD (27:Nat) q0)->I64 (xs.getD (28:Nat) q0)->I64 (xs.getD (29:Nat) q0)->I64 (xs.getD (30:Nat) q0)->I64 (xs.getD (31:Nat) q0)->I64 (xs.getD (32:Nat) q0)->I64 (xs.getD (33:Nat) q0)->I64 (xs.getD (34:Nat) q0)->I64 (xs.getD (35:Nat) q0)->I64 (xs.getD (36:Nat) q0)->I64 (xs.getD (37:Nat) q0)->I64 (xs.getD (38:Nat) q0)->I64 (xs.getD (39:Nat) q0)->I64 (xs.getD (40:Nat) q0)->I64 (xs.getD (41:Nat) q0)->I64 (xs.getD (42:Nat) q0)->I64 (xs.getD (43:Nat) q0)->I64 (xs.getD (44:Nat) q0)->I64 (xs.getD (45:Nat) q0)->I64 (xs.getD (46:Nat) q0)->I64 (xs.getD (47:Nat) q0)->I64 (xs.getD (48:Nat) q0)->I64 (xs.getD (49:Nat) q0)->I64 (xs.getD (50:Nat) q0)->I64 (xs.getD (51:Nat) q0)->I64 (xs.getD (52:Nat) q0)->I64 (xs.getD (53:Nat) q0)->I64 (xs.getD (54:Nat) q0)->I64 (xs.getD (55:Nat) q0)->I64 (xs.getD (56:Nat) q0)->I64 (xs.getD (57:Nat) q0)->I64 (xs.getD (58:Nat) q0)->I64 (xs.getD (59:Nat) q0)->I64 (xs.getD (60:Nat) q0)->I64 (xs.getD (61:Nat) q0)->I64 (xs.getD (62:Nat) q0)->I64 (xs.getD (63:Nat) q0)->I64 (xs.getD (64:Nat) q0)->q1.length*(8:Nat)<=(140737488355328:Nat)->q1=r0) (dflt Sh.int)) (fw (dh (lV Sh.int xs (0:Nat) (65:Nat))) (64:Nat))):=by kernel_rfl
theorem DO (xs:List Int) (h0:xs.length=65):Sat Tryz.prog (aq aF) 96 [.agg (jI .int (xs) 0 65)] [] ⟨[xs.length=65],[.c (.fz .int ((fw (dh xs) 64)))],none,false⟩:=by
 refine aR mP [] Tryz.func96 (by decide) (by kernel_rfl) ?_
 rw [Dz]
 (repeat' (first | with_reducible refine And.intro ?_ ?_ | with_reducible refine and_imp.2 ?_ | intro))
 all_goals (first | (first | with_reducible rfl | with_reducible assumption | omega | (refine aj ?_ ?_ <;> omega)) | exact (by rw [d_ h0]) | exact (by rw [d_ h0]; assumption))
theorem yx (l:List Snap) (id:Int) (r0:List Int):cN aF uZ [] Tryz.f99 [.c (.fz (.nm .snap) (l)),.c (.int (id))] [] [.c (.fz .int (r0))]=((fun (q3:Nat)=>(fun (q2:List Int)=>(fun (q1:den Sh.int)=>(fun (q0:List Int)=>l.length*(64:Nat)<=(140737488355328:Nat)->I64 id->nch l<=(1048576:Nat)/\(I64 (q2.getD q3 q1)->I64 (q2.getD (1:Nat) q1)->I64 (q2.getD (2:Nat) q1)->I64 (q2.getD (3:Nat) q1)->I64 (q2.getD (4:Nat) q1)->I64 (q2.getD (5:Nat) q1)->I64 (q2.getD (6:Nat) q1)->I64 (q2.getD (7:Nat) q1)->I64 (q2.getD (8:Nat) q1)->I64 (q2.getD (9:Nat) q1)->I64 (q2.getD (10:Nat) q1)->I64 (q2.getD (11:Nat) q1)->I64 (q2.getD (12:Nat) q1)->I64 (q2.getD (13:Nat) q1)->I64 (q2.getD (14:Nat) q1)->I64 (q2.getD (15:Nat) q1)->I64 (q2.getD (16:Nat) q1)->I64 (q2.getD (17:Nat) q1)->I64 (q2.getD (18:Nat) q1)->I64 (q2.getD (19:Nat) q1)->I64 (q2.getD (20:Nat) q1)->I64 (q2.getD (21:Nat) q1)->I64 (q2.getD (22:Nat) q1)->I64 (q2.getD (23:Nat) q1)->I64 (q2.getD (24:Nat) q1)->I64 (q2.getD (25:Nat) q1)->I64 (q2.getD (26:Nat) q1)->I64 (q2.getD (27:Nat) q1)->I64 (q2.getD (28:Nat) q1)->I64 (q2.getD (29:Nat) q1)->I64 (q2.getD (30:Nat) q1)->I64 (q2.getD (31:Nat) q1)->I64 (q2.getD (32:Nat) q1)->I64 (q2.getD (33:Nat) q1)->I64 (q2.getD (34:Nat) q1)->I64 (q2.getD (35:Nat) q1)->I64 (q2.getD (36:Nat) q1)->I64 (q2.getD (37:Nat) q1)->I64 (q2.getD (38:Nat) q1)->I64 (q2.getD (39:Nat) q1)->I64 (q2.getD (40:Nat) q1)->I64 (q2.getD (41:Nat) q1)->I64 (q2.getD (42:Nat) q1)->I64 (q2.getD (43:Nat) q1)->I64 (q2.getD (44:Nat) q1)->I64 (q2.getD (45:Nat) q1)->I64 (q2.getD (46:Nat) q1)->I64 (q2.getD (47:Nat) q1)->I64 (q2.getD (48:Nat) q1)->I64 (q2.getD (49:Nat) q1)->I64 (q2.getD (50:Nat) q1)->I64 (q2.getD (51:Nat) q1)->I64 (q2.getD (52:Nat) q1)->I64 (q2.getD (53:Nat) q1)->I64 (q2.getD (54:Nat) q1)->I64 (q2.getD (55:Nat) q1)->I64 (q2.getD (56:Nat) q1)->I64 (q2.getD (57:Nat) q1)->I64 (q2.getD (58:Nat) q1)->I64 (q2.getD (59:Nat) q1)->I64 (q2.getD (60:Nat) q1)->I64 (q2.getD (61:Nat) q1)->I64 (q2.getD (62:Nat) q1)->I64 (q2.getD (63:Nat) q1)->I64 (q2.getD (64:Nat) q1)->nch (bb id l)<=(1048576:Nat)/\(I64 (q0.getD q3 q1)->I64 (q0.getD (1:Nat) q1)->I64 (q0.getD (2:Nat) q1)->I64 (q0.getD (3:Nat) q1)->I64 (q0.getD (4:Nat) q1)->I64 (q0.getD (5:Nat) q1)->I64 (q0.getD (6:Nat) q1)->I64 (q0.getD (7:Nat) q1)->I64 (q0.getD (8:Nat) q1)->I64 (q0.getD (9:Nat) q1)->I64 (q0.getD (10:Nat) q1)->I64 (q0.getD (11:Nat) q1)->I64 (q0.getD (12:Nat) q1)->I64 (q0.getD (13:Nat) q1)->I64 (q0.getD (14:Nat) q1)->I64 (q0.getD (15:Nat) q1)->I64 (q0.getD (16:Nat) q1)->I64 (q0.getD (17:Nat) q1)->I64 (q0.getD (18:Nat) q1)->I64 (q0.getD (19:Nat) q1)->I64 (q0.getD (20:Nat) q1)->I64 (q0.getD (21:Nat) q1)->I64 (q0.getD (22:Nat) q1)->I64 (q0.getD (23:Nat) q1)->I64 (q0.getD (24:Nat) q1)->I64 (q0.getD (25:Nat) q1)->I64 (q0.getD (26:Nat) q1)->I64 (q0.getD (27:Nat) q1)->I64 (q0.getD (28:Nat) q1)->I64 (q0.getD (29:Nat) q1)->I64 (q0.getD (30:Nat) q1)->I64 (q0.getD (31:Nat) q1)->I64 (q0.getD (32:Nat) q1)->I64 (q0.getD (33:Nat) q1)->I64 (q0.getD (34:Nat) q1)->I64 (q0.getD (35:Nat) q1)->I64 (q0.getD (36:Nat) q1)->I64 (q0.getD (37:Nat) q1)->I64 (q0.getD (38:Nat) q1)->I64 (q0.getD (39:Nat) q1)->I64 (q0.getD (40:Nat) q1)->I64 (q0.getD (41:Nat) q1)->I64 (q0.getD (42:Nat) q1)->I64 (q0.getD (43:Nat) q1)->I64 (q0.getD (44:Nat) q1)->I64 (q0.getD (45:Nat) q1)->I64 (q0.getD (46:Nat) q1)->I64 (q0.getD (47:Nat) q1)->I64 (q0.getD (48:Nat) q1)->I64 (q0.getD (49:Nat) q1)->I64 (q0.getD (50:Nat) q1)->I64 (q0.getD (51:Nat) q1)->I64 (q0.getD (52:Nat) q1)->I64 (q0.getD (53:Nat) q1)->I64 (q0.getD (54:Nat) q1)->I64 (q0.getD (55:Nat) q1)->I64 (q0.getD (56:Nat) q1)->I64 (q0.getD (57:Nat) q1)->I64 (q0.getD (58:Nat) q1)->I64 (q0.getD (59:Nat) q1)->I64 (q0.getD (60:Nat) q1)->I64 (q0.getD (61:Nat) q1)->I64 (q0.getD (62:Nat) q1)->I64 (q0.getD (63:Nat) q1)->I64 (q0.getD (64:Nat) q1)->(fw (db (lV Sh.int q2 q3 (65:Nat)) (lV Sh.int q0 q3 (65:Nat))) (64:Nat)).length*(8:Nat)<=(140737488355328:Nat)->fw (db (lV Sh.int q2 q3 (65:Nat)) (lV Sh.int q0 q3 (65:Nat))) (64:Nat)=r0))) (bC (bb id l))) (dflt Sh.int)) (bC l)) (0:Nat)):=by kernel_rfl
theorem xr (l:List Snap) (id:Int) (h0:nch l<=1048576):Sat Tryz.prog (aq aF) 99 [.c (.fz (.nm .snap) (l)),.c (.int (id))] [] ⟨[nch l<=1048576],[.c (.fz .int ((gF l id)))],none,false⟩:=by
 refine aR mP [] Tryz.func99 (by decide) (by kernel_rfl) ?_
 rw [yx]
 (repeat' (first | with_reducible refine And.intro ?_ ?_ | with_reducible refine and_imp.2 ?_ | intro))
 all_goals (first | (first | with_reducible rfl | with_reducible assumption | omega | (refine aj ?_ ?_ <;> omega)) | exact (Eu (by assumption)) | exact (by rw [d_ (dR _),d_ (dR _)]; exact xz _ _ _ rfl))
def ui:ct:=(bO 99 (bI (ah (kC (cL (.nm .snap))) (ah (kC cI) aO)) aP fun (l,id,_) (_)=>⟨[nch l<=1048576],[.c (.fz .int ((gF l id)))],none,false⟩) (bO 96 (bI (ah (kA .int 65) aO) aP fun (xs,_) (_)=>⟨[xs.length=65],[.c (.fz .int ((fw (dh xs) 64)))],none,false⟩) uZ))
theorem my:aU Tryz.prog (aq aF) ui:=(ay (ax (ab (ao bF) (ab (ao av) al)) ak fun (l,id,_) (_) hp=>xr l id (eI hp)) (ay (ax (ab Gm al) ak fun (xs,_) (_) hp=>DO xs (eI hp)) mP))
end Go.Proofs.YtdggohppeeaipaaGreat
namespace Go.Proofs.YtdggohppeeaipaaGreat
open Go.RowKit
theorem rC (l:List Snap) (r0:Int):cN aF ui [] Tryz.f54 [.c (.fz (.nm .snap) (l))] [] [.c (.int (r0))]=((fun (q1:den Sh.int)=>(fun (q0:List Int)=>l.length*(64:Nat)<=(140737488355328:Nat)->nch l<=(1048576:Nat)/\(I64 (q0.getD (0:Nat) q1)->I64 (q0.getD (1:Nat) q1)->I64 (q0.getD (2:Nat) q1)->I64 (q0.getD (3:Nat) q1)->I64 (q0.getD (4:Nat) q1)->I64 (q0.getD (5:Nat) q1)->I64 (q0.getD (6:Nat) q1)->I64 (q0.getD (7:Nat) q1)->I64 (q0.getD (8:Nat) q1)->I64 (q0.getD (9:Nat) q1)->I64 (q0.getD (10:Nat) q1)->I64 (q0.getD (11:Nat) q1)->I64 (q0.getD (12:Nat) q1)->I64 (q0.getD (13:Nat) q1)->I64 (q0.getD (14:Nat) q1)->I64 (q0.getD (15:Nat) q1)->I64 (q0.getD (16:Nat) q1)->I64 (q0.getD (17:Nat) q1)->I64 (q0.getD (18:Nat) q1)->I64 (q0.getD (19:Nat) q1)->I64 (q0.getD (20:Nat) q1)->I64 (q0.getD (21:Nat) q1)->I64 (q0.getD (22:Nat) q1)->I64 (q0.getD (23:Nat) q1)->I64 (q0.getD (24:Nat) q1)->I64 (q0.getD (25:Nat) q1)->I64 (q0.getD (26:Nat) q1)->I64 (q0.getD (27:Nat) q1)->I64 (q0.getD (28:Nat) q1)->I64 (q0.getD (29:Nat) q1)->I64 (q0.getD (30:Nat) q1)->I64 (q0.getD (31:Nat) q1)->I64 (q0.getD (32:Nat) q1)->I64 (q0.getD (33:Nat) q1)->I64 (q0.getD (34:Nat) q1)->I64 (q0.getD (35:Nat) q1)->I64 (q0.getD (36:Nat) q1)->I64 (q0.getD (37:Nat) q1)->I64 (q0.getD (38:Nat) q1)->I64 (q0.getD (39:Nat) q1)->I64 (q0.getD (40:Nat) q1)->I64 (q0.getD (41:Nat) q1)->I64 (q0.getD (42:Nat) q1)->I64 (q0.getD (43:Nat) q1)->I64 (q0.getD (44:Nat) q1)->I64 (q0.getD (45:Nat) q1)->I64 (q0.getD (46:Nat) q1)->I64 (q0.getD (47:Nat) q1)->I64 (q0.getD (48:Nat) q1)->I64 (q0.getD (49:Nat) q1)->I64 (q0.getD (50:Nat) q1)->I64 (q0.getD (51:Nat) q1)->I64 (q0.getD (52:Nat) q1)->I64 (q0.getD (53:Nat) q1)->I64 (q0.getD (54:Nat) q1)->I64 (q0.getD (55:Nat) q1)->I64 (q0.getD (56:Nat) q1)->I64 (q0.getD (57:Nat) q1)->I64 (q0.getD (58:Nat) q1)->I64 (q0.getD (59:Nat) q1)->I64 (q0.getD (60:Nat) q1)->I64 (q0.getD (61:Nat) q1)->I64 (q0.getD (62:Nat) q1)->I64 (q0.getD (63:Nat) q1)->I64 (q0.getD (64:Nat) q1)->(lV Sh.int q0 (0:Nat) (65:Nat)).length=(65:Nat)/\((fw (dh (lV Sh.int q0 (0:Nat) (65:Nat))) (64:Nat)).length*(8:Nat)<=(140737488355328:Nat)->(↑(fw (dh (lV Sh.int q0 (0:Nat) (65:Nat))) (64:Nat)).length:Int)=r0))) (bC l)) (dflt Sh.int)):=by kernel_rfl
theorem qP (l:List Snap) (h0:nch l<=1048576):Sat Tryz.prog (aq aF) 54 [.c (.fz (.nm .snap) (l))] [] ⟨[nch l<=1048576],[.c (.int (((distF l:Int))))],none,false⟩:=by
 refine aR my [] Tryz.func54 (by decide) (by kernel_rfl) ?_
 rw [rC]
 (repeat' (first | with_reducible refine And.intro ?_ ?_ | with_reducible refine and_imp.2 ?_ | intro))
 all_goals (first | (first | with_reducible rfl | with_reducible assumption | omega | (refine aj ?_ ?_ <;> omega)) | exact (kQ 65 0) | exact (by rw [d_ (dR _)]; exact uD _))
theorem Bv (l:List Snap) (m:List Int) (r0:Int):cN aF ui [] Tryz.f94 [.c (.fz (.nm .snap) (l)),.c (.fz .int (m))] [] [.c (.int (r0))]=((fun (q3:Nat)=>(fun (q2:Nat)=>(fun (q1:den Sh.int)=>(fun (q0:List Int)=>l.length*(64:Nat)<=(140737488355328:Nat)->m.length*(8:Nat)<=(140737488355328:Nat)->nch l<=(1048576:Nat)/\(I64 (q0.getD q2 q1)->I64 (q0.getD (1:Nat) q1)->I64 (q0.getD (2:Nat) q1)->I64 (q0.getD (3:Nat) q1)->I64 (q0.getD (4:Nat) q1)->I64 (q0.getD (5:Nat) q1)->I64 (q0.getD (6:Nat) q1)->I64 (q0.getD (7:Nat) q1)->I64 (q0.getD (8:Nat) q1)->I64 (q0.getD (9:Nat) q1)->I64 (q0.getD (10:Nat) q1)->I64 (q0.getD (11:Nat) q1)->I64 (q0.getD (12:Nat) q1)->I64 (q0.getD (13:Nat) q1)->I64 (q0.getD (14:Nat) q1)->I64 (q0.getD (15:Nat) q1)->I64 (q0.getD (16:Nat) q1)->I64 (q0.getD (17:Nat) q1)->I64 (q0.getD (18:Nat) q1)->I64 (q0.getD (19:Nat) q1)->I64 (q0.getD (20:Nat) q1)->I64 (q0.getD (21:Nat) q1)->I64 (q0.getD (22:Nat) q1)->I64 (q0.getD (23:Nat) q1)->I64 (q0.getD (24:Nat) q1)->I64 (q0.getD (25:Nat) q1)->I64 (q0.getD (26:Nat) q1)->I64 (q0.getD (27:Nat) q1)->I64 (q0.getD (28:Nat) q1)->I64 (q0.getD (29:Nat) q1)->I64 (q0.getD (30:Nat) q1)->I64 (q0.getD (31:Nat) q1)->I64 (q0.getD (32:Nat) q1)->I64 (q0.getD (33:Nat) q1)->I64 (q0.getD (34:Nat) q1)->I64 (q0.getD (35:Nat) q1)->I64 (q0.getD (36:Nat) q1)->I64 (q0.getD (37:Nat) q1)->I64 (q0.getD (38:Nat) q1)->I64 (q0.getD (39:Nat) q1)->I64 (q0.getD (40:Nat) q1)->I64 (q0.getD (41:Nat) q1)->I64 (q0.getD (42:Nat) q1)->I64 (q0.getD (43:Nat) q1)->I64 (q0.getD (44:Nat) q1)->I64 (q0.getD (45:Nat) q1)->I64 (q0.getD (46:Nat) q1)->I64 (q0.getD (47:Nat) q1)->I64 (q0.getD (48:Nat) q1)->I64 (q0.getD (49:Nat) q1)->I64 (q0.getD (50:Nat) q1)->I64 (q0.getD (51:Nat) q1)->I64 (q0.getD (52:Nat) q1)->I64 (q0.getD (53:Nat) q1)->I64 (q0.getD (54:Nat) q1)->I64 (q0.getD (55:Nat) q1)->I64 (q0.getD (56:Nat) q1)->I64 (q0.getD (57:Nat) q1)->I64 (q0.getD (58:Nat) q1)->I64 (q0.getD (59:Nat) q1)->I64 (q0.getD (60:Nat) q1)->I64 (q0.getD (61:Nat) q1)->I64 (q0.getD (62:Nat) q1)->I64 (q0.getD (63:Nat) q1)->I64 (q0.getD (64:Nat) q1)->(∀ (i:Nat),(fun (q4:Int)=>(0:Int)<=q4/\q4+(↑m.length:Int)<=(4611686018427387904:Int)) ((lV Sh.int q0 q2 q3).getD i (0:Int)))/\(lV Sh.int (cD (lV Sh.int q0 q2 q3) m) q2 q3).length=q3/\((fw (dh (lV Sh.int (cD (lV Sh.int q0 q2 q3) m) q2 q3)) (64:Nat)).length*(8:Nat)<=(140737488355328:Nat)->(↑(fw (dh (lV Sh.int (cD (lV Sh.int q0 q2 q3) m) q2 q3)) (64:Nat)).length:Int)=r0))) (bC l)) (dflt Sh.int)) (0:Nat)) (65:Nat)):=by kernel_rfl
theorem By (l:List Snap) (m:List Int) (h0:nch l<=1048576):Sat Tryz.prog (aq aF) 94 [.c (.fz (.nm .snap) (l)),.c (.fz .int (m))] [] ⟨[nch l<=1048576],[.c (.int (((distF (l++[⟨0,0,m,false,⟨[]⟩⟩]):Int))))],none,false⟩:=by
 refine aR my [] Tryz.func94 (by decide) (by kernel_rfl) ?_
 rw [Bv]
 (repeat' (first | with_reducible refine And.intro ?_ ?_ | with_reducible refine and_imp.2 ?_ | intro))
 all_goals (first | (first | with_reducible rfl | with_reducible assumption | omega | (refine aj ?_ ?_ <;> omega)) | exact (kQ 65 0) | exact (tX (s:=.int) (by assumption) (by assumption) _).1 | exact (tX (s:=.int) (by assumption) (by assumption) _).2 | exact (by rw [d_ (s:=.int) (xs:=cD _ _) (by rw [lS,kQ]),d_ (dR l)]; have:=uD (l++[Snap.mk 0 0 m false ⟨[]⟩]); rw [fY] at this; exact this))
def ig:ct:=(bO 94 (bI (ah (kC (cL (.nm .snap))) (ah (kC (cL .int)) aO)) aP fun (l,m,_) (_)=>⟨[nch l<=1048576],[.c (.int (((distF (l++[⟨0,0,m,false,⟨[]⟩⟩]):Int))))],none,false⟩) (bO 54 (bI (ah (kC (cL (.nm .snap))) aO) aP fun (l,_) (_)=>⟨[nch l<=1048576],[.c (.int (((distF l:Int))))],none,false⟩) ui))
theorem dM:aU Tryz.prog (aq aF) ig:=(ay (ax (ab (ao bF) (ab (ao bF) al)) ak fun (l,m,_) (_) hp=>By l m (eI hp)) (ay (ax (ab (ao bF) al) ak fun (l,_) (_) hp=>qP l (eI hp)) my))
end Go.Proofs.YtdggohppeeaipaaGreat
namespace Go.Proofs.YtdggohppeeaipaaGreat
open Go.RowKit
def rS {α:Type} (l:List α) (i:Nat) (x:α):List α:=l.take i++x :: l.drop i
def AU {α:Type} (l:List α) (i:Int):List α:=l.take i.toNat++l.drop (i+1).toNat
def bJ (s:State) (c:Command):Int:=if 0<=au Opn.set c.set s.opens/\¬ (s.opens.getD (au Opn.set c.set s.opens).toNat (dflt (.nm .opn))).client=c.client then -1 else au Opn.set c.set s.opens
def aY (s:State) (c:Command):State × Reply:=if 0<=au Opn.set c.set s.opens then (s,⟨16,(s.opens.getD (au Opn.set c.set s.opens).toNat (dflt (.nm .opn))).client⟩)
 else ({ s with opens:=rS s.opens (s.opens.takeWhile fun y=>decide (y.set<c.set)).length ⟨c.set,c.client⟩ },⟨0,0⟩)
def a_ (s:State) (c:Command):State × Reply:=if bJ s c<0 then (s,⟨15,0⟩) else ({ s with opens:=AU s.opens (bJ s c) },⟨0,0⟩)
def aT (s:State) (c:Command):State × Reply:=
 if bJ s c<0 then (s,⟨15,0⟩)
 else if 16<=(s.snaps.length:Int)\/1048576<=s.next then (s,⟨20,0⟩)
 else if ¬ s.quota=0/\s.quota<(distF (s.snaps++[⟨0,0,c.chunks,false,⟨[]⟩⟩]):Int) then (s,⟨19,0⟩)
 else ({ s with next:=s.next+1,opens:=AU s.opens (bJ s c),snaps:=s.snaps++[⟨s.next,c.set,c.chunks,false,⟨[]⟩⟩] },⟨0,s.next⟩)
def aL (s:State) (at_:Nat):State × Reply:=
 if (s.snaps.getD at_ (dflt (.nm .snap))).held=true then (s,⟨17,0⟩)
 else if iY s at_=true then (s,⟨18,0⟩)
 else ({ s with snaps:=bb (s.snaps.getD at_ (dflt (.nm .snap))).id s.snaps },⟨0,(gF s.snaps (s.snaps.getD at_ (dflt (.nm .snap))).id).length⟩)
def bj (s:State) (at_:Nat):State × Reply:=(s,⟨0,(s.snaps.getD at_ (dflt (.nm .snap))).chunks.length⟩)
def bt (b:Bool) (s:State) (at_:Nat):State × Reply:=
 if (s.snaps.getD at_ (dflt (.nm .snap))).held=b then (s,⟨0,0⟩)
 else ({ s with snaps:=s.snaps.set at_ { s.snaps.getD at_ (dflt (.nm .snap)) with held:=b } },⟨0,1⟩)
def cG (c:Command) (s:State) (at_:Nat):State × Reply:=({ s with snaps:=s.snaps.set at_ { s.snaps.getD at_ (dflt (.nm .snap)) with tag:=c.text } },⟨0,0⟩)
def df (c:Command) (s:State):State × Reply:=({ s with keep:=c.n },⟨0,0⟩)
def cr (c:Command) (s:State):State × Reply:=({ s with quota:=c.n },⟨0,distF s.snaps⟩)
theorem bY {α:Type} {key:α->Int} {want:Int} {l:List α} (h:0<=au key want l):au key want l<(l.length:Int):=by
 unfold au at *
 split
 ·rename_i i hi
  have:=(List.findIdx?_eq_some_iff_getElem.1 hi).1
  omega
 ·omega
theorem zl {s:State} {c:Command} (h:0<=bJ s c):bJ s c+1<=(s.opens.length:Int):=by
 unfold bJ at *
 split
 ·rename_i h1; rw [if_pos h1] at h; omega
 ·rename_i h1; rw [if_neg h1] at h
  have:=bY h
  omega
theorem vM (i:Int) (m:List Opn) (l:List Opn) (h0:0<=i/\i<=(l.length:Int)) (h1:l.length<1048576) (h2:m.length=1):Sat Tryz.prog (aq aF) 92 [.c (.own 0),.c (.int (i)),.c (.fz (.nm .opn) (m))] [.row 77 (.nm .opn) (l)] ⟨[0<=i/\i<=(l.length:Int),l.length<1048576,m.length=1],[.c (.own 0)],some ([.row 77 (.nm .opn) ((l.take i.toNat++m++l.drop i.toNat))]),false⟩:=nT i l m h0 h1 h2
theorem sG (i:Int) (l:List Sess) (m:List Sess) (h0:0<=i/\i<=(l.length:Int)) (h1:l.length<1048576) (h2:m.length=1):Sat Tryz.prog (aq aF) 36 [.c (.own 0),.c (.int (i)),.c (.own 1)] [.row 44 (.nm .sess) (l),.row 44 (.nm .sess) (m)] ⟨[0<=i/\i<=(l.length:Int),l.length<1048576,m.length=1],[.c (.own 0)],some ([.row 44 (.nm .sess) ((l.take i.toNat++m++l.drop i.toNat)),.row 44 (.nm .sess) ((m))]),false⟩:=nX i l m h0 h1 h2
theorem vn (i:Int) (j:Int) (l:List Opn) (h0:0<=i/\i<(l.length:Int)/\j=i+1):Sat Tryz.prog (aq aF) 95 [.c (.own 0),.c (.int (i)),.c (.int (j))] [.row 77 (.nm .opn) (l)] ⟨[0<=i/\i<(l.length:Int)/\j=i+1],[.c (.own 0)],some ([.row 77 (.nm .opn) ((l.take i.toNat++l.drop j.toNat))]),false⟩:=ry i j l h0
theorem vV (c:Command) (v:Int) (nx:Int) (kp:Int) (qt:Int) (se:List Sess) (op:List Opn) (sn:List Snap) (r0:Int):cN aF ig [] Tryz.f93 [.c (.ptr 0 0),.agg (cellsOf (.nm .command) c)] [.box 26 ([.int (v),.int (nx),.int (kp),.int (qt),.own 1,.own 2,.own 3]),.row 44 (.nm .sess) (se),.row 77 (.nm .opn) (op),.row 59 (.nm .snap) (sn)] [.c (.int (r0))]=((fun (q0:Int)=>I64 c.kind->I64 c.client->I64 c.seq->I64 c.set->I64 c.id->I64 c.n->c.chunks.length*(8:Nat)<=(140737488355328:Nat)->c.text.b.length<=(140737488355328:Nat)->I64 q0->((0:Int)<=q0->(0:Int)<=q0/\q0<(↑op.length:Int))/\(((0:Int)<=q0->I64 (op.getD q0.toNat (dflt (Sh.nm NT.opn))).set/\I64 (op.getD q0.toNat (dflt (Sh.nm NT.opn))).client)->((0:Int)<=q0/\¬(op.getD q0.toNat (dflt (Sh.nm NT.opn))).client=c.client->(-1:Int)=r0)/\(q0<(0:Int)\/(op.getD q0.toNat (dflt (Sh.nm NT.opn))).client=c.client->q0=r0))) (au Opn.set c.set op)):=by kernel_rfl
theorem vJ (c:Command) (v:Int) (nx:Int) (kp:Int) (qt:Int) (se:List Sess) (op:List Opn) (sn:List Snap):Sat Tryz.prog (aq aF) 93 [.c (.ptr 0 0),.agg (cellsOf (.nm .command) c)] [.box 26 ([.int (v),.int (nx),.int (kp),.int (qt),.own 1,.own 2,.own 3]),.row 44 (.nm .sess) (se),.row 77 (.nm .opn) (op),.row 59 (.nm .snap) (sn)] ⟨[],[.c (.int ((bJ (State.mk v nx kp qt se op sn) c)))],none,false⟩:=by
 refine aR dM [] Tryz.func93 (by decide) (by kernel_rfl) ?_
 rw [vV]
 (repeat' (first | with_reducible refine And.intro ?_ ?_ | with_reducible refine and_imp.2 ?_ | intro))
 all_goals (first | (first | with_reducible rfl | with_reducible assumption | omega | (refine aj ?_ ?_ <;> omega)) | exact bY (by with_reducible assumption) | (unfold bJ; grind))
theorem Ey (c:Command) (v:Int) (nx:Int) (kp:Int) (qt:Int) (se:List Sess) (op:List Opn) (sn:List Snap) (r0:Reply) (r1:Command) (r2:Int) (r3:Int) (r4:Int) (r5:Int) (r6:List Sess) (r7:List Opn) (r8:List Snap):nb aF ig [] Tryz.f52 [.c (.ptr 0 0),.c (.ptr 1 0)] [.box 29 (cellsOf (.nm .command) (c)),.box 26 ([.int (v),.int (nx),.int (kp),.int (qt),.own 2,.own 3,.own 4]),.row 44 (.nm .sess) (se),.row 77 (.nm .opn) (op),.row 59 (.nm .snap) (sn)] [.agg (cellsOf (.nm .reply) r0)] [.box 29 (cellsOf (.nm .command) (r1)),.box 26 ([.int (r2),.int (r3),.int (r4),.int (r5),.own 2,.own 3,.own 4]),.row 44 (.nm .sess) (r6),.row 77 (.nm .opn) (r7),.row 59 (.nm .snap) (r8)]=((0:Int)=r0.code/\(0:Int)=r0.n/\c.kind=r1.kind/\c.client=r1.client/\c.seq=r1.seq/\c.set=r1.set/\c.id=r1.id/\c.n=r1.n/\c.chunks=r1.chunks/\c.text=r1.text/\v=r2/\nx=r3/\c.n=r4/\qt=r5/\se=r6/\op=r7/\sn=r8):=by kernel_rfl
theorem Ef (c:Command) (v:Int) (nx:Int) (kp:Int) (qt:Int) (se:List Sess) (op:List Opn) (sn:List Snap):Sat Tryz.prog (aq aF) 52 [.c (.ptr 0 0),.c (.ptr 1 0)] [.box 29 (cellsOf (.nm .command) (c)),.box 26 ([.int (v),.int (nx),.int (kp),.int (qt),.own 2,.own 3,.own 4]),.row 44 (.nm .sess) (se),.row 77 (.nm .opn) (op),.row 59 (.nm .snap) (sn)] ⟨[],[.agg (cellsOf (.nm .reply) ((df c (State.mk v nx kp qt se op sn)).2))],some ([.box 29 (cellsOf (.nm .command) ((c))),.box 26 ([.int ((((df c (State.mk v nx kp qt se op sn)).1).version)),.int ((((df c (State.mk v nx kp qt se op sn)).1).next)),.int ((((df c (State.mk v nx kp qt se op sn)).1).keep)),.int ((((df c (State.mk v nx kp qt se op sn)).1).quota)),.own 2,.own 3,.own 4]),.row 44 (.nm .sess) ((((df c (State.mk v nx kp qt se op sn)).1).sess)),.row 77 (.nm .opn) ((((df c (State.mk v nx kp qt se op sn)).1).opens)),.row 59 (.nm .snap) ((((df c (State.mk v nx kp qt se op sn)).1).snaps))]),false⟩:=by
 refine dm dM [] Tryz.func52 (by decide) (by kernel_rfl) ?_
 rw [Ey]
 (repeat' (first | with_reducible refine And.intro ?_ ?_ | with_reducible refine and_imp.2 ?_ | intro))
 all_goals (first | (first | with_reducible rfl | with_reducible assumption | omega | (refine aj ?_ ?_ <;> omega)) | exact rfl)
theorem DC (c:Command) (v:Int) (nx:Int) (kp:Int) (qt:Int) (se:List Sess) (op:List Opn) (sn:List Snap) (r0:Reply) (r1:Command) (r2:Int) (r3:Int) (r4:Int) (r5:Int) (r6:List Sess) (r7:List Opn) (r8:List Snap):nb aF ig [] Tryz.f53 [.c (.ptr 0 0),.c (.ptr 1 0)] [.box 29 (cellsOf (.nm .command) (c)),.box 26 ([.int (v),.int (nx),.int (kp),.int (qt),.own 2,.own 3,.own 4]),.row 44 (.nm .sess) (se),.row 77 (.nm .opn) (op),.row 59 (.nm .snap) (sn)] [.agg (cellsOf (.nm .reply) r0)] [.box 29 (cellsOf (.nm .command) (r1)),.box 26 ([.int (r2),.int (r3),.int (r4),.int (r5),.own 2,.own 3,.own 4]),.row 44 (.nm .sess) (r6),.row 77 (.nm .opn) (r7),.row 59 (.nm .snap) (r8)]=(nch sn<=(1048576:Nat)/\(I64 (↑(distF sn):Int)->(0:Int)=r0.code/\(↑(distF sn):Int)=r0.n/\c.kind=r1.kind/\c.client=r1.client/\c.seq=r1.seq/\c.set=r1.set/\c.id=r1.id/\c.n=r1.n/\c.chunks=r1.chunks/\c.text=r1.text/\v=r2/\nx=r3/\kp=r4/\c.n=r5/\se=r6/\op=r7/\sn=r8)):=by kernel_rfl
theorem Fg (c:Command) (v:Int) (nx:Int) (kp:Int) (qt:Int) (se:List Sess) (op:List Opn) (sn:List Snap) (h0:nch sn<=1048576):Sat Tryz.prog (aq aF) 53 [.c (.ptr 0 0),.c (.ptr 1 0)] [.box 29 (cellsOf (.nm .command) (c)),.box 26 ([.int (v),.int (nx),.int (kp),.int (qt),.own 2,.own 3,.own 4]),.row 44 (.nm .sess) (se),.row 77 (.nm .opn) (op),.row 59 (.nm .snap) (sn)] ⟨[nch sn<=1048576],[.agg (cellsOf (.nm .reply) ((cr c (State.mk v nx kp qt se op sn)).2))],some ([.box 29 (cellsOf (.nm .command) ((c))),.box 26 ([.int ((((cr c (State.mk v nx kp qt se op sn)).1).version)),.int ((((cr c (State.mk v nx kp qt se op sn)).1).next)),.int ((((cr c (State.mk v nx kp qt se op sn)).1).keep)),.int ((((cr c (State.mk v nx kp qt se op sn)).1).quota)),.own 2,.own 3,.own 4]),.row 44 (.nm .sess) ((((cr c (State.mk v nx kp qt se op sn)).1).sess)),.row 77 (.nm .opn) ((((cr c (State.mk v nx kp qt se op sn)).1).opens)),.row 59 (.nm .snap) ((((cr c (State.mk v nx kp qt se op sn)).1).snaps))]),false⟩:=by
 refine dm dM [] Tryz.func53 (by decide) (by kernel_rfl) ?_
 rw [DC]
 (repeat' (first | with_reducible refine And.intro ?_ ?_ | with_reducible refine and_imp.2 ?_ | intro))
 all_goals (first | (first | with_reducible rfl | with_reducible assumption | omega | (refine aj ?_ ?_ <;> omega)) | exact rfl)
theorem AS (i:Int) (v:Int) (nx:Int) (kp:Int) (qt:Int) (se:List Sess) (op:List Opn) (sn:List Snap) (r0:Reply) (r1:Int) (r2:Int) (r3:Int) (r4:Int) (r5:List Sess) (r6:List Opn) (r7:List Snap):nb aF ig [] Tryz.f56 [.c (.ptr 0 0),.c (.int (i))] [.box 26 ([.int (v),.int (nx),.int (kp),.int (qt),.own 1,.own 2,.own 3]),.row 44 (.nm .sess) (se),.row 77 (.nm .opn) (op),.row 59 (.nm .snap) (sn)] [.agg (cellsOf (.nm .reply) r0)] [.box 26 ([.int (r1),.int (r2),.int (r3),.int (r4),.own 1,.own 2,.own 3]),.row 44 (.nm .sess) (r5),.row 77 (.nm .opn) (r6),.row 59 (.nm .snap) (r7)]=((fun (q2:Bool)=>(fun (q1:Prop)=>(fun (q0:den (Sh.nm NT.snap))=>I64 i->(0:Int)<=i/\i<(↑sn.length:Int)/\(I64 q0.id->I64 q0.set->q0.chunks.length*(8:Nat)<=(140737488355328:Nat)->q0.tag.b.length<=(140737488355328:Nat)->(q0.held=true->I64 (17:Int)->I64 (0:Int)->(17:Int)=r0.code/\q1)/\(q0.held=false->(q2=true->I64 (18:Int)->I64 (0:Int)->(18:Int)=r0.code/\q1)/\(q2=false->nch sn<=(1048576:Nat)/\((gF sn q0.id).length*(8:Nat)<=(140737488355328:Nat)->(0:Int)=r0.code/\(↑(gF sn q0.id).length:Int)=r0.n/\v=r1/\nx=r2/\kp=r3/\qt=r4/\se=r5/\op=r6/\bb q0.id sn=r7))))) (sn.getD i.toNat (dflt (Sh.nm NT.snap)))) ((0:Int)=r0.n/\v=r1/\nx=r2/\kp=r3/\qt=r4/\se=r5/\op=r6/\sn=r7)) (iY (State.mk v nx kp qt se op sn) i)):=by kernel_rfl
theorem Cu (i:Int) (v:Int) (nx:Int) (kp:Int) (qt:Int) (se:List Sess) (op:List Opn) (sn:List Snap) (h0:0<=i/\i<(sn.length:Int)) (h1:nch sn<=1048576):Sat Tryz.prog (aq aF) 56 [.c (.ptr 0 0),.c (.int (i))] [.box 26 ([.int (v),.int (nx),.int (kp),.int (qt),.own 1,.own 2,.own 3]),.row 44 (.nm .sess) (se),.row 77 (.nm .opn) (op),.row 59 (.nm .snap) (sn)] ⟨[0<=i/\i<(sn.length:Int),nch sn<=1048576],[.agg (cellsOf (.nm .reply) ((aL (State.mk v nx kp qt se op sn) i.toNat).2))],some ([.box 26 ([.int ((((aL (State.mk v nx kp qt se op sn) i.toNat).1).version)),.int ((((aL (State.mk v nx kp qt se op sn) i.toNat).1).next)),.int ((((aL (State.mk v nx kp qt se op sn) i.toNat).1).keep)),.int ((((aL (State.mk v nx kp qt se op sn) i.toNat).1).quota)),.own 1,.own 2,.own 3]),.row 44 (.nm .sess) ((((aL (State.mk v nx kp qt se op sn) i.toNat).1).sess)),.row 77 (.nm .opn) ((((aL (State.mk v nx kp qt se op sn) i.toNat).1).opens)),.row 59 (.nm .snap) ((((aL (State.mk v nx kp qt se op sn) i.toNat).1).snaps))]),false⟩:=by
 refine dm dM [] Tryz.func56 (by decide) (by kernel_rfl) ?_
 rw [AS]
 have hi:((i.toNat:Nat):Int)=i:=by omega
 (repeat' (first | with_reducible refine And.intro ?_ ?_ | with_reducible refine and_imp.2 ?_ | intro))
 all_goals (first | (first | with_reducible rfl | with_reducible assumption | omega | (refine aj ?_ ?_ <;> omega)) | ((simp only [aL,hi]; simp_all) <;> (intros; omega)) | (simp only [aL,hi]; grind))
theorem DS (i:Int) (v:Int) (nx:Int) (kp:Int) (qt:Int) (se:List Sess) (op:List Opn) (sn:List Snap) (r0:Reply) (r1:Int) (r2:Int) (r3:Int) (r4:Int) (r5:List Sess) (r6:List Opn) (r7:List Snap):nb aF ig [] Tryz.f57 [.c (.int (i)),.c (.ptr 0 0)] [.box 26 ([.int (v),.int (nx),.int (kp),.int (qt),.own 1,.own 2,.own 3]),.row 44 (.nm .sess) (se),.row 77 (.nm .opn) (op),.row 59 (.nm .snap) (sn)] [.agg (cellsOf (.nm .reply) r0)] [.box 26 ([.int (r1),.int (r2),.int (r3),.int (r4),.own 1,.own 2,.own 3]),.row 44 (.nm .sess) (r5),.row 77 (.nm .opn) (r6),.row 59 (.nm .snap) (r7)]=((fun (q0:den (Sh.nm NT.snap))=>I64 i->(0:Int)<=i/\i<(↑sn.length:Int)/\(I64 q0.id->I64 q0.set->q0.chunks.length*(8:Nat)<=(140737488355328:Nat)->q0.tag.b.length<=(140737488355328:Nat)->(0:Int)=r0.code/\(↑q0.chunks.length:Int)=r0.n/\v=r1/\nx=r2/\kp=r3/\qt=r4/\se=r5/\op=r6/\sn=r7)) (sn.getD i.toNat (dflt (Sh.nm NT.snap)))):=by kernel_rfl
theorem Ed (i:Int) (v:Int) (nx:Int) (kp:Int) (qt:Int) (se:List Sess) (op:List Opn) (sn:List Snap) (h0:0<=i/\i<(sn.length:Int)):Sat Tryz.prog (aq aF) 57 [.c (.int (i)),.c (.ptr 0 0)] [.box 26 ([.int (v),.int (nx),.int (kp),.int (qt),.own 1,.own 2,.own 3]),.row 44 (.nm .sess) (se),.row 77 (.nm .opn) (op),.row 59 (.nm .snap) (sn)] ⟨[0<=i/\i<(sn.length:Int)],[.agg (cellsOf (.nm .reply) ((bj (State.mk v nx kp qt se op sn) i.toNat).2))],some ([.box 26 ([.int ((((bj (State.mk v nx kp qt se op sn) i.toNat).1).version)),.int ((((bj (State.mk v nx kp qt se op sn) i.toNat).1).next)),.int ((((bj (State.mk v nx kp qt se op sn) i.toNat).1).keep)),.int ((((bj (State.mk v nx kp qt se op sn) i.toNat).1).quota)),.own 1,.own 2,.own 3]),.row 44 (.nm .sess) ((((bj (State.mk v nx kp qt se op sn) i.toNat).1).sess)),.row 77 (.nm .opn) ((((bj (State.mk v nx kp qt se op sn) i.toNat).1).opens)),.row 59 (.nm .snap) ((((bj (State.mk v nx kp qt se op sn) i.toNat).1).snaps))]),false⟩:=by
 refine dm dM [] Tryz.func57 (by decide) (by kernel_rfl) ?_
 rw [DS]
 (repeat' (first | with_reducible refine And.intro ?_ ?_ | with_reducible refine and_imp.2 ?_ | intro))
 all_goals (first | (first | with_reducible rfl | with_reducible assumption | omega | (refine aj ?_ ?_ <;> omega)) | rfl)
theorem BB (i:Int) (c:Command) (v:Int) (nx:Int) (kp:Int) (qt:Int) (se:List Sess) (op:List Opn) (sn:List Snap) (r0:Reply) (r1:Command) (r2:Int) (r3:Int) (r4:Int) (r5:Int) (r6:List Sess) (r7:List Opn) (r8:List Snap):nb aF ig [] Tryz.f58 [.c (.int (i)),.c (.ptr 0 0),.c (.ptr 1 0)] [.box 29 (cellsOf (.nm .command) (c)),.box 26 ([.int (v),.int (nx),.int (kp),.int (qt),.own 2,.own 3,.own 4]),.row 44 (.nm .sess) (se),.row 77 (.nm .opn) (op),.row 59 (.nm .snap) (sn)] [.agg (cellsOf (.nm .reply) r0)] [.box 29 (cellsOf (.nm .command) (r1)),.box 26 ([.int (r2),.int (r3),.int (r4),.int (r5),.own 2,.own 3,.own 4]),.row 44 (.nm .sess) (r6),.row 77 (.nm .opn) (r7),.row 59 (.nm .snap) (r8)]=((fun (q0:den (Sh.nm NT.snap))=>I64 i->(0:Int)<=i/\i<(↑sn.length:Int)/\(I64 q0.id->I64 q0.set->q0.chunks.length*(8:Nat)<=(140737488355328:Nat)->q0.tag.b.length<=(140737488355328:Nat)->(0:Int)=r0.code/\(0:Int)=r0.n/\c.kind=r1.kind/\c.client=r1.client/\c.seq=r1.seq/\c.set=r1.set/\c.id=r1.id/\c.n=r1.n/\c.chunks=r1.chunks/\c.text=r1.text/\v=r2/\nx=r3/\kp=r4/\qt=r5/\se=r6/\op=r7/\sn.set i.toNat (Snap.mk q0.id q0.set q0.chunks q0.held c.text)=r8)) (sn.getD i.toNat (dflt (Sh.nm NT.snap)))):=by kernel_rfl
theorem Cl (i:Int) (c:Command) (v:Int) (nx:Int) (kp:Int) (qt:Int) (se:List Sess) (op:List Opn) (sn:List Snap) (h0:0<=i/\i<(sn.length:Int)):Sat Tryz.prog (aq aF) 58 [.c (.int (i)),.c (.ptr 0 0),.c (.ptr 1 0)] [.box 29 (cellsOf (.nm .command) (c)),.box 26 ([.int (v),.int (nx),.int (kp),.int (qt),.own 2,.own 3,.own 4]),.row 44 (.nm .sess) (se),.row 77 (.nm .opn) (op),.row 59 (.nm .snap) (sn)] ⟨[0<=i/\i<(sn.length:Int)],[.agg (cellsOf (.nm .reply) ((cG c (State.mk v nx kp qt se op sn) i.toNat).2))],some ([.box 29 (cellsOf (.nm .command) ((c))),.box 26 ([.int ((((cG c (State.mk v nx kp qt se op sn) i.toNat).1).version)),.int ((((cG c (State.mk v nx kp qt se op sn) i.toNat).1).next)),.int ((((cG c (State.mk v nx kp qt se op sn) i.toNat).1).keep)),.int ((((cG c (State.mk v nx kp qt se op sn) i.toNat).1).quota)),.own 2,.own 3,.own 4]),.row 44 (.nm .sess) ((((cG c (State.mk v nx kp qt se op sn) i.toNat).1).sess)),.row 77 (.nm .opn) ((((cG c (State.mk v nx kp qt se op sn) i.toNat).1).opens)),.row 59 (.nm .snap) ((((cG c (State.mk v nx kp qt se op sn) i.toNat).1).snaps))]),false⟩:=by
 refine dm dM [] Tryz.func58 (by decide) (by kernel_rfl) ?_
 rw [BB]
 (repeat' (first | with_reducible refine And.intro ?_ ?_ | with_reducible refine and_imp.2 ?_ | intro))
 all_goals (first | (first | with_reducible rfl | with_reducible assumption | omega | (refine aj ?_ ?_ <;> omega)) | exact rfl)
theorem yk (i:Int) (v:Int) (nx:Int) (kp:Int) (qt:Int) (se:List Sess) (op:List Opn) (sn:List Snap) (b:Bool) (r0:Reply) (r1:Int) (r2:Int) (r3:Int) (r4:Int) (r5:List Sess) (r6:List Opn) (r7:List Snap) (r8:Bool):nb aF ig [] Tryz.f45 [.c (.int (i)),.c (.ptr 0 0),.c (.ptr 4 0)] [.box 26 ([.int (v),.int (nx),.int (kp),.int (qt),.own 1,.own 2,.own 3]),.row 44 (.nm .sess) (se),.row 77 (.nm .opn) (op),.row 59 (.nm .snap) (sn),.box 4 ([.bool (.atom (b))])] [.agg (cellsOf (.nm .reply) r0)] [.box 26 ([.int (r1),.int (r2),.int (r3),.int (r4),.own 1,.own 2,.own 3]),.row 44 (.nm .sess) (r5),.row 77 (.nm .opn) (r6),.row 59 (.nm .snap) (r7),.box 4 ([.bool (.atom (r8))])]=((fun (q0:den (Sh.nm NT.snap))=>I64 i->(0:Int)<=i/\i<(↑sn.length:Int)/\(I64 q0.id->I64 q0.set->q0.chunks.length*(8:Nat)<=(140737488355328:Nat)->q0.tag.b.length<=(140737488355328:Nat)->((q0.held == b)=true->(0:Int)=r0.code/\(0:Int)=r0.n/\v=r1/\nx=r2/\kp=r3/\qt=r4/\se=r5/\op=r6/\sn=r7/\b=r8)/\((q0.held == b)=false->(0:Int)=r0.code/\(1:Int)=r0.n/\v=r1/\nx=r2/\kp=r3/\qt=r4/\se=r5/\op=r6/\sn.set i.toNat (Snap.mk q0.id q0.set q0.chunks b q0.tag)=r7/\b=r8))) (sn.getD i.toNat (dflt (Sh.nm NT.snap)))):=by kernel_rfl
theorem xR (i:Int) (v:Int) (nx:Int) (kp:Int) (qt:Int) (se:List Sess) (op:List Opn) (sn:List Snap) (b:Bool) (h0:0<=i/\i<(sn.length:Int)):Sat Tryz.prog (aq aF) 45 [.c (.int (i)),.c (.ptr 0 0),.c (.ptr 4 0)] [.box 26 ([.int (v),.int (nx),.int (kp),.int (qt),.own 1,.own 2,.own 3]),.row 44 (.nm .sess) (se),.row 77 (.nm .opn) (op),.row 59 (.nm .snap) (sn),.box 4 ([.bool (.atom (b))])] ⟨[0<=i/\i<(sn.length:Int)],[.agg (cellsOf (.nm .reply) ((bt b (State.mk v nx kp qt se op sn) i.toNat).2))],some ([.box 26 ([.int ((((bt b (State.mk v nx kp qt se op sn) i.toNat).1).version)),.int ((((bt b (State.mk v nx kp qt se op sn) i.toNat).1).next)),.int ((((bt b (State.mk v nx kp qt se op sn) i.toNat).1).keep)),.int ((((bt b (State.mk v nx kp qt se op sn) i.toNat).1).quota)),.own 1,.own 2,.own 3]),.row 44 (.nm .sess) ((((bt b (State.mk v nx kp qt se op sn) i.toNat).1).sess)),.row 77 (.nm .opn) ((((bt b (State.mk v nx kp qt se op sn) i.toNat).1).opens)),.row 59 (.nm .snap) ((((bt b (State.mk v nx kp qt se op sn) i.toNat).1).snaps)),.box 4 ([.bool (.atom ((b)))])]),false⟩:=by
 refine dm dM [] Tryz.func45 (by decide) (by kernel_rfl) ?_
 rw [yk]
 (repeat' (first | with_reducible refine And.intro ?_ ?_ | with_reducible refine and_imp.2 ?_ | intro))
 all_goals (first | (first | with_reducible rfl | with_reducible assumption | omega | (refine aj ?_ ?_ <;> omega)) | ((simp only [bt]; simp_all) <;> (intros; omega)) | (simp only [bt]; grind))
def ni:ct:=(bO 45 (bI (ah (kC cI) (ah (kC (bN 0 0)) (ah (kC (bN 4 0)) aO))) (az (bL 26 (ai cI (ai cI (ai cI (ai cI (ai (bd 1) (ai (bd 2) (ai (bd 3) bH)))))))) (az (bf 44 (.nm .sess)) (az (bf 77 (.nm .opn)) (az (bf 59 (.nm .snap)) (az (bL 4 (ai cB bH)) aP))))) fun (i,_,_,_) ((v,nx,kp,qt,_,_,_,_),se,op,sn,(b,_),_)=>⟨[0<=i/\i<(sn.length:Int)],[.agg (cellsOf (.nm .reply) ((bt b (State.mk v nx kp qt se op sn) i.toNat).2))],some ([.box 26 ([.int ((((bt b (State.mk v nx kp qt se op sn) i.toNat).1).version)),.int ((((bt b (State.mk v nx kp qt se op sn) i.toNat).1).next)),.int ((((bt b (State.mk v nx kp qt se op sn) i.toNat).1).keep)),.int ((((bt b (State.mk v nx kp qt se op sn) i.toNat).1).quota)),.own 1,.own 2,.own 3]),.row 44 (.nm .sess) ((((bt b (State.mk v nx kp qt se op sn) i.toNat).1).sess)),.row 77 (.nm .opn) ((((bt b (State.mk v nx kp qt se op sn) i.toNat).1).opens)),.row 59 (.nm .snap) ((((bt b (State.mk v nx kp qt se op sn) i.toNat).1).snaps)),.box 4 ([.bool (.atom ((b)))])]),false⟩) (bO 58 (bI (ah (kC cI) (ah (kC (bN 0 0)) (ah (kC (bN 1 0)) aO))) (az (bL 29 (pA (.nm .command) bH)) (az (bL 26 (ai cI (ai cI (ai cI (ai cI (ai (bd 2) (ai (bd 3) (ai (bd 4) bH)))))))) (az (bf 44 (.nm .sess)) (az (bf 77 (.nm .opn)) (az (bf 59 (.nm .snap)) aP))))) fun (i,_,_,_) ((c,_),(v,nx,kp,qt,_,_,_,_),se,op,sn,_)=>⟨[0<=i/\i<(sn.length:Int)],[.agg (cellsOf (.nm .reply) ((cG c (State.mk v nx kp qt se op sn) i.toNat).2))],some ([.box 29 (cellsOf (.nm .command) ((c))),.box 26 ([.int ((((cG c (State.mk v nx kp qt se op sn) i.toNat).1).version)),.int ((((cG c (State.mk v nx kp qt se op sn) i.toNat).1).next)),.int ((((cG c (State.mk v nx kp qt se op sn) i.toNat).1).keep)),.int ((((cG c (State.mk v nx kp qt se op sn) i.toNat).1).quota)),.own 2,.own 3,.own 4]),.row 44 (.nm .sess) ((((cG c (State.mk v nx kp qt se op sn) i.toNat).1).sess)),.row 77 (.nm .opn) ((((cG c (State.mk v nx kp qt se op sn) i.toNat).1).opens)),.row 59 (.nm .snap) ((((cG c (State.mk v nx kp qt se op sn) i.toNat).1).snaps))]),false⟩) (bO 57 (bI (ah (kC cI) (ah (kC (bN 0 0)) aO)) (az (bL 26 (ai cI (ai cI (ai cI (ai cI (ai (bd 1) (ai (bd 2) (ai (bd 3) bH)))))))) (az (bf 44 (.nm .sess)) (az (bf 77 (.nm .opn)) (az (bf 59 (.nm .snap)) aP)))) fun (i,_,_) ((v,nx,kp,qt,_,_,_,_),se,op,sn,_)=>⟨[0<=i/\i<(sn.length:Int)],[.agg (cellsOf (.nm .reply) ((bj (State.mk v nx kp qt se op sn) i.toNat).2))],some ([.box 26 ([.int ((((bj (State.mk v nx kp qt se op sn) i.toNat).1).version)),.int ((((bj (State.mk v nx kp qt se op sn) i.toNat).1).next)),.int ((((bj (State.mk v nx kp qt se op sn) i.toNat).1).keep)),.int ((((bj (State.mk v nx kp qt se op sn) i.toNat).1).quota)),.own 1,.own 2,.own 3]),.row 44 (.nm .sess) ((((bj (State.mk v nx kp qt se op sn) i.toNat).1).sess)),.row 77 (.nm .opn) ((((bj (State.mk v nx kp qt se op sn) i.toNat).1).opens)),.row 59 (.nm .snap) ((((bj (State.mk v nx kp qt se op sn) i.toNat).1).snaps))]),false⟩) (bO 56 (bI (ah (kC (bN 0 0)) (ah (kC cI) aO)) (az (bL 26 (ai cI (ai cI (ai cI (ai cI (ai (bd 1) (ai (bd 2) (ai (bd 3) bH)))))))) (az (bf 44 (.nm .sess)) (az (bf 77 (.nm .opn)) (az (bf 59 (.nm .snap)) aP)))) fun (_,i,_) ((v,nx,kp,qt,_,_,_,_),se,op,sn,_)=>⟨[0<=i/\i<(sn.length:Int),nch sn<=1048576],[.agg (cellsOf (.nm .reply) ((aL (State.mk v nx kp qt se op sn) i.toNat).2))],some ([.box 26 ([.int ((((aL (State.mk v nx kp qt se op sn) i.toNat).1).version)),.int ((((aL (State.mk v nx kp qt se op sn) i.toNat).1).next)),.int ((((aL (State.mk v nx kp qt se op sn) i.toNat).1).keep)),.int ((((aL (State.mk v nx kp qt se op sn) i.toNat).1).quota)),.own 1,.own 2,.own 3]),.row 44 (.nm .sess) ((((aL (State.mk v nx kp qt se op sn) i.toNat).1).sess)),.row 77 (.nm .opn) ((((aL (State.mk v nx kp qt se op sn) i.toNat).1).opens)),.row 59 (.nm .snap) ((((aL (State.mk v nx kp qt se op sn) i.toNat).1).snaps))]),false⟩) (bO 53 (bI (ah (kC (bN 0 0)) (ah (kC (bN 1 0)) aO)) (az (bL 29 (pA (.nm .command) bH)) (az (bL 26 (ai cI (ai cI (ai cI (ai cI (ai (bd 2) (ai (bd 3) (ai (bd 4) bH)))))))) (az (bf 44 (.nm .sess)) (az (bf 77 (.nm .opn)) (az (bf 59 (.nm .snap)) aP))))) fun (_,_,_) ((c,_),(v,nx,kp,qt,_,_,_,_),se,op,sn,_)=>⟨[nch sn<=1048576],[.agg (cellsOf (.nm .reply) ((cr c (State.mk v nx kp qt se op sn)).2))],some ([.box 29 (cellsOf (.nm .command) ((c))),.box 26 ([.int ((((cr c (State.mk v nx kp qt se op sn)).1).version)),.int ((((cr c (State.mk v nx kp qt se op sn)).1).next)),.int ((((cr c (State.mk v nx kp qt se op sn)).1).keep)),.int ((((cr c (State.mk v nx kp qt se op sn)).1).quota)),.own 2,.own 3,.own 4]),.row 44 (.nm .sess) ((((cr c (State.mk v nx kp qt se op sn)).1).sess)),.row 77 (.nm .opn) ((((cr c (State.mk v nx kp qt se op sn)).1).opens)),.row 59 (.nm .snap) ((((cr c (State.mk v nx kp qt se op sn)).1).snaps))]),false⟩) (bO 52 (bI (ah (kC (bN 0 0)) (ah (kC (bN 1 0)) aO)) (az (bL 29 (pA (.nm .command) bH)) (az (bL 26 (ai cI (ai cI (ai cI (ai cI (ai (bd 2) (ai (bd 3) (ai (bd 4) bH)))))))) (az (bf 44 (.nm .sess)) (az (bf 77 (.nm .opn)) (az (bf 59 (.nm .snap)) aP))))) fun (_,_,_) ((c,_),(v,nx,kp,qt,_,_,_,_),se,op,sn,_)=>⟨[],[.agg (cellsOf (.nm .reply) ((df c (State.mk v nx kp qt se op sn)).2))],some ([.box 29 (cellsOf (.nm .command) ((c))),.box 26 ([.int ((((df c (State.mk v nx kp qt se op sn)).1).version)),.int ((((df c (State.mk v nx kp qt se op sn)).1).next)),.int ((((df c (State.mk v nx kp qt se op sn)).1).keep)),.int ((((df c (State.mk v nx kp qt se op sn)).1).quota)),.own 2,.own 3,.own 4]),.row 44 (.nm .sess) ((((df c (State.mk v nx kp qt se op sn)).1).sess)),.row 77 (.nm .opn) ((((df c (State.mk v nx kp qt se op sn)).1).opens)),.row 59 (.nm .snap) ((((df c (State.mk v nx kp qt se op sn)).1).snaps))]),false⟩) (bO 93 (bI (ah (kC (bN 0 0)) (ah (kT (.nm .command)) aO)) (az (bL 26 (ai cI (ai cI (ai cI (ai cI (ai (bd 1) (ai (bd 2) (ai (bd 3) bH)))))))) (az (bf 44 (.nm .sess)) (az (bf 77 (.nm .opn)) (az (bf 59 (.nm .snap)) aP)))) fun (_,c,_) ((v,nx,kp,qt,_,_,_,_),se,op,sn,_)=>⟨[],[.c (.int ((bJ (State.mk v nx kp qt se op sn) c)))],none,false⟩) (bO 95 (bI (ah (kC (bd 0)) (ah (kC cI) (ah (kC cI) aO))) (az (bf 77 (.nm .opn)) aP) fun (_,i,j,_) (l,_)=>⟨[0<=i/\i<(l.length:Int)/\j=i+1],[.c (.own 0)],some ([.row 77 (.nm .opn) ((l.take i.toNat++l.drop j.toNat))]),false⟩) (bO 36 (bI (ah (kC (bd 0)) (ah (kC cI) (ah (kC (bd 1)) aO))) (az (bf 44 (.nm .sess)) (az (bf 44 (.nm .sess)) aP)) fun (_,i,_,_) (l,m,_)=>⟨[0<=i/\i<=(l.length:Int),l.length<1048576,m.length=1],[.c (.own 0)],some ([.row 44 (.nm .sess) ((l.take i.toNat++m++l.drop i.toNat)),.row 44 (.nm .sess) ((m))]),false⟩) (bO 92 (bI (ah (kC (bd 0)) (ah (kC cI) (ah (kC (cL (.nm .opn))) aO))) (az (bf 77 (.nm .opn)) aP) fun (_,i,m,_) (l,_)=>⟨[0<=i/\i<=(l.length:Int),l.length<1048576,m.length=1],[.c (.own 0)],some ([.row 77 (.nm .opn) ((l.take i.toNat++m++l.drop i.toNat))]),false⟩) ig))))))))))
theorem f_:aU Tryz.prog (aq aF) ni:=(ay (ax (ab (ao av) (ab (ao aJ) (ab (ao aJ) al))) (ag (aH (ae av (ae av (ae av (ae av (ae aC (ae aC (ae aC aG)))))))) (ag aB (ag aB (ag aB (ag (aH (ae pF aG)) ak))))) fun (i,_,_,_) ((v,nx,kp,qt,_,_,_,_),se,op,sn,(b,_),_) hp=>xR i v nx kp qt se op sn b (eI hp)) (ay (ax (ab (ao av) (ab (ao aJ) (ab (ao aJ) al))) (ag (aH (cS aG)) (ag (aH (ae av (ae av (ae av (ae av (ae aC (ae aC (ae aC aG)))))))) (ag aB (ag aB (ag aB ak))))) fun (i,_,_,_) ((c,_),(v,nx,kp,qt,_,_,_,_),se,op,sn,_) hp=>Cl i c v nx kp qt se op sn (eI hp)) (ay (ax (ab (ao av) (ab (ao aJ) al)) (ag (aH (ae av (ae av (ae av (ae av (ae aC (ae aC (ae aC aG)))))))) (ag aB (ag aB (ag aB ak)))) fun (i,_,_) ((v,nx,kp,qt,_,_,_,_),se,op,sn,_) hp=>Ed i v nx kp qt se op sn (eI hp)) (ay (ax (ab (ao aJ) (ab (ao av) al)) (ag (aH (ae av (ae av (ae av (ae av (ae aC (ae aC (ae aC aG)))))))) (ag aB (ag aB (ag aB ak)))) fun (_,i,_) ((v,nx,kp,qt,_,_,_,_),se,op,sn,_) hp=>Cu i v nx kp qt se op sn (eI hp) (eI (ny hp))) (ay (ax (ab (ao aJ) (ab (ao aJ) al)) (ag (aH (cS aG)) (ag (aH (ae av (ae av (ae av (ae av (ae aC (ae aC (ae aC aG)))))))) (ag aB (ag aB (ag aB ak))))) fun (_,_,_) ((c,_),(v,nx,kp,qt,_,_,_,_),se,op,sn,_) hp=>Fg c v nx kp qt se op sn (eI hp)) (ay (ax (ab (ao aJ) (ab (ao aJ) al)) (ag (aH (cS aG)) (ag (aH (ae av (ae av (ae av (ae av (ae aC (ae aC (ae aC aG)))))))) (ag aB (ag aB (ag aB ak))))) fun (_,_,_) ((c,_),(v,nx,kp,qt,_,_,_,_),se,op,sn,_) _=>Ef c v nx kp qt se op sn ) (ay (ax (ab (ao aJ) (ab bM al)) (ag (aH (ae av (ae av (ae av (ae av (ae aC (ae aC (ae aC aG)))))))) (ag aB (ag aB (ag aB ak)))) fun (_,c,_) ((v,nx,kp,qt,_,_,_,_),se,op,sn,_) _=>vJ c v nx kp qt se op sn ) (ay (ax (ab (ao aC) (ab (ao av) (ab (ao av) al))) (ag aB ak) fun (_,i,j,_) (l,_) hp=>vn i j l (eI hp)) (ay (ax (ab (ao aC) (ab (ao av) (ab (ao aC) al))) (ag aB (ag aB ak)) fun (_,i,_,_) (l,m,_) hp=>sG i l m (eI hp) (eI (ny hp)) (eI (ny (ny hp)))) (ay (ax (ab (ao aC) (ab (ao av) (ab (ao bF) al))) (ag aB ak) fun (_,i,m,_) (l,_) hp=>vM i m l (eI hp) (eI (ny hp)) (eI (ny (ny hp)))) dM))))))))))
end Go.Proofs.YtdggohppeeaipaaGreat
namespace Go.Proofs.YtdggohppeeaipaaGreat
open Go.RowKit
theorem ze {α:Type} {p:α->Bool} {l:List α} {k:Nat} (h:(l.take k).all p=true) (hk:k<=l.length) (h2:(l.length:Int)<=k\/(k:Int)<l.length/\∃ x,l[k]? = some x/\p x=false):k=(l.takeWhile p).length:=by
 induction l generalizing k with
 | nil=>simp at hk; simp [hk]
 | cons a l ih=>
  cases k with
  | zero=>
   rcases h2 with h2 | ⟨_,x,hx,hp⟩
   ·simp at h2; omega
   ·simp at hx; subst hx; simp [hp]
  | succ k=>
   simp only [List.take_succ_cons,List.all_cons,Bool.and_eq_true] at h
   rw [List.takeWhile_cons,h.1,if_pos rfl,List.length_cons]
   congr 1
   refine ih h.2 (by simpa using hk) ?_
   rcases h2 with h2 | ⟨h3,x,hx,hp⟩
   ·left; simp at h2; omega
   ·right; refine ⟨by simp at h3; omega,x,by simpa using hx,hp⟩
theorem Ax {v nx kp qt:Int} {se:List Sess} {op:List Opn} {sn:List Snap} {c:Command} {s:Nat} (h:au Opn.set c.set op<0) (hs:s<=op.length) (ha:(op.take s).all (fun y=>decide (y.set<c.set))=true) (hb:(op.length:Int)<=s\/c.set<=(op.getD s (dflt (.nm .opn))).set):op.take s++[Opn.mk c.set c.client]++op.drop s=(aY (State.mk v nx kp qt se op sn) c).1.opens:=by
 have h1:¬ 0<=au Opn.set c.set op:=by omega
 simp only [aY,if_neg h1]
 have:s=(op.takeWhile fun y=>decide (y.set<c.set)).length:=by
  refine ze ha hs ?_
  by_cases hl:(op.length:Int)<=s
  ·exact .inl hl
  ·refine .inr ⟨by omega,_,gd (d:=dflt (.nm .opn)) (by omega),?_⟩
   rcases hb with hb | hb
   ·omega
   ·exact decide_eq_false (by omega)
 rw [<- this]; simp [rS]
theorem xB {op:List Opn} {c:Command} {s:Nat} (ha:(op.take s).all (fun y=>decide (y.set<c.set))=true) (h:(s:Int)<op.length) (hb:(op.getD s (dflt (.nm .opn))).set<c.set):(op.take (s+1)).all (fun y=>decide (y.set<c.set))=true:=by
 rw [aD (gd (d:=dflt (.nm .opn)) h),List.all_append,ha]; simp only [List.all_cons,List.all_nil,decide_eq_true hb]; rfl
section
variable {v nx kp qt:Int} {se:List Sess} {op:List Opn} {sn:List Snap} {c:Command}
theorem HZ (h:au Opn.set c.set op<0):aY (State.mk v nx kp qt se op sn) c=(State.mk v nx kp qt se (rS op (op.takeWhile fun y=>decide (y.set<c.set)).length ⟨c.set,c.client⟩) sn,⟨0,0⟩):=by
 have h1:¬ 0<=au Opn.set c.set op:=by omega
 simp only [aY,if_neg h1]
theorem Im (h:0<=au Opn.set c.set op):aY (State.mk v nx kp qt se op sn) c=(State.mk v nx kp qt se op sn,⟨16,(op.getD (au Opn.set c.set op).toNat (dflt (.nm .opn))).client⟩):=by
 simp only [aY,if_pos h]
theorem IE (h:bJ (State.mk v nx kp qt se op sn) c<0):a_ (State.mk v nx kp qt se op sn) c=(State.mk v nx kp qt se op sn,⟨15,0⟩):=by
 simp only [a_,if_pos h]
theorem IA (h:0<=bJ (State.mk v nx kp qt se op sn) c):a_ (State.mk v nx kp qt se op sn) c=(State.mk v nx kp qt se (op.take (bJ (State.mk v nx kp qt se op sn) c).toNat++op.drop (bJ (State.mk v nx kp qt se op sn) c+1).toNat) sn,⟨0,0⟩):=by
 have h1:¬ bJ (State.mk v nx kp qt se op sn) c<0:=by omega
 simp only [a_,if_neg h1,AU]
end
def tU (c:Command) (v:Int) (nx:Int) (kp:Int) (qt:Int) (se:List Sess) (op:List Opn) (sn:List Snap):List (Nat × LI):=[(5,{ σ:=Nat,F:=fun k=>([(0,one (.ptr 0 0)),(3,one (.ptr 4 0)),(4,one (.ptr 5 0)),(6,one (.int k))],[.box 26 ([.int ((v)),.int ((nx)),.int ((kp)),.int ((qt)),.own 1,.own 2,.own 3]),.row 44 (.nm .sess) ((se)),.row 77 (.nm .opn) ((op)),.row 59 (.nm .snap) ((sn)),.box 29 (cellsOf (.nm .command) ((c))),.box 35 ([.int ((0)),.int ((0))])]),J:=fun k=>k<=op.length/\(op.take k).all (fun y=>decide (y.set<c.set))=true,μ:=fun k=>op.length - k })]
theorem yO (c:Command) (v:Int) (nx:Int) (kp:Int) (qt:Int) (se:List Sess) (op:List Opn) (sn:List Snap) (r0:Reply) (r1:Int) (r2:Int) (r3:Int) (r4:Int) (r5:List Sess) (r6:List Opn) (r7:List Snap):nb aF ni (tU c v nx kp qt se op sn) Tryz.f47 [.c (.ptr 0 0),.agg (cellsOf (.nm .command) c)] [.box 26 ([.int (v),.int (nx),.int (kp),.int (qt),.own 1,.own 2,.own 3]),.row 44 (.nm .sess) (se),.row 77 (.nm .opn) (op),.row 59 (.nm .snap) (sn)] [.agg (cellsOf (.nm .reply) r0)] [.box 26 ([.int (r1),.int (r2),.int (r3),.int (r4),.own 1,.own 2,.own 3]),.row 44 (.nm .sess) (r5),.row 77 (.nm .opn) (r6),.row 59 (.nm .snap) (r7)]=((fun (q5:Int)=>(fun (q4:den (Sh.nm NT.opn))=>(fun (q3:Int)=>(fun (q2:Int)=>(fun (q1:Int)=>(fun (q0:Prop)=>I64 c.kind->I64 c.client->I64 c.seq->I64 q5->I64 c.id->I64 c.n->c.chunks.length*(8:Nat)<=(140737488355328:Nat)->c.text.b.length<=(140737488355328:Nat)->I64 q1->(q2<=q1->q2<=q1/\q1<q3/\(I64 (op.getD q1.toNat q4).set->I64 (op.getD q1.toNat q4).client->(16:Int)=r0.code/\(op.getD q1.toNat q4).client=r0.n/\v=r1/\nx=r2/\kp=r3/\qt=r4/\se=r5/\op=r6/\sn=r7))/\(q1<q2->∃ (s0:Nat),(q2=(↑s0:Int)/\q0)/\(s0<=op.length/\((List.take s0 op).all fun (y:Opn)=>decide (y.set<q5))=true)/\∀ (s:Nat),(fun (q7:Int)=>(fun (q6:Int)=>s<=op.length/\((List.take s op).all fun (y:Opn)=>decide (y.set<q5))=true->(q6<q3->q2<=q6/\q6<q3)/\((q6<q3->I64 q7/\I64 (op.getD s q4).client)->(q6<q3/\q7<q5->I64 (q6+(1:Int))/\∃ (s':Nat),(q6+(1:Int)=(↑s':Int)/\q0)/\(s' <= op.length/\((List.take s' op).all fun (y:Opn)=>decide (y.set<q5))=true)/\op.length - s' < op.length - s)/\(q3<=q6\/q5<=q7->((q2<=q6/\q6<=q3)/\op.length<(1048576:Nat)/\[Opn.mk q5 c.client].length=(1:Nat))/\q2=r0.code/\q2=r0.n/\v=r1/\nx=r2/\kp=r3/\qt=r4/\se=r5/\List.take s op++[Opn.mk q5 c.client]++List.drop s op=r6/\sn=r7))) (↑s:Int)) (op.getD s q4).set)) (v=v/\nx=nx/\kp=kp/\qt=qt/\se=se/\op=op/\sn=sn/\c.kind=c.kind/\c.client=c.client/\c.seq=c.seq/\q5=q5/\c.id=c.id/\c.n=c.n/\c.chunks=c.chunks/\c.text=c.text/\q2=q2/\q2=q2)) (au Opn.set q5 op)) (0:Int)) (↑op.length:Int)) (dflt (Sh.nm NT.opn))) c.set):=by kernel_rfl
theorem yi (c:Command) (v:Int) (nx:Int) (kp:Int) (qt:Int) (se:List Sess) (op:List Opn) (sn:List Snap) (h0:op.length<1048576):Sat Tryz.prog (aq aF) 47 [.c (.ptr 0 0),.agg (cellsOf (.nm .command) c)] [.box 26 ([.int (v),.int (nx),.int (kp),.int (qt),.own 1,.own 2,.own 3]),.row 44 (.nm .sess) (se),.row 77 (.nm .opn) (op),.row 59 (.nm .snap) (sn)] ⟨[op.length<1048576],[.agg (cellsOf (.nm .reply) ((aY (State.mk v nx kp qt se op sn) c).2))],some ([.box 26 ([.int ((((aY (State.mk v nx kp qt se op sn) c).1).version)),.int ((((aY (State.mk v nx kp qt se op sn) c).1).next)),.int ((((aY (State.mk v nx kp qt se op sn) c).1).keep)),.int ((((aY (State.mk v nx kp qt se op sn) c).1).quota)),.own 1,.own 2,.own 3]),.row 44 (.nm .sess) ((((aY (State.mk v nx kp qt se op sn) c).1).sess)),.row 77 (.nm .opn) ((((aY (State.mk v nx kp qt se op sn) c).1).opens)),.row 59 (.nm .snap) ((((aY (State.mk v nx kp qt se op sn) c).1).snaps))]),false⟩:=by
 refine dm f_ (tU c v nx kp qt se op sn) Tryz.func47 (by decide) (by kernel_rfl) ?_
 rw [yO]
 (repeat' (first | with_reducible refine And.intro ?_ ?_ | with_reducible refine and_imp.2 ?_ | intro))
 all_goals try (first | (first | with_reducible rfl | with_reducible assumption | omega | (refine aj ?_ ?_ <;> omega)) | exact rfl | exact bY (by with_reducible assumption) | exact (xB (by with_reducible assumption) (by with_reducible assumption) (by with_reducible assumption)) | exact (Ax (by with_reducible assumption) (by omega) (by with_reducible assumption) (by assumption)) | (rw [HZ]; omega) | (rw [Im]; omega))
 all_goals try (refine ⟨0,?_⟩; (repeat' (first | with_reducible refine And.intro ?_ ?_ | with_reducible refine and_imp.2 ?_ | intro)))
 all_goals try (first | (first | with_reducible rfl | with_reducible assumption | omega | (refine aj ?_ ?_ <;> omega)) | exact rfl | exact bY (by with_reducible assumption) | exact (xB (by with_reducible assumption) (by with_reducible assumption) (by with_reducible assumption)) | exact (Ax (by with_reducible assumption) (by omega) (by with_reducible assumption) (by assumption)) | (rw [HZ]; omega) | (rw [Im]; omega))
 all_goals try (refine ⟨‹Nat› + 1,?_⟩; (repeat' (first | with_reducible refine And.intro ?_ ?_ | with_reducible refine and_imp.2 ?_ | intro)))
 all_goals (first | (first | with_reducible rfl | with_reducible assumption | omega | (refine aj ?_ ?_ <;> omega)) | exact rfl | exact bY (by with_reducible assumption) | exact (xB (by with_reducible assumption) (by with_reducible assumption) (by with_reducible assumption)) | exact (Ax (by with_reducible assumption) (by omega) (by with_reducible assumption) (by assumption)) | (rw [HZ]; omega) | (rw [Im]; omega))
theorem Al (c:Command) (v:Int) (nx:Int) (kp:Int) (qt:Int) (se:List Sess) (op:List Opn) (sn:List Snap) (r0:Reply) (r1:Int) (r2:Int) (r3:Int) (r4:Int) (r5:List Sess) (r6:List Opn) (r7:List Snap):nb aF ni [] Tryz.f51 [.c (.ptr 0 0),.agg (cellsOf (.nm .command) c)] [.box 26 ([.int (v),.int (nx),.int (kp),.int (qt),.own 1,.own 2,.own 3]),.row 44 (.nm .sess) (se),.row 77 (.nm .opn) (op),.row 59 (.nm .snap) (sn)] [.agg (cellsOf (.nm .reply) r0)] [.box 26 ([.int (r1),.int (r2),.int (r3),.int (r4),.own 1,.own 2,.own 3]),.row 44 (.nm .sess) (r5),.row 77 (.nm .opn) (r6),.row 59 (.nm .snap) (r7)]=((fun (q1:Int)=>(fun (q0:Int)=>I64 c.kind->I64 c.client->I64 c.seq->I64 c.set->I64 c.id->I64 c.n->c.chunks.length*(8:Nat)<=(140737488355328:Nat)->c.text.b.length<=(140737488355328:Nat)->I64 q0->(q0<q1->I64 (15:Int)->I64 q1->(15:Int)=r0.code/\q1=r0.n/\v=r1/\nx=r2/\kp=r3/\qt=r4/\se=r5/\op=r6/\sn=r7)/\(q1<=q0->I64 (q0+(1:Int))/\(q1<=q0/\q0<(↑op.length:Int)/\q0+(1:Int)=q0+(1:Int))/\q1=r0.code/\q1=r0.n/\v=r1/\nx=r2/\kp=r3/\qt=r4/\se=r5/\List.take q0.toNat op++List.drop (q0+(1:Int)).toNat op=r6/\sn=r7)) (bJ (State.mk v nx kp qt se op sn) c)) (0:Int)):=by kernel_rfl
theorem zI (c:Command) (v:Int) (nx:Int) (kp:Int) (qt:Int) (se:List Sess) (op:List Opn) (sn:List Snap) (h0:op.length<1048576):Sat Tryz.prog (aq aF) 51 [.c (.ptr 0 0),.agg (cellsOf (.nm .command) c)] [.box 26 ([.int (v),.int (nx),.int (kp),.int (qt),.own 1,.own 2,.own 3]),.row 44 (.nm .sess) (se),.row 77 (.nm .opn) (op),.row 59 (.nm .snap) (sn)] ⟨[op.length<1048576],[.agg (cellsOf (.nm .reply) ((a_ (State.mk v nx kp qt se op sn) c).2))],some ([.box 26 ([.int ((((a_ (State.mk v nx kp qt se op sn) c).1).version)),.int ((((a_ (State.mk v nx kp qt se op sn) c).1).next)),.int ((((a_ (State.mk v nx kp qt se op sn) c).1).keep)),.int ((((a_ (State.mk v nx kp qt se op sn) c).1).quota)),.own 1,.own 2,.own 3]),.row 44 (.nm .sess) ((((a_ (State.mk v nx kp qt se op sn) c).1).sess)),.row 77 (.nm .opn) ((((a_ (State.mk v nx kp qt se op sn) c).1).opens)),.row 59 (.nm .snap) ((((a_ (State.mk v nx kp qt se op sn) c).1).snaps))]),false⟩:=by
 refine dm f_ [] Tryz.func51 (by decide) (by kernel_rfl) ?_
 rw [Al]
 have hl:0<=bJ (State.mk v nx kp qt se op sn) c->bJ (State.mk v nx kp qt se op sn) c+1<=(op.length:Int):=fun h=>zl h
 (repeat' (first | with_reducible refine And.intro ?_ ?_ | with_reducible refine and_imp.2 ?_ | intro))
 all_goals (first | (first | with_reducible rfl | with_reducible assumption | omega | (refine aj ?_ ?_ <;> omega)) | (rw [IA]; omega) | (rw [IE]; omega))
theorem wQ (c:Command) (v:Int) (nx:Int) (kp:Int) (qt:Int) (se:List Sess) (op:List Opn) (sn:List Snap) (r0:Reply) (r1:Int) (r2:Int) (r3:Int) (r4:Int) (r5:List Sess) (r6:List Opn) (r7:List Snap):nb aF ni [] Tryz.f49 [.c (.ptr 0 0),.agg (cellsOf (.nm .command) c)] [.box 26 ([.int (v),.int (nx),.int (kp),.int (qt),.own 1,.own 2,.own 3]),.row 44 (.nm .sess) (se),.row 77 (.nm .opn) (op),.row 59 (.nm .snap) (sn)] [.agg (cellsOf (.nm .reply) r0)] [.box 26 ([.int (r1),.int (r2),.int (r3),.int (r4),.own 1,.own 2,.own 3]),.row 44 (.nm .sess) (r5),.row 77 (.nm .opn) (r6),.row 59 (.nm .snap) (r7)]=((fun (q6:Snap)=>(fun (q5:Int)=>(fun (q4:Prop)=>(fun (q3:Int)=>(fun (q2:Int)=>(fun (q1:Prop)=>(fun (q0:Int)=>I64 c.kind->I64 c.client->I64 c.seq->I64 c.set->I64 c.id->I64 c.n->q4->c.text.b.length<=(140737488355328:Nat)->I64 q0->(q0<q3->I64 (15:Int)->I64 q3->(15:Int)=r0.code/\q1)/\(q3<=q0->((16:Int)<=(↑sn.length:Int)\/(1048576:Int)<=nx->I64 (20:Int)->I64 q3->(20:Int)=r0.code/\q1)/\((↑sn.length:Int)<(16:Int)/\nx<(1048576:Int)->(¬qt=q3->nch sn<=(1048576:Nat))/\((¬qt=q3->I64 q2)->(¬qt=q3/\qt<q2->I64 (19:Int)->I64 q3->(19:Int)=r0.code/\q1)/\(qt=q3\/q2<=qt->q4->(sn.length+[q6].length)*(64:Nat)<=(140737488355328:Nat)/\I64 (nx+q5)/\I64 (q0+q5)/\(q3<=q0/\q0<(↑op.length:Int)/\q0+q5=q0+q5)/\q3=r0.code/\nx=r0.n/\v=r1/\nx+q5=r2/\kp=r3/\qt=r4/\se=r5/\List.take q0.toNat op++List.drop (q0+q5).toNat op=r6/\sn++[q6]=r7))))) (bJ (State.mk v nx kp qt se op sn) c)) (q3=r0.n/\v=r1/\nx=r2/\kp=r3/\qt=r4/\se=r5/\op=r6/\sn=r7)) (↑(distF (sn++[Snap.mk q3 q3 c.chunks false (Str.mk [])])):Int)) (0:Int)) (c.chunks.length*(8:Nat)<=(140737488355328:Nat))) (1:Int)) (Snap.mk nx c.set c.chunks false (Str.mk []))):=by kernel_rfl
theorem wj (c:Command) (v:Int) (nx:Int) (kp:Int) (qt:Int) (se:List Sess) (op:List Opn) (sn:List Snap) (h0:nch sn<=1048576) (h1:sn.length<1048576) (h2:op.length<1048576) (h3:0<=nx):Sat Tryz.prog (aq aF) 49 [.c (.ptr 0 0),.agg (cellsOf (.nm .command) c)] [.box 26 ([.int (v),.int (nx),.int (kp),.int (qt),.own 1,.own 2,.own 3]),.row 44 (.nm .sess) (se),.row 77 (.nm .opn) (op),.row 59 (.nm .snap) (sn)] ⟨[nch sn<=1048576,sn.length<1048576,op.length<1048576,0<=nx],[.agg (cellsOf (.nm .reply) ((aT (State.mk v nx kp qt se op sn) c).2))],some ([.box 26 ([.int ((((aT (State.mk v nx kp qt se op sn) c).1).version)),.int ((((aT (State.mk v nx kp qt se op sn) c).1).next)),.int ((((aT (State.mk v nx kp qt se op sn) c).1).keep)),.int ((((aT (State.mk v nx kp qt se op sn) c).1).quota)),.own 1,.own 2,.own 3]),.row 44 (.nm .sess) ((((aT (State.mk v nx kp qt se op sn) c).1).sess)),.row 77 (.nm .opn) ((((aT (State.mk v nx kp qt se op sn) c).1).opens)),.row 59 (.nm .snap) ((((aT (State.mk v nx kp qt se op sn) c).1).snaps))]),false⟩:=by
 refine dm f_ [] Tryz.func49 (by decide) (by kernel_rfl) ?_
 rw [wQ]
 have hl:0<=bJ (State.mk v nx kp qt se op sn) c->bJ (State.mk v nx kp qt se op sn) c+1<=(op.length:Int):=fun h=>zl h
 (repeat' (first | with_reducible refine And.intro ?_ ?_ | with_reducible refine and_imp.2 ?_ | intro))
 all_goals (first | (first | with_reducible rfl | with_reducible assumption | omega | (refine aj ?_ ?_ <;> omega)) | (simp only [aT,AU]; grind) | (simp only [List.length_cons,List.length_nil]; omega))
theorem DH (i:Int) (v:Int) (nx:Int) (kp:Int) (qt:Int) (se:List Sess) (op:List Opn) (sn:List Snap) (r0:Reply) (r1:Int) (r2:Int) (r3:Int) (r4:Int) (r5:List Sess) (r6:List Opn) (r7:List Snap):nb aF ni [] Tryz.f55 [.c (.int (i)),.c (.ptr 0 0)] [.box 26 ([.int (v),.int (nx),.int (kp),.int (qt),.own 1,.own 2,.own 3]),.row 44 (.nm .sess) (se),.row 77 (.nm .opn) (op),.row 59 (.nm .snap) (sn)] [.agg (cellsOf (.nm .reply) r0)] [.box 26 ([.int (r1),.int (r2),.int (r3),.int (r4),.own 1,.own 2,.own 3]),.row 44 (.nm .sess) (r5),.row 77 (.nm .opn) (r6),.row 59 (.nm .snap) (r7)]=((fun (q0:State × Reply)=>I64 i->((0:Int)<=i/\i<(↑sn.length:Int))/\nch sn<=(1048576:Nat)/\(I64 q0.snd.code->I64 q0.snd.n->q0.snd.code=r0.code/\q0.snd.n=r0.n/\q0.fst.version=r1/\q0.fst.next=r2/\q0.fst.keep=r3/\q0.fst.quota=r4/\q0.fst.sess=r5/\q0.fst.opens=r6/\q0.fst.snaps=r7)) (aL (State.mk v nx kp qt se op sn) i.toNat)):=by kernel_rfl
theorem EN (i:Int) (v:Int) (nx:Int) (kp:Int) (qt:Int) (se:List Sess) (op:List Opn) (sn:List Snap) (h0:0<=i/\i<(sn.length:Int)) (h1:nch sn<=1048576):Sat Tryz.prog (aq aF) 55 [.c (.int (i)),.c (.ptr 0 0)] [.box 26 ([.int (v),.int (nx),.int (kp),.int (qt),.own 1,.own 2,.own 3]),.row 44 (.nm .sess) (se),.row 77 (.nm .opn) (op),.row 59 (.nm .snap) (sn)] ⟨[0<=i/\i<(sn.length:Int),nch sn<=1048576],[.agg (cellsOf (.nm .reply) ((aL (State.mk v nx kp qt se op sn) i.toNat).2))],some ([.box 26 ([.int ((((aL (State.mk v nx kp qt se op sn) i.toNat).1).version)),.int ((((aL (State.mk v nx kp qt se op sn) i.toNat).1).next)),.int ((((aL (State.mk v nx kp qt se op sn) i.toNat).1).keep)),.int ((((aL (State.mk v nx kp qt se op sn) i.toNat).1).quota)),.own 1,.own 2,.own 3]),.row 44 (.nm .sess) ((((aL (State.mk v nx kp qt se op sn) i.toNat).1).sess)),.row 77 (.nm .opn) ((((aL (State.mk v nx kp qt se op sn) i.toNat).1).opens)),.row 59 (.nm .snap) ((((aL (State.mk v nx kp qt se op sn) i.toNat).1).snaps))]),false⟩:=by
 refine dm f_ [] Tryz.func55 (by decide) (by kernel_rfl) ?_
 rw [DH]
 (repeat' (first | with_reducible refine And.intro ?_ ?_ | with_reducible refine and_imp.2 ?_ | intro))
 all_goals (first | (first | with_reducible rfl | with_reducible assumption | omega | (refine aj ?_ ?_ <;> omega)) | exact rfl)
def iA:ct:=(bO 55 (bI (ah (kC cI) (ah (kC (bN 0 0)) aO)) (az (bL 26 (ai cI (ai cI (ai cI (ai cI (ai (bd 1) (ai (bd 2) (ai (bd 3) bH)))))))) (az (bf 44 (.nm .sess)) (az (bf 77 (.nm .opn)) (az (bf 59 (.nm .snap)) aP)))) fun (i,_,_) ((v,nx,kp,qt,_,_,_,_),se,op,sn,_)=>⟨[0<=i/\i<(sn.length:Int),nch sn<=1048576],[.agg (cellsOf (.nm .reply) ((aL (State.mk v nx kp qt se op sn) i.toNat).2))],some ([.box 26 ([.int ((((aL (State.mk v nx kp qt se op sn) i.toNat).1).version)),.int ((((aL (State.mk v nx kp qt se op sn) i.toNat).1).next)),.int ((((aL (State.mk v nx kp qt se op sn) i.toNat).1).keep)),.int ((((aL (State.mk v nx kp qt se op sn) i.toNat).1).quota)),.own 1,.own 2,.own 3]),.row 44 (.nm .sess) ((((aL (State.mk v nx kp qt se op sn) i.toNat).1).sess)),.row 77 (.nm .opn) ((((aL (State.mk v nx kp qt se op sn) i.toNat).1).opens)),.row 59 (.nm .snap) ((((aL (State.mk v nx kp qt se op sn) i.toNat).1).snaps))]),false⟩) (bO 49 (bI (ah (kC (bN 0 0)) (ah (kT (.nm .command)) aO)) (az (bL 26 (ai cI (ai cI (ai cI (ai cI (ai (bd 1) (ai (bd 2) (ai (bd 3) bH)))))))) (az (bf 44 (.nm .sess)) (az (bf 77 (.nm .opn)) (az (bf 59 (.nm .snap)) aP)))) fun (_,c,_) ((v,nx,kp,qt,_,_,_,_),se,op,sn,_)=>⟨[nch sn<=1048576,sn.length<1048576,op.length<1048576,0<=nx],[.agg (cellsOf (.nm .reply) ((aT (State.mk v nx kp qt se op sn) c).2))],some ([.box 26 ([.int ((((aT (State.mk v nx kp qt se op sn) c).1).version)),.int ((((aT (State.mk v nx kp qt se op sn) c).1).next)),.int ((((aT (State.mk v nx kp qt se op sn) c).1).keep)),.int ((((aT (State.mk v nx kp qt se op sn) c).1).quota)),.own 1,.own 2,.own 3]),.row 44 (.nm .sess) ((((aT (State.mk v nx kp qt se op sn) c).1).sess)),.row 77 (.nm .opn) ((((aT (State.mk v nx kp qt se op sn) c).1).opens)),.row 59 (.nm .snap) ((((aT (State.mk v nx kp qt se op sn) c).1).snaps))]),false⟩) (bO 51 (bI (ah (kC (bN 0 0)) (ah (kT (.nm .command)) aO)) (az (bL 26 (ai cI (ai cI (ai cI (ai cI (ai (bd 1) (ai (bd 2) (ai (bd 3) bH)))))))) (az (bf 44 (.nm .sess)) (az (bf 77 (.nm .opn)) (az (bf 59 (.nm .snap)) aP)))) fun (_,c,_) ((v,nx,kp,qt,_,_,_,_),se,op,sn,_)=>⟨[op.length<1048576],[.agg (cellsOf (.nm .reply) ((a_ (State.mk v nx kp qt se op sn) c).2))],some ([.box 26 ([.int ((((a_ (State.mk v nx kp qt se op sn) c).1).version)),.int ((((a_ (State.mk v nx kp qt se op sn) c).1).next)),.int ((((a_ (State.mk v nx kp qt se op sn) c).1).keep)),.int ((((a_ (State.mk v nx kp qt se op sn) c).1).quota)),.own 1,.own 2,.own 3]),.row 44 (.nm .sess) ((((a_ (State.mk v nx kp qt se op sn) c).1).sess)),.row 77 (.nm .opn) ((((a_ (State.mk v nx kp qt se op sn) c).1).opens)),.row 59 (.nm .snap) ((((a_ (State.mk v nx kp qt se op sn) c).1).snaps))]),false⟩) (bO 47 (bI (ah (kC (bN 0 0)) (ah (kT (.nm .command)) aO)) (az (bL 26 (ai cI (ai cI (ai cI (ai cI (ai (bd 1) (ai (bd 2) (ai (bd 3) bH)))))))) (az (bf 44 (.nm .sess)) (az (bf 77 (.nm .opn)) (az (bf 59 (.nm .snap)) aP)))) fun (_,c,_) ((v,nx,kp,qt,_,_,_,_),se,op,sn,_)=>⟨[op.length<1048576],[.agg (cellsOf (.nm .reply) ((aY (State.mk v nx kp qt se op sn) c).2))],some ([.box 26 ([.int ((((aY (State.mk v nx kp qt se op sn) c).1).version)),.int ((((aY (State.mk v nx kp qt se op sn) c).1).next)),.int ((((aY (State.mk v nx kp qt se op sn) c).1).keep)),.int ((((aY (State.mk v nx kp qt se op sn) c).1).quota)),.own 1,.own 2,.own 3]),.row 44 (.nm .sess) ((((aY (State.mk v nx kp qt se op sn) c).1).sess)),.row 77 (.nm .opn) ((((aY (State.mk v nx kp qt se op sn) c).1).opens)),.row 59 (.nm .snap) ((((aY (State.mk v nx kp qt se op sn) c).1).snaps))]),false⟩) ni))))
theorem dI:aU Tryz.prog (aq aF) iA:=(ay (ax (ab (ao av) (ab (ao aJ) al)) (ag (aH (ae av (ae av (ae av (ae av (ae aC (ae aC (ae aC aG)))))))) (ag aB (ag aB (ag aB ak)))) fun (i,_,_) ((v,nx,kp,qt,_,_,_,_),se,op,sn,_) hp=>EN i v nx kp qt se op sn (eI hp) (eI (ny hp))) (ay (ax (ab (ao aJ) (ab bM al)) (ag (aH (ae av (ae av (ae av (ae av (ae aC (ae aC (ae aC aG)))))))) (ag aB (ag aB (ag aB ak)))) fun (_,c,_) ((v,nx,kp,qt,_,_,_,_),se,op,sn,_) hp=>wj c v nx kp qt se op sn (eI hp) (eI (ny hp)) (eI (ny (ny hp))) (eI (ny (ny (ny hp))))) (ay (ax (ab (ao aJ) (ab bM al)) (ag (aH (ae av (ae av (ae av (ae av (ae aC (ae aC (ae aC aG)))))))) (ag aB (ag aB (ag aB ak)))) fun (_,c,_) ((v,nx,kp,qt,_,_,_,_),se,op,sn,_) hp=>zI c v nx kp qt se op sn (eI hp)) (ay (ax (ab (ao aJ) (ab bM al)) (ag (aH (ae av (ae av (ae av (ae av (ae aC (ae aC (ae aC aG)))))))) (ag aB (ag aB (ag aB ak)))) fun (_,c,_) ((v,nx,kp,qt,_,_,_,_),se,op,sn,_) hp=>yi c v nx kp qt se op sn (eI hp)) f_))))
end Go.Proofs.YtdggohppeeaipaaGreat
namespace Go.Proofs.YtdggohppeeaipaaGreat
open Go.RowKit
def aA (f:State->Nat->State × Reply) (c:Command) (s:State):State × Reply:=if au Snap.id c.id s.snaps<0 then (s,⟨15,0⟩) else f s (au Snap.id c.id s.snaps).toNat
section
variable {v nx kp qt:Int} {se:List Sess} {op:List Opn} {sn:List Snap} {c:Command} {f:State->Nat->State × Reply}
theorem Hj (h:au Snap.id c.id sn<0):aA f c (State.mk v nx kp qt se op sn)=(State.mk v nx kp qt se op sn,⟨15,0⟩):=by
 simp only [aA,if_pos h]
theorem Ho (h:0<=au Snap.id c.id sn):aA f c (State.mk v nx kp qt se op sn)=f (State.mk v nx kp qt se op sn) (au Snap.id c.id sn).toNat:=by
 have h1:¬ au Snap.id c.id sn<0:=by omega
 simp only [aA,if_neg h1]
end
theorem Fv (v:Int) (nx:Int) (kp:Int) (qt:Int) (se:List Sess) (op:List Opn) (sn:List Snap) (c:Command) (r0:Reply) (r1:Int) (r2:Int) (r3:Int) (r4:Int) (r5:List Sess) (r6:List Opn) (r7:List Snap) (r8:Command):nb aF iA [] Tryz.f46 [.c (.ptr 0 0),.c (.ptr 4 0)] [.box 26 ([.int (v),.int (nx),.int (kp),.int (qt),.own 1,.own 2,.own 3]),.row 44 (.nm .sess) (se),.row 77 (.nm .opn) (op),.row 59 (.nm .snap) (sn),.box 29 (cellsOf (.nm .command) (c))] [.agg (cellsOf (.nm .reply) r0)] [.box 26 ([.int (r1),.int (r2),.int (r3),.int (r4),.own 1,.own 2,.own 3]),.row 44 (.nm .sess) (r5),.row 77 (.nm .opn) (r6),.row 59 (.nm .snap) (r7),.box 29 (cellsOf (.nm .command) (r8))]=((fun (q0:State × Reply)=>op.length<(1048576:Nat)/\(I64 q0.snd.code->I64 q0.snd.n->q0.snd.code=r0.code/\q0.snd.n=r0.n/\q0.fst.version=r1/\q0.fst.next=r2/\q0.fst.keep=r3/\q0.fst.quota=r4/\q0.fst.sess=r5/\q0.fst.opens=r6/\q0.fst.snaps=r7/\c.kind=r8.kind/\c.client=r8.client/\c.seq=r8.seq/\c.set=r8.set/\c.id=r8.id/\c.n=r8.n/\c.chunks=r8.chunks/\c.text=r8.text)) (aY (State.mk v nx kp qt se op sn) c)):=by kernel_rfl
theorem Fh (v:Int) (nx:Int) (kp:Int) (qt:Int) (se:List Sess) (op:List Opn) (sn:List Snap) (c:Command) (h0:op.length<1048576):Sat Tryz.prog (aq aF) 46 [.c (.ptr 0 0),.c (.ptr 4 0)] [.box 26 ([.int (v),.int (nx),.int (kp),.int (qt),.own 1,.own 2,.own 3]),.row 44 (.nm .sess) (se),.row 77 (.nm .opn) (op),.row 59 (.nm .snap) (sn),.box 29 (cellsOf (.nm .command) (c))] ⟨[op.length<1048576],[.agg (cellsOf (.nm .reply) ((aY (State.mk v nx kp qt se op sn) c).2))],some ([.box 26 ([.int ((((aY (State.mk v nx kp qt se op sn) c).1).version)),.int ((((aY (State.mk v nx kp qt se op sn) c).1).next)),.int ((((aY (State.mk v nx kp qt se op sn) c).1).keep)),.int ((((aY (State.mk v nx kp qt se op sn) c).1).quota)),.own 1,.own 2,.own 3]),.row 44 (.nm .sess) ((((aY (State.mk v nx kp qt se op sn) c).1).sess)),.row 77 (.nm .opn) ((((aY (State.mk v nx kp qt se op sn) c).1).opens)),.row 59 (.nm .snap) ((((aY (State.mk v nx kp qt se op sn) c).1).snaps)),.box 29 (cellsOf (.nm .command) ((c)))]),false⟩:=by
 refine dm dI [] Tryz.func46 (by decide) (by kernel_rfl) ?_
 rw [Fv]
 (repeat' (first | with_reducible refine And.intro ?_ ?_ | with_reducible refine and_imp.2 ?_ | intro))
 all_goals (first | (first | with_reducible rfl | with_reducible assumption | omega | (refine aj ?_ ?_ <;> omega)) | exact rfl)
theorem DB (v:Int) (nx:Int) (kp:Int) (qt:Int) (se:List Sess) (op:List Opn) (sn:List Snap) (c:Command) (r0:Reply) (r1:Int) (r2:Int) (r3:Int) (r4:Int) (r5:List Sess) (r6:List Opn) (r7:List Snap) (r8:Command):nb aF iA [] Tryz.f48 [.c (.ptr 0 0),.c (.ptr 4 0)] [.box 26 ([.int (v),.int (nx),.int (kp),.int (qt),.own 1,.own 2,.own 3]),.row 44 (.nm .sess) (se),.row 77 (.nm .opn) (op),.row 59 (.nm .snap) (sn),.box 29 (cellsOf (.nm .command) (c))] [.agg (cellsOf (.nm .reply) r0)] [.box 26 ([.int (r1),.int (r2),.int (r3),.int (r4),.own 1,.own 2,.own 3]),.row 44 (.nm .sess) (r5),.row 77 (.nm .opn) (r6),.row 59 (.nm .snap) (r7),.box 29 (cellsOf (.nm .command) (r8))]=((fun (q0:State × Reply)=>nch sn<=(1048576:Nat)/\sn.length<(1048576:Nat)/\op.length<(1048576:Nat)/\(0:Int)<=nx/\(I64 q0.snd.code->I64 q0.snd.n->q0.snd.code=r0.code/\q0.snd.n=r0.n/\q0.fst.version=r1/\q0.fst.next=r2/\q0.fst.keep=r3/\q0.fst.quota=r4/\q0.fst.sess=r5/\q0.fst.opens=r6/\q0.fst.snaps=r7/\c.kind=r8.kind/\c.client=r8.client/\c.seq=r8.seq/\c.set=r8.set/\c.id=r8.id/\c.n=r8.n/\c.chunks=r8.chunks/\c.text=r8.text)) (aT (State.mk v nx kp qt se op sn) c)):=by kernel_rfl
theorem EH (v:Int) (nx:Int) (kp:Int) (qt:Int) (se:List Sess) (op:List Opn) (sn:List Snap) (c:Command) (h0:nch sn<=1048576) (h1:sn.length<1048576) (h2:op.length<1048576) (h3:0<=nx):Sat Tryz.prog (aq aF) 48 [.c (.ptr 0 0),.c (.ptr 4 0)] [.box 26 ([.int (v),.int (nx),.int (kp),.int (qt),.own 1,.own 2,.own 3]),.row 44 (.nm .sess) (se),.row 77 (.nm .opn) (op),.row 59 (.nm .snap) (sn),.box 29 (cellsOf (.nm .command) (c))] ⟨[nch sn<=1048576,sn.length<1048576,op.length<1048576,0<=nx],[.agg (cellsOf (.nm .reply) ((aT (State.mk v nx kp qt se op sn) c).2))],some ([.box 26 ([.int ((((aT (State.mk v nx kp qt se op sn) c).1).version)),.int ((((aT (State.mk v nx kp qt se op sn) c).1).next)),.int ((((aT (State.mk v nx kp qt se op sn) c).1).keep)),.int ((((aT (State.mk v nx kp qt se op sn) c).1).quota)),.own 1,.own 2,.own 3]),.row 44 (.nm .sess) ((((aT (State.mk v nx kp qt se op sn) c).1).sess)),.row 77 (.nm .opn) ((((aT (State.mk v nx kp qt se op sn) c).1).opens)),.row 59 (.nm .snap) ((((aT (State.mk v nx kp qt se op sn) c).1).snaps)),.box 29 (cellsOf (.nm .command) ((c)))]),false⟩:=by
 refine dm dI [] Tryz.func48 (by decide) (by kernel_rfl) ?_
 rw [DB]
 (repeat' (first | with_reducible refine And.intro ?_ ?_ | with_reducible refine and_imp.2 ?_ | intro))
 all_goals (first | (first | with_reducible rfl | with_reducible assumption | omega | (refine aj ?_ ?_ <;> omega)) | exact rfl)
theorem EA (v:Int) (nx:Int) (kp:Int) (qt:Int) (se:List Sess) (op:List Opn) (sn:List Snap) (c:Command) (r0:Reply) (r1:Int) (r2:Int) (r3:Int) (r4:Int) (r5:List Sess) (r6:List Opn) (r7:List Snap) (r8:Command):nb aF iA [] Tryz.f50 [.c (.ptr 0 0),.c (.ptr 4 0)] [.box 26 ([.int (v),.int (nx),.int (kp),.int (qt),.own 1,.own 2,.own 3]),.row 44 (.nm .sess) (se),.row 77 (.nm .opn) (op),.row 59 (.nm .snap) (sn),.box 29 (cellsOf (.nm .command) (c))] [.agg (cellsOf (.nm .reply) r0)] [.box 26 ([.int (r1),.int (r2),.int (r3),.int (r4),.own 1,.own 2,.own 3]),.row 44 (.nm .sess) (r5),.row 77 (.nm .opn) (r6),.row 59 (.nm .snap) (r7),.box 29 (cellsOf (.nm .command) (r8))]=((fun (q0:State × Reply)=>op.length<(1048576:Nat)/\(I64 q0.snd.code->I64 q0.snd.n->q0.snd.code=r0.code/\q0.snd.n=r0.n/\q0.fst.version=r1/\q0.fst.next=r2/\q0.fst.keep=r3/\q0.fst.quota=r4/\q0.fst.sess=r5/\q0.fst.opens=r6/\q0.fst.snaps=r7/\c.kind=r8.kind/\c.client=r8.client/\c.seq=r8.seq/\c.set=r8.set/\c.id=r8.id/\c.n=r8.n/\c.chunks=r8.chunks/\c.text=r8.text)) (a_ (State.mk v nx kp qt se op sn) c)):=by kernel_rfl
theorem DZ (v:Int) (nx:Int) (kp:Int) (qt:Int) (se:List Sess) (op:List Opn) (sn:List Snap) (c:Command) (h0:op.length<1048576):Sat Tryz.prog (aq aF) 50 [.c (.ptr 0 0),.c (.ptr 4 0)] [.box 26 ([.int (v),.int (nx),.int (kp),.int (qt),.own 1,.own 2,.own 3]),.row 44 (.nm .sess) (se),.row 77 (.nm .opn) (op),.row 59 (.nm .snap) (sn),.box 29 (cellsOf (.nm .command) (c))] ⟨[op.length<1048576],[.agg (cellsOf (.nm .reply) ((a_ (State.mk v nx kp qt se op sn) c).2))],some ([.box 26 ([.int ((((a_ (State.mk v nx kp qt se op sn) c).1).version)),.int ((((a_ (State.mk v nx kp qt se op sn) c).1).next)),.int ((((a_ (State.mk v nx kp qt se op sn) c).1).keep)),.int ((((a_ (State.mk v nx kp qt se op sn) c).1).quota)),.own 1,.own 2,.own 3]),.row 44 (.nm .sess) ((((a_ (State.mk v nx kp qt se op sn) c).1).sess)),.row 77 (.nm .opn) ((((a_ (State.mk v nx kp qt se op sn) c).1).opens)),.row 59 (.nm .snap) ((((a_ (State.mk v nx kp qt se op sn) c).1).snaps)),.box 29 (cellsOf (.nm .command) ((c)))]),false⟩:=by
 refine dm dI [] Tryz.func50 (by decide) (by kernel_rfl) ?_
 rw [EA]
 (repeat' (first | with_reducible refine And.intro ?_ ?_ | with_reducible refine and_imp.2 ?_ | intro))
 all_goals (first | (first | with_reducible rfl | with_reducible assumption | omega | (refine aj ?_ ?_ <;> omega)) | exact rfl)
theorem oi (v:Int) (nx:Int) (kp:Int) (qt:Int) (se:List Sess) (op:List Opn) (sn:List Snap) (c:Command) (r0:Int) (r1:Int) (r2:Int) (r3:Int) (r4:List Sess) (r5:List Opn) (r6:List Snap) (r7:Command):sq aF iA [] Tryz.f41 [.c (.fn 55 [] [(0,0)]),.c (.ptr 0 0),.c (.ptr 4 0)] [.box 26 ([.int (v),.int (nx),.int (kp),.int (qt),.own 1,.own 2,.own 3]),.row 44 (.nm .sess) (se),.row 77 (.nm .opn) (op),.row 59 (.nm .snap) (sn),.box 29 (cellsOf (.nm .command) (c))] [.c (.fn 42 [] [(0,0),(4,0),(5,0)])] [.box 26 ([.int (r0),.int (r1),.int (r2),.int (r3),.own 1,.own 2,.own 3]),.row 44 (.nm .sess) (r4),.row 77 (.nm .opn) (r5),.row 59 (.nm .snap) (r6),.box 29 (cellsOf (.nm .command) (r7)),.box 65 ([.fn 55 [] [(0,0)]])]=(v=r0/\nx=r1/\kp=r2/\qt=r3/\se=r4/\op=r5/\sn=r6/\c.kind=r7.kind/\c.client=r7.client/\c.seq=r7.seq/\c.set=r7.set/\c.id=r7.id/\c.n=r7.n/\c.chunks=r7.chunks/\c.text=r7.text):=by kernel_rfl
theorem ox (v:Int) (nx:Int) (kp:Int) (qt:Int) (se:List Sess) (op:List Opn) (sn:List Snap) (c:Command):Sat Tryz.prog (aq aF) 41 [.c (.fn 55 [] [(0,0)]),.c (.ptr 0 0),.c (.ptr 4 0)] [.box 26 ([.int (v),.int (nx),.int (kp),.int (qt),.own 1,.own 2,.own 3]),.row 44 (.nm .sess) (se),.row 77 (.nm .opn) (op),.row 59 (.nm .snap) (sn),.box 29 (cellsOf (.nm .command) (c))] ⟨[],[.c (.fn 42 [] [(0,0),(4,0),(5,0)])],some ([.box 26 ([.int ((v)),.int ((nx)),.int ((kp)),.int ((qt)),.own 1,.own 2,.own 3]),.row 44 (.nm .sess) ((se)),.row 77 (.nm .opn) ((op)),.row 59 (.nm .snap) ((sn)),.box 29 (cellsOf (.nm .command) ((c))),.box 65 ([.fn 55 [] [(0,0)]])]),true⟩:=by
 refine ew dI [] Tryz.func41 (by decide) (by kernel_rfl) ?_
 rw [oi]
 (repeat' (first | with_reducible refine And.intro ?_ ?_ | with_reducible refine and_imp.2 ?_ | intro))
 all_goals (first | (first | with_reducible rfl | with_reducible assumption | omega | (refine aj ?_ ?_ <;> omega)) | exact rfl)
theorem rm (v:Int) (nx:Int) (kp:Int) (qt:Int) (se:List Sess) (op:List Opn) (sn:List Snap) (c:Command) (r0:Int) (r1:Int) (r2:Int) (r3:Int) (r4:List Sess) (r5:List Opn) (r6:List Snap) (r7:Command):sq aF iA [] Tryz.f41 [.c (.fn 57 [] [(0,0)]),.c (.ptr 0 0),.c (.ptr 4 0)] [.box 26 ([.int (v),.int (nx),.int (kp),.int (qt),.own 1,.own 2,.own 3]),.row 44 (.nm .sess) (se),.row 77 (.nm .opn) (op),.row 59 (.nm .snap) (sn),.box 29 (cellsOf (.nm .command) (c))] [.c (.fn 42 [] [(0,0),(4,0),(5,0)])] [.box 26 ([.int (r0),.int (r1),.int (r2),.int (r3),.own 1,.own 2,.own 3]),.row 44 (.nm .sess) (r4),.row 77 (.nm .opn) (r5),.row 59 (.nm .snap) (r6),.box 29 (cellsOf (.nm .command) (r7)),.box 65 ([.fn 57 [] [(0,0)]])]=(v=r0/\nx=r1/\kp=r2/\qt=r3/\se=r4/\op=r5/\sn=r6/\c.kind=r7.kind/\c.client=r7.client/\c.seq=r7.seq/\c.set=r7.set/\c.id=r7.id/\c.n=r7.n/\c.chunks=r7.chunks/\c.text=r7.text):=by kernel_rfl
theorem rW (v:Int) (nx:Int) (kp:Int) (qt:Int) (se:List Sess) (op:List Opn) (sn:List Snap) (c:Command):Sat Tryz.prog (aq aF) 41 [.c (.fn 57 [] [(0,0)]),.c (.ptr 0 0),.c (.ptr 4 0)] [.box 26 ([.int (v),.int (nx),.int (kp),.int (qt),.own 1,.own 2,.own 3]),.row 44 (.nm .sess) (se),.row 77 (.nm .opn) (op),.row 59 (.nm .snap) (sn),.box 29 (cellsOf (.nm .command) (c))] ⟨[],[.c (.fn 42 [] [(0,0),(4,0),(5,0)])],some ([.box 26 ([.int ((v)),.int ((nx)),.int ((kp)),.int ((qt)),.own 1,.own 2,.own 3]),.row 44 (.nm .sess) ((se)),.row 77 (.nm .opn) ((op)),.row 59 (.nm .snap) ((sn)),.box 29 (cellsOf (.nm .command) ((c))),.box 65 ([.fn 57 [] [(0,0)]])]),true⟩:=by
 refine ew dI [] Tryz.func41 (by decide) (by kernel_rfl) ?_
 rw [rm]
 (repeat' (first | with_reducible refine And.intro ?_ ?_ | with_reducible refine and_imp.2 ?_ | intro))
 all_goals (first | (first | with_reducible rfl | with_reducible assumption | omega | (refine aj ?_ ?_ <;> omega)) | exact rfl)
theorem tG (c:Command) (v:Int) (nx:Int) (kp:Int) (qt:Int) (se:List Sess) (op:List Opn) (sn:List Snap) (r0:Command) (r1:Int) (r2:Int) (r3:Int) (r4:Int) (r5:List Sess) (r6:List Opn) (r7:List Snap):sq aF iA [] Tryz.f41 [.c (.fn 58 [] [(0,0),(1,0)]),.c (.ptr 1 0),.c (.ptr 0 0)] [.box 29 (cellsOf (.nm .command) (c)),.box 26 ([.int (v),.int (nx),.int (kp),.int (qt),.own 2,.own 3,.own 4]),.row 44 (.nm .sess) (se),.row 77 (.nm .opn) (op),.row 59 (.nm .snap) (sn)] [.c (.fn 42 [] [(1,0),(0,0),(5,0)])] [.box 29 (cellsOf (.nm .command) (r0)),.box 26 ([.int (r1),.int (r2),.int (r3),.int (r4),.own 2,.own 3,.own 4]),.row 44 (.nm .sess) (r5),.row 77 (.nm .opn) (r6),.row 59 (.nm .snap) (r7),.box 65 ([.fn 58 [] [(0,0),(1,0)]])]=(c.kind=r0.kind/\c.client=r0.client/\c.seq=r0.seq/\c.set=r0.set/\c.id=r0.id/\c.n=r0.n/\c.chunks=r0.chunks/\c.text=r0.text/\v=r1/\nx=r2/\kp=r3/\qt=r4/\se=r5/\op=r6/\sn=r7):=by kernel_rfl
theorem tx (c:Command) (v:Int) (nx:Int) (kp:Int) (qt:Int) (se:List Sess) (op:List Opn) (sn:List Snap):Sat Tryz.prog (aq aF) 41 [.c (.fn 58 [] [(0,0),(1,0)]),.c (.ptr 1 0),.c (.ptr 0 0)] [.box 29 (cellsOf (.nm .command) (c)),.box 26 ([.int (v),.int (nx),.int (kp),.int (qt),.own 2,.own 3,.own 4]),.row 44 (.nm .sess) (se),.row 77 (.nm .opn) (op),.row 59 (.nm .snap) (sn)] ⟨[],[.c (.fn 42 [] [(1,0),(0,0),(5,0)])],some ([.box 29 (cellsOf (.nm .command) ((c))),.box 26 ([.int ((v)),.int ((nx)),.int ((kp)),.int ((qt)),.own 2,.own 3,.own 4]),.row 44 (.nm .sess) ((se)),.row 77 (.nm .opn) ((op)),.row 59 (.nm .snap) ((sn)),.box 65 ([.fn 58 [] [(0,0),(1,0)]])]),true⟩:=by
 refine ew dI [] Tryz.func41 (by decide) (by kernel_rfl) ?_
 rw [tG]
 (repeat' (first | with_reducible refine And.intro ?_ ?_ | with_reducible refine and_imp.2 ?_ | intro))
 all_goals (first | (first | with_reducible rfl | with_reducible assumption | omega | (refine aj ?_ ?_ <;> omega)) | exact rfl)
theorem qR (v:Int) (nx:Int) (kp:Int) (qt:Int) (se:List Sess) (op:List Opn) (sn:List Snap) (b:Bool) (c:Command) (r0:Int) (r1:Int) (r2:Int) (r3:Int) (r4:List Sess) (r5:List Opn) (r6:List Snap) (r7:Bool) (r8:Command):sq aF iA [] Tryz.f41 [.c (.fn 45 [] [(0,0),(4,0)]),.c (.ptr 0 0),.c (.ptr 5 0)] [.box 26 ([.int (v),.int (nx),.int (kp),.int (qt),.own 1,.own 2,.own 3]),.row 44 (.nm .sess) (se),.row 77 (.nm .opn) (op),.row 59 (.nm .snap) (sn),.box 4 ([.bool (.atom (b))]),.box 29 (cellsOf (.nm .command) (c))] [.c (.fn 42 [] [(0,0),(5,0),(6,0)])] [.box 26 ([.int (r0),.int (r1),.int (r2),.int (r3),.own 1,.own 2,.own 3]),.row 44 (.nm .sess) (r4),.row 77 (.nm .opn) (r5),.row 59 (.nm .snap) (r6),.box 4 ([.bool (.atom (r7))]),.box 29 (cellsOf (.nm .command) (r8)),.box 65 ([.fn 45 [] [(0,0),(4,0)]])]=(v=r0/\nx=r1/\kp=r2/\qt=r3/\se=r4/\op=r5/\sn=r6/\b=r7/\c.kind=r8.kind/\c.client=r8.client/\c.seq=r8.seq/\c.set=r8.set/\c.id=r8.id/\c.n=r8.n/\c.chunks=r8.chunks/\c.text=r8.text):=by kernel_rfl
theorem qO (v:Int) (nx:Int) (kp:Int) (qt:Int) (se:List Sess) (op:List Opn) (sn:List Snap) (b:Bool) (c:Command):Sat Tryz.prog (aq aF) 41 [.c (.fn 45 [] [(0,0),(4,0)]),.c (.ptr 0 0),.c (.ptr 5 0)] [.box 26 ([.int (v),.int (nx),.int (kp),.int (qt),.own 1,.own 2,.own 3]),.row 44 (.nm .sess) (se),.row 77 (.nm .opn) (op),.row 59 (.nm .snap) (sn),.box 4 ([.bool (.atom (b))]),.box 29 (cellsOf (.nm .command) (c))] ⟨[],[.c (.fn 42 [] [(0,0),(5,0),(6,0)])],some ([.box 26 ([.int ((v)),.int ((nx)),.int ((kp)),.int ((qt)),.own 1,.own 2,.own 3]),.row 44 (.nm .sess) ((se)),.row 77 (.nm .opn) ((op)),.row 59 (.nm .snap) ((sn)),.box 4 ([.bool (.atom ((b)))]),.box 29 (cellsOf (.nm .command) ((c))),.box 65 ([.fn 45 [] [(0,0),(4,0)]])]),true⟩:=by
 refine ew dI [] Tryz.func41 (by decide) (by kernel_rfl) ?_
 rw [qR]
 (repeat' (first | with_reducible refine And.intro ?_ ?_ | with_reducible refine and_imp.2 ?_ | intro))
 all_goals (first | (first | with_reducible rfl | with_reducible assumption | omega | (refine aj ?_ ?_ <;> omega)) | exact rfl)
def lB:ct:=(bO 41 (bI (ah (kC (kR 45 [] [(0,0),(4,0)])) (ah (kC (bN 0 0)) (ah (kC (bN 5 0)) aO))) (az (bL 26 (ai cI (ai cI (ai cI (ai cI (ai (bd 1) (ai (bd 2) (ai (bd 3) bH)))))))) (az (bf 44 (.nm .sess)) (az (bf 77 (.nm .opn)) (az (bf 59 (.nm .snap)) (az (bL 4 (ai cB bH)) (az (bL 29 (pA (.nm .command) bH)) aP)))))) fun (_,_,_,_) ((v,nx,kp,qt,_,_,_,_),se,op,sn,(b,_),(c,_),_)=>⟨[],[.c (.fn 42 [] [(0,0),(5,0),(6,0)])],some ([.box 26 ([.int ((v)),.int ((nx)),.int ((kp)),.int ((qt)),.own 1,.own 2,.own 3]),.row 44 (.nm .sess) ((se)),.row 77 (.nm .opn) ((op)),.row 59 (.nm .snap) ((sn)),.box 4 ([.bool (.atom ((b)))]),.box 29 (cellsOf (.nm .command) ((c))),.box 65 ([.fn 45 [] [(0,0),(4,0)]])]),true⟩) (bO 41 (bI (ah (kC (kR 58 [] [(0,0),(1,0)])) (ah (kC (bN 1 0)) (ah (kC (bN 0 0)) aO))) (az (bL 29 (pA (.nm .command) bH)) (az (bL 26 (ai cI (ai cI (ai cI (ai cI (ai (bd 2) (ai (bd 3) (ai (bd 4) bH)))))))) (az (bf 44 (.nm .sess)) (az (bf 77 (.nm .opn)) (az (bf 59 (.nm .snap)) aP))))) fun (_,_,_,_) ((c,_),(v,nx,kp,qt,_,_,_,_),se,op,sn,_)=>⟨[],[.c (.fn 42 [] [(1,0),(0,0),(5,0)])],some ([.box 29 (cellsOf (.nm .command) ((c))),.box 26 ([.int ((v)),.int ((nx)),.int ((kp)),.int ((qt)),.own 2,.own 3,.own 4]),.row 44 (.nm .sess) ((se)),.row 77 (.nm .opn) ((op)),.row 59 (.nm .snap) ((sn)),.box 65 ([.fn 58 [] [(0,0),(1,0)]])]),true⟩) (bO 41 (bI (ah (kC (kR 57 [] [(0,0)])) (ah (kC (bN 0 0)) (ah (kC (bN 4 0)) aO))) (az (bL 26 (ai cI (ai cI (ai cI (ai cI (ai (bd 1) (ai (bd 2) (ai (bd 3) bH)))))))) (az (bf 44 (.nm .sess)) (az (bf 77 (.nm .opn)) (az (bf 59 (.nm .snap)) (az (bL 29 (pA (.nm .command) bH)) aP))))) fun (_,_,_,_) ((v,nx,kp,qt,_,_,_,_),se,op,sn,(c,_),_)=>⟨[],[.c (.fn 42 [] [(0,0),(4,0),(5,0)])],some ([.box 26 ([.int ((v)),.int ((nx)),.int ((kp)),.int ((qt)),.own 1,.own 2,.own 3]),.row 44 (.nm .sess) ((se)),.row 77 (.nm .opn) ((op)),.row 59 (.nm .snap) ((sn)),.box 29 (cellsOf (.nm .command) ((c))),.box 65 ([.fn 57 [] [(0,0)]])]),true⟩) (bO 41 (bI (ah (kC (kR 55 [] [(0,0)])) (ah (kC (bN 0 0)) (ah (kC (bN 4 0)) aO))) (az (bL 26 (ai cI (ai cI (ai cI (ai cI (ai (bd 1) (ai (bd 2) (ai (bd 3) bH)))))))) (az (bf 44 (.nm .sess)) (az (bf 77 (.nm .opn)) (az (bf 59 (.nm .snap)) (az (bL 29 (pA (.nm .command) bH)) aP))))) fun (_,_,_,_) ((v,nx,kp,qt,_,_,_,_),se,op,sn,(c,_),_)=>⟨[],[.c (.fn 42 [] [(0,0),(4,0),(5,0)])],some ([.box 26 ([.int ((v)),.int ((nx)),.int ((kp)),.int ((qt)),.own 1,.own 2,.own 3]),.row 44 (.nm .sess) ((se)),.row 77 (.nm .opn) ((op)),.row 59 (.nm .snap) ((sn)),.box 29 (cellsOf (.nm .command) ((c))),.box 65 ([.fn 55 [] [(0,0)]])]),true⟩) (bO 50 (bI (ah (kC (bN 0 0)) (ah (kC (bN 4 0)) aO)) (az (bL 26 (ai cI (ai cI (ai cI (ai cI (ai (bd 1) (ai (bd 2) (ai (bd 3) bH)))))))) (az (bf 44 (.nm .sess)) (az (bf 77 (.nm .opn)) (az (bf 59 (.nm .snap)) (az (bL 29 (pA (.nm .command) bH)) aP))))) fun (_,_,_) ((v,nx,kp,qt,_,_,_,_),se,op,sn,(c,_),_)=>⟨[op.length<1048576],[.agg (cellsOf (.nm .reply) ((a_ (State.mk v nx kp qt se op sn) c).2))],some ([.box 26 ([.int ((((a_ (State.mk v nx kp qt se op sn) c).1).version)),.int ((((a_ (State.mk v nx kp qt se op sn) c).1).next)),.int ((((a_ (State.mk v nx kp qt se op sn) c).1).keep)),.int ((((a_ (State.mk v nx kp qt se op sn) c).1).quota)),.own 1,.own 2,.own 3]),.row 44 (.nm .sess) ((((a_ (State.mk v nx kp qt se op sn) c).1).sess)),.row 77 (.nm .opn) ((((a_ (State.mk v nx kp qt se op sn) c).1).opens)),.row 59 (.nm .snap) ((((a_ (State.mk v nx kp qt se op sn) c).1).snaps)),.box 29 (cellsOf (.nm .command) ((c)))]),false⟩) (bO 48 (bI (ah (kC (bN 0 0)) (ah (kC (bN 4 0)) aO)) (az (bL 26 (ai cI (ai cI (ai cI (ai cI (ai (bd 1) (ai (bd 2) (ai (bd 3) bH)))))))) (az (bf 44 (.nm .sess)) (az (bf 77 (.nm .opn)) (az (bf 59 (.nm .snap)) (az (bL 29 (pA (.nm .command) bH)) aP))))) fun (_,_,_) ((v,nx,kp,qt,_,_,_,_),se,op,sn,(c,_),_)=>⟨[nch sn<=1048576,sn.length<1048576,op.length<1048576,0<=nx],[.agg (cellsOf (.nm .reply) ((aT (State.mk v nx kp qt se op sn) c).2))],some ([.box 26 ([.int ((((aT (State.mk v nx kp qt se op sn) c).1).version)),.int ((((aT (State.mk v nx kp qt se op sn) c).1).next)),.int ((((aT (State.mk v nx kp qt se op sn) c).1).keep)),.int ((((aT (State.mk v nx kp qt se op sn) c).1).quota)),.own 1,.own 2,.own 3]),.row 44 (.nm .sess) ((((aT (State.mk v nx kp qt se op sn) c).1).sess)),.row 77 (.nm .opn) ((((aT (State.mk v nx kp qt se op sn) c).1).opens)),.row 59 (.nm .snap) ((((aT (State.mk v nx kp qt se op sn) c).1).snaps)),.box 29 (cellsOf (.nm .command) ((c)))]),false⟩) (bO 46 (bI (ah (kC (bN 0 0)) (ah (kC (bN 4 0)) aO)) (az (bL 26 (ai cI (ai cI (ai cI (ai cI (ai (bd 1) (ai (bd 2) (ai (bd 3) bH)))))))) (az (bf 44 (.nm .sess)) (az (bf 77 (.nm .opn)) (az (bf 59 (.nm .snap)) (az (bL 29 (pA (.nm .command) bH)) aP))))) fun (_,_,_) ((v,nx,kp,qt,_,_,_,_),se,op,sn,(c,_),_)=>⟨[op.length<1048576],[.agg (cellsOf (.nm .reply) ((aY (State.mk v nx kp qt se op sn) c).2))],some ([.box 26 ([.int ((((aY (State.mk v nx kp qt se op sn) c).1).version)),.int ((((aY (State.mk v nx kp qt se op sn) c).1).next)),.int ((((aY (State.mk v nx kp qt se op sn) c).1).keep)),.int ((((aY (State.mk v nx kp qt se op sn) c).1).quota)),.own 1,.own 2,.own 3]),.row 44 (.nm .sess) ((((aY (State.mk v nx kp qt se op sn) c).1).sess)),.row 77 (.nm .opn) ((((aY (State.mk v nx kp qt se op sn) c).1).opens)),.row 59 (.nm .snap) ((((aY (State.mk v nx kp qt se op sn) c).1).snaps)),.box 29 (cellsOf (.nm .command) ((c)))]),false⟩) iA)))))))
theorem eR:aU Tryz.prog (aq aF) lB:=(ay (ax (ab (ao bV) (ab (ao aJ) (ab (ao aJ) al))) (ag (aH (ae av (ae av (ae av (ae av (ae aC (ae aC (ae aC aG)))))))) (ag aB (ag aB (ag aB (ag (aH (ae pF aG)) (ag (aH (cS aG)) ak)))))) fun (_,_,_,_) ((v,nx,kp,qt,_,_,_,_),se,op,sn,(b,_),(c,_),_) _=>qO v nx kp qt se op sn b c ) (ay (ax (ab (ao bV) (ab (ao aJ) (ab (ao aJ) al))) (ag (aH (cS aG)) (ag (aH (ae av (ae av (ae av (ae av (ae aC (ae aC (ae aC aG)))))))) (ag aB (ag aB (ag aB ak))))) fun (_,_,_,_) ((c,_),(v,nx,kp,qt,_,_,_,_),se,op,sn,_) _=>tx c v nx kp qt se op sn ) (ay (ax (ab (ao bV) (ab (ao aJ) (ab (ao aJ) al))) (ag (aH (ae av (ae av (ae av (ae av (ae aC (ae aC (ae aC aG)))))))) (ag aB (ag aB (ag aB (ag (aH (cS aG)) ak))))) fun (_,_,_,_) ((v,nx,kp,qt,_,_,_,_),se,op,sn,(c,_),_) _=>rW v nx kp qt se op sn c ) (ay (ax (ab (ao bV) (ab (ao aJ) (ab (ao aJ) al))) (ag (aH (ae av (ae av (ae av (ae av (ae aC (ae aC (ae aC aG)))))))) (ag aB (ag aB (ag aB (ag (aH (cS aG)) ak))))) fun (_,_,_,_) ((v,nx,kp,qt,_,_,_,_),se,op,sn,(c,_),_) _=>ox v nx kp qt se op sn c ) (ay (ax (ab (ao aJ) (ab (ao aJ) al)) (ag (aH (ae av (ae av (ae av (ae av (ae aC (ae aC (ae aC aG)))))))) (ag aB (ag aB (ag aB (ag (aH (cS aG)) ak))))) fun (_,_,_) ((v,nx,kp,qt,_,_,_,_),se,op,sn,(c,_),_) hp=>DZ v nx kp qt se op sn c (eI hp)) (ay (ax (ab (ao aJ) (ab (ao aJ) al)) (ag (aH (ae av (ae av (ae av (ae av (ae aC (ae aC (ae aC aG)))))))) (ag aB (ag aB (ag aB (ag (aH (cS aG)) ak))))) fun (_,_,_) ((v,nx,kp,qt,_,_,_,_),se,op,sn,(c,_),_) hp=>EH v nx kp qt se op sn c (eI hp) (eI (ny hp)) (eI (ny (ny hp))) (eI (ny (ny (ny hp))))) (ay (ax (ab (ao aJ) (ab (ao aJ) al)) (ag (aH (ae av (ae av (ae av (ae av (ae aC (ae aC (ae aC aG)))))))) (ag aB (ag aB (ag aB (ag (aH (cS aG)) ak))))) fun (_,_,_) ((v,nx,kp,qt,_,_,_,_),se,op,sn,(c,_),_) hp=>Fh v nx kp qt se op sn c (eI hp)) dI)))))))
end Go.Proofs.YtdggohppeeaipaaGreat
namespace Go.Proofs.YtdggohppeeaipaaGreat
open Go.RowKit
theorem EM (b:Bool) (v:Int) (nx:Int) (kp:Int) (qt:Int) (se:List Sess) (op:List Opn) (sn:List Snap) (c:Command) (r0:Int) (r1:Int) (r2:Int) (r3:Int) (r4:List Sess) (r5:List Opn) (r6:List Snap) (r7:Command) (r8:Bool):sq aF lB [] Tryz.f44 [.c (.bool (.atom (b))),.c (.ptr 0 0),.c (.ptr 1 0)] [.box 67 ([.fn 41 [] [(1,0),(5,0)]]),.box 26 ([.int (v),.int (nx),.int (kp),.int (qt),.own 2,.own 3,.own 4]),.row 44 (.nm .sess) (se),.row 77 (.nm .opn) (op),.row 59 (.nm .snap) (sn),.box 29 (cellsOf (.nm .command) (c))] [.c (.fn 42 [] [(1,0),(5,0),(7,0)])] [.box 67 ([.fn 41 [] [(1,0),(5,0)]]),.box 26 ([.int (r0),.int (r1),.int (r2),.int (r3),.own 2,.own 3,.own 4]),.row 44 (.nm .sess) (r4),.row 77 (.nm .opn) (r5),.row 59 (.nm .snap) (r6),.box 29 (cellsOf (.nm .command) (r7)),.box 4 ([.bool (.atom (r8))]),.box 65 ([.fn 45 [] [(1,0),(6,0)]])]=(v=r0/\nx=r1/\kp=r2/\qt=r3/\se=r4/\op=r5/\sn=r6/\c.kind=r7.kind/\c.client=r7.client/\c.seq=r7.seq/\c.set=r7.set/\c.id=r7.id/\c.n=r7.n/\c.chunks=r7.chunks/\c.text=r7.text/\b=r8):=by kernel_rfl
theorem EJ (b:Bool) (v:Int) (nx:Int) (kp:Int) (qt:Int) (se:List Sess) (op:List Opn) (sn:List Snap) (c:Command):Sat Tryz.prog (aq aF) 44 [.c (.bool (.atom (b))),.c (.ptr 0 0),.c (.ptr 1 0)] [.box 67 ([.fn 41 [] [(1,0),(5,0)]]),.box 26 ([.int (v),.int (nx),.int (kp),.int (qt),.own 2,.own 3,.own 4]),.row 44 (.nm .sess) (se),.row 77 (.nm .opn) (op),.row 59 (.nm .snap) (sn),.box 29 (cellsOf (.nm .command) (c))] ⟨[],[.c (.fn 42 [] [(1,0),(5,0),(7,0)])],some ([.box 67 ([.fn 41 [] [(1,0),(5,0)]]),.box 26 ([.int ((v)),.int ((nx)),.int ((kp)),.int ((qt)),.own 2,.own 3,.own 4]),.row 44 (.nm .sess) ((se)),.row 77 (.nm .opn) ((op)),.row 59 (.nm .snap) ((sn)),.box 29 (cellsOf (.nm .command) ((c))),.box 4 ([.bool (.atom ((b)))]),.box 65 ([.fn 45 [] [(1,0),(6,0)]])]),true⟩:=by
 refine ew eR [] Tryz.func44 (by decide) (by kernel_rfl) ?_
 rw [EM]
 (repeat' (first | with_reducible refine And.intro ?_ ?_ | with_reducible refine and_imp.2 ?_ | intro))
 all_goals (first | (first | with_reducible rfl | with_reducible assumption | omega | (refine aj ?_ ?_ <;> omega)) | exact rfl)
theorem tf (v:Int) (nx:Int) (kp:Int) (qt:Int) (se:List Sess) (op:List Opn) (sn:List Snap) (c:Command) (r0:Reply) (r1:Int) (r2:Int) (r3:Int) (r4:Int) (r5:List Sess) (r6:List Opn) (r7:List Snap) (r8:Command):nb aF lB [] Tryz.f42 [.c (.ptr 0 0),.c (.ptr 4 0),.c (.ptr 5 0)] [.box 26 ([.int (v),.int (nx),.int (kp),.int (qt),.own 1,.own 2,.own 3]),.row 44 (.nm .sess) (se),.row 77 (.nm .opn) (op),.row 59 (.nm .snap) (sn),.box 29 (cellsOf (.nm .command) (c)),.box 65 ([.fn 55 [] [(0,0)]])] [.agg (cellsOf (.nm .reply) r0)] [.box 26 ([.int (r1),.int (r2),.int (r3),.int (r4),.own 1,.own 2,.own 3]),.row 44 (.nm .sess) (r5),.row 77 (.nm .opn) (r6),.row 59 (.nm .snap) (r7),.box 29 (cellsOf (.nm .command) (r8)),.box 65 ([.fn 55 [] [(0,0)]])]=((fun (q2:Int)=>(fun (q1:Prop)=>(fun (q0:State × Reply)=>I64 q2->(q2<(0:Int)->I64 (15:Int)->I64 (0:Int)->(15:Int)=r0.code/\(0:Int)=r0.n/\v=r1/\nx=r2/\kp=r3/\qt=r4/\se=r5/\op=r6/\sn=r7/\q1)/\((0:Int)<=q2->((0:Int)<=q2/\q2<(↑sn.length:Int))/\nch sn<=(1048576:Nat)/\(I64 q0.snd.code->I64 q0.snd.n->q0.snd.code=r0.code/\q0.snd.n=r0.n/\q0.fst.version=r1/\q0.fst.next=r2/\q0.fst.keep=r3/\q0.fst.quota=r4/\q0.fst.sess=r5/\q0.fst.opens=r6/\q0.fst.snaps=r7/\q1))) (aL (State.mk v nx kp qt se op sn) q2.toNat)) (c.kind=r8.kind/\c.client=r8.client/\c.seq=r8.seq/\c.set=r8.set/\c.id=r8.id/\c.n=r8.n/\c.chunks=r8.chunks/\c.text=r8.text)) (au Snap.id c.id sn)):=by kernel_rfl
theorem sA (v:Int) (nx:Int) (kp:Int) (qt:Int) (se:List Sess) (op:List Opn) (sn:List Snap) (c:Command) (h0:nch sn<=1048576):Sat Tryz.prog (aq aF) 42 [.c (.ptr 0 0),.c (.ptr 4 0),.c (.ptr 5 0)] [.box 26 ([.int (v),.int (nx),.int (kp),.int (qt),.own 1,.own 2,.own 3]),.row 44 (.nm .sess) (se),.row 77 (.nm .opn) (op),.row 59 (.nm .snap) (sn),.box 29 (cellsOf (.nm .command) (c)),.box 65 ([.fn 55 [] [(0,0)]])] ⟨[nch sn<=1048576],[.agg (cellsOf (.nm .reply) ((aA aL c (State.mk v nx kp qt se op sn)).2))],some ([.box 26 ([.int ((((aA aL c (State.mk v nx kp qt se op sn)).1).version)),.int ((((aA aL c (State.mk v nx kp qt se op sn)).1).next)),.int ((((aA aL c (State.mk v nx kp qt se op sn)).1).keep)),.int ((((aA aL c (State.mk v nx kp qt se op sn)).1).quota)),.own 1,.own 2,.own 3]),.row 44 (.nm .sess) ((((aA aL c (State.mk v nx kp qt se op sn)).1).sess)),.row 77 (.nm .opn) ((((aA aL c (State.mk v nx kp qt se op sn)).1).opens)),.row 59 (.nm .snap) ((((aA aL c (State.mk v nx kp qt se op sn)).1).snaps)),.box 29 (cellsOf (.nm .command) ((c))),.box 65 ([.fn 55 [] [(0,0)]])]),false⟩:=by
 refine dm eR [] Tryz.func42 (by decide) (by kernel_rfl) ?_
 rw [tf]
 (repeat' (first | with_reducible refine And.intro ?_ ?_ | with_reducible refine and_imp.2 ?_ | intro))
 all_goals (first | (first | with_reducible rfl | with_reducible assumption | omega | (refine aj ?_ ?_ <;> omega)) | exact bY (by with_reducible assumption) | (rw [Hj] <;> first | rfl | omega) | (rw [Ho] <;> first | rfl | omega))
theorem vo (v:Int) (nx:Int) (kp:Int) (qt:Int) (se:List Sess) (op:List Opn) (sn:List Snap) (c:Command) (r0:Reply) (r1:Int) (r2:Int) (r3:Int) (r4:Int) (r5:List Sess) (r6:List Opn) (r7:List Snap) (r8:Command):nb aF lB [] Tryz.f42 [.c (.ptr 0 0),.c (.ptr 4 0),.c (.ptr 5 0)] [.box 26 ([.int (v),.int (nx),.int (kp),.int (qt),.own 1,.own 2,.own 3]),.row 44 (.nm .sess) (se),.row 77 (.nm .opn) (op),.row 59 (.nm .snap) (sn),.box 29 (cellsOf (.nm .command) (c)),.box 65 ([.fn 57 [] [(0,0)]])] [.agg (cellsOf (.nm .reply) r0)] [.box 26 ([.int (r1),.int (r2),.int (r3),.int (r4),.own 1,.own 2,.own 3]),.row 44 (.nm .sess) (r5),.row 77 (.nm .opn) (r6),.row 59 (.nm .snap) (r7),.box 29 (cellsOf (.nm .command) (r8)),.box 65 ([.fn 57 [] [(0,0)]])]=((fun (q2:Int)=>(fun (q1:Prop)=>(fun (q0:State × Reply)=>I64 q2->(q2<(0:Int)->I64 (15:Int)->I64 (0:Int)->(15:Int)=r0.code/\(0:Int)=r0.n/\v=r1/\nx=r2/\kp=r3/\qt=r4/\se=r5/\op=r6/\sn=r7/\q1)/\((0:Int)<=q2->((0:Int)<=q2/\q2<(↑sn.length:Int))/\(I64 q0.snd.code->I64 q0.snd.n->q0.snd.code=r0.code/\q0.snd.n=r0.n/\q0.fst.version=r1/\q0.fst.next=r2/\q0.fst.keep=r3/\q0.fst.quota=r4/\q0.fst.sess=r5/\q0.fst.opens=r6/\q0.fst.snaps=r7/\q1))) (bj (State.mk v nx kp qt se op sn) q2.toNat)) (c.kind=r8.kind/\c.client=r8.client/\c.seq=r8.seq/\c.set=r8.set/\c.id=r8.id/\c.n=r8.n/\c.chunks=r8.chunks/\c.text=r8.text)) (au Snap.id c.id sn)):=by kernel_rfl
theorem wP (v:Int) (nx:Int) (kp:Int) (qt:Int) (se:List Sess) (op:List Opn) (sn:List Snap) (c:Command):Sat Tryz.prog (aq aF) 42 [.c (.ptr 0 0),.c (.ptr 4 0),.c (.ptr 5 0)] [.box 26 ([.int (v),.int (nx),.int (kp),.int (qt),.own 1,.own 2,.own 3]),.row 44 (.nm .sess) (se),.row 77 (.nm .opn) (op),.row 59 (.nm .snap) (sn),.box 29 (cellsOf (.nm .command) (c)),.box 65 ([.fn 57 [] [(0,0)]])] ⟨[],[.agg (cellsOf (.nm .reply) ((aA bj c (State.mk v nx kp qt se op sn)).2))],some ([.box 26 ([.int ((((aA bj c (State.mk v nx kp qt se op sn)).1).version)),.int ((((aA bj c (State.mk v nx kp qt se op sn)).1).next)),.int ((((aA bj c (State.mk v nx kp qt se op sn)).1).keep)),.int ((((aA bj c (State.mk v nx kp qt se op sn)).1).quota)),.own 1,.own 2,.own 3]),.row 44 (.nm .sess) ((((aA bj c (State.mk v nx kp qt se op sn)).1).sess)),.row 77 (.nm .opn) ((((aA bj c (State.mk v nx kp qt se op sn)).1).opens)),.row 59 (.nm .snap) ((((aA bj c (State.mk v nx kp qt se op sn)).1).snaps)),.box 29 (cellsOf (.nm .command) ((c))),.box 65 ([.fn 57 [] [(0,0)]])]),false⟩:=by
 refine dm eR [] Tryz.func42 (by decide) (by kernel_rfl) ?_
 rw [vo]
 (repeat' (first | with_reducible refine And.intro ?_ ?_ | with_reducible refine and_imp.2 ?_ | intro))
 all_goals (first | (first | with_reducible rfl | with_reducible assumption | omega | (refine aj ?_ ?_ <;> omega)) | exact bY (by with_reducible assumption) | (rw [Hj] <;> first | rfl | omega) | (rw [Ho] <;> first | rfl | omega))
theorem Aj (v:Int) (nx:Int) (kp:Int) (qt:Int) (se:List Sess) (op:List Opn) (sn:List Snap) (c:Command) (r0:Reply) (r1:Int) (r2:Int) (r3:Int) (r4:Int) (r5:List Sess) (r6:List Opn) (r7:List Snap) (r8:Command):nb aF lB [] Tryz.f42 [.c (.ptr 0 0),.c (.ptr 4 0),.c (.ptr 5 0)] [.box 26 ([.int (v),.int (nx),.int (kp),.int (qt),.own 1,.own 2,.own 3]),.row 44 (.nm .sess) (se),.row 77 (.nm .opn) (op),.row 59 (.nm .snap) (sn),.box 29 (cellsOf (.nm .command) (c)),.box 65 ([.fn 58 [] [(4,0),(0,0)]])] [.agg (cellsOf (.nm .reply) r0)] [.box 26 ([.int (r1),.int (r2),.int (r3),.int (r4),.own 1,.own 2,.own 3]),.row 44 (.nm .sess) (r5),.row 77 (.nm .opn) (r6),.row 59 (.nm .snap) (r7),.box 29 (cellsOf (.nm .command) (r8)),.box 65 ([.fn 58 [] [(4,0),(0,0)]])]=((fun (q2:Int)=>(fun (q1:Prop)=>(fun (q0:State × Reply)=>I64 q2->(q2<(0:Int)->I64 (15:Int)->I64 (0:Int)->(15:Int)=r0.code/\(0:Int)=r0.n/\v=r1/\nx=r2/\kp=r3/\qt=r4/\se=r5/\op=r6/\sn=r7/\q1)/\((0:Int)<=q2->((0:Int)<=q2/\q2<(↑sn.length:Int))/\(I64 q0.snd.code->I64 q0.snd.n->q0.snd.code=r0.code/\q0.snd.n=r0.n/\q0.fst.version=r1/\q0.fst.next=r2/\q0.fst.keep=r3/\q0.fst.quota=r4/\q0.fst.sess=r5/\q0.fst.opens=r6/\q0.fst.snaps=r7/\q1))) (cG c (State.mk v nx kp qt se op sn) q2.toNat)) (c.kind=r8.kind/\c.client=r8.client/\c.seq=r8.seq/\c.set=r8.set/\c.id=r8.id/\c.n=r8.n/\c.chunks=r8.chunks/\c.text=r8.text)) (au Snap.id c.id sn)):=by kernel_rfl
theorem xO (v:Int) (nx:Int) (kp:Int) (qt:Int) (se:List Sess) (op:List Opn) (sn:List Snap) (c:Command):Sat Tryz.prog (aq aF) 42 [.c (.ptr 0 0),.c (.ptr 4 0),.c (.ptr 5 0)] [.box 26 ([.int (v),.int (nx),.int (kp),.int (qt),.own 1,.own 2,.own 3]),.row 44 (.nm .sess) (se),.row 77 (.nm .opn) (op),.row 59 (.nm .snap) (sn),.box 29 (cellsOf (.nm .command) (c)),.box 65 ([.fn 58 [] [(4,0),(0,0)]])] ⟨[],[.agg (cellsOf (.nm .reply) ((aA (cG c) c (State.mk v nx kp qt se op sn)).2))],some ([.box 26 ([.int ((((aA (cG c) c (State.mk v nx kp qt se op sn)).1).version)),.int ((((aA (cG c) c (State.mk v nx kp qt se op sn)).1).next)),.int ((((aA (cG c) c (State.mk v nx kp qt se op sn)).1).keep)),.int ((((aA (cG c) c (State.mk v nx kp qt se op sn)).1).quota)),.own 1,.own 2,.own 3]),.row 44 (.nm .sess) ((((aA (cG c) c (State.mk v nx kp qt se op sn)).1).sess)),.row 77 (.nm .opn) ((((aA (cG c) c (State.mk v nx kp qt se op sn)).1).opens)),.row 59 (.nm .snap) ((((aA (cG c) c (State.mk v nx kp qt se op sn)).1).snaps)),.box 29 (cellsOf (.nm .command) ((c))),.box 65 ([.fn 58 [] [(4,0),(0,0)]])]),false⟩:=by
 refine dm eR [] Tryz.func42 (by decide) (by kernel_rfl) ?_
 rw [Aj]
 (repeat' (first | with_reducible refine And.intro ?_ ?_ | with_reducible refine and_imp.2 ?_ | intro))
 all_goals (first | (first | with_reducible rfl | with_reducible assumption | omega | (refine aj ?_ ?_ <;> omega)) | exact bY (by with_reducible assumption) | (rw [Hj] <;> first | rfl | omega) | (rw [Ho] <;> first | rfl | omega))
theorem vW (v:Int) (nx:Int) (kp:Int) (qt:Int) (se:List Sess) (op:List Opn) (sn:List Snap) (c:Command) (b:Bool) (r0:Reply) (r1:Int) (r2:Int) (r3:Int) (r4:Int) (r5:List Sess) (r6:List Opn) (r7:List Snap) (r8:Command) (r9:Bool):nb aF lB [] Tryz.f42 [.c (.ptr 0 0),.c (.ptr 4 0),.c (.ptr 5 0)] [.box 26 ([.int (v),.int (nx),.int (kp),.int (qt),.own 1,.own 2,.own 3]),.row 44 (.nm .sess) (se),.row 77 (.nm .opn) (op),.row 59 (.nm .snap) (sn),.box 29 (cellsOf (.nm .command) (c)),.box 65 ([.fn 45 [] [(0,0),(6,0)]]),.box 4 ([.bool (.atom (b))])] [.agg (cellsOf (.nm .reply) r0)] [.box 26 ([.int (r1),.int (r2),.int (r3),.int (r4),.own 1,.own 2,.own 3]),.row 44 (.nm .sess) (r5),.row 77 (.nm .opn) (r6),.row 59 (.nm .snap) (r7),.box 29 (cellsOf (.nm .command) (r8)),.box 65 ([.fn 45 [] [(0,0),(6,0)]]),.box 4 ([.bool (.atom (r9))])]=((fun (q2:Int)=>(fun (q1:Prop)=>(fun (q0:State × Reply)=>I64 q2->(q2<(0:Int)->I64 (15:Int)->I64 (0:Int)->(15:Int)=r0.code/\(0:Int)=r0.n/\v=r1/\nx=r2/\kp=r3/\qt=r4/\se=r5/\op=r6/\sn=r7/\q1)/\((0:Int)<=q2->((0:Int)<=q2/\q2<(↑sn.length:Int))/\(I64 q0.snd.code->I64 q0.snd.n->q0.snd.code=r0.code/\q0.snd.n=r0.n/\q0.fst.version=r1/\q0.fst.next=r2/\q0.fst.keep=r3/\q0.fst.quota=r4/\q0.fst.sess=r5/\q0.fst.opens=r6/\q0.fst.snaps=r7/\q1))) (bt b (State.mk v nx kp qt se op sn) q2.toNat)) (c.kind=r8.kind/\c.client=r8.client/\c.seq=r8.seq/\c.set=r8.set/\c.id=r8.id/\c.n=r8.n/\c.chunks=r8.chunks/\c.text=r8.text/\b=r9)) (au Snap.id c.id sn)):=by kernel_rfl
theorem wC (v:Int) (nx:Int) (kp:Int) (qt:Int) (se:List Sess) (op:List Opn) (sn:List Snap) (c:Command) (b:Bool):Sat Tryz.prog (aq aF) 42 [.c (.ptr 0 0),.c (.ptr 4 0),.c (.ptr 5 0)] [.box 26 ([.int (v),.int (nx),.int (kp),.int (qt),.own 1,.own 2,.own 3]),.row 44 (.nm .sess) (se),.row 77 (.nm .opn) (op),.row 59 (.nm .snap) (sn),.box 29 (cellsOf (.nm .command) (c)),.box 65 ([.fn 45 [] [(0,0),(6,0)]]),.box 4 ([.bool (.atom (b))])] ⟨[],[.agg (cellsOf (.nm .reply) ((aA (bt b) c (State.mk v nx kp qt se op sn)).2))],some ([.box 26 ([.int ((((aA (bt b) c (State.mk v nx kp qt se op sn)).1).version)),.int ((((aA (bt b) c (State.mk v nx kp qt se op sn)).1).next)),.int ((((aA (bt b) c (State.mk v nx kp qt se op sn)).1).keep)),.int ((((aA (bt b) c (State.mk v nx kp qt se op sn)).1).quota)),.own 1,.own 2,.own 3]),.row 44 (.nm .sess) ((((aA (bt b) c (State.mk v nx kp qt se op sn)).1).sess)),.row 77 (.nm .opn) ((((aA (bt b) c (State.mk v nx kp qt se op sn)).1).opens)),.row 59 (.nm .snap) ((((aA (bt b) c (State.mk v nx kp qt se op sn)).1).snaps)),.box 29 (cellsOf (.nm .command) ((c))),.box 65 ([.fn 45 [] [(0,0),(6,0)]]),.box 4 ([.bool (.atom ((b)))])]),false⟩:=by
 refine dm eR [] Tryz.func42 (by decide) (by kernel_rfl) ?_
 rw [vW]
 (repeat' (first | with_reducible refine And.intro ?_ ?_ | with_reducible refine and_imp.2 ?_ | intro))
 all_goals (first | (first | with_reducible rfl | with_reducible assumption | omega | (refine aj ?_ ?_ <;> omega)) | exact bY (by with_reducible assumption) | (rw [Hj] <;> first | rfl | omega) | (rw [Ho] <;> first | rfl | omega))
def xG:ct:=(bO 42 (bI (ah (kC (bN 0 0)) (ah (kC (bN 4 0)) (ah (kC (bN 5 0)) aO))) (az (bL 26 (ai cI (ai cI (ai cI (ai cI (ai (bd 1) (ai (bd 2) (ai (bd 3) bH)))))))) (az (bf 44 (.nm .sess)) (az (bf 77 (.nm .opn)) (az (bf 59 (.nm .snap)) (az (bL 29 (pA (.nm .command) bH)) (az (bL 65 (ai (kR 45 [] [(0,0),(6,0)]) bH)) (az (bL 4 (ai cB bH)) aP))))))) fun (_,_,_,_) ((v,nx,kp,qt,_,_,_,_),se,op,sn,(c,_),(_,_),(b,_),_)=>⟨[],[.agg (cellsOf (.nm .reply) ((aA (bt b) c (State.mk v nx kp qt se op sn)).2))],some ([.box 26 ([.int ((((aA (bt b) c (State.mk v nx kp qt se op sn)).1).version)),.int ((((aA (bt b) c (State.mk v nx kp qt se op sn)).1).next)),.int ((((aA (bt b) c (State.mk v nx kp qt se op sn)).1).keep)),.int ((((aA (bt b) c (State.mk v nx kp qt se op sn)).1).quota)),.own 1,.own 2,.own 3]),.row 44 (.nm .sess) ((((aA (bt b) c (State.mk v nx kp qt se op sn)).1).sess)),.row 77 (.nm .opn) ((((aA (bt b) c (State.mk v nx kp qt se op sn)).1).opens)),.row 59 (.nm .snap) ((((aA (bt b) c (State.mk v nx kp qt se op sn)).1).snaps)),.box 29 (cellsOf (.nm .command) ((c))),.box 65 ([.fn 45 [] [(0,0),(6,0)]]),.box 4 ([.bool (.atom ((b)))])]),false⟩) (bO 42 (bI (ah (kC (bN 0 0)) (ah (kC (bN 4 0)) (ah (kC (bN 5 0)) aO))) (az (bL 26 (ai cI (ai cI (ai cI (ai cI (ai (bd 1) (ai (bd 2) (ai (bd 3) bH)))))))) (az (bf 44 (.nm .sess)) (az (bf 77 (.nm .opn)) (az (bf 59 (.nm .snap)) (az (bL 29 (pA (.nm .command) bH)) (az (bL 65 (ai (kR 58 [] [(4,0),(0,0)]) bH)) aP)))))) fun (_,_,_,_) ((v,nx,kp,qt,_,_,_,_),se,op,sn,(c,_),(_,_),_)=>⟨[],[.agg (cellsOf (.nm .reply) ((aA (cG c) c (State.mk v nx kp qt se op sn)).2))],some ([.box 26 ([.int ((((aA (cG c) c (State.mk v nx kp qt se op sn)).1).version)),.int ((((aA (cG c) c (State.mk v nx kp qt se op sn)).1).next)),.int ((((aA (cG c) c (State.mk v nx kp qt se op sn)).1).keep)),.int ((((aA (cG c) c (State.mk v nx kp qt se op sn)).1).quota)),.own 1,.own 2,.own 3]),.row 44 (.nm .sess) ((((aA (cG c) c (State.mk v nx kp qt se op sn)).1).sess)),.row 77 (.nm .opn) ((((aA (cG c) c (State.mk v nx kp qt se op sn)).1).opens)),.row 59 (.nm .snap) ((((aA (cG c) c (State.mk v nx kp qt se op sn)).1).snaps)),.box 29 (cellsOf (.nm .command) ((c))),.box 65 ([.fn 58 [] [(4,0),(0,0)]])]),false⟩) (bO 42 (bI (ah (kC (bN 0 0)) (ah (kC (bN 4 0)) (ah (kC (bN 5 0)) aO))) (az (bL 26 (ai cI (ai cI (ai cI (ai cI (ai (bd 1) (ai (bd 2) (ai (bd 3) bH)))))))) (az (bf 44 (.nm .sess)) (az (bf 77 (.nm .opn)) (az (bf 59 (.nm .snap)) (az (bL 29 (pA (.nm .command) bH)) (az (bL 65 (ai (kR 57 [] [(0,0)]) bH)) aP)))))) fun (_,_,_,_) ((v,nx,kp,qt,_,_,_,_),se,op,sn,(c,_),(_,_),_)=>⟨[],[.agg (cellsOf (.nm .reply) ((aA bj c (State.mk v nx kp qt se op sn)).2))],some ([.box 26 ([.int ((((aA bj c (State.mk v nx kp qt se op sn)).1).version)),.int ((((aA bj c (State.mk v nx kp qt se op sn)).1).next)),.int ((((aA bj c (State.mk v nx kp qt se op sn)).1).keep)),.int ((((aA bj c (State.mk v nx kp qt se op sn)).1).quota)),.own 1,.own 2,.own 3]),.row 44 (.nm .sess) ((((aA bj c (State.mk v nx kp qt se op sn)).1).sess)),.row 77 (.nm .opn) ((((aA bj c (State.mk v nx kp qt se op sn)).1).opens)),.row 59 (.nm .snap) ((((aA bj c (State.mk v nx kp qt se op sn)).1).snaps)),.box 29 (cellsOf (.nm .command) ((c))),.box 65 ([.fn 57 [] [(0,0)]])]),false⟩) (bO 42 (bI (ah (kC (bN 0 0)) (ah (kC (bN 4 0)) (ah (kC (bN 5 0)) aO))) (az (bL 26 (ai cI (ai cI (ai cI (ai cI (ai (bd 1) (ai (bd 2) (ai (bd 3) bH)))))))) (az (bf 44 (.nm .sess)) (az (bf 77 (.nm .opn)) (az (bf 59 (.nm .snap)) (az (bL 29 (pA (.nm .command) bH)) (az (bL 65 (ai (kR 55 [] [(0,0)]) bH)) aP)))))) fun (_,_,_,_) ((v,nx,kp,qt,_,_,_,_),se,op,sn,(c,_),(_,_),_)=>⟨[nch sn<=1048576],[.agg (cellsOf (.nm .reply) ((aA aL c (State.mk v nx kp qt se op sn)).2))],some ([.box 26 ([.int ((((aA aL c (State.mk v nx kp qt se op sn)).1).version)),.int ((((aA aL c (State.mk v nx kp qt se op sn)).1).next)),.int ((((aA aL c (State.mk v nx kp qt se op sn)).1).keep)),.int ((((aA aL c (State.mk v nx kp qt se op sn)).1).quota)),.own 1,.own 2,.own 3]),.row 44 (.nm .sess) ((((aA aL c (State.mk v nx kp qt se op sn)).1).sess)),.row 77 (.nm .opn) ((((aA aL c (State.mk v nx kp qt se op sn)).1).opens)),.row 59 (.nm .snap) ((((aA aL c (State.mk v nx kp qt se op sn)).1).snaps)),.box 29 (cellsOf (.nm .command) ((c))),.box 65 ([.fn 55 [] [(0,0)]])]),false⟩) (bO 44 (bI (ah (kC cB) (ah (kC (bN 0 0)) (ah (kC (bN 1 0)) aO))) (az (bL 67 (ai (kR 41 [] [(1,0),(5,0)]) bH)) (az (bL 26 (ai cI (ai cI (ai cI (ai cI (ai (bd 2) (ai (bd 3) (ai (bd 4) bH)))))))) (az (bf 44 (.nm .sess)) (az (bf 77 (.nm .opn)) (az (bf 59 (.nm .snap)) (az (bL 29 (pA (.nm .command) bH)) aP)))))) fun (b,_,_,_) ((_,_),(v,nx,kp,qt,_,_,_,_),se,op,sn,(c,_),_)=>⟨[],[.c (.fn 42 [] [(1,0),(5,0),(7,0)])],some ([.box 67 ([.fn 41 [] [(1,0),(5,0)]]),.box 26 ([.int ((v)),.int ((nx)),.int ((kp)),.int ((qt)),.own 2,.own 3,.own 4]),.row 44 (.nm .sess) ((se)),.row 77 (.nm .opn) ((op)),.row 59 (.nm .snap) ((sn)),.box 29 (cellsOf (.nm .command) ((c))),.box 4 ([.bool (.atom ((b)))]),.box 65 ([.fn 45 [] [(1,0),(6,0)]])]),true⟩) lB)))))
theorem pS:aU Tryz.prog (aq aF) xG:=(ay (ax (ab (ao aJ) (ab (ao aJ) (ab (ao aJ) al))) (ag (aH (ae av (ae av (ae av (ae av (ae aC (ae aC (ae aC aG)))))))) (ag aB (ag aB (ag aB (ag (aH (cS aG)) (ag (aH (ae bV aG)) (ag (aH (ae pF aG)) ak))))))) fun (_,_,_,_) ((v,nx,kp,qt,_,_,_,_),se,op,sn,(c,_),(_,_),(b,_),_) _=>wC v nx kp qt se op sn c b ) (ay (ax (ab (ao aJ) (ab (ao aJ) (ab (ao aJ) al))) (ag (aH (ae av (ae av (ae av (ae av (ae aC (ae aC (ae aC aG)))))))) (ag aB (ag aB (ag aB (ag (aH (cS aG)) (ag (aH (ae bV aG)) ak)))))) fun (_,_,_,_) ((v,nx,kp,qt,_,_,_,_),se,op,sn,(c,_),(_,_),_) _=>xO v nx kp qt se op sn c ) (ay (ax (ab (ao aJ) (ab (ao aJ) (ab (ao aJ) al))) (ag (aH (ae av (ae av (ae av (ae av (ae aC (ae aC (ae aC aG)))))))) (ag aB (ag aB (ag aB (ag (aH (cS aG)) (ag (aH (ae bV aG)) ak)))))) fun (_,_,_,_) ((v,nx,kp,qt,_,_,_,_),se,op,sn,(c,_),(_,_),_) _=>wP v nx kp qt se op sn c ) (ay (ax (ab (ao aJ) (ab (ao aJ) (ab (ao aJ) al))) (ag (aH (ae av (ae av (ae av (ae av (ae aC (ae aC (ae aC aG)))))))) (ag aB (ag aB (ag aB (ag (aH (cS aG)) (ag (aH (ae bV aG)) ak)))))) fun (_,_,_,_) ((v,nx,kp,qt,_,_,_,_),se,op,sn,(c,_),(_,_),_) hp=>sA v nx kp qt se op sn c (eI hp)) (ay (ax (ab (ao pF) (ab (ao aJ) (ab (ao aJ) al))) (ag (aH (ae bV aG)) (ag (aH (ae av (ae av (ae av (ae av (ae aC (ae aC (ae aC aG)))))))) (ag aB (ag aB (ag aB (ag (aH (cS aG)) ak)))))) fun (b,_,_,_) ((_,_),(v,nx,kp,qt,_,_,_,_),se,op,sn,(c,_),_) _=>EJ b v nx kp qt se op sn c ) eR)))))
end Go.Proofs.YtdggohppeeaipaaGreat
namespace Go.Proofs.YtdggohppeeaipaaGreat
open Go.RowKit
def cX (s:State) (c:Command):Int:=if mayF s s.version=0 then bZ c s.version else 1
def yY (s:State) (c:Command):State × Reply:=
 if c.kind=11 then aA (cG c) c s
 else if c.kind=10 then aA (bt false) c s
 else if c.kind=9 then aA (bt true) c s
 else if c.kind=7 then aA bj c s
 else if c.kind=5 then aA aL c s
 else if c.kind=12 then cr c s
 else if c.kind=6 then df c s
 else if c.kind=4 then a_ s c
 else if c.kind=3 then aT s c
 else if c.kind=2 then aY s c
 else (s,⟨1,0⟩)
def cC (s:State) (c:Command):State × Reply:=if ¬ cX s c=0 then (s,⟨cX s c,0⟩) else yY s c
theorem pf {α:Type} {key:α->Int} {most:Int}:∀ {l:List α} {a:Int},aw key most a l=true->l=[]\/a+(l.length:Int)<=most
 | [],_,_=>.inl rfl
 | x :: l,a,h=>by
  simp only [aw,Bool.and_eq_true] at h
  have h1:=nO h.1
  rcases pf h.2 with h2 | h2
  ·subst h2; right; simp only [List.length_cons,List.length_nil]; omega
  ·right; simp only [List.length_cons]; omega
theorem bX {s:State} {v:Int} (h:mayF s v=0):ba v 1 3=true/\bR s v=true/\iU s=true/\fO s=true/\cK s v=true:=by
 unfold mayF at h
 split at h
 ·omega
 ·rename_i h1
  split at h
  ·omega
  ·rename_i h2
   simp at h1 h2
   exact ⟨h1,h2.1.1.1,h2.1.1.2,h2.1.2,h2.2⟩
theorem Fo {s:State} {v:Int} (h:mayF s v=0):s.opens.length<=8:=by
 have h1:=(bX h).2.2.2.1
 simp only [fO,Bool.and_eq_true] at h1
 rcases pf h1.1 with h2 | h2
 ·rw [h2]; simp
 ·omega
theorem EG {s:State} {v:Int} (h:mayF s v=0):s.sess.length<=8:=by
 have h1:=(bX h).2.2.1
 simp only [iU,Bool.and_eq_true] at h1
 rcases pf h1.1 with h2 | h2
 ·rw [h2]; simp
 ·omega
theorem sC {s:State} {v:Int} (h:mayF s v=0):s.snaps.length<=16/\aw Snap.id (s.next - 1) 0 s.snaps=true/\∀ x ∈ s.snaps,bl v (eE v) x=true:=by
 have h1:=(bX h).2.2.2.2
 simp only [cK,Bool.and_eq_true,Bool.not_eq_true',Bool.or_eq_false_iff,decide_eq_false_iff_not,Bool.not_eq_false',List.all_eq_true] at h1
 exact ⟨by omega,h1.1.2,h1.2⟩
theorem EX {x:Snap} {v t:Int} (h:bl v t x=true):cq x.chunks=true:=by
 simp only [bl,Bool.and_eq_true,decide_eq_true_eq] at h
 cases hr:cq x.chunks with
 | true=>rfl
 | false=>have:=fk (l:=x.chunks) hr; omega
theorem Aw:∀ {l:List Snap},(∀ x ∈ l,cq x.chunks=true)->nch l<=8*l.length
 | [],_=>Nat.le_refl _
 | x :: l,h=>by
  have h1:=Aw (l:=l) fun y hy=>h y (List.mem_cons_of_mem _ hy)
  have h2:=(uI (h x (List.mem_cons_self))).2
  have e:nch (x :: l)=x.chunks.length+nch l:=by simp [nch]
  rw [e,List.length_cons]; omega
theorem Cb {s:State} {v:Int} (h:mayF s v=0):nch s.snaps<=128:=by
 have h1:=sC h
 have:=Aw (l:=s.snaps) fun x hx=>EX (h1.2.2 x hx)
 omega
theorem EP {s:State} {v:Int} (h:mayF s v=0):1<=s.next/\s.next<=1048576:=by
 have h1:=(bX h).2.1
 simp only [bR,Bool.and_eq_true] at h1
 exact nO h1.1.1.2
theorem tc {s:State} {c:Command} (h:(if mayF s s.version=0 then bZ c s.version else 1)=0):mayF s s.version=0:=by
 split at h
 ·assumption
 ·omega
theorem EW {s:State} {c:Command} (h:(if mayF s s.version=0 then bZ c s.version else 1)=0):nch s.snaps<=1048576:=by have:=Cb (tc h); omega
theorem GW {s:State} {c:Command} (h:(if mayF s s.version=0 then bZ c s.version else 1)=0):s.opens.length<1048576:=by have:=Fo (tc h); omega
theorem uX {s:State} {c:Command} (h:(if mayF s s.version=0 then bZ c s.version else 1)=0):s.sess.length<1048576:=by have:=EG (tc h); omega
theorem GB {s:State} {c:Command} (h:(if mayF s s.version=0 then bZ c s.version else 1)=0):s.snaps.length<1048576:=by have:=(sC (tc h)).1; omega
theorem Gc {s:State} {c:Command} (h:(if mayF s s.version=0 then bZ c s.version else 1)=0):0<=s.next:=by have:=EP (tc h); omega
theorem Gx {s:State} {c:Command} (h:(if mayF s s.version=0 then bZ c s.version else 1)=0):cC s c=yY s c:=by
 have h:cX s c=0:=h
 rw [cC,h]; rfl
theorem Hz {s:State} {c:Command} (h:¬ (if mayF s s.version=0 then bZ c s.version else 1)=0):cC s c=(s,⟨(if mayF s s.version=0 then bZ c s.version else 1),0⟩):=by
 have h:¬ cX s c=0:=h
 rw [cC,if_pos h]; rfl
theorem EK (st:State) (c:Command) (r0:Int) (r1:Int) (r2:Int) (r3:Int) (r4:Reply) (r5:List Sess) (r6:List Opn) (r7:List Snap):sq aF xG [] Tryz.f14 [.agg (cellsOf (.nm .state) st),.agg (cellsOf (.nm .command) c)] [] [.agg ([.int (r0),.int (r1),.int (r2),.int (r3),.own 0,.own 1,.own 2]),.agg (cellsOf (.nm .reply) r4)] [.row 44 (.nm .sess) (r5),.row 77 (.nm .opn) (r6),.row 59 (.nm .snap) (r7)]=((fun (q18:Reply)=>(fun (q17:Int)=>(fun (q16:Int)=>(fun (q15:Prop)=>(fun (q14:Prop)=>(fun (q13:Int)=>(fun (q12:State)=>(fun (q11:Prop)=>(fun (q10:State × Reply)=>(fun (q9:State × Reply)=>(fun (q8:State × Reply)=>(fun (q7:Int)=>(fun (q6:State × Reply)=>(fun (q5:State × Reply)=>(fun (q4:State × Reply)=>(fun (q3:State × Reply)=>(fun (q2:State × Reply)=>(fun (q1:State × Reply)=>(fun (q0:Int)=>I64 q17->I64 st.next->I64 st.keep->I64 st.quota->st.sess.length*(32:Nat)<=(140737488355328:Nat)->st.opens.length*(16:Nat)<=(140737488355328:Nat)->st.snaps.length*(64:Nat)<=(140737488355328:Nat)->I64 q7->I64 c.client->I64 c.seq->I64 c.set->I64 c.id->I64 c.n->c.chunks.length*(8:Nat)<=(140737488355328:Nat)->c.text.b.length<=(140737488355328:Nat)->I64 q17->I64 st.next->I64 st.keep->I64 st.quota->I64 q0->(¬q0=q16->I64 q0->I64 q16->q17=r0/\st.next=r1/\st.keep=r2/\st.quota=r3/\q0=q13/\q11)/\(q0=q16->(q7=(11:Int)->I64 q3.snd.code->I64 q3.snd.n->q3.fst.version=r0/\q3.fst.next=r1/\q3.fst.keep=r2/\q3.fst.quota=r3/\q3.snd.code=q13/\q3.snd.n=r4.n/\q3.fst.sess=r5/\q3.fst.opens=r6/\q3.fst.snaps=r7)/\(¬q7=(11:Int)->(q7=(10:Int)->I64 q1.snd.code->I64 q1.snd.n->q1.fst.version=r0/\q1.fst.next=r1/\q1.fst.keep=r2/\q1.fst.quota=r3/\q1.snd.code=q13/\q1.snd.n=r4.n/\q1.fst.sess=r5/\q1.fst.opens=r6/\q1.fst.snaps=r7)/\(¬q7=(10:Int)->(q7=(9:Int)->I64 q2.snd.code->I64 q2.snd.n->q2.fst.version=r0/\q2.fst.next=r1/\q2.fst.keep=r2/\q2.fst.quota=r3/\q2.snd.code=q13/\q2.snd.n=r4.n/\q2.fst.sess=r5/\q2.fst.opens=r6/\q2.fst.snaps=r7)/\(¬q7=(9:Int)->(q7=(7:Int)->I64 q4.snd.code->I64 q4.snd.n->q4.fst.version=r0/\q4.fst.next=r1/\q4.fst.keep=r2/\q4.fst.quota=r3/\q4.snd.code=q13/\q4.snd.n=r4.n/\q4.fst.sess=r5/\q4.fst.opens=r6/\q4.fst.snaps=r7)/\(¬q7=(7:Int)->(q7=(5:Int)->q15/\(I64 q5.snd.code->I64 q5.snd.n->q5.fst.version=r0/\q5.fst.next=r1/\q5.fst.keep=r2/\q5.fst.quota=r3/\q5.snd.code=q13/\q5.snd.n=r4.n/\q5.fst.sess=r5/\q5.fst.opens=r6/\q5.fst.snaps=r7))/\(¬q7=(5:Int)->(q7=(12:Int)->q15/\(I64 q10.snd.code->I64 q10.snd.n->q10.fst.version=r0/\q10.fst.next=r1/\q10.fst.keep=r2/\q10.fst.quota=r3/\q10.snd.code=q13/\q10.snd.n=r4.n/\q10.fst.sess=r5/\q10.fst.opens=r6/\q10.fst.snaps=r7))/\(¬q7=(12:Int)->(q7=(6:Int)->I64 q18.code->I64 q18.n->q12.version=r0/\q12.next=r1/\q12.keep=r2/\q12.quota=r3/\q18.code=q13/\q18.n=r4.n/\q12.sess=r5/\q12.opens=r6/\q12.snaps=r7)/\(¬q7=(6:Int)->(q7=(4:Int)->q14/\(I64 q8.snd.code->I64 q8.snd.n->q8.fst.version=r0/\q8.fst.next=r1/\q8.fst.keep=r2/\q8.fst.quota=r3/\q8.snd.code=q13/\q8.snd.n=r4.n/\q8.fst.sess=r5/\q8.fst.opens=r6/\q8.fst.snaps=r7))/\(¬q7=(4:Int)->(q7=(3:Int)->q15/\st.snaps.length<(1048576:Nat)/\q14/\q16<=st.next/\(I64 q6.snd.code->I64 q6.snd.n->q6.fst.version=r0/\q6.fst.next=r1/\q6.fst.keep=r2/\q6.fst.quota=r3/\q6.snd.code=q13/\q6.snd.n=r4.n/\q6.fst.sess=r5/\q6.fst.opens=r6/\q6.fst.snaps=r7))/\(¬q7=(3:Int)->(q7=(2:Int)->q14/\(I64 q9.snd.code->I64 q9.snd.n->q9.fst.version=r0/\q9.fst.next=r1/\q9.fst.keep=r2/\q9.fst.quota=r3/\q9.snd.code=q13/\q9.snd.n=r4.n/\q9.fst.sess=r5/\q9.fst.opens=r6/\q9.fst.snaps=r7))/\(¬q7=(2:Int)->I64 (1:Int)->I64 q16->q17=r0/\st.next=r1/\st.keep=r2/\st.quota=r3/\(1:Int)=q13/\q11)))))))))))) (if mayF st q17=q16 then bZ c q17 else (1:Int))) (aA (bt false) c st)) (aA (bt true) c st)) (aA (cG c) c st)) (aA bj c st)) (aA aL c st)) (aT st c)) c.kind) (a_ st c)) (aY st c)) (cr c st)) (q16=r4.n/\st.sess=r5/\st.opens=r6/\st.snaps=r7)) (df c st).fst) r4.code) (st.opens.length<(1048576:Nat))) (nch st.snaps<=(1048576:Nat))) (0:Int)) st.version) (df c st).snd):=by kernel_rfl
theorem Ea (st:State) (c:Command):Sat Tryz.prog (aq aF) 14 [.agg (cellsOf (.nm .state) st),.agg (cellsOf (.nm .command) c)] [] ⟨[],[.agg ([.int (((cC st c).1.version)),.int (((cC st c).1.next)),.int (((cC st c).1.keep)),.int (((cC st c).1.quota)),.own 0,.own 1,.own 2]),.agg (cellsOf (.nm .reply) ((cC st c).2))],some ([.row 44 (.nm .sess) (((cC st c).1.sess)),.row 77 (.nm .opn) (((cC st c).1.opens)),.row 59 (.nm .snap) (((cC st c).1.snaps))]),true⟩:=by
 refine ew pS [] Tryz.func14 (by decide) (by kernel_rfl) ?_
 rw [EK]
 (repeat' (first | with_reducible refine And.intro ?_ ?_ | with_reducible refine and_imp.2 ?_ | intro))
 all_goals (first | (first | with_reducible rfl | with_reducible assumption | omega | (refine aj ?_ ?_ <;> omega)) | exact (EW (by with_reducible assumption)) | exact (GW (by with_reducible assumption)) | exact (uX (by with_reducible assumption)) | exact (GB (by with_reducible assumption)) | exact (Gc (by with_reducible assumption)) | (rw [Hz (by with_reducible assumption)]; done) | (rw [Gx (by with_reducible assumption)]; simp only [yY, *]; done) | (rw [Gx (by with_reducible assumption)]; simp [yY, *]; done))
def zF:ct:=(bO 14 (bI (ah (kT (.nm .state)) (ah (kT (.nm .command)) aO)) aP fun (st,c,_) (_)=>⟨[],[.agg ([.int (((cC st c).1.version)),.int (((cC st c).1.next)),.int (((cC st c).1.keep)),.int (((cC st c).1.quota)),.own 0,.own 1,.own 2]),.agg (cellsOf (.nm .reply) ((cC st c).2))],some ([.row 44 (.nm .sess) (((cC st c).1.sess)),.row 77 (.nm .opn) (((cC st c).1.opens)),.row 59 (.nm .snap) (((cC st c).1.snaps))]),true⟩) xG)
theorem pO:aU Tryz.prog (aq aF) zF:=(ay (ax (ab bM (ab bM al)) ak fun (st,c,_) (_) _=>Ea st c ) pS)
end Go.Proofs.YtdggohppeeaipaaGreat
namespace Go.Proofs.YtdggohppeeaipaaGreat
open Go.RowKit
def br (s:State) (c:Command):State × Reply:=
 if au Sess.client c.client s.sess<0 then (s,⟨11,0⟩)
 else if c.seq=(s.sess.getD (au Sess.client c.client s.sess).toNat (dflt (.nm .sess))).seq then (s,(s.sess.getD (au Sess.client c.client s.sess).toNat (dflt (.nm .sess))).last)
 else if c.seq<(s.sess.getD (au Sess.client c.client s.sess).toNat (dflt (.nm .sess))).seq then (s,⟨13,0⟩)
 else if (s.sess.getD (au Sess.client c.client s.sess).toNat (dflt (.nm .sess))).seq+1<c.seq then (s,⟨14,0⟩)
 else ({ (cC s c).1 with sess:=(cC s c).1.sess.set (au Sess.client c.client s.sess).toNat { (cC s c).1.sess.getD (au Sess.client c.client s.sess).toNat (dflt (.nm .sess)) with seq:=c.seq,last:=(cC s c).2 } },(cC s c).2)
def cQ (s:State) (c:Command):State × Reply:=
 if ¬ cX s c=0 then (s,⟨cX s c,0⟩)
 else if c.kind=8 then (if ¬ c.n=s.version+1 then (s,⟨1,0⟩) else ({ s with version:=c.n },⟨0,c.n⟩))
 else if c.kind=1 then (if 0<=au Sess.client c.client s.sess then (s,⟨12,0⟩) else ({ s with sess:=rS s.sess (s.sess.takeWhile fun y=>decide (y.client<c.client)).length ⟨c.client,0,⟨0,0⟩⟩ },⟨0,0⟩))
 else br s c
theorem AK {Q:State × Reply->Prop} {s:State} {c:Command} (h0:∀ e:Int,¬ e=0->Q (s,⟨e,0⟩))
  (hs:∀ f:State->Nat->State × Reply,cX s c=0->(f=cG c\/(∃ b,f=bt b)\/f=bj\/f=aL)->Q (aA f c s))
  (hq:cX s c=0->Q (cr c s)) (hk:cX s c=0->Q (df c s)) (ha:cX s c=0->Q (a_ s c)) (hc:cX s c=0->Q (aT s c)) (hb:cX s c=0->Q (aY s c)):Q (cC s c):=by
 unfold cC
 split
 ·exact h0 _ (by assumption)
 ·rename_i h
  have h:cX s c=0:=Classical.not_not.1 h
  unfold yY
  split
  ·exact hs _ h (.inl rfl)
  split
  ·exact hs _ h (.inr (.inl ⟨_,rfl⟩))
  split
  ·exact hs _ h (.inr (.inl ⟨_,rfl⟩))
  split
  ·exact hs _ h (.inr (.inr (.inl rfl)))
  split
  ·exact hs _ h (.inr (.inr (.inr rfl)))
  split
  ·exact hq h
  split
  ·exact hk h
  split
  ·exact ha h
  split
  ·exact hc h
  split
  ·exact hb h
  ·exact h0 1 (by decide)
theorem vT {Q:State × Reply->Prop} {f:State->Nat->State × Reply} {s:State} {c:Command} (h0:∀ e:Int,¬ e=0->Q (s,⟨e,0⟩)) (h:∀ n:Nat,(n:Int)=au Snap.id c.id s.snaps->Q (f s n)):Q (aA f c s):=by
 unfold aA
 split
 ·exact h0 15 (by decide)
 ·exact h _ (by omega)
theorem wy {s:State} {c:Command}:(cC s c).1.sess=s.sess:=by
 refine AK (Q:=fun r=>r.1.sess=s.sess) (fun _ _=>rfl) (fun f _ hf=>?_) (fun _=>rfl) (fun _=>rfl) (fun _=>?_) (fun _=>?_) (fun _=>?_)
 ·refine vT (Q:=fun r=>r.1.sess=s.sess) (fun _ _=>rfl) fun n _=>?_
  rcases hf with rfl | ⟨b,rfl⟩ | rfl | rfl
  ·rfl
  ·unfold bt; split <;> rfl
  ·rfl
  ·unfold aL; split; rfl; split <;> rfl
 ·unfold a_; split <;> rfl
 ·unfold aT; split; rfl; split; rfl; split <;> rfl
 ·unfold aY; split <;> rfl
theorem qz {l:List Sess} {k:Nat} {q:Int} {R:Reply} (h:k<l.length):(l.set k (Sess.mk (l.getD k (dflt (.nm .sess))).client q (l.getD k (dflt (.nm .sess))).last)).set k (Sess.mk ((l.set k (Sess.mk (l.getD k (dflt (.nm .sess))).client q (l.getD k (dflt (.nm .sess))).last)).getD k (dflt (.nm .sess))).client ((l.set k (Sess.mk (l.getD k (dflt (.nm .sess))).client q (l.getD k (dflt (.nm .sess))).last)).getD k (dflt (.nm .sess))).seq R)=l.set k { l.getD k (dflt (.nm .sess)) with seq:=q,last:=R }:=by
 have e:∀ x:Sess,(l.set k x).getD k (dflt (.nm .sess))=x:=fun x=>by
  rw [List.getD_eq_getElem?_getD,List.getElem?_set_self h]; rfl
 rw [e,List.set_set]
section
variable {v nx kp qt:Int} {se:List Sess} {op:List Opn} {sn:List Snap} {c:Command}
theorem ID (h:au Sess.client c.client se<0):br (State.mk v nx kp qt se op sn) c=(State.mk v nx kp qt se op sn,⟨11,0⟩):=by
 simp only [br,if_pos h]
theorem IG (h:0<=au Sess.client c.client se) (e:c.seq=(se.getD (au Sess.client c.client se).toNat (dflt (.nm .sess))).seq):br (State.mk v nx kp qt se op sn) c=(State.mk v nx kp qt se op sn,(se.getD (au Sess.client c.client se).toNat (dflt (.nm .sess))).last):=by
 have h1:¬ au Sess.client c.client se<0:=by omega
 simp only [br,if_neg h1,if_pos e]
theorem Iz (h:0<=au Sess.client c.client se) (e:¬ c.seq=(se.getD (au Sess.client c.client se).toNat (dflt (.nm .sess))).seq) (l:c.seq<(se.getD (au Sess.client c.client se).toNat (dflt (.nm .sess))).seq):br (State.mk v nx kp qt se op sn) c=(State.mk v nx kp qt se op sn,⟨13,0⟩):=by
 have h1:¬ au Sess.client c.client se<0:=by omega
 simp only [br,if_neg h1,if_neg e,if_pos l]
theorem IH (h:0<=au Sess.client c.client se) (e:¬ c.seq=(se.getD (au Sess.client c.client se).toNat (dflt (.nm .sess))).seq) (l:(se.getD (au Sess.client c.client se).toNat (dflt (.nm .sess))).seq<=c.seq) (g:(se.getD (au Sess.client c.client se).toNat (dflt (.nm .sess))).seq+1<c.seq):br (State.mk v nx kp qt se op sn) c=(State.mk v nx kp qt se op sn,⟨14,0⟩):=by
 have h1:¬ au Sess.client c.client se<0:=by omega
 have h2:¬ c.seq<(se.getD (au Sess.client c.client se).toNat (dflt (.nm .sess))).seq:=by omega
 simp only [br,if_neg h1,if_neg e,if_neg h2,if_pos g]
theorem IF (h:0<=au Sess.client c.client se) (e:¬ c.seq=(se.getD (au Sess.client c.client se).toNat (dflt (.nm .sess))).seq) (l:(se.getD (au Sess.client c.client se).toNat (dflt (.nm .sess))).seq<=c.seq) (g:c.seq<=(se.getD (au Sess.client c.client se).toNat (dflt (.nm .sess))).seq+1):br (State.mk v nx kp qt se op sn) c=({ (cC (State.mk v nx kp qt se op sn) c).1 with sess:=(cC (State.mk v nx kp qt se op sn) c).1.sess.set (au Sess.client c.client se).toNat { (cC (State.mk v nx kp qt se op sn) c).1.sess.getD (au Sess.client c.client se).toNat (dflt (.nm .sess)) with seq:=c.seq,last:=(cC (State.mk v nx kp qt se op sn) c).2 } },(cC (State.mk v nx kp qt se op sn) c).2):=by
 have h1:¬ au Sess.client c.client se<0:=by omega
 have h2:¬ c.seq<(se.getD (au Sess.client c.client se).toNat (dflt (.nm .sess))).seq:=by omega
 have h3:¬ (se.getD (au Sess.client c.client se).toNat (dflt (.nm .sess))).seq+1<c.seq:=by omega
 simp only [br,if_neg h1,if_neg e,if_neg h2,if_neg h3]
theorem AB (h:0<=au Sess.client c.client se):au Sess.client c.client se<((cC (State.mk v nx kp qt se op sn) c).1.sess.length:Int):=by rw [wy]; exact bY h
theorem pB (h:0<=au Sess.client c.client se):(au Sess.client c.client se).toNat<(cC (State.mk v nx kp qt se op sn) c).1.sess.length:=by have:=AB (v:=v) (nx:=nx) (kp:=kp) (qt:=qt) (op:=op) (sn:=sn) h; omega
theorem FN {x:Sess} (h:0<=au Sess.client c.client se):au Sess.client c.client se<(((cC (State.mk v nx kp qt se op sn) c).1.sess.set (au Sess.client c.client se).toNat x).length:Int):=by rw [List.length_set]; exact AB h
theorem HM (h:cX (State.mk v nx kp qt se op sn) c=0) (h0:0<=au Sess.client c.client se):I64 ((se.getD (au Sess.client c.client se).toNat (dflt (.nm .sess))).seq+1):=by
 have h1:=(bX (tc h)).2.2.1
 simp only [iU,Bool.and_eq_true,List.all_eq_true] at h1
 have h2:=h1.2 _ (List.mem_of_getElem? (gd (d:=dflt (.nm .sess)) (k:=(au Sess.client c.client se).toNat) (l:=se) (by have:=bY h0; omega)))
 simp only [aN,Bool.and_eq_true] at h2
 have h3:=nO h2.1.1
 constructor <;> omega
end
theorem yq (v:Int) (nx:Int) (kp:Int) (qt:Int) (c:Command) (se:List Sess) (op:List Opn) (sn:List Snap) (r0:Int) (r1:Int) (r2:Int) (r3:Int) (r4:Reply) (r5:List Sess) (r6:List Opn) (r7:List Snap):nb aF zF [] Tryz.f37 [.agg ([.int (v),.int (nx),.int (kp),.int (qt),.own 0,.own 1,.own 2]),.agg (cellsOf (.nm .command) c)] [.row 44 (.nm .sess) (se),.row 77 (.nm .opn) (op),.row 59 (.nm .snap) (sn)] [.agg ([.int (r0),.int (r1),.int (r2),.int (r3),.own 0,.own 1,.own 2]),.agg (cellsOf (.nm .reply) r4)] [.row 44 (.nm .sess) (r5),.row 77 (.nm .opn) (r6),.row 59 (.nm .snap) (r7)]=((fun (q7:Prop)=>(fun (q6:Int)=>(fun (q5:Int)=>(fun (q4:Prop)=>(fun (q3:den (Sh.nm NT.sess))=>(fun (q2:State × Reply)=>(fun (q1:Int)=>(fun (q0:den (Sh.nm NT.sess))=>I64 v->I64 nx->I64 kp->I64 qt->I64 c.kind->I64 c.client->I64 q6->I64 c.set->I64 c.id->I64 c.n->c.chunks.length*(8:Nat)<=(140737488355328:Nat)->c.text.b.length<=(140737488355328:Nat)->I64 q1->(q1<q5->I64 (11:Int)->I64 q5->v=r0/\nx=r1/\kp=r2/\qt=r3/\(11:Int)=r4.code/\q4)/\(q5<=q1->q5<=q1/\q1<(↑se.length:Int)/\(I64 (se.getD q1.toNat q3).client->I64 (se.getD q1.toNat q3).seq->I64 (se.getD q1.toNat q3).last.code->I64 (se.getD q1.toNat q3).last.n->(q6=(se.getD q1.toNat q3).seq->v=r0/\nx=r1/\kp=r2/\qt=r3/\(se.getD q1.toNat q3).last.code=r4.code/\(se.getD q1.toNat q3).last.n=r4.n/\q7)/\(¬q6=(se.getD q1.toNat q3).seq->(q6<(se.getD q1.toNat q3).seq->I64 (13:Int)->I64 q5->v=r0/\nx=r1/\kp=r2/\qt=r3/\(13:Int)=r4.code/\q4)/\((se.getD q1.toNat q3).seq<=q6->I64 ((se.getD q1.toNat q3).seq+(1:Int))/\((se.getD q1.toNat q3).seq+(1:Int)<q6->I64 (14:Int)->I64 q5->v=r0/\nx=r1/\kp=r2/\qt=r3/\(14:Int)=r4.code/\q4)/\(q6<=(se.getD q1.toNat q3).seq+(1:Int)->I64 q2.fst.version->I64 q2.fst.next->I64 q2.fst.keep->I64 q2.fst.quota->I64 q2.snd.code->I64 q2.snd.n->(q5<=q1/\q1<(↑q2.fst.sess.length:Int))/\(I64 q0.client->I64 q0.seq->I64 q0.last.code->I64 q0.last.n->q5<=q1/\q1<(↑(q2.fst.sess.set q1.toNat (Sess.mk q0.client q6 q0.last)).length:Int))/\(I64 q0.client->I64 q0.seq->I64 q0.last.code->I64 q0.last.n->I64 ((q2.fst.sess.set q1.toNat (Sess.mk q0.client q6 q0.last)).getD q1.toNat q3).client->I64 ((q2.fst.sess.set q1.toNat (Sess.mk q0.client q6 q0.last)).getD q1.toNat q3).seq->I64 ((q2.fst.sess.set q1.toNat (Sess.mk q0.client q6 q0.last)).getD q1.toNat q3).last.code->I64 ((q2.fst.sess.set q1.toNat (Sess.mk q0.client q6 q0.last)).getD q1.toNat q3).last.n->q2.fst.version=r0/\q2.fst.next=r1/\q2.fst.keep=r2/\q2.fst.quota=r3/\q2.snd.code=r4.code/\q2.snd.n=r4.n/\(q2.fst.sess.set q1.toNat (Sess.mk q0.client q6 q0.last)).set q1.toNat (Sess.mk ((q2.fst.sess.set q1.toNat (Sess.mk q0.client q6 q0.last)).getD q1.toNat q3).client ((q2.fst.sess.set q1.toNat (Sess.mk q0.client q6 q0.last)).getD q1.toNat q3).seq q2.snd)=r5/\q2.fst.opens=r6/\q2.fst.snaps=r7))))))) (q2.fst.sess.getD q1.toNat q3)) (au Sess.client c.client se)) (cC (State.mk v nx kp qt se op sn) c)) (dflt (Sh.nm NT.sess))) (q5=r4.n/\q7)) (0:Int)) c.seq) (se=r5/\op=r6/\sn=r7)):=by kernel_rfl
theorem Ao (v:Int) (nx:Int) (kp:Int) (qt:Int) (c:Command) (se:List Sess) (op:List Opn) (sn:List Snap) (h0:cX (State.mk v nx kp qt se op sn) c=0):Sat Tryz.prog (aq aF) 37 [.agg ([.int (v),.int (nx),.int (kp),.int (qt),.own 0,.own 1,.own 2]),.agg (cellsOf (.nm .command) c)] [.row 44 (.nm .sess) (se),.row 77 (.nm .opn) (op),.row 59 (.nm .snap) (sn)] ⟨[cX (State.mk v nx kp qt se op sn) c=0],[.agg ([.int (((br (State.mk v nx kp qt se op sn) c).1.version)),.int (((br (State.mk v nx kp qt se op sn) c).1.next)),.int (((br (State.mk v nx kp qt se op sn) c).1.keep)),.int (((br (State.mk v nx kp qt se op sn) c).1.quota)),.own 0,.own 1,.own 2]),.agg (cellsOf (.nm .reply) ((br (State.mk v nx kp qt se op sn) c).2))],some ([.row 44 (.nm .sess) (((br (State.mk v nx kp qt se op sn) c).1.sess)),.row 77 (.nm .opn) (((br (State.mk v nx kp qt se op sn) c).1.opens)),.row 59 (.nm .snap) (((br (State.mk v nx kp qt se op sn) c).1.snaps))]),false⟩:=by
 refine dm pO [] Tryz.func37 (by decide) (by kernel_rfl) ?_
 rw [yq]
 (repeat' (first | with_reducible refine And.intro ?_ ?_ | with_reducible refine and_imp.2 ?_ | intro))
 all_goals (first | (first | with_reducible rfl | with_reducible assumption | omega | (refine aj ?_ ?_ <;> omega)) | exact bY (by with_reducible assumption) | exact AB (by with_reducible assumption) | exact FN (by with_reducible assumption) | exact HM (by with_reducible assumption) (by with_reducible assumption) | (rw [ID] <;> first | rfl | with_reducible assumption | exact qz (pB (by with_reducible assumption))) | (rw [IG] <;> first | rfl | with_reducible assumption | exact qz (pB (by with_reducible assumption))) | (rw [Iz] <;> first | rfl | with_reducible assumption | exact qz (pB (by with_reducible assumption))) | (rw [IH] <;> first | rfl | with_reducible assumption | exact qz (pB (by with_reducible assumption))) | (rw [IF] <;> first | rfl | with_reducible assumption | exact qz (pB (by with_reducible assumption))))
def yc:ct:=(bO 37 (bI (ah (kG (ai cI (ai cI (ai cI (ai cI (ai (bd 0) (ai (bd 1) (ai (bd 2) bH)))))))) (ah (kT (.nm .command)) aO)) (az (bf 44 (.nm .sess)) (az (bf 77 (.nm .opn)) (az (bf 59 (.nm .snap)) aP))) fun ((v,nx,kp,qt,_,_,_,_),c,_) (se,op,sn,_)=>⟨[cX (State.mk v nx kp qt se op sn) c=0],[.agg ([.int (((br (State.mk v nx kp qt se op sn) c).1.version)),.int (((br (State.mk v nx kp qt se op sn) c).1.next)),.int (((br (State.mk v nx kp qt se op sn) c).1.keep)),.int (((br (State.mk v nx kp qt se op sn) c).1.quota)),.own 0,.own 1,.own 2]),.agg (cellsOf (.nm .reply) ((br (State.mk v nx kp qt se op sn) c).2))],some ([.row 44 (.nm .sess) (((br (State.mk v nx kp qt se op sn) c).1.sess)),.row 77 (.nm .opn) (((br (State.mk v nx kp qt se op sn) c).1.opens)),.row 59 (.nm .snap) (((br (State.mk v nx kp qt se op sn) c).1.snaps))]),false⟩) zF)
theorem rG:aU Tryz.prog (aq aF) yc:=(ay (ax (ab (Hc (ae av (ae av (ae av (ae av (ae aC (ae aC (ae aC aG)))))))) (ab bM al)) (ag aB (ag aB (ag aB ak))) fun ((v,nx,kp,qt,_,_,_,_),c,_) (se,op,sn,_) hp=>Ao v nx kp qt c se op sn (eI hp)) pO)
end Go.Proofs.YtdggohppeeaipaaGreat
namespace Go.Proofs.YtdggohppeeaipaaGreat
open Go.RowKit
section
variable {s:State} {c:Command}
theorem DJ (h:(if mayF s s.version=0 then bZ c s.version else 1)=0):cX s c=0:=h
theorem DF (h:(if mayF s s.version=0 then bZ c s.version else 1)=0):I64 (s.version+1):=by
 have h1:=(bX (tc h)).2.1
 simp only [bR,Bool.and_eq_true] at h1
 have:=nO h1.1.1.1
 constructor <;> omega
theorem GD (h:¬ (if mayF s s.version=0 then bZ c s.version else 1)=0):cQ s c=(s,⟨(if mayF s s.version=0 then bZ c s.version else 1),0⟩):=by
 have h:¬ cX s c=0:=h
 rw [cQ,if_pos h]; rfl
theorem GS (h:(if mayF s s.version=0 then bZ c s.version else 1)=0):cQ s c=if c.kind=8 then (if ¬ c.n=s.version+1 then (s,⟨1,0⟩) else ({ s with version:=c.n },⟨0,c.n⟩))
 else if c.kind=1 then (if 0<=au Sess.client c.client s.sess then (s,⟨12,0⟩) else ({ s with sess:=rS s.sess (s.sess.takeWhile fun y=>decide (y.client<c.client)).length ⟨c.client,0,⟨0,0⟩⟩ },⟨0,0⟩))
 else br s c:=by
 have h:¬ ¬ cX s c=0:=fun k=>k h
 rw [cQ,if_neg h]
theorem BQ (h:(if mayF s s.version=0 then bZ c s.version else 1)=0) (k:c.kind=8) (n:¬ c.n=s.version+1):cQ s c=(s,⟨1,0⟩):=by rw [GS h,if_pos k,if_pos n]
theorem Cp (h:(if mayF s s.version=0 then bZ c s.version else 1)=0) (k:c.kind=8) (n:c.n=s.version+1):cQ s c=({ s with version:=c.n },⟨0,c.n⟩):=by rw [GS h,if_pos k,if_neg (fun h=>h n)]
theorem EE (h:(if mayF s s.version=0 then bZ c s.version else 1)=0) (k:c.kind=1) (n:0<=au Sess.client c.client s.sess):cQ s c=(s,⟨12,0⟩):=by rw [GS h,if_neg (by omega),if_pos k,if_pos n]
theorem DT (h:(if mayF s s.version=0 then bZ c s.version else 1)=0) (k:c.kind=1) (n:au Sess.client c.client s.sess<0):cQ s c=({ s with sess:=rS s.sess (s.sess.takeWhile fun y=>decide (y.client<c.client)).length ⟨c.client,0,⟨0,0⟩⟩ },⟨0,0⟩):=by rw [GS h,if_neg (by omega),if_pos k,if_neg (by omega)]
theorem Ie (h:(if mayF s s.version=0 then bZ c s.version else 1)=0) (k:¬ c.kind=8) (n:¬ c.kind=1):cQ s c=br s c:=by rw [GS h,if_neg k,if_neg n]
theorem cz {l:List Sess} {k:Nat} {x:Sess} (hs:k<=l.length) (ha:(l.take k).all (fun y=>decide (y.client<c.client))=true) (hb:(l.length:Int)<=k\/c.client<=(l.getD k (dflt (.nm .sess))).client):l.take k++[x]++l.drop k=rS l (l.takeWhile fun y=>decide (y.client<c.client)).length x:=by
 have:k=(l.takeWhile fun y=>decide (y.client<c.client)).length:=by
  refine ze ha hs ?_
  by_cases hl:(l.length:Int)<=k
  ·exact .inl hl
  ·refine .inr ⟨by omega,_,gd (d:=dflt (.nm .sess)) (by omega),?_⟩
   rcases hb with hb | hb
   ·omega
   ·exact decide_eq_false (by omega)
 rw [<- this]; simp [rS]
theorem zm {l:List Sess} {k:Nat} (ha:(l.take k).all (fun y=>decide (y.client<c.client))=true) (h:(k:Int)<l.length) (hb:(l.getD k (dflt (.nm .sess))).client<c.client):(l.take (k+1)).all (fun y=>decide (y.client<c.client))=true:=by
 rw [aD (gd (d:=dflt (.nm .sess)) h),List.all_append,ha]; simp only [List.all_cons,List.all_nil,decide_eq_true hb]; rfl
end
def GF (st:State) (c:Command):List (Nat × LI):=[(15,{ σ:=Nat,F:=fun k=>([(2,one (.ptr 0 0)),(3,one (.ptr 1 0)),(4,one (.ptr 2 0)),(5,one (.ptr 3 0)),(7,one (.int k))],[.box 26 ([.int ((st.version)),.int ((st.next)),.int ((st.keep)),.int ((st.quota)),.own 4,.own 5,.own 6]),.box 29 (cellsOf (.nm .command) ((c))),.box 26 ([.int ((0)),.int ((0)),.int ((0)),.int ((0)),.em true,.em true,.em true]),.box 35 ([.int ((0)),.int ((0))]),.row 44 (.nm .sess) ((st.sess)),.row 77 (.nm .opn) ((st.opens)),.row 59 (.nm .snap) ((st.snaps))]),J:=fun k=>k<=st.sess.length/\(st.sess.take k).all (fun y=>decide (y.client<c.client))=true,μ:=fun k=>st.sess.length - k })]
theorem FT (st:State) (c:Command) (r0:Int) (r1:Int) (r2:Int) (r3:Int) (r4:Reply) (r5:List Sess) (r6:List Opn) (r7:List Snap):sq aF yc (GF st c) Tryz.f12 [.agg (cellsOf (.nm .state) st),.agg (cellsOf (.nm .command) c)] [] [.agg ([.int (r0),.int (r1),.int (r2),.int (r3),.own 0,.own 1,.own 2]),.agg (cellsOf (.nm .reply) r4)] [.row 44 (.nm .sess) (r5),.row 77 (.nm .opn) (r6),.row 59 (.nm .snap) (r7)]=((fun (q12:Reply)=>(fun (q11:den (Sh.nm NT.sess))=>(fun (q10:Prop)=>(fun (q9:Prop)=>(fun (q8:Prop)=>(fun (q7:Int)=>(fun (q6:Int)=>(fun (q5:Prop)=>(fun (q4:State)=>(fun (q3:Int)=>(fun (q2:List Sess)=>(fun (q1:Int)=>(fun (q0:Prop)=>I64 q3->I64 st.next->I64 st.keep->I64 st.quota->q2.length*(32:Nat)<=(140737488355328:Nat)->st.opens.length*(16:Nat)<=(140737488355328:Nat)->st.snaps.length*(64:Nat)<=(140737488355328:Nat)->I64 c.kind->I64 q7->I64 c.seq->I64 c.set->I64 c.id->I64 c.n->c.chunks.length*(8:Nat)<=(140737488355328:Nat)->c.text.b.length<=(140737488355328:Nat)->I64 q3->I64 st.next->I64 st.keep->I64 st.quota->I64 (if mayF st q3=q1 then bZ c q3 else q6)->(¬(if mayF st q3=q1 then bZ c q3 else q6)=q1->I64 (if mayF st q3=q1 then bZ c q3 else q6)->I64 q1->q3=r0/\q10/\q9/\q8/\(if mayF st q3=q1 then bZ c q3 else q6)=r4.code/\q1=r4.n/\q2=r5/\q5)/\((if mayF st q3=q1 then bZ c q3 else q6)=q1->(c.kind=(8:Int)->I64 (q3+q6)/\(¬c.n=q3+q6->I64 q6->I64 q1->q3=r0/\q10/\q9/\q8/\q6=r4.code/\q1=r4.n/\q2=r5/\q5)/\(c.n=q3+q6->c.n=r0/\q10/\q9/\q8/\q1=r4.code/\c.n=r4.n/\q2=r5/\q5))/\(¬c.kind=(8:Int)->(c.kind=q6->I64 (au Sess.client q7 q2)->(q1<=au Sess.client q7 q2->I64 (12:Int)->I64 q1->q3=r0/\q10/\q9/\q8/\(12:Int)=r4.code/\q1=r4.n/\q2=r5/\q5)/\(au Sess.client q7 q2<q1->∃ (s0:Nat),(fun (q13:Int)=>(q1=(↑s0:Int)/\q0)/\(s0<=q2.length/\((List.take s0 q2).all fun (y:Sess)=>decide (y.client<q7))=true)/\∀ (s:Nat),(fun (q15:Int)=>(fun (q14:den (Sh.nm NT.sess))=>s<=q2.length/\((List.take s q2).all fun (y:Sess)=>decide (y.client<q7))=true->(q15<q13->q1<=q15/\q15<q13)/\((q15<q13->I64 q14.client/\I64 q14.seq/\I64 q14.last.code/\I64 q14.last.n)->(q15<q13/\q14.client<q7->I64 (q15+q6)/\∃ (s':Nat),(q15+q6=(↑s':Int)/\q0)/\(s' <= q2.length/\((List.take s' q2).all fun (y:Sess)=>decide (y.client<q7))=true)/\q2.length - s' < q2.length - s)/\(q13<=q15\/q7<=q14.client->(q1<=q15/\q15<=q13)/\q2.length<(1048576:Nat)/\[Sess.mk q7 q1 (Reply.mk q1 q1)].length=(1:Nat)/\q3=r0/\q10/\q9/\q8/\q1=r4.code/\q1=r4.n/\List.take s q2++[Sess.mk q7 q1 (Reply.mk q1 q1)]++List.drop s q2=r5/\q5))) (q2.getD s q11)) (↑s:Int)) (↑q2.length:Int)))/\(¬c.kind=q6->cX st c=q1/\(I64 q4.version->I64 q4.next->I64 q4.keep->I64 q4.quota->I64 q12.code->I64 q12.n->q4.version=r0/\q4.next=r1/\q4.keep=r2/\q4.quota=r3/\q12.code=r4.code/\q12.n=r4.n/\q4.sess=r5/\q4.opens=r6/\q4.snaps=r7))))) (q3=q3/\st.next=st.next/\st.keep=st.keep/\st.quota=st.quota/\c.kind=c.kind/\q7=q7/\c.seq=c.seq/\c.set=c.set/\c.id=c.id/\c.n=c.n/\c.chunks=c.chunks/\c.text=c.text/\q1=q1/\q1=q1/\q1=q1/\q1=q1/\q1=q1/\q1=q1/\q2=q2/\st.opens=st.opens/\st.snaps=st.snaps)) (0:Int)) st.sess) st.version) (br st c).fst) (st.opens=r6/\st.snaps=r7)) (1:Int)) c.client) (st.quota=r3)) (st.keep=r2)) (st.next=r1)) (dflt (Sh.nm NT.sess))) (br st c).snd):=by kernel_rfl
theorem Gw (st:State) (c:Command):Sat Tryz.prog (aq aF) 12 [.agg (cellsOf (.nm .state) st),.agg (cellsOf (.nm .command) c)] [] ⟨[],[.agg ([.int (((cQ st c).1.version)),.int (((cQ st c).1.next)),.int (((cQ st c).1.keep)),.int (((cQ st c).1.quota)),.own 0,.own 1,.own 2]),.agg (cellsOf (.nm .reply) ((cQ st c).2))],some ([.row 44 (.nm .sess) (((cQ st c).1.sess)),.row 77 (.nm .opn) (((cQ st c).1.opens)),.row 59 (.nm .snap) (((cQ st c).1.snaps))]),true⟩:=by
 refine ew rG (GF st c) Tryz.func12 (by decide) (by kernel_rfl) ?_
 rw [FT]
 (repeat' (first | with_reducible refine And.intro ?_ ?_ | with_reducible refine and_imp.2 ?_ | intro))
 all_goals try (first | (first | with_reducible rfl | with_reducible assumption | omega | (refine aj ?_ ?_ <;> omega)) | exact rfl | exact DJ (by with_reducible assumption) | exact DF (by with_reducible assumption) | exact uX (by with_reducible assumption) | exact zm (by with_reducible assumption) (by with_reducible assumption) (by with_reducible assumption) | (rw [GD] <;> first | rfl | with_reducible assumption | exact cz (by omega) (by with_reducible assumption) (by assumption)) | (rw [BQ] <;> first | rfl | with_reducible assumption | exact cz (by omega) (by with_reducible assumption) (by assumption)) | (rw [Cp] <;> first | rfl | with_reducible assumption | exact cz (by omega) (by with_reducible assumption) (by assumption)) | (rw [EE] <;> first | rfl | with_reducible assumption | exact cz (by omega) (by with_reducible assumption) (by assumption)) | (rw [DT] <;> first | rfl | with_reducible assumption | exact cz (by omega) (by with_reducible assumption) (by assumption)) | (rw [Ie] <;> first | rfl | with_reducible assumption | exact cz (by omega) (by with_reducible assumption) (by assumption)))
 all_goals try (refine ⟨0,?_⟩; (repeat' (first | with_reducible refine And.intro ?_ ?_ | with_reducible refine and_imp.2 ?_ | intro)))
 all_goals try (first | (first | with_reducible rfl | with_reducible assumption | omega | (refine aj ?_ ?_ <;> omega)) | exact rfl | exact DJ (by with_reducible assumption) | exact DF (by with_reducible assumption) | exact uX (by with_reducible assumption) | exact zm (by with_reducible assumption) (by with_reducible assumption) (by with_reducible assumption) | (rw [GD] <;> first | rfl | with_reducible assumption | exact cz (by omega) (by with_reducible assumption) (by assumption)) | (rw [BQ] <;> first | rfl | with_reducible assumption | exact cz (by omega) (by with_reducible assumption) (by assumption)) | (rw [Cp] <;> first | rfl | with_reducible assumption | exact cz (by omega) (by with_reducible assumption) (by assumption)) | (rw [EE] <;> first | rfl | with_reducible assumption | exact cz (by omega) (by with_reducible assumption) (by assumption)) | (rw [DT] <;> first | rfl | with_reducible assumption | exact cz (by omega) (by with_reducible assumption) (by assumption)) | (rw [Ie] <;> first | rfl | with_reducible assumption | exact cz (by omega) (by with_reducible assumption) (by assumption)))
 all_goals try (refine ⟨‹Nat› + 1,?_⟩; (repeat' (first | with_reducible refine And.intro ?_ ?_ | with_reducible refine and_imp.2 ?_ | intro)))
 all_goals (first | (first | with_reducible rfl | with_reducible assumption | omega | (refine aj ?_ ?_ <;> omega)) | exact rfl | exact DJ (by with_reducible assumption) | exact DF (by with_reducible assumption) | exact uX (by with_reducible assumption) | exact zm (by with_reducible assumption) (by with_reducible assumption) (by with_reducible assumption) | (rw [GD] <;> first | rfl | with_reducible assumption | exact cz (by omega) (by with_reducible assumption) (by assumption)) | (rw [BQ] <;> first | rfl | with_reducible assumption | exact cz (by omega) (by with_reducible assumption) (by assumption)) | (rw [Cp] <;> first | rfl | with_reducible assumption | exact cz (by omega) (by with_reducible assumption) (by assumption)) | (rw [EE] <;> first | rfl | with_reducible assumption | exact cz (by omega) (by with_reducible assumption) (by assumption)) | (rw [DT] <;> first | rfl | with_reducible assumption | exact cz (by omega) (by with_reducible assumption) (by assumption)) | (rw [Ie] <;> first | rfl | with_reducible assumption | exact cz (by omega) (by with_reducible assumption) (by assumption)))
def Dq:ct:=(bO 12 (bI (ah (kT (.nm .state)) (ah (kT (.nm .command)) aO)) aP fun (st,c,_) (_)=>⟨[],[.agg ([.int (((cQ st c).1.version)),.int (((cQ st c).1.next)),.int (((cQ st c).1.keep)),.int (((cQ st c).1.quota)),.own 0,.own 1,.own 2]),.agg (cellsOf (.nm .reply) ((cQ st c).2))],some ([.row 44 (.nm .sess) (((cQ st c).1.sess)),.row 77 (.nm .opn) (((cQ st c).1.opens)),.row 59 (.nm .snap) (((cQ st c).1.snaps))]),true⟩) yc)
theorem xj:aU Tryz.prog (aq aF) Dq:=(ay (ax (ab bM (ab bM al)) ak fun (st,c,_) (_) _=>Gw st c ) rG)
end Go.Proofs.YtdggohppeeaipaaGreat
namespace Go.Proofs.YtdggohppeeaipaaGreat
open Go.RowKit
def CT:ct:=Dq
theorem x_:aU Tryz.prog (aq aF) CT:=xj
end Go.Proofs.YtdggohppeeaipaaGreat
namespace Go.Proofs.YtdggohppeeaipaaGreat
open Go.RowKit
def Dj:ct:=CT
theorem yt:aU Tryz.prog (aq aF) Dj:=x_
end Go.Proofs.YtdggohppeeaipaaGreat
namespace Go.Proofs.YtdggohppeeaipaaGreat
open Go.RowKit
section
variable {s:State} {c:Command}
theorem Hx (h0:mayF s s.version=0) (h:¬ bZ c s.version=0):cQ s c=(s,⟨bZ c s.version,0⟩):=by
 have e:(if mayF s s.version=0 then bZ c s.version else 1)=bZ c s.version:=if_pos h0
 have:=GD (s:=s) (c:=c) (by rw [e]; exact h)
 rwa [e] at this
theorem H_ (h:¬ mayF s s.version=0):cQ s c=(s,⟨1,0⟩):=by
 have e:(if mayF s s.version=0 then bZ c s.version else 1)=1:=if_neg h
 have:=GD (s:=s) (c:=c) (by rw [e]; decide)
 rwa [e] at this
theorem FQ (h0:mayF s s.version=0) (h:bZ c s.version=0):(if mayF s s.version=0 then bZ c s.version else 1)=0:=by rw [if_pos h0]; exact h
end
end Go.Proofs.YtdggohppeeaipaaGreat
namespace Go.Proofs.YtdggohppeeaipaaGreat
open Go.RowKit
theorem BH {c:Command} {v:Int} (h:bZ c v=0):(1<=v/\v<=3)/\¬ kb c.kind=0/\kb c.kind<=v/\gz c=true:=by
 unfold bZ at h
 split at h
 ·cases h
 ·rename_i h1
  rw [Bool.or_eq_true,not_or] at h1
  simp only [Bool.not_eq_true',Bool.not_eq_false,decide_eq_true_eq] at h1
  split at h
  ·cases h
  ·split at h
   ·cases h
   ·rename_i h2 h3
    exact ⟨nO h1.1,h1.2,by omega,by simpa using h3⟩
theorem EB {s:State} {v:Int} (h1:ba v 1 3=true) (h2:bR s v=true) (h3:iU s=true) (h4:fO s=true) (h5:cK s v=true):mayF s v=0:=by
 unfold mayF; simp [h1,h2,h3,h4,h5]
theorem wx {s:State} {v:Int} (h1:s.snaps.length<=16) (h2:aw Snap.id (s.next - 1) 0 s.snaps=true) (h3:∀ x ∈ s.snaps,bl v (eE v) x=true):cK s v=true:=by
 unfold cK
 rw [h2,decide_eq_false (by omega),List.all_eq_true.2 h3]; rfl
section
variable {α:Type} {key:α->Int} {most:Int}
end
theorem CA {c:Command} (h:gz c=true):(me c.kind).1<=c.n/\c.n<=(me c.kind).2/\HL c=true/\HI c=true/\h_ c.client 8 (!([(8:Int)].contains c.kind))=true/\h_ c.seq 1048576 (!([(1:Int),8].contains c.kind))=true/\h_ c.set 8 ([(2:Int),3,4].contains c.kind)=true:=by
 unfold gz at h
 simp only [Bool.and_eq_true,decide_eq_true_eq] at h
 obtain ⟨⟨⟨⟨⟨⟨⟨h1,h2⟩,h3⟩,h4⟩,h5⟩,h6⟩,h7⟩,h8⟩:=h
 exact ⟨h1,h2,h3,h4,h5,h6,h7⟩
theorem Ga {c:Command} (h:gz c=true):(c.kind=8->2<=c.n/\c.n<=3)/\(c.kind=6->0<=c.n/\c.n<=8)/\(c.kind=12->0<=c.n/\c.n<=64):=by
 obtain ⟨h1,h2,_⟩:=CA h
 refine ⟨fun k=>?_,fun k=>?_,fun k=>?_⟩ <;> (rw [k] at h1 h2; exact ⟨h1,h2⟩)
end Go.Proofs.YtdggohppeeaipaaGreat
namespace Go.Proofs.YtdggohppeeaipaaGreat
open Go.RowKit
theorem D_ {s:State} {v:Int} (a:ba s.version 1 3=true) (b:ba s.next 1 1048576=true) (c:ba s.keep 0 8=true) (d:ba s.quota 0 (if v<3 then 0 else 64)=true):bR s v=true:=by
 unfold bR; rw [a,b,c,d]; rfl
theorem wb {s:State} {v:Int} (h:bR s v=true):ba s.version 1 3=true/\ba s.next 1 1048576=true/\ba s.keep 0 8=true/\ba s.quota 0 (if v<3 then 0 else 64)=true:=by
 unfold bR at h; simp only [Bool.and_eq_true] at h; exact ⟨h.1.1.1,h.1.1.2,h.1.2,h.2⟩
theorem Hk {n a b:Int} (h1:a<=n) (h2:n<=b):ba n a b=true:=by unfold ba; rw [decide_eq_true h1,decide_eq_true h2]; rfl
theorem sf {v t:Int} {x:Snap} (h:bl v t x=true):cR x.chunks=0/\ba x.set 1 8=true/\(x.held=false\/2<=v)/\((x.tag.b.length:Nat):Int)<=t:=by
 simp only [bl,Bool.and_eq_true,decide_eq_true_eq,Bool.or_eq_true,Bool.not_eq_true'] at h
 exact ⟨h.1.1.1,h.1.1.2,h.1.2,h.2⟩
theorem BR {v t:Int} {x:Snap} (h1:cR x.chunks=0) (h2:ba x.set 1 8=true) (h3:x.held=false\/2<=v) (h4:((x.tag.b.length:Nat):Int)<=t):bl v t x=true:=by
 simp only [bl,Bool.and_eq_true,decide_eq_true_eq,Bool.or_eq_true,Bool.not_eq_true']
 exact ⟨⟨⟨h1,h2⟩,h3⟩,h4⟩
structure ActOk (s:State) (r:State × Reply):Prop where
 may:mayF r.1 r.1.version=0
 ver:r.1.version=s.version
 nxt:s.next<=r.1.next/\r.1.next<=s.next+1
 code:0<=r.2.code/\r.2.code<=99
 n:0<=r.2.n/\r.2.n<=1048576
end Go.Proofs.YtdggohppeeaipaaGreat
namespace Go.Proofs.YtdggohppeeaipaaGreat
open Go.RowKit
end Go.Proofs.YtdggohppeeaipaaGreat
namespace Go.Proofs.YtdggohppeeaipaaGreat
open Go.RowKit
section
variable {α:Type} {key:α->Int} {most:Int}
end
structure DoOk (s:State) (c:Command) (r:State × Reply):Prop where
 may:mayF r.1 r.1.version=0
 ver:r.1.version=if c.kind=8/\r.2.code=0 then s.version+1 else s.version
 nxt:s.next<=r.1.next/\r.1.next<=s.next+1
 len:s.sess.length<=r.1.sess.length
 seq:∀ x ∈ s.sess,∃ y ∈ r.1.sess,y.client=x.client/\x.seq<=y.seq/\y.seq<=x.seq+1
end Go.Proofs.YtdggohppeeaipaaGreat
namespace Go.Proofs.YtdggohppeeaipaaGreat
open Go.RowKit
section
variable {s:State} {c:Command}
end
end Go.Proofs.YtdggohppeeaipaaGreat
namespace Go.Proofs.YtdggohppeeaipaaGreat
open Go.RowKit
section
variable {α:Type} {key:α->Int} {most:Int}
end
section
variable {s:State} {x:Snap} {i:Nat}
end
section
variable {s:State} {x:Snap} {i:Nat}
end
section
variable {s:State} {x:Snap} {i:Nat}
end
end Go.Proofs.YtdggohppeeaipaaGreat
namespace Go.Proofs.YtdggohppeeaipaaGreat
open Go.RowKit
def keepsX (s:State) (c:Command) (r:State × Reply) (i:Nat) (x:Snap):Prop:=
 (au Snap.id x.id r.1.snaps<0/\c.kind=5/\c.id=x.id/\x.held=false/\iY s i=false/\r.2.code=0) \/
 (0<=au Snap.id x.id r.1.snaps/\∃ y,r.1.snaps.getD (au Snap.id x.id r.1.snaps).toNat (dflt (.nm .snap))=y/\y.chunks=x.chunks/\y.set=x.set/\(y.held=x.held\/c.kind=9\/c.kind=10)/\(y.tag=x.tag\/c.kind=11))
structure KeepOk (s:State) (c:Command) (r:State × Reply):Prop where
 x:∀ i x,s.snaps[i]? = some x->keepsX s c r i x
 more:r.1.snaps.length<=s.snaps.length\/(r.1.snaps.length=s.snaps.length+1/\c.kind=3/\r.2.code=0/\(r.1.snaps.getD s.snaps.length (dflt (.nm .snap))).id=r.2.n/\(s.quota=0\/(distF r.1.snaps:Int)<=s.quota))
section
variable {s:State} {c:Command} {k:Nat}
end
end Go.Proofs.YtdggohppeeaipaaGreat
namespace Go.Proofs.YtdggohppeeaipaaGreat
open Go.RowKit
section
variable {α:Type} {key:α->Int} {most:Int}
end
section
variable {s:State} {c:Command}
end
end Go.Proofs.YtdggohppeeaipaaGreat
namespace Go.Proofs.YtdggohppeeaipaaGreat
open Go.RowKit
def fy (s:State) (v:Int):State × Int:=if ba v 1 3=false\/¬ mayF s s.version=0 then (⟨0,0,0,0,[],[],[]⟩,1) else if v<s.version then (⟨0,0,0,0,[],[],[]⟩,32) else (State.mk v s.next s.keep s.quota s.sess s.opens s.snaps,0)
def Cn (s:State) (v:Int):State:=State.mk v s.next s.keep s.quota s.sess s.opens s.snaps
theorem Eb {s:State} {v:Int} (M:mayF s s.version=0) (h1:s.version<=v) (h2:v<=3):mayF (Cn s v) v=0:=by
 obtain ⟨k1,k2,k3,k4,k5⟩:=bX M
 obtain ⟨n1,n2,n3,n4⟩:=wb k2
 obtain ⟨s1,s2,s3⟩:=sC M
 have v1:=nO n1
 have hq:=nO n4
 refine EB (Hk (by omega) h2) (D_ (Hk (by show 1<=v; omega) h2) n2 n3 ?_) k3 k4 (wx s1 s2 fun x hx=>?_)
 ·show ba s.quota 0 (if v<3 then 0 else 64)=true
  refine Hk hq.1 ?_
  have:=hq.2
  split at this <;> split <;> omega
 ·obtain ⟨p1,p2,p3,p4⟩:=sf (s3 x hx)
  refine BR p1 p2 (p3.imp id fun h=>by omega) (Int.le_trans p4 ?_)
  unfold eE; split <;> split <;> omega
theorem El {s:State} {v:Int} (M:mayF s s.version=0) (h1:s.version<=v) (h2:v<=3):fy s v=(Cn s v,0):=by
 have v1:=nO (bX M).1
 have h3:ba v 1 3=true:=Hk (by omega) h2
 unfold fy
 rw [if_neg (fun h=>by rcases h with h | h; rw [h3] at h; cases h; exact h M),if_neg (by omega)]; rfl
def iP (n:Int):Command:=Command.mk 8 0 0 0 0 n [] (Str.mk [])
theorem rE {n v:Int} (hn:n=2\/n=3) (hv:1<=v/\v<=3):bZ (iP n) v=0:=by
 have e:v=1\/v=2\/v=3:=by omega
 rcases hn with rfl | rfl <;> rcases e with rfl | rfl | rfl <;> rfl
theorem AA {s:State} (M:mayF s s.version=0) (h:s.version<3):cQ s (iP (s.version+1))=(Cn s (s.version+1),⟨0,s.version+1⟩)/\fy s (s.version+1)=(Cn s (s.version+1),0)/\cQ (Cn s (s.version+1)) (iP (s.version+1))=(Cn s (s.version+1),⟨1,0⟩):=by
 have v1:=nO (bX M).1
 refine ⟨Cp (FQ M (rE (by omega) (by omega))) rfl rfl,El M (by omega) (by omega),?_⟩
 have M2:mayF (Cn s (s.version+1)) (Cn s (s.version+1)).version=0:=Eb M (by omega) (by omega)
 exact BQ (s:=Cn s (s.version+1)) (FQ M2 (rE (by omega) (by show 1<=s.version+1/\s.version+1<=3; omega))) rfl (by show ¬ s.version+1=s.version+1+1; omega)
theorem EV {s:State} {n:Int} (h:¬ mayF s s.version=0\/3<=s.version/\n=s.version+1):¬ (cQ s (iP n)).2.code=0/\¬ (fy s n).2=0/\(cQ s (iP n)).1=s:=by
 by_cases M:mayF s s.version=0
 ·obtain ⟨h1,h2⟩:=h.resolve_left (fun h=>h M)
  have v1:=nO (bX M).1
  have e:s.version=3:=by omega
  have c:¬ bZ (iP n) s.version=0:=by
   intro hc
   have F:=(BH hc).2.2.2
   have:=(Ga F).1 rfl
   rw [h2,e] at this
   have:=this.2
   simp [iP] at this
  rw [Hx M c]
  refine ⟨c,?_,rfl⟩
  unfold fy
  rw [if_pos (.inl (by rw [h2,e]; rfl))]
  decide
 ·rw [H_ M]
  refine ⟨by show ¬ (1:Int)=0; decide,?_,rfl⟩
  unfold fy
  rw [if_pos (.inr M)]
  show ¬ (1:Int)=0; decide
end Go.Proofs.YtdggohppeeaipaaGreat
namespace Go.Proofs.YtdggohppeeaipaaGreat
open Go.RowKit
section
variable {α:Type} {key:α->Int} {x y d:α}
variable {l:List α} {k:Nat}
end
def CX:ct:=Dj
theorem xD:aU Tryz.prog (aq aF) CX:=yt
end Go.Proofs.YtdggohppeeaipaaGreat
namespace Go.Proofs.YtdggohppeeaipaaGreat
open Go.RowKit
section
variable {st:State} {c:Command}
variable {i:Int} {x:Snap}
end
def Dh:ct:=CX
theorem Ak:aU Tryz.prog (aq aF) Dh:=xD
end Go.Proofs.YtdggohppeeaipaaGreat
namespace Go.Proofs.YtdggohppeeaipaaGreat
open Go.RowKit
section
variable {st:State} {c:Command}
end
def De:ct:=Dh
theorem Ai:aU Tryz.prog (aq aF) De:=Ak
end Go.Proofs.YtdggohppeeaipaaGreat
namespace Go.Proofs.YtdggohppeeaipaaGreat
open Go.RowKit
section
variable {st:State} {c:Command}
end
def zp:ct:=De
theorem rl:aU Tryz.prog (aq aF) zp:=Ai
end Go.Proofs.YtdggohppeeaipaaGreat
namespace Go.Proofs.YtdggohppeeaipaaGreat
open Go.RowKit
def nQ (l:List Int):Int:=match l.findIdx? (fun x=>!bc x) with
 | some i=>(i:Int)
 | none=>-1
section
variable {l:List Int} {k:Nat} {x:Int}
theorem mX:nQ l=au (fun x=>if bc x=true then 0 else 1) 1 l:=by
 have e:(fun x=>!bc x)=fun x:Int=>decide ((if bc x=true then (0:Int) else 1)=1):=by
  funext x
  cases bc x <;> rfl
 unfold nQ au; rw [e]; rfl
theorem tn (h:nQ (l.take k) = -1) (hx:l[k]? = some x) (hn:(!bc x)=false):nQ (l.take (k+1)) = -1:=by
 rw [Bool.not_eq_false'] at hn
 rw [mX] at h ⊢
 exact cV h hx (by rw [if_pos hn]; decide)
theorem pd (h:nQ (l.take k) = -1) (hx:l[k]? = some x) (hn:(!bc x)=true):(k:Int)=nQ l:=by
 rw [Bool.not_eq_true'] at hn
 rw [mX] at h ⊢
 exact cw h hx (by rw [hn]; rfl)
theorem si (h:nQ (l.take k) = -1) (hk:l.length<=k):-1=nQ l:=by rw [List.take_of_length_le hk] at h; exact h.symm
theorem BC:decide (0<=nQ l) = !l.all bc:=by
 cases e:l.findIdx? (fun x=>!bc x) with
 | none=>
  have h:=List.findIdx?_eq_none_iff.1 e
  have:l.all bc=true:=List.all_eq_true.2 fun x hx=>by simpa using h x hx
  unfold nQ; rw [e,this]; rfl
 | some i=>
  obtain ⟨hi,hp,_⟩:=List.findIdx?_eq_some_iff_getElem.1 e
  have:l.all bc=false:=by
   rw [List.all_eq_false]
   exact ⟨l[i],List.getElem_mem hi,by simpa using hp⟩
  unfold nQ; rw [e,this]
  show decide (0<=(i:Int))=true
  rw [decide_eq_true_eq]; omega
end
theorem ym (k:Int) (r0:Bool):cN aF zp [] Tryz.f76 [.c (.int (k))] [] [.c (.bool (.atom (r0)))]=(I64 k->(decide ((1:Int)<=k) && decide (k<=(3:Int)))=r0):=by kernel_rfl
theorem zR (k:Int):Sat Tryz.prog (aq aF) 76 [.c (.int (k))] [] ⟨[],[.c (.bool (.atom ((bc k))))],none,false⟩:=by
 refine aR rl [] Tryz.func76 (by decide) (by kernel_rfl) ?_
 rw [ym]
 grind [bc]
def pX:ct:=(bO 76 (bI (ah (kC cI) aO) aP fun (k,_) (_)=>⟨[],[.c (.bool (.atom ((bc k))))],none,false⟩) zp)
theorem hY:aU Tryz.prog (aq aF) pX:=(ay (ax (ab (ao av) al) ak fun (k,_) (_) _=>zR k ) rl)
end Go.Proofs.YtdggohppeeaipaaGreat
namespace Go.Proofs.YtdggohppeeaipaaGreat
open Go.RowKit
section
variable {st:State} {v:Int}
theorem HF (o:bc v=false\/¬ mayF st st.version=0):fy st v=(⟨0,0,0,0,[],[],[]⟩,1):=if_pos o
theorem HQ (k:bc v=true) (m:mayF st st.version=0) (l:v<st.version):fy st v=(⟨0,0,0,0,[],[],[]⟩,32):=(if_neg fun o=>by rcases o with o | o; rw [show ba v 1 3=true from k] at o; cases o; exact o m).trans (if_pos l)
theorem Ig (k:bc v=true) (m:mayF st st.version=0) (l:st.version<=v):fy st v=(State.mk v st.next st.keep st.quota st.sess st.opens st.snaps,0):=(if_neg fun o=>by rcases o with o | o; rw [show ba v 1 3=true from k] at o; cases o; exact o m).trans (if_neg (by omega))
end
theorem wK (a:Int) (b:Int) (r0:Int):cN aF pX [] Tryz.f75 [.c (.int (a)),.c (.int (b))] [] [.c (.int (r0))]=(I64 a->I64 b->(bc a=false\/bc b=false->(1:Int)=r0)/\(bc a=true/\bc b=true->(a<b->(32:Int)=r0)/\(b<=a->(0:Int)=r0))):=by kernel_rfl
theorem wI (a:Int) (b:Int):Sat Tryz.prog (aq aF) 75 [.c (.int (a)),.c (.int (b))] [] ⟨[],[.c (.int ((iu a b)))],none,false⟩:=by
 refine aR hY [] Tryz.func75 (by decide) (by kernel_rfl) ?_
 rw [wK]
 grind [iu,bc]
theorem xI (n:Int) (r0:Bool):cN aF pX [] Tryz.f107 [.c (.int (n))] [] [.c (.bool (.atom (r0)))]=(I64 n->(!bc n)=r0):=by kernel_rfl
theorem w_ (n:Int):Sat Tryz.prog (aq aF) 107 [.c (.int (n))] [] ⟨[],[.c (.bool (.atom ((!bc n))))],none,false⟩:=by
 refine aR hY [] Tryz.func107 (by decide) (by kernel_rfl) ?_
 rw [xI]
 grind
theorem GH (st:State) (v:Int) (r0:Int) (r1:Int) (r2:Int) (r3:Int) (r4:Int) (r5:List Sess) (r6:List Opn) (r7:List Snap):sq aF pX [] Tryz.f24 [.agg (cellsOf (.nm .state) st),.c (.int (v))] [] [.agg ([.int (r0),.int (r1),.int (r2),.int (r3),.own 0,.own 1,.own 2]),.c (.int (r4))] [.row 44 (.nm .sess) (r5),.row 77 (.nm .opn) (r6),.row 59 (.nm .snap) (r7)]=((fun (q2:Prop)=>(fun (q1:Int)=>(fun (q0:Int)=>I64 q1->I64 st.next->I64 st.keep->I64 st.quota->st.sess.length*(32:Nat)<=(140737488355328:Nat)->st.opens.length*(16:Nat)<=(140737488355328:Nat)->st.snaps.length*(64:Nat)<=(140737488355328:Nat)->I64 v->(bc v=true->I64 (mayF st q1))->(bc v=false\/¬mayF st q1=q0->q0=r0/\q0=r1/\q0=r2/\q0=r3/\(1:Int)=r4/\q2)/\(bc v=true/\mayF st q1=q0->(v<q1->q0=r0/\q0=r1/\q0=r2/\q0=r3/\(32:Int)=r4/\q2)/\(q1<=v->I64 q1->I64 st.next->I64 st.keep->I64 st.quota->v=r0/\st.next=r1/\st.keep=r2/\st.quota=r3/\q0=r4/\st.sess=r5/\st.opens=r6/\st.snaps=r7))) (0:Int)) st.version) (r5=[]/\r6=[]/\r7=[])):=by kernel_rfl
theorem G_ (st:State) (v:Int):Sat Tryz.prog (aq aF) 24 [.agg (cellsOf (.nm .state) st),.c (.int (v))] [] ⟨[],[.agg ([.int (((fy st v).1.version)),.int (((fy st v).1.next)),.int (((fy st v).1.keep)),.int (((fy st v).1.quota)),.own 0,.own 1,.own 2]),.c (.int (((fy st v).2)))],some ([.row 44 (.nm .sess) (((fy st v).1.sess)),.row 77 (.nm .opn) (((fy st v).1.opens)),.row 59 (.nm .snap) (((fy st v).1.snaps))]),true⟩:=by
 refine ew hY [] Tryz.func24 (by decide) (by kernel_rfl) ?_
 rw [GH]
 (repeat' (first | with_reducible refine And.intro ?_ ?_ | with_reducible refine and_imp.2 ?_ | intro))
 all_goals (first | (first | with_reducible rfl | with_reducible assumption | omega | (refine aj ?_ ?_ <;> omega)) | (rw [HF (by assumption)]; done) | (rw [HQ (by with_reducible assumption) (by with_reducible assumption) (by with_reducible assumption)]; done) | (rw [Ig (by with_reducible assumption) (by with_reducible assumption) (by with_reducible assumption)]; done))
def uF:ct:=(bO 24 (bI (ah (kT (.nm .state)) (ah (kC cI) aO)) aP fun (st,v,_) (_)=>⟨[],[.agg ([.int (((fy st v).1.version)),.int (((fy st v).1.next)),.int (((fy st v).1.keep)),.int (((fy st v).1.quota)),.own 0,.own 1,.own 2]),.c (.int (((fy st v).2)))],some ([.row 44 (.nm .sess) (((fy st v).1.sess)),.row 77 (.nm .opn) (((fy st v).1.opens)),.row 59 (.nm .snap) (((fy st v).1.snaps))]),true⟩) (bO 107 (bI (ah (kC cI) aO) aP fun (n,_) (_)=>⟨[],[.c (.bool (.atom ((!bc n))))],none,false⟩) (bO 75 (bI (ah (kC cI) (ah (kC cI) aO)) aP fun (a,b,_) (_)=>⟨[],[.c (.int ((iu a b)))],none,false⟩) pX)))
theorem lK:aU Tryz.prog (aq aF) uF:=(ay (ax (ab bM (ab (ao av) al)) ak fun (st,v,_) (_) _=>G_ st v ) (ay (ax (ab (ao av) al) ak fun (n,_) (_) _=>w_ n ) (ay (ax (ab (ao av) (ab (ao av) al)) ak fun (a,b,_) (_) _=>wI a b ) hY)))
end Go.Proofs.YtdggohppeeaipaaGreat
namespace Go.Proofs.YtdggohppeeaipaaGreat
open Go.RowKit
theorem nW {l:List Int} {s:Nat} {x:Int} (hx:l[((s:Int)+1).toNat]? = some x):min (er l (s+1)) x=er l (s+1+1):=sX (by omega) (by rwa [show ((s:Int)+1).toNat=s+1 by omega] at hx)
def ux (l:List Int):List (Nat × LI):=[(2,{ σ:=Nat,F:=fun k=>([(0,one (.fz .int (l))),(1,one (.fn 107 [] [])),(7,one (.int (l).length)),(8,one (.int k))],[]),J:=fun k=>k<=l.length/\nQ (l.take k) = -1,μ:=fun k=>(l).length - k })]
def CW (l:List Int):List (Nat × LI):=[(5,{ σ:=Nat,F:=fun k=>([(0,one (.fz .int (l))),(3,one (.int (er l (k+1)))),(4,one (.int (k+1)))],[]),J:=fun k=>k+1<=l.length,μ:=fun k=>l.length - k })]
theorem Aa (l:List Int) (r0:Int):cN aF uF (ux l) Tryz.f131 [.c (.fz .int (l)),.c (.fn 107 [] [])] [] [.c (.int (r0))]=((fun (q1:Int)=>(fun (q0:Nat)=>l.length*(8:Nat)<=(140737488355328:Nat)->∃ (s0:Nat),(l=l/\(↑l.length:Int)=(↑q0:Int)/\(0:Int)=(↑s0:Int))/\(s0<=q0/\nQ (List.take s0 l) = -q1)/\∀ (s:Nat),s<=q0/\nQ (List.take s l) = -q1->((↑s:Int)<(↑q0:Int)->(0:Int)<=(↑s:Int)/\(↑s:Int)<(↑l.length:Int)/\∀ (x:Int),l[s]? = some x->I64 x->((!bc x)=true->(↑s:Int)=r0)/\((!bc x)=false->I64 ((↑s:Int)+q1)/\∃ (s':Nat),(l=l/\(↑q0:Int)=(↑q0:Int)/\(↑s:Int)+q1=(↑s':Int))/\(s' <= q0/\nQ (List.take s' l) = -q1)/\q0 - s' < q0 - s))/\((↑q0:Int)<=(↑s:Int) -> -q1=r0)) l.length) (1:Int)):=by kernel_rfl
theorem Ay (l:List Int):Sat Tryz.prog (aq aF) 131 [.c (.fz .int (l)),.c (.fn 107 [] [])] [] ⟨[],[.c (.int ((nQ l)))],none,false⟩:=by
 refine aR lK (ux l) Tryz.func131 (by decide) (by kernel_rfl) ?_
 rw [Aa]
 (repeat' (first | with_reducible refine And.intro ?_ ?_ | with_reducible refine and_imp.2 ?_ | intro))
 all_goals try (first | (first | with_reducible rfl | with_reducible assumption | omega | (refine aj ?_ ?_ <;> omega)) | exact rfl | exact (tn (by with_reducible assumption) (by with_reducible assumption) (by with_reducible assumption)) | exact (pd (by with_reducible assumption) (by with_reducible assumption) (by with_reducible assumption)) | exact (si (by with_reducible assumption) (by omega)))
 all_goals try (refine ⟨0,?_⟩; (repeat' (first | with_reducible refine And.intro ?_ ?_ | with_reducible refine and_imp.2 ?_ | intro)))
 all_goals try (first | (first | with_reducible rfl | with_reducible assumption | omega | (refine aj ?_ ?_ <;> omega)) | exact rfl | exact (tn (by with_reducible assumption) (by with_reducible assumption) (by with_reducible assumption)) | exact (pd (by with_reducible assumption) (by with_reducible assumption) (by with_reducible assumption)) | exact (si (by with_reducible assumption) (by omega)))
 all_goals try (refine ⟨‹Nat› + 1,?_⟩; (repeat' (first | with_reducible refine And.intro ?_ ?_ | with_reducible refine and_imp.2 ?_ | intro)))
 all_goals (first | (first | with_reducible rfl | with_reducible assumption | omega | (refine aj ?_ ?_ <;> omega)) | exact rfl | exact (tn (by with_reducible assumption) (by with_reducible assumption) (by with_reducible assumption)) | exact (pd (by with_reducible assumption) (by with_reducible assumption) (by with_reducible assumption)) | exact (si (by with_reducible assumption) (by omega)))
theorem EF (l:List Int) (r0:Int):cN aF uF (CW l) Tryz.f109 [.c (.fz .int (l))] [] [.c (.int (r0))]=((fun (q2:Nat)=>(fun (q1:Int)=>(fun (q0:Int)=>l.length*(8:Nat)<=(140737488355328:Nat)->(q1<q0->False)/\(q0<=q1->(0:Int)<=(0:Int)/\(0:Int)<q1/\∀ (x:Int),l[(0:Nat)]? = some x->I64 x->∃ (s0:Nat),(l=l/\x=er l (s0+q2)/\q0=(↑s0:Int)+q0)/\s0+q2<=l.length/\∀ (s:Nat),(fun (q3:Int)=>s+q2<=l.length->(q3<q1->(0:Int)<=q3/\q3<q1/\∀ (x:Int),l[q3.toNat]? = some x->I64 x->I64 (q3+q0)/\∃ (s':Nat),(l=l/\min (er l (s+q2)) x=er l (s' + q2)/\q3+q0=(↑s':Int)+q0)/\s' + q2<=l.length/\l.length - s' < l.length - s)/\(q1<=q3->er l (s+q2)=r0)) ((↑s:Int)+q0))) (1:Int)) (↑l.length:Int)) (1:Nat)):=by kernel_rfl
theorem DD (l:List Int) (h0:0<l.length):Sat Tryz.prog (aq aF) 109 [.c (.fz .int (l))] [] ⟨[0<l.length],[.c (.int ((qk l)))],none,false⟩:=by
 refine aR lK (CW l) Tryz.func109 (by decide) (by kernel_rfl) ?_
 rw [EF]
 (repeat' (first | with_reducible refine And.intro ?_ ?_ | with_reducible refine and_imp.2 ?_ | intro))
 all_goals try (first | (first | with_reducible rfl | with_reducible assumption | omega | (refine aj ?_ ?_ <;> omega)) | exact (jr (by with_reducible assumption)) | exact (nW (by with_reducible assumption)) | exact (jJ (by omega)))
 all_goals try (refine ⟨0,?_⟩; (repeat' (first | with_reducible refine And.intro ?_ ?_ | with_reducible refine and_imp.2 ?_ | intro)))
 all_goals try (first | (first | with_reducible rfl | with_reducible assumption | omega | (refine aj ?_ ?_ <;> omega)) | exact (jr (by with_reducible assumption)) | exact (nW (by with_reducible assumption)) | exact (jJ (by omega)))
 all_goals try (refine ⟨‹Nat› + 1,?_⟩; (repeat' (first | with_reducible refine And.intro ?_ ?_ | with_reducible refine and_imp.2 ?_ | intro)))
 all_goals (first | (first | with_reducible rfl | with_reducible assumption | omega | (refine aj ?_ ?_ <;> omega)) | exact (jr (by with_reducible assumption)) | exact (nW (by with_reducible assumption)) | exact (jJ (by omega)))
def yj:ct:=(bO 109 (bI (ah (kC (cL .int)) aO) aP fun (l,_) (_)=>⟨[0<l.length],[.c (.int ((qk l)))],none,false⟩) (bO 131 (bI (ah (kC (cL .int)) (ah (kC (kR 107 [] [])) aO)) aP fun (l,_,_) (_)=>⟨[],[.c (.int ((nQ l)))],none,false⟩) uF))
theorem pN:aU Tryz.prog (aq aF) yj:=(ay (ax (ab (ao bF) al) ak fun (l,_) (_) hp=>DD l (eI hp)) (ay (ax (ab (ao bF) (ab (ao bV) al)) ak fun (l,_,_) (_) _=>Ay l ) lK))
end Go.Proofs.YtdggohppeeaipaaGreat
namespace Go.Proofs.YtdggohppeeaipaaGreat
open Go.RowKit
theorem Bw (l:List Int) (r0:Bool):cN aF yj [] Tryz.f108 [.c (.fz .int (l)),.c (.fn 107 [] [])] [] [.c (.bool (.atom (r0)))]=(l.length*(8:Nat)<=(140737488355328:Nat)->I64 (nQ l)->decide ((0:Int)<=nQ l)=r0):=by kernel_rfl
theorem Bd (l:List Int):Sat Tryz.prog (aq aF) 108 [.c (.fz .int (l)),.c (.fn 107 [] [])] [] ⟨[],[.c (.bool (.atom ((!l.all bc))))],none,false⟩:=by
 refine aR pN [] Tryz.func108 (by decide) (by kernel_rfl) ?_
 rw [Bw]
 (repeat' (first | with_reducible refine And.intro ?_ ?_ | with_reducible refine and_imp.2 ?_ | intro))
 all_goals (first | (first | with_reducible rfl | with_reducible assumption | omega | (refine aj ?_ ?_ <;> omega)) | exact (BC))
def yX:ct:=(bO 108 (bI (ah (kC (cL .int)) (ah (kC (kR 107 [] [])) aO)) aP fun (l,_,_) (_)=>⟨[],[.c (.bool (.atom ((!l.all bc))))],none,false⟩) yj)
theorem qp:aU Tryz.prog (aq aF) yX:=(ay (ax (ab (ao bF) (ab (ao bV) al)) ak fun (l,_,_) (_) _=>Bd l ) pN)
end Go.Proofs.YtdggohppeeaipaaGreat
namespace Go.Proofs.YtdggohppeeaipaaGreat
open Go.RowKit
theorem HD {l:List Int} (o:(l.length:Int)=0\/(!l.all bc)=true):0=dO l:=by
 have h:(decide (l.length=0) || !l.all bc)=true:=by
  rcases o with o | o
  ·rw [decide_eq_true (by omega)]; rfl
  ·rw [o,Bool.or_true]
 unfold dO; rw [if_pos h]
theorem HU {l:List Int} (o:¬ (l.length:Int)=0) (h:(!l.all bc)=false):qk l=dO l:=by
 have h:¬ (decide (l.length=0) || !l.all bc)=true:=by
  rw [h,decide_eq_false (by omega)]; decide
 unfold dO; rw [if_neg h]
theorem zu (l:List Int) (r0:Int):cN aF yX [] Tryz.f73 [.c (.fz .int (l))] [] [.c (.int (r0))]=(l.length*(8:Nat)<=(140737488355328:Nat)->((↑l.length:Int)=(0:Int)\/(!l.all bc)=true->(0:Int)=r0)/\(¬(↑l.length:Int)=(0:Int)/\(!l.all bc)=false->(0:Nat)<l.length/\(I64 (qk l)->qk l=r0))):=by kernel_rfl
theorem zS (l:List Int):Sat Tryz.prog (aq aF) 73 [.c (.fz .int (l))] [] ⟨[],[.c (.int ((dO l)))],none,false⟩:=by
 refine aR qp [] Tryz.func73 (by decide) (by kernel_rfl) ?_
 rw [zu]
 (repeat' (first | with_reducible refine And.intro ?_ ?_ | with_reducible refine and_imp.2 ?_ | intro))
 all_goals (first | (first | with_reducible rfl | with_reducible assumption | omega | (refine aj ?_ ?_ <;> omega)) | exact (HD (by assumption)) | exact (HU (by with_reducible assumption) (by with_reducible assumption)))
def yp:ct:=(bO 73 (bI (ah (kC (cL .int)) aO) aP fun (l,_) (_)=>⟨[],[.c (.int ((dO l)))],none,false⟩) yX)
theorem qC:aU Tryz.prog (aq aF) yp:=(ay (ax (ab (ao bF) al) ak fun (l,_) (_) _=>zS l ) qp)
end Go.Proofs.YtdggohppeeaipaaGreat
namespace Go.Proofs.YtdggohppeeaipaaGreat
open Go.RowKit
theorem Am (v:Int) (l:List Int) (r0:Bool):cN aF yp [] Tryz.f74 [.c (.int (v)),.c (.fz .int (l))] [] [.c (.bool (.atom (r0)))]=(I64 v->l.length*(8:Nat)<=(140737488355328:Nat)->((1:Int)<=v/\v<(3:Int)->I64 (dO l))->(decide ((1:Int)<=v) && decide (v<(3:Int)) && decide (v<dO l))=r0):=by kernel_rfl
theorem wY (v:Int) (l:List Int):Sat Tryz.prog (aq aF) 74 [.c (.int (v)),.c (.fz .int (l))] [] ⟨[],[.c (.bool (.atom ((gU v l))))],none,false⟩:=by
 refine aR qC [] Tryz.func74 (by decide) (by kernel_rfl) ?_
 rw [Am]
 (repeat' (first | with_reducible refine And.intro ?_ ?_ | with_reducible refine and_imp.2 ?_ | intro))
 all_goals (first | (first | with_reducible rfl | with_reducible assumption | omega | (refine aj ?_ ?_ <;> omega)) | rfl | grind [gU])
def tW:ct:=(bO 74 (bI (ah (kC cI) (ah (kC (cL .int)) aO)) aP fun (v,l,_) (_)=>⟨[],[.c (.bool (.atom ((gU v l))))],none,false⟩) yp)
theorem mL:aU Tryz.prog (aq aF) tW:=(ay (ax (ab (ao av) (ab (ao bF) al)) ak fun (v,l,_) (_) _=>wY v l ) qC)
end Go.Proofs.YtdggohppeeaipaaGreat
