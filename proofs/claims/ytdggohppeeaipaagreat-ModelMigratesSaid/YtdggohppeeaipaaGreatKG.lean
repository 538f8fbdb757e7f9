/- The law: for every input it returns true, and each argument reads behind the call as it read before; and what leads there. Conditions: each lemma's own. -/
import Derived.ProofKit
import Derived.SizedLaws
import Derived.Test.YtdggohppeeaipaaGreatChecked
import Derived.Test.YtdggohppeeaipaaGreatRows
import Derived.Test.YtdggohppeeaipaaGreatKGM5
set_option linter.unusedVariables false
set_option linter.unusedSimpArgs false
namespace Go.Proofs.YtdggohppeeaipaaGreat
open Go.RowKit
theorem Iv:cO (State.mk 1 1 0 0 [] [] []) bY=State.mk 1 1 0 0 [Sess.mk 1 1 (Reply.mk 0 0)] [Opn.mk 2 1] []:=by kernel_rfl
theorem Jb:dB (State.mk 1 1 0 0 [] [] []) bY=[Reply.mk 0 0,Reply.mk 0 0,Reply.mk 0 0]:=by kernel_rfl
def yA (l:List Command):List (Nat × LI):=[(3,{ σ:=Nat,F:=fun k=>([(0,one (.fz (.nm .command) (l))),(3,one (.own 0)),(4,one (.int k))],[.row 29 (.nm .command) (((l.take k).map g_))]),J:=fun k=>k<=l.length/\k<=40,μ:=fun k=>l.length - k })]
theorem BJ (l:List Command) (r0:List Command):cP aF uz (yA l) Tryz.f27 [.c (.fz (.nm .command) (l))] [] [.c (.fz (.nm .command) (r0))]=((fun (q0:Nat)=>l.length*(88:Nat)<=q0->∃ (s0:Nat),(l=l/\(0:Int)=(↑s0:Int)/\List.map g_ (List.take s0 l)=[])/\(s0<=l.length/\s0<=(40:Nat))/\∀ (s:Nat),s<=l.length/\s<=(40:Nat)->((↑s:Int)<(↑l.length:Int)/\(↑s:Int)<(40:Int)->(0:Int)<=(↑s:Int)/\(↑s:Int)<(↑l.length:Int)/\∀ (x:Command),(fun (q1:Command)=>l[s]? = some x->I64 x.kind->I64 x.client->I64 x.seq->I64 x.set->I64 x.id->I64 x.n->x.chunks.length*(8:Nat)<=q0->x.text.b.length<=q0->I64 q1.kind->I64 q1.client->I64 q1.seq->I64 q1.set->I64 q1.id->I64 q1.n->q1.chunks.length*(8:Nat)<=q0->q1.text.b.length<=q0->((List.map g_ (List.take s l)).length+[q1].length)*(88:Nat)<=q0/\I64 ((↑s:Int)+(1:Int))/\∃ (s':Nat),(l=l/\(↑s:Int)+(1:Int)=(↑s':Int)/\List.map g_ (List.take s l)++[q1]=List.map g_ (List.take s' l))/\(s' <= l.length/\s' <= (40:Nat))/\l.length - s' < l.length - s) (g_ x))/\((↑l.length:Int)<=(↑s:Int)\/(40:Int)<=(↑s:Int)->List.map g_ (List.take s l)=r0)) (140737488355328:Nat)):=by kernel_rfl
theorem BL (l:List Command):Sat Tryz.prog (au aF) 27 [.c (.fz (.nm .command) (l))] [] ⟨[],[.c (.fz (.nm .command) ((oQ l)))],none,false⟩:=by
 refine aQ mM (yA l) Tryz.func27 (by decide) (by kernel_rfl) ?_
 rw [BJ]
 (repeat' (first | with_reducible refine And.intro ?_ ?_ | with_reducible refine and_imp.2 ?_ | intro))
 all_goals try (first | (first | with_reducible rfl | with_reducible assumption | omega | (refine al ?_ ?_ <;> omega)) | exact rfl | exact (Am (by with_reducible assumption)) | exact (F_ (by omega) (by omega)) | (simp only [List.length_map,List.length_take,List.length_cons,List.length_nil]; omega))
 all_goals try (refine ⟨0,?_⟩; (repeat' (first | with_reducible refine And.intro ?_ ?_ | with_reducible refine and_imp.2 ?_ | intro)))
 all_goals try (first | (first | with_reducible rfl | with_reducible assumption | omega | (refine al ?_ ?_ <;> omega)) | exact rfl | exact (Am (by with_reducible assumption)) | exact (F_ (by omega) (by omega)) | (simp only [List.length_map,List.length_take,List.length_cons,List.length_nil]; omega))
 all_goals try (refine ⟨‹Nat› + 1,?_⟩; (repeat' (first | with_reducible refine And.intro ?_ ?_ | with_reducible refine and_imp.2 ?_ | intro)))
 all_goals (first | (first | with_reducible rfl | with_reducible assumption | omega | (refine al ?_ ?_ <;> omega)) | exact rfl | exact (Am (by with_reducible assumption)) | exact (F_ (by omega) (by omega)) | (simp only [List.length_map,List.length_take,List.length_cons,List.length_nil]; omega))
theorem vL  (r0:Bool):cP aF uz [] Tryz.f25 [] [] [.c (.bool (.atom (r0)))]=((fun (q6:Int)=>(fun (q5:Int)=>(fun (q4:Nat)=>(fun (q3:Nat)=>(fun (q2:Int)=>(fun (q1:den (Sh.nm NT.reply))=>(fun (q0:State)=>I64 q5->I64 q5->I64 q2->I64 q2->(0:Nat)*(32:Nat)<=(140737488355328:Nat)->(0:Nat)*(16:Nat)<=(140737488355328:Nat)->(0:Nat)*(64:Nat)<=(140737488355328:Nat)->bY.length*(88:Nat)<=(140737488355328:Nat)->I64 (cO q0 bY).version->I64 (cO q0 bY).next->I64 (cO q0 bY).keep->I64 (cO q0 bY).quota->((↑(dB q0 bY).length:Int)=q6->q2<=q2/\q2<(↑(dB q0 bY).length:Int))/\(((↑(dB q0 bY).length:Int)=q6->I64 ((dB q0 bY).getD q3 q1).code/\I64 ((dB q0 bY).getD q3 q1).n)->((↑(dB q0 bY).length:Int)=q6/\((dB q0 bY).getD q3 q1).code=q2/\((dB q0 bY).getD q3 q1).n=q2->q2<=(2:Int)/\(2:Int)<(↑(dB q0 bY).length:Int))/\(((↑(dB q0 bY).length:Int)=q6/\((dB q0 bY).getD q3 q1).code=q2/\((dB q0 bY).getD q3 q1).n=q2->I64 ((dB q0 bY).getD q4 q1).code/\I64 ((dB q0 bY).getD q4 q1).n)->((((↑(dB q0 bY).length:Int)=q6/\((dB q0 bY).getD q3 q1).code=q2/\((dB q0 bY).getD q3 q1).n=q2)/\((dB q0 bY).getD q4 q1).code=q2/\((dB q0 bY).getD q4 q1).n=q2)/\(↑(cO q0 bY).opens.length:Int)=q5->q2<=q2/\q2<(↑(cO q0 bY).opens.length:Int))/\(((((↑(dB q0 bY).length:Int)=q6/\((dB q0 bY).getD q3 q1).code=q2/\((dB q0 bY).getD q3 q1).n=q2)/\((dB q0 bY).getD q4 q1).code=q2/\((dB q0 bY).getD q4 q1).n=q2)/\(↑(cO q0 bY).opens.length:Int)=q5->I64 ((cO q0 bY).opens.getD q3 (dflt (Sh.nm NT.opn))).set/\I64 ((cO q0 bY).opens.getD q3 (dflt (Sh.nm NT.opn))).client)->(decide ((↑(dB q0 bY).length:Int)=q6) && (decide (((dB q0 bY).getD q3 q1).code=q2) && decide (((dB q0 bY).getD q3 q1).n=q2)) && (decide (((dB q0 bY).getD q4 q1).code=q2) && decide (((dB q0 bY).getD q4 q1).n=q2)) && decide ((↑(cO q0 bY).opens.length:Int)=q5) && decide (((cO q0 bY).opens.getD q3 (dflt (Sh.nm NT.opn))).set=(2:Int)))=r0)))) (State.mk q5 q5 q2 q2 [] [] [])) (dflt (Sh.nm NT.reply))) (0:Int)) (0:Nat)) (2:Nat)) (1:Int)) (3:Int)):=by kernel_rfl
theorem vZ :Sat Tryz.prog (au aF) 25 [] [] ⟨[],[.c (.bool (.atom ((true))))],none,false⟩:=by
 refine aQ mM [] Tryz.func25 (by decide) (by kernel_rfl) ?_
 rw [vL]
 simp only [Iv,Jb]
 (repeat' (first | with_reducible refine And.intro ?_ ?_ | with_reducible refine and_imp.2 ?_ | intro))
 all_goals first | (first | with_reducible rfl | with_reducible assumption | omega | (refine al ?_ ?_ <;> omega)) | decide | rfl
def Dt:cw:=(bS 25 (bL aO aN fun (_) (_)=>⟨[],[.c (.bool (.atom ((true))))],none,false⟩) (bS 27 (bL (ai (kC (cL (.nm .command))) aO) aN fun (l,_) (_)=>⟨[],[.c (.fz (.nm .command) ((oQ l)))],none,false⟩) uz))
theorem xu:aT Tryz.prog (au aF) Dt:=(aA (az ao aq fun (_) (_) _=>vZ  ) (aA (az (ab (av bN) ao) aq fun (l,_) (_) _=>BL l ) mM))
end Go.Proofs.YtdggohppeeaipaaGreat
namespace Go.Proofs.YtdggohppeeaipaaGreat
open Go.RowKit
def eu (v:Int) (l:List Command):List Command:=l.filter fun c=>decide (aY c v=0) && !decide (c.kind=8)
section
variable {v:Int} {l:List Command} {k:Nat} {x:Command}
theorem Fa (hx:l[k]? = some x) (h:aY (l.getD k (dflt (.nm .command))) v=0) (h2:¬ (l.getD k (dflt (.nm .command))).kind=8):eu v (l.take k)++[x]=eu v (l.take (k+1)):=by
 have e:l.getD k (dflt (.nm .command))=x:=by rw [List.getD_eq_getElem?_getD,hx]; rfl
 rw [e] at h h2
 unfold eu; rw [aD hx,List.filter_append]; simp [h,h2]
theorem Ey (h:(k:Int)<l.length) (o:¬ aY (l.getD k (dflt (.nm .command))) v=0\/(l.getD k (dflt (.nm .command))).kind=8):eu v (l.take k)=eu v (l.take (k+1)):=by
 unfold eu; rw [aD (gd (d:=dflt (.nm .command)) h),List.filter_append]
 have e:(decide (aY (l.getD k (dflt (.nm .command))) v=0) && !decide ((l.getD k (dflt (.nm .command))).kind=8))=false:=by
  rcases o with o | o
  ·rw [decide_eq_false o]; rfl
  ·rw [decide_eq_true o]; simp
 rw [List.filter_cons_of_neg (by rw [e]; decide)]; simp
theorem tj (h:(k:Int)<l.length) (hl:l.length*88<=140737488355328) {y:Command}:((eu v (l.take k)).length+[y].length)*88<=140737488355328:=by
 have h1:=List.length_filter_le (fun c:Command=>decide (aY c v=0) && !decide (c.kind=8)) (l.take k)
 rw [List.length_take] at h1
 unfold eu
 simp only [List.length_cons,List.length_nil]
 omega
theorem FD (h:(l.length:Int)<=k):eu v (l.take k)=eu v l:=by rw [List.take_of_length_le (by omega)]
end
theorem tw {s:State} {v:Int} {l:List Command} (hu:(ew s v).2=0):(true && decide ((ew (cO s (eu s.version l)) v).2=0) && decide ((cO (ew s v).1 (eu s.version l))=(ew (cO s (eu s.version l)) v).1) && decide (dB (ew s v).1 (eu s.version l)=dB s (eu s.version l)))=true:=by
 obtain ⟨⟨v1,v2⟩,M,h1,e⟩:=EX hu
 obtain ⟨a1,a2,a3,a4⟩:=tH (v:=v) v2 (l:=eu s.version l) M h1 fun c hc=>by
  have:=(List.mem_filter.1 hc).2
  simpa using this
 have e2:=Fw (s:=cO s (eu s.version l)) (v:=v) a1 (by omega) v2
 rw [e,e2,a3,a4]
 simp only [decide_true,Bool.and_self]
def yV (st:State) (l:List Command) (b:UInt8):List (Nat × LI):=[(10,{ σ:=Nat,F:=fun k=>([(1,one (.fz (.nm .command) (oQ l))),(3,one (.ptr 0 0)),(7,one (.bool (.atom true))),(8,one (.int (1+(b.toNat:Int).tmod 3))),(9,one (.ptr 4 0)),(11,one (.own 5)),(12,one (.int k))],[.box 26 (cellsOf (.nm .state) ((ck st))),.row 44 (.nm .sess) (((ew (ck st) (1+(b.toNat:Int).tmod 3)).1.sess)),.row 77 (.nm .opn) (((ew (ck st) (1+(b.toNat:Int).tmod 3)).1.opens)),.row 59 (.nm .snap) (((ew (ck st) (1+(b.toNat:Int).tmod 3)).1.snaps)),.box 26 ([.int (((ew (ck st) (1+(b.toNat:Int).tmod 3)).1.version)),.int (((ew (ck st) (1+(b.toNat:Int).tmod 3)).1.next)),.int (((ew (ck st) (1+(b.toNat:Int).tmod 3)).1.keep)),.int (((ew (ck st) (1+(b.toNat:Int).tmod 3)).1.quota)),.own 1,.own 2,.own 3]),.row 29 (.nm .command) ((eu (ck st).version ((oQ l).take k)))]),J:=fun k=>k<=(oQ l).length,μ:=fun k=>(oQ l).length - k })]
theorem Cz (st:State) (l:List Command) (b:UInt8) (r0:Bool):cP aF Dt (yV st l b) Tryz.f8 [.agg (cellsOf (.nm .state) st),.c (.fz (.nm .command) (l)),.c (.u8 (b))] [] [.c (.bool (.atom (r0)))]=((fun (q9:Int)=>(fun (q8:Int)=>(fun (q7:Int)=>(fun (q6:Nat)=>(fun (q5:den (Sh.nm NT.command))=>(fun (q4:List Command)=>(fun (q3:Int)=>(fun (q2:State)=>(fun (q1:State × Int)=>(fun (q0:State)=>I64 st.version->I64 st.next->I64 st.keep->I64 st.quota->st.sess.length*(32:Nat)<=q6->st.opens.length*(16:Nat)<=q6->st.snaps.length*(64:Nat)<=q6->l.length*(88:Nat)<=q6->I64 q2.version->I64 q2.next->I64 q2.keep->I64 q2.quota->q2.sess.length*(32:Nat)<=q6->q2.opens.length*(16:Nat)<=q6->q2.snaps.length*(64:Nat)<=q6->q7<=(↑b.toNat:Int)/\q7<(3:Int)/\I64 q8/\(I64 q1.fst.version->I64 q1.fst.next->I64 q1.fst.keep->I64 q1.fst.quota->I64 q1.snd->(¬q1.snd=q7->true=r0)/\(q1.snd=q7->q4.length*(88:Nat)<=q6->∃ (s0:Nat),(fun (q19:Int)=>(fun (q18:Prop)=>(fun (q17:Prop)=>(fun (q16:Prop)=>(fun (q15:Prop)=>(fun (q14:Prop)=>(fun (q13:Prop)=>(fun (q12:Int)=>(fun (q11:Nat)=>(fun (q10:Int)=>(q4=q4/\true=true/\q8=q3/\q7=(↑s0:Int)/\q10=q10/\q17/\q16/\q13/\q18/\q14/\q15/\q1.fst.sess=q0.sess/\q1.fst.opens=q0.opens/\q1.fst.snaps=q0.snaps/\q1.fst.version=q19/\q1.fst.next=q0.next/\q1.fst.keep=q0.keep/\q1.fst.quota=q0.quota/\eu q10 (List.take s0 q4)=[])/\s0<=q11/\∀ (s:Nat),(fun (q22:Int)=>(fun (q21:den (Sh.nm NT.command))=>(fun (q20:List Command)=>s<=q11->(q22<q12->q7<=q22/\q22<q12/\(aY q21 q10=q7->q7<=q22/\q22<q12)/\(I64 q21.kind->I64 q21.client->I64 q21.seq->I64 q21.set->I64 q21.id->I64 q21.n->q21.chunks.length*(8:Nat)<=q6->q21.text.b.length<=q6->I64 (aY q21 q10)->(aY q21 q10=q7->I64 q21.kind/\I64 q21.client/\I64 q21.seq/\I64 q21.set/\I64 q21.id/\I64 q21.n/\q21.chunks.length*(8:Nat)<=q6/\q21.text.b.length<=q6)->(aY q21 q10=q7/\¬q21.kind=(8:Int)->q7<=q22/\q22<q12/\∀ (x:Command),q4[s]? = some x->I64 x.kind->I64 x.client->I64 x.seq->I64 x.set->I64 x.id->I64 x.n->x.chunks.length*(8:Nat)<=q6->x.text.b.length<=q6->(q20.length+[x].length)*(88:Nat)<=q6/\I64 (q22+q9)/\∃ (s':Nat),(q4=q4/\true=true/\q3=q3/\q22+q9=(↑s':Int)/\q10=q10/\q17/\q16/\q13/\q18/\q14/\q15/\q0.sess=q0.sess/\q0.opens=q0.opens/\q0.snaps=q0.snaps/\q19=q19/\q0.next=q0.next/\q0.keep=q0.keep/\q0.quota=q0.quota/\q20++[x]=eu q10 (List.take s' q4))/\s' <= q11/\q11 - s' < q11 - s)/\(¬aY q21 q10=q7\/q21.kind=(8:Int)->I64 (q22+q9)/\∃ (s':Nat),(q4=q4/\true=true/\q3=q3/\q22+q9=(↑s':Int)/\q10=q10/\q17/\q16/\q13/\q18/\q14/\q15/\q0.sess=q0.sess/\q0.opens=q0.opens/\q0.snaps=q0.snaps/\q19=q19/\q0.next=q0.next/\q0.keep=q0.keep/\q0.quota=q0.quota/\q20=eu q10 (List.take s' q4))/\s' <= q11/\q11 - s' < q11 - s)))/\(q12<=q22->I64 (cO q0 q20).version->I64 (cO q0 q20).next->I64 (cO q0 q20).keep->I64 (cO q0 q20).quota->I64 (cO q2 q20).version->I64 (cO q2 q20).next->I64 (cO q2 q20).keep->I64 (cO q2 q20).quota->I64 (ew (cO q2 q20) q3).fst.version->I64 (ew (cO q2 q20) q3).fst.next->I64 (ew (cO q2 q20) q3).fst.keep->I64 (ew (cO q2 q20) q3).fst.quota->I64 (ew (cO q2 q20) q3).snd->(true && decide ((ew (cO q2 q20) q3).snd=q7) && decide (cO q0 q20=(ew (cO q2 q20) q3).fst) && decide (dB q0 q20=dB q2 q20))=r0)) (eu q10 (List.take s q4))) (q4.getD s q5)) (↑s:Int)) q2.version) q4.length) (↑q4.length:Int)) (q2.quota=q2.quota)) (q2.opens=q2.opens)) (q2.snaps=q2.snaps)) (q2.keep=q2.keep)) (q2.next=q2.next)) (q2.sess=q2.sess)) q0.version))) (ew q2 q3).fst) (ew q2 q8)) (ck st)) (q9+(↑b.toNat:Int).tmod (3:Int))) (oQ l)) (dflt (Sh.nm NT.command))) (140737488355328:Nat)) (0:Int)) (q9+(↑b.toNat:Int).tmod (3:Int))) (1:Int)):=by kernel_rfl
theorem Cw (st:State) (l:List Command) (b:UInt8):Sat Tryz.prog (au aF) 8 [.agg (cellsOf (.nm .state) st),.c (.fz (.nm .command) (l)),.c (.u8 (b))] [] ⟨[],[.c (.bool (.atom ((true))))],none,false⟩:=by
 refine aQ xu (yV st l b) Tryz.func8 (by decide) (by kernel_rfl) ?_
 rw [Cz]
 (repeat' (first | with_reducible refine And.intro ?_ ?_ | with_reducible refine and_imp.2 ?_ | intro))
 all_goals try (first | (first | with_reducible rfl | with_reducible assumption | omega | (refine al ?_ ?_ <;> omega)) | exact rfl | exact D_ | exact (Fa (by with_reducible assumption) (by with_reducible assumption) (by with_reducible assumption)) | exact (Ey (by with_reducible assumption) (by assumption)) | exact (tj (by with_reducible assumption) (by with_reducible assumption)) | (rw [FD (by assumption)]; exact tw (by with_reducible assumption)))
 all_goals try (refine ⟨0,?_⟩; (repeat' (first | with_reducible refine And.intro ?_ ?_ | with_reducible refine and_imp.2 ?_ | intro)))
 all_goals try (first | (first | with_reducible rfl | with_reducible assumption | omega | (refine al ?_ ?_ <;> omega)) | exact rfl | exact D_ | exact (Fa (by with_reducible assumption) (by with_reducible assumption) (by with_reducible assumption)) | exact (Ey (by with_reducible assumption) (by assumption)) | exact (tj (by with_reducible assumption) (by with_reducible assumption)) | (rw [FD (by assumption)]; exact tw (by with_reducible assumption)))
 all_goals try (refine ⟨‹Nat› + 1,?_⟩; (repeat' (first | with_reducible refine And.intro ?_ ?_ | with_reducible refine and_imp.2 ?_ | intro)))
 all_goals (first | (first | with_reducible rfl | with_reducible assumption | omega | (refine al ?_ ?_ <;> omega)) | exact rfl | exact D_ | exact (Fa (by with_reducible assumption) (by with_reducible assumption) (by with_reducible assumption)) | exact (Ey (by with_reducible assumption) (by assumption)) | exact (tj (by with_reducible assumption) (by with_reducible assumption)) | (rw [FD (by assumption)]; exact tw (by with_reducible assumption)))
end Go.Proofs.YtdggohppeeaipaaGreat
namespace Go.Proofs.YtdggohppeeaipaaGreat
open Go.RowKit Go.ChangeShapes Go.WideShapes
def uR (shp:TypeId->Option Sh) (w:World):Cx:=cx ⟨shp,w.heap.size,fun _=>False⟩ [] w
theorem Ep {shp:TypeId->Option Sh} {w:World} {s:Sh} {b:Nat} (h:b<w.heap.size):(uR shp w).at s b:=⟨⟨h,fun ⟨_,_,h,_⟩=>by simp at h,fun h=>h⟩,.inl h⟩
def Tr (P:Program) (shp:TypeId->Option Sh) (t:TypeId) (s:Sh):Prop:=
 ∀ (H:Type) (enc:TypeId × Value->H) (w:World) (fuel:Nat) (cs:List Value) (x:DataW H × List MemPlace),
  DataW.trod enc P w 0 (fun _=>true) true fuel t cs=some x->(∀ n ∈ x.1.weights P t,n<=140737488351232)->(∀ q ∈ x.2,q.block<w.heap.size)->∃ y:den s,Pds (uR shp w) (cellsOf s y) cs
def El:List Sh->List AV->Prop
 | [],asx=>asx=[]
 | s :: r,asx=>∃ (y:den s) (l:List AV),asx=cellsOf s y++l/\El r l
def HE:List Sh->Nat
 | []=>0
 | s :: r=>s.size+HE r
def fG (P:Program) (shp:TypeId->Option Sh) (fs:List Go.Field) (o:Nat) (ss:List Sh):Prop:=
 ∀ (H:Type) (enc:TypeId × Value->H) (w:World) (fuel:Nat) (cs:List Value) (xs:List (DataW H × List MemPlace)),
  cs.length=o+HE ss->xs.length=fs.length->(∀ (i:Nat) (f:Go.Field),fs[i]? = some f->DataW.trod enc P w 0 (fun _=>true) true fuel f.type ((cs.drop f.offset).take (P.cellsOf f.type))=xs[i]?) ->
  (∀ n ∈ DataW.weightsEach P (fs.map (·.type)) (xs.map (·.1)),n<=140737488351232)->(∀ q ∈ xs.flatMap (·.2),q.block<w.heap.size)->∃ asx,El ss asx/\Pds (uR shp w) asx (cs.drop o)
section
variable {P:Program} {shp:TypeId->Option Sh} {t:TypeId}
theorem Tr.int (h:P.underlying t=some (.int .i64)):Tr P shp t .int:=fun _ enc w fuel cs x hx _ _=>by
 obtain ⟨n,rfl,_,hw⟩:=DataW.trod_int h hx
 have h1:IntKind.i64.min = -9223372036854775808:=rfl
 have h2:IntKind.i64.max=9223372036854775807:=rfl
 simp only [Lit.wf,Bool.and_eq_true,decide_eq_true_eq] at hw
 exact ⟨n,.cons (.int ⟨by omega,by omega⟩) .nil⟩
theorem Tr.bool (h:P.underlying t=some .bool):Tr P shp t .bool:=fun _ enc w fuel cs x hx _ _=>by
 obtain ⟨n,rfl,_⟩:=DataW.trod_bool h hx
 exact ⟨n,.cons (Pd.bool (e:=.atom n)) .nil⟩
theorem Tr.u8 (h:P.underlying t=some (.int .u8)):Tr P shp t .u8:=fun _ enc w fuel cs x hx _ _=>by
 obtain ⟨n,rfl,_,hw⟩:=DataW.trod_int h hx
 have h1:IntKind.u8.min=0:=rfl
 have h2:IntKind.u8.max=255:=rfl
 simp only [Lit.wf,Bool.and_eq_true,decide_eq_true_eq] at hw
 refine ⟨UInt8.ofNat n.toNat,?_⟩
 have:n=((UInt8.ofNat n.toNat).toNat:Int):=by
  rw [UInt8.toNat_ofNat']; omega
 generalize hg:UInt8.ofNat n.toNat=b at this
 subst this
 exact .cons .u8 .nil
theorem Tr.u64 (h:P.underlying t=some (.int .u64)):Tr P shp t .u64:=fun _ enc w fuel cs x hx _ _=>by
 obtain ⟨n,rfl,_,hw⟩:=DataW.trod_int h hx
 have h1:IntKind.u64.min=0:=rfl
 have h2:IntKind.u64.max=18446744073709551615:=rfl
 simp only [Lit.wf,Bool.and_eq_true,decide_eq_true_eq] at hw
 refine ⟨⟨n.toNat⟩,?_⟩
 have:n=(n.toNat:Int):=by omega
 generalize hg:n.toNat=b at this
 subst this
 exact .cons (.u64 (by show b<_; omega)) .nil
theorem Tr.str (h:P.underlying t=some .string):Tr P shp t .str:=fun _ enc w fuel cs x hx hw _=>by
 obtain ⟨s,rfl,hx,_⟩:=DataW.trod_string h hx
 refine ⟨⟨s.data.toList⟩,?_⟩
 have:=hw s.data.toList.length (by rw [hx]; simp [DataW.weights])
 have e:=Pd.str (c:=uR shp w) (s:=⟨s.data.toList⟩) (by show s.data.toList.length<=_; omega)
 have e2:(⟨s.data.toList⟩:Str).val = .string s:=by simp [Str.val]
 rw [e2] at e
 exact .cons e .nil
theorem fV {H:Type} {e:TypeId}:∀ {ds:List (DataW H)} {d:DataW H},d ∈ ds->∀ n ∈ d.weights P e,n ∈ DataW.weightsAll P e ds
 | [],_,h,_,_=>by cases h
 | d0 :: ds,d,h,n,hn=>by
  rw [DataW.weightsAll,List.mem_append]
  rcases List.mem_cons.1 h with rfl | h
  ·exact .inl hn
  ·exact .inr (fV h n hn)
theorem wF {s:Sh} {xs:List (den s)} {y:den s}:(xs++[y]).flatMap (cellsOf s)=xs.flatMap (cellsOf s)++cellsOf s y:=by simp
theorem Tr.list {e:TypeId} {s:Sh} (ht:P.underlying t=some (.slice e)) (hC:P.cellsOf e=s.size) (hB:P.bytesOf e=s.bytes) (he:Tr P shp e s):Tr P shp t (.lst s):=fun H enc w fuel cs x hx hw hlt=>by
 have hp:=size_pos s
 rcases DataW.trod_slice ht hx with ⟨rfl,_⟩ | ⟨a,len,cap,elems,rest,n,rfl,rfl,rfl,_,hl,hc,hel,hget,hrest,_⟩
 ·exact ⟨([]:List (den s)),.cons (Pd.oo (.em (a:=none) (b:=true) rfl)) .nil⟩
 ·rw [hC] at *
  have step:∀ m,m<=len->∃ (cells:List Value) (xs:List (den s)),Pds (uR shp w) (xs.flatMap (cellsOf s)) cells/\xs.length=m/\CellsAt w a cells:=by
   intro m
   induction m with
   | zero=>intro _; exact ⟨[],[],.nil,rfl,CellsAt.nil⟩
   | succ m ih=>
    intro hm
    obtain ⟨cells,xs,h1,h2,h3⟩:=ih (by omega)
    have hg:=hget m (by omega)
    have hem:elems[m]? = some (elems[m]'(by omega)):=List.getElem?_eq_getElem (by omega)
    rw [hem,Option.bind_eq_some_iff] at hg
    obtain ⟨cs,hcs,htr⟩:=hg
    have hmem:elems[m]'(by omega) ∈ elems:=List.getElem_mem _
    obtain ⟨y,hy⟩:=he H enc w n cs _ htr
     (fun k hk=>hw k (by
      simp only [DataW.weights,ht,List.mem_cons,List.mem_append]
      exact .inr (.inl (fV (List.mem_map_of_mem hmem) k hk))))
     (fun q hq=>hlt q (by
      simp only [List.mem_append,List.mem_flatMap]
      exact .inr ⟨_,.inl hmem,hq⟩))
    obtain ⟨_,hcl,hat⟩:=World.cells?_some hcs
    refine ⟨cells++cs,xs++[y],by rw [wF]; exact h1.append hy,by simp [h2],fun j v hv=>?_⟩
    have hfl:cells.length=m*s.size:=by rw [<- h1.length,bE,h2]
    by_cases hj:j<m*s.size
    ·rw [List.getElem?_append_left (by omega)] at hv
     exact h3 j v hv
    ·rw [List.getElem?_append_right (by omega),hfl] at hv
     have hj2:=Gg hv
     have:=hat (j - m*s.size) (by omega)
     rw [hv,add_add,show m*s.size+(j - m*s.size)=j by omega] at this
     exact this
  obtain ⟨cells,xs,h1,h2,h3⟩:=step len (Nat.le_refl _)
  have hwt:(elems.length+rest.length)*P.bytesOf e<=140737488351232:=hw _ (by simp [DataW.weights,ht])
  refine ⟨xs,.cons ?_ .nil⟩
  subst h2
  refine .fz (by omega) hc ?_ h1 ?_
  ·rw [hB] at hwt
   have:xs.length*s.bytes<=(elems.length+rest.length)*s.bytes:=Nat.mul_le_mul_right _ (by omega)
   omega
  ·by_cases h0:xs.length=0
   ·left; exact List.eq_nil_of_length_eq_zero h0
   ·right
    refine ⟨a,rfl,Ep ?_,h3⟩
    have:MemPlace.cell a.block (a.off+0) ∈ MemPlace.row a ((elems.length+rest.length)*s.size):=MemPlace.mem_row.2 ⟨0,Nat.mul_pos (by omega) hp,rfl⟩
    exact hlt _ (List.mem_append_left _ this)
theorem fG.nil {o:Nat}:fG P shp [] o []:=fun H enc w fuel cs xs hl _ _ _ _=>⟨[],rfl,by rw [List.drop_eq_nil_of_le (by simp only [HE] at hl; omega)]; exact .nil⟩
theorem fG.cons {f:Go.Field} {fs:List Go.Field} {o:Nat} {s:Sh} {ss:List Sh} (h:Tr P shp f.type s) (ho:f.offset=o) (hC:P.cellsOf f.type=s.size) (hr:fG P shp fs (o+s.size) ss):fG P shp (f :: fs) o (s :: ss):=fun H enc w fuel cs xs hl hx hf hw hlt=>by
 match xs,hx with
 | x :: xs,hx=>
  have hl':cs.length=o+(s.size+HE ss):=hl
  have h1:=hf 0 f rfl
  rw [ho,hC] at h1
  obtain ⟨y,hy⟩:=h H enc w fuel _ x h1 (fun n hn=>hw n (by simp [DataW.weightsEach,hn])) (fun q hq=>hlt q (by simp [hq]))
  obtain ⟨z,hz1,hz2⟩:=hr H enc w fuel cs xs (by omega) (by simpa using hx) (fun i f' hi=>by simpa using hf (i+1) f' (by simpa using hi)) (fun n hn=>hw n (by simp only [List.map_cons,DataW.weightsEach,List.mem_append]; exact .inr hn)) (fun q hq=>hlt q (by simp only [List.flatMap_cons,List.mem_append]; exact .inr hq))
  refine ⟨cellsOf s y++z,⟨y,z,rfl,hz1⟩,?_⟩
  have:=hy.append hz2
  rwa [<- List.drop_drop,List.take_append_drop] at this
theorem Tr.struct {s:Sh} {ss:List Sh} {fs:Array Go.Field} (ht:P.underlying t=some (.struct fs)) (hC:P.cellsOf t=HE ss) (hs:∀ asx,El ss asx->∃ y:den s,asx=cellsOf s y) (h:fG P shp fs.toList 0 ss):Tr P shp t s:=fun H enc w fuel cs x hx hw hlt=>by
 obtain ⟨xs,n,_,rfl,hl,hxl,hf⟩:=DataW.trod_struct ht hx
 obtain ⟨asx,h1,h2⟩:=h H enc w n cs xs (by omega) (by simpa using hxl) (fun i f hi=>hf i f (by simpa using hi)) (fun k hk=>hw k (by simpa [DataW.weights,ht] using hk)) hlt
 obtain ⟨y,rfl⟩:=hs asx h1
 exact ⟨y,by simpa using h2⟩
end
section
variable {H:Type} {enc:TypeId × Value->H} {P:Program} {shp:TypeId->Option Sh}
structure Ar (enc:TypeId × Value->H) (P:Program) (W:World) (t:TypeId) (v:Value):Prop where
 form:∃ base,Value.okWide P W .any base t v
 read:∃ d p fuel,DataW.trod enc P W 0 (fun _=>true) true fuel t v.cells.toList=some (d,p)/\(∀ n ∈ d.weights P t,n<=140737488351232)/\(∀ q ∈ p,q.block<W.heap.size)
variable {W:World} {t:TypeId} {v:Value}
theorem Ar.rp {s:Sh} (h:Ar enc P W t v) (ht:Tr P shp t s):∃ y:den s,Pds (uR shp W) (cellsOf s y) v.cells.toList:=by
 obtain ⟨d,p,fuel,h1,h2,h3⟩:=h.read
 exact ht H enc W fuel _ _ h1 h2 h3
theorem tp {a:AV} {u:Value} (h:Pds (uR shp W) [a] [u]):cr (uR shp W) [] (.c a) u:=by cases h with | cons h1 _=>exact fW h1
theorem Ar.int (h:Ar enc P W t v) (ht:P.underlying t=some (.int .i64)):∃ y:Int,cr (uR shp W) [] (.c (.int y)) v:=by
 obtain ⟨base,hf⟩:=h.form
 obtain ⟨n,rfl⟩:=okWide_int ht hf
 obtain ⟨y,h1⟩:=h.rp (shp:=shp) (Tr.int ht)
 exact ⟨y,tp (by simpa [Value.cells,cellsOf] using h1)⟩
theorem Ar.u8 (h:Ar enc P W t v) (ht:P.underlying t=some (.int .u8)):∃ y:UInt8,cr (uR shp W) [] (.c (.u8 y)) v:=by
 obtain ⟨base,hf⟩:=h.form
 obtain ⟨n,rfl⟩:=okWide_int ht hf
 obtain ⟨y,h1⟩:=h.rp (shp:=shp) (Tr.u8 ht)
 exact ⟨y,tp (by simpa [Value.cells,cellsOf] using h1)⟩
theorem Ar.bool (h:Ar enc P W t v) (ht:P.underlying t=some .bool):∃ y:Bool,cr (uR shp W) [] (.c (.bool (.atom y))) v:=by
 obtain ⟨base,hf⟩:=h.form
 obtain ⟨b,rfl⟩:=okWide_bool ht hf
 exact ⟨b,Pd.bool (e:=.atom b)⟩
theorem Ar.list {e:TypeId} {s:Sh} (h:Ar enc P W t v) (hu:P.underlying t=some (.slice e)) (ht:Tr P shp t (.lst s)):∃ xs:List (den s),cr (uR shp W) [] (.c (.fz s xs)) v:=by
 obtain ⟨base,hf⟩:=h.form
 obtain ⟨a,len,cap,rfl⟩:=okWide_slice hu hf
 obtain ⟨y,h1⟩:=h.rp ht
 exact ⟨y,tp (by simpa [Value.cells,cellsOf] using h1)⟩
theorem Ar.struct {s:Sh} {fs:Array Go.Field} (h:Ar enc P W t v) (hu:P.underlying t=some (.struct fs)) (ht:Tr P shp t s):∃ x:den s,cr (uR shp W) [] (.agg (cellsOf s x)) v:=by
 obtain ⟨base,hf⟩:=h.form
 obtain ⟨cs,rfl,_⟩:=okWide_struct hu hf
 obtain ⟨y,h1⟩:=h.rp ht
 exact ⟨y,cs.toList,by simp,dJ (by simpa [Value.cells] using h1)⟩
theorem BK {f:Nat} {args:List TV1} {pre:List Prop} {e:BE} {vs:List Value} (h:Sat P shp f args [] ⟨pre,[.c (.bool e)],none,false⟩) (he:e.val=true) (hv:All2 (cr (uR shp W) []) args vs):gK P f vs.toArray W fun r W'=>r = .bool true/\Kp [] W W':=by
 refine (h.2 ⟨shp,W.heap.size,fun _=>False⟩ [] W vs rfl ⟨.nil,fun _ _ _ _ _ h=>by simp at h,fun _ _ _ h=>by simp at h,fun _ h=>h.elim,Nat.le_refl _⟩ hv).mono fun v w' ⟨us,h1,h2,h3⟩=>⟨?_,h2⟩
 cases h3 with | cons h4 h5=>
 cases h5
 have h4:Pd _ (.bool e) _:=h4
 cases h4
 rw [h1,he]; rfl
theorem De {base:Nat} {ts:List TypeId} {args:Array Value} {ds:List (DataW H)} {p:List MemPlace} (hf:∀ (j:Nat) t v,ts[j]? = some t->args[j]? = some v->Value.okWide P W .any base t v)
  (h:DataW.TrodAll enc P W 0 (fun _=>true) true ts args.toList ds p) (hw:∀ n ∈ DataW.weightsEach P ts ds,n<=140737488351232) (hlt:∀ q ∈ p,q.block<W.heap.size) :
  args.size=ts.length/\∀ (j:Nat) t v,ts[j]? = some t->args[j]? = some v->Ar enc P W t v:=by
 have key:∀ (ts:List TypeId) (vs:List Value) (ds:List (DataW H)) (p:List MemPlace),DataW.TrodAll enc P W 0 (fun _=>true) true ts vs ds p->(∀ n ∈ DataW.weightsEach P ts ds,n<=140737488351232)->(∀ q ∈ p,q.block<W.heap.size) ->
   vs.length=ts.length/\∀ (j:Nat) t v,ts[j]? = some t->vs[j]? = some v->∃ d p fuel,DataW.trod enc P W 0 (fun _=>true) true fuel t v.cells.toList=some (d,p)/\(∀ n ∈ d.weights P t,n<=140737488351232)/\(∀ q ∈ p,q.block<W.heap.size):=by
  intro ts
  induction ts with
  | nil=>intro vs ds p h _ _; obtain ⟨rfl,_,_⟩:=trodAll_nil h; exact ⟨rfl,fun j t v h=>by simp at h⟩
  | cons t ts ih=>
   intro vs ds p h hw hlt
   obtain ⟨v,vs,d,ds,p1,p2,rfl,rfl,rfl,h1,h2⟩:=trodAll_cons h
   obtain ⟨k1,k2⟩:=ih vs ds p2 h2 (fun n hn=>hw n (by rw [DataW.weightsEach,List.mem_append]; exact .inr hn)) (fun q hq=>hlt q (List.mem_append_right _ hq))
   refine ⟨by simp [k1],fun j t' v' ht hv=>?_⟩
   cases j with
   | zero=>
    simp at ht hv
    subst ht; subst hv
    obtain ⟨fuel,hf⟩:=h1
    exact ⟨d,p1,fuel,hf,fun n hn=>hw n (by rw [DataW.weightsEach,List.mem_append]; exact .inl hn),fun q hq=>hlt q (List.mem_append_left _ hq)⟩
   | succ j=>exact k2 j t' v' (by simpa using ht) (by simpa using hv)
 obtain ⟨k1,k2⟩:=key ts args.toList ds p h hw hlt
 exact ⟨by simpa using k1,fun j t v ht hv=>⟨⟨base,hf j t v ht hv⟩,k2 j t v ht (by simpa using hv)⟩⟩
theorem wG (hl:laidOutB P=true) {W':World} (hb:Below W.heap.size W W'):∀ (ts:List TypeId) (vs:List Value) (ds:List (DataW H)) (p:List MemPlace),ts.all (fun t=>P.readableRec t && decide (t<P.types.size))=true->DataW.TrodAll enc P W 0 (fun _=>true) true ts vs ds p->(∀ q ∈ p,q.block<W.heap.size) ->
  DataW.TrodAll enc P W' 0 (fun b=>decide (b<W.heap.size)) true ts vs ds p:=by
 intro ts
 induction ts with
 | nil=>intro vs ds p _ h _; obtain ⟨rfl,rfl,rfl⟩:=trodAll_nil h; rfl
 | cons t ts ih=>
  intro vs ds p hr h hlt
  obtain ⟨v,vs,d,ds,p1,p2,rfl,rfl,rfl,h1,h2⟩:=trodAll_cons h
  rw [List.all_cons,Bool.and_eq_true,Bool.and_eq_true,decide_eq_true_eq] at hr
  exact ⟨p1,p2,Below.trod hl hr.1.1 hr.1.2 h1 hb fun q hq=>hlt q (List.mem_append_left _ hq),ih vs ds p2 hr.2 h2 fun q hq=>hlt q (List.mem_append_right _ hq),rfl⟩
theorem xg {fn:Func} {s:ChangeSpec} {tb:TypeId} {W':World} {args:Array Value} {ds:List (DataW H)} {p:List MemPlace} (hl:laidOutB P=true)
  (hrow:fn.params.toList.all (fun t=>P.readableRec t && decide (t<P.types.size))=true) (hr:fn.resultTypes = #[tb]) (hb:P.underlying tb=some .bool) (hv:s.vars=[])
  (hs:s.fn H (ds++[])={ results:=[.lit (.bool true)],args:=ds }) (hW:DataW.Whole enc P fn.params.toList s.vars false W args.toList ds [] p) (hA:DataW.TrodAll enc P W 0 (fun _=>true) true fn.params.toList args.toList ds p) (hlt:∀ q ∈ p,q.block<W.heap.size) (hk:Kp [] W W') :
  s.post enc P fn false true false false W args (.bool true) W':=by
 refine ⟨ds,[],p,[],p,[],hW,?_,?_,?_,hk.below.frame _,fun h=>by cases h⟩
 ·rw [hs,hr]
  exact trodAll_mk1 ⟨1,by simp [DataW.trod,Value.cells,hb]⟩
 ·rw [hs]
  exact wG hl hk.below _ _ _ _ hrow hA hlt
 ·rw [hs,hv]; rfl
theorem xp {C:Checked} {os:Os} {f:FuncId} {fn:Func} {s:ChangeSpec} {conds:List PathCond} {tb:TypeId} (own:ownKnob C.prog.godebug=none) (started:os.Started) (noInit:C.prog.inits.idxOf? f=none) (hfn:C.prog.funcs[f]? = some fn)
  (witness:∃ (w:World) (tape:Tape) (i:Input),w.os=os/\(w.forCall tape i).Shaped C.prog/\i.vars=[]/\Input.okWide C.prog (w.forCall tape i) .any w.heap.size f i /\
   s.pre6 enc C.prog fn conds false (w.forCall tape i).memory i.args/\({}:Assume).holds C.prog (lone (Frame.enter C.prog f i.args .normal) [] (w.forCall tape i)))
  (hl:laidOutB C.prog=true) (hrow:fn.params.toList.all (fun t=>C.prog.readableRec t && decide (t<C.prog.types.size))=true) (hr:fn.resultTypes = #[tb]) (hb:C.prog.underlying tb=some .bool) (hv:s.vars=[])
  (hs:∀ ds:List (DataW H),ds.length=fn.params.size->s.fn H ds={ results:=[.lit (.bool true)],args:=ds })
  (law:∀ (W:World) (args:Array Value),args.size=fn.params.toList.length->(∀ (j:Nat) t v,fn.params.toList[j]? = some t->args[j]? = some v->Ar enc C.prog W t v)->gK C.prog f args W fun r W'=>r = .bool true/\Kp [] W W') :
  ReturnsInHanded {} C os f .any (s.pre6 enc C.prog fn conds false) (s.post enc C.prog fn false true false false):=by
 refine returnsInHanded_of_change_sized own started noInit hfn witness ?_
 intro W base args ds gs before hval hW _ hsz _
 have hW0:=hW
 obtain ⟨p,q,hA,hV,rfl,_,_⟩:=hW
 rw [hv] at hV
 obtain ⟨rfl,rfl⟩:=trodVars_none hV
 simp only [List.append_nil] at hW0 hsz
 have hlt:∀ x ∈ p,x.block<W.heap.size:=fun x hx=>by simpa using hW0.lt x hx
 have hwt:∀ n ∈ DataW.weightsEach C.prog fn.params.toList ds,n<=140737488351232:=fun n hn=>by
  have hmem:n ∈ DataW.weightsEach C.prog (fn.params.toList++s.plain.varTypes C.prog) ds:=by
   have:∀ (ts us:List TypeId) (ds:List (DataW H)),n ∈ DataW.weightsEach C.prog ts ds->n ∈ DataW.weightsEach C.prog (ts++us) ds:=by
    intro ts
    induction ts with
    | nil=>intro us ds h; simp [DataW.weightsEach] at h
    | cons t ts ih=>
     intro us ds h
     cases ds with
     | nil=>simp [DataW.weightsEach] at h
     | cons d ds=>
      rw [DataW.weightsEach,List.mem_append] at h
      rw [List.cons_append,DataW.weightsEach,List.mem_append]
      exact h.imp id (ih us ds)
   exact this _ _ _ hn
  exact of_decide_eq_true (List.all_eq_true.1 hsz n hmem)
 obtain ⟨hsize,har⟩:=De (fun j t v ht hv=>hval j t v (by simpa using ht) hv) hA hwt hlt
 have hdl:ds.length=fn.params.size:=by
  have:∀ (ts:List TypeId) (vs:List Value) (ds:List (DataW H)) (p:List MemPlace),DataW.TrodAll enc C.prog W 0 (fun _=>true) true ts vs ds p->ds.length=ts.length:=by
   intro ts
   induction ts with
   | nil=>intro vs ds p h; obtain ⟨_,rfl,_⟩:=trodAll_nil h; rfl
   | cons t ts ih=>intro vs ds p h; obtain ⟨v,vs,d,ds,p1,p2,rfl,rfl,rfl,_,h2⟩:=trodAll_cons h; simp [ih vs ds p2 h2]
  simpa using this _ _ _ _ hA
 refine Calls.mono (law W args hsize har) fun e W' ⟨v,he,hv',hk⟩=>⟨v,he,?_⟩
 subst hv'
 exact xg hl hrow hr hb hv (by rw [List.append_nil]; exact hs ds hdl) hW0 hA hlt hk
end
end Go.Proofs.YtdggohppeeaipaaGreat
namespace Go.Proofs.YtdggohppeeaipaaGreat
open Go.RowKit Go.ChangeShapes Go.WideShapes
theorem zG:ownKnob Tryz.prog.godebug=none:=by kernel_rfl
theorem yo:laidOutB Tryz.prog=true:=by kernel_rfl
theorem IQ:Tr Tryz.prog (au aF) 59 (.nm .snap):=Tr.struct (ss:=[.int,.int,(.lst .int),.bool,.str]) Tryz.underlying59 (by kernel_rfl) (fun cells h=>by
 obtain ⟨y0,l0,rfl,y1,l1,rfl,y2,l2,rfl,y3,l3,rfl,y4,l4,rfl,rfl⟩:=h
 exact ⟨⟨y0,y1,y2,y3,y4⟩,rfl⟩) (fG.cons (Tr.int Tryz.underlying3) rfl (by kernel_rfl) (fG.cons (Tr.int Tryz.underlying3) rfl (by kernel_rfl) (fG.cons (Tr.list Tryz.underlying27 (by kernel_rfl) (by kernel_rfl) (Tr.int Tryz.underlying3)) rfl (by kernel_rfl) (fG.cons (Tr.bool Tryz.underlying4) rfl (by kernel_rfl) (fG.cons (Tr.str Tryz.underlying9) rfl (by kernel_rfl) (fG.nil))))))
theorem IZ:Tr Tryz.prog (au aF) 77 (.nm .opn):=Tr.struct (ss:=[.int,.int]) Tryz.underlying77 (by kernel_rfl) (fun cells h=>by
 obtain ⟨y0,l0,rfl,y1,l1,rfl,rfl⟩:=h
 exact ⟨⟨y0,y1⟩,rfl⟩) (fG.cons (Tr.int Tryz.underlying3) rfl (by kernel_rfl) (fG.cons (Tr.int Tryz.underlying3) rfl (by kernel_rfl) (fG.nil)))
theorem IA:Tr Tryz.prog (au aF) 35 (.nm .reply):=Tr.struct (ss:=[.int,.int]) Tryz.underlying35 (by kernel_rfl) (fun cells h=>by
 obtain ⟨y0,l0,rfl,y1,l1,rfl,rfl⟩:=h
 exact ⟨⟨y0,y1⟩,rfl⟩) (fG.cons (Tr.int Tryz.underlying33) rfl (by kernel_rfl) (fG.cons (Tr.int Tryz.underlying3) rfl (by kernel_rfl) (fG.nil)))
theorem Jc:Tr Tryz.prog (au aF) 44 (.nm .sess):=Tr.struct (ss:=[.int,.int,(.nm .reply)]) Tryz.underlying44 (by kernel_rfl) (fun cells h=>by
 obtain ⟨y0,l0,rfl,y1,l1,rfl,y2,l2,rfl,rfl⟩:=h
 exact ⟨⟨y0,y1,y2⟩,rfl⟩) (fG.cons (Tr.int Tryz.underlying3) rfl (by kernel_rfl) (fG.cons (Tr.int Tryz.underlying3) rfl (by kernel_rfl) (fG.cons (IA) rfl (by kernel_rfl) (fG.nil))))
theorem Ij:Tr Tryz.prog (au aF) 26 (.nm .state):=Tr.struct (ss:=[.int,.int,.int,.int,(.lst (.nm .sess)),(.lst (.nm .opn)),(.lst (.nm .snap))]) Tryz.underlying26 (by kernel_rfl) (fun cells h=>by
 obtain ⟨y0,l0,rfl,y1,l1,rfl,y2,l2,rfl,y3,l3,rfl,y4,l4,rfl,y5,l5,rfl,y6,l6,rfl,rfl⟩:=h
 exact ⟨⟨y0,y1,y2,y3,y4,y5,y6⟩,rfl⟩) (fG.cons (Tr.int Tryz.underlying3) rfl (by kernel_rfl) (fG.cons (Tr.int Tryz.underlying3) rfl (by kernel_rfl) (fG.cons (Tr.int Tryz.underlying3) rfl (by kernel_rfl) (fG.cons (Tr.int Tryz.underlying3) rfl (by kernel_rfl) (fG.cons (Tr.list Tryz.underlying22 (by kernel_rfl) (by kernel_rfl) (Jc)) rfl (by kernel_rfl) (fG.cons (Tr.list Tryz.underlying23 (by kernel_rfl) (by kernel_rfl) (IZ)) rfl (by kernel_rfl) (fG.cons (Tr.list Tryz.underlying24 (by kernel_rfl) (by kernel_rfl) (IQ)) rfl (by kernel_rfl) (fG.nil))))))))
theorem Ix:Tr Tryz.prog (au aF) 29 (.nm .command):=Tr.struct (ss:=[.int,.int,.int,.int,.int,.int,(.lst .int),.str]) Tryz.underlying29 (by kernel_rfl) (fun cells h=>by
 obtain ⟨y0,l0,rfl,y1,l1,rfl,y2,l2,rfl,y3,l3,rfl,y4,l4,rfl,y5,l5,rfl,y6,l6,rfl,y7,l7,rfl,rfl⟩:=h
 exact ⟨⟨y0,y1,y2,y3,y4,y5,y6,y7⟩,rfl⟩) (fG.cons (Tr.int Tryz.underlying3) rfl (by kernel_rfl) (fG.cons (Tr.int Tryz.underlying3) rfl (by kernel_rfl) (fG.cons (Tr.int Tryz.underlying3) rfl (by kernel_rfl) (fG.cons (Tr.int Tryz.underlying3) rfl (by kernel_rfl) (fG.cons (Tr.int Tryz.underlying3) rfl (by kernel_rfl) (fG.cons (Tr.int Tryz.underlying3) rfl (by kernel_rfl) (fG.cons (Tr.list Tryz.underlying27 (by kernel_rfl) (by kernel_rfl) (Tr.int Tryz.underlying3)) rfl (by kernel_rfl) (fG.cons (Tr.str Tryz.underlying9) rfl (by kernel_rfl) (fG.nil)))))))))
set_option maxRecDepth 100000 in
theorem gY (os:Os) (started:os.Started) (H:Type) (enc:TypeId × Value->H) :
  ReturnsInHanded {} Tryz.checked os 8 .any (Rows.modelMigratesSpec.pre6 enc Tryz.prog Tryz.f8 Rows.modelMigratesRow.domain false) (Rows.modelMigratesSpec.post enc Tryz.prog Tryz.f8 false true false false):=by
 refine xp (C:=Tryz.checked) zG started (by kernel_rfl) Tryz.func8 (ChangeSpec.witness6 (enc:=enc) (C:=Tryz.checked) false ⟨#[],#[.agg #[.int .i64 0,.int .i64 0,.int .i64 0,.int .i64 0,.slice none 0 0,.slice none 0 0,.slice none 0 0],.slice none 0 0,.int .u8 0],[]⟩ 8 (by kernel_rfl) (by kernel_rfl) (by kernel_rfl) (by kernel_rfl)) yo (by kernel_rfl) (by kernel_rfl) Tryz.underlying4 rfl (fun ds h=>?_) ?_
 ·match ds,h with
  | [d0,d1,d2],_=>rfl
 ·intro W args hs ha
  obtain ⟨l⟩:=args
  match l,hs with
  | [v0,v1,v2],_=>
   obtain ⟨x0,h0⟩:=Ar.struct (shp:=au aF) (ha 0 26 _ rfl rfl) Tryz.underlying26 Ij
   obtain ⟨x1,h1⟩:=Ar.list (shp:=au aF) (ha 1 49 _ rfl rfl) Tryz.underlying49 (Tr.list Tryz.underlying49 (by kernel_rfl) (by kernel_rfl) (Ix))
   obtain ⟨x2,h2⟩:=Ar.u8 (shp:=au aF) (ha 2 5 _ rfl rfl) Tryz.underlying5
   exact BK (Cw x0 x1 x2) rfl (.cons h0 (.cons h1 (.cons h2 .nil)))
theorem modelMigrates_holds:Rows.ModelMigratesSaid:=
 OpenClaim.holds_of_wide 8 Tryz.f8 rfl rfl rfl rfl rfl rfl rfl ⟨rfl,rfl,rfl,rfl,rfl⟩ rfl rfl rfl rfl rfl (by kernel_rfl) Tryz.func8 (by kernel_rfl)
  (of_decide_eq_true (by kernel_rfl)) (by unfold Func.isWrapper; first | (rw [if_pos (by decide +kernel)]; kernel_rfl) | (rw [if_neg (by decide +kernel)]; exact ⟨rfl,rfl⟩))
  (fun os started H enc _=>gY os started H enc)
end Go.Proofs.YtdggohppeeaipaaGreat
