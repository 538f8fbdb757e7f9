/- What leads to the law, part 7. Conditions: each lemma's own. -/
import Derived.Test.YticbaadnibdbkaaGreatNLM6
set_option linter.unusedVariables false
set_option linter.unusedSimpArgs false
set_option maxHeartbeats 2000000
namespace Go.Proofs.YticbaadnibdbkaaGreat
open Go.RowKit
variable {r:Route}
theorem pK {s:Stable} (h:r.next<1\/(s.log.length:Int)+1<r.next):gl s r=(na,1):=if_pos h
theorem pJ {s:Stable} (h1:1<=r.next) (h2:r.next<=(s.log.length:Int)+1) (h:¬ mayL (Letter.mk 3 r.frm r.to s.term (r.next - 1) (cD s.log (r.next - 1)) r.commit r.bin false (fu s.log (r.next - 1) 4))=0):gl s r=(na,mayL (rW s r)):=by
 rw [gl,if_neg (by omega),if_pos (show ¬ mayL (rW s r)=0 from h)]
theorem rA {s:Stable} (h1:1<=r.next) (h2:r.next<=(s.log.length:Int)+1) (h:mayL (Letter.mk 3 r.frm r.to s.term (r.next - 1) (cD s.log (r.next - 1)) r.commit r.bin false (fu s.log (r.next - 1) 4))=0):gl s r=(rW s r,0):=by
 rw [gl,if_neg (by omega),if_neg (adi.2 (show mayL (rW s r)=0 from h))]
variable {b:List UInt8}
theorem Sd (h:(b.length:Int)<2):a_ b=([],0,2):=if_pos (by omega)
theorem Qz (h:2<=(b.length:Int)) (h2:dU b=0\/4096<dU b):a_ b=([],0,3):=by rw [a_,if_neg (by omega),if_pos h2]
theorem Qp (h:2<=(b.length:Int)) (h2:¬ dU b=0) (h3:dU b<=4096) (h4:(b.length:Int)<2+dU b+4):a_ b=([],0,2):=by rw [a_,if_neg (by omega),if_neg (by omega),if_pos h4]
variable {x:UInt8} {k:Nat}
theorem Mg {l:List UInt8} (h:l[k]? = some x):(Dx (l.take k)*2 ^ 8) % 4294967296 ||| x.toNat=Dx (l.take (k+1)):=by
 rw [ai h]; simp only [Dx,List.foldl_append]; rfl
variable {n:Int}
theorem afo (h0:0<=n):(b.drop (2+n).toNat).take ((2+n+4).toNat - (2+n).toNat)=(b.drop (2+n).toNat).take 4:=by
 congr 1; omega
theorem aeY (h0:0<=n) (h:2+n+4<=(b.length:Int)):(((b.drop (2+n).toNat).take ((2+n+4).toNat - (2+n).toNat)).length:Int)=4:=by
 rw [List.length_take,List.length_drop]; omega
theorem afP (hk:(k:Int)<4) (h0:0<=n) (h:2+n+4<=(b.length:Int)):(k:Int)<(((b.drop (2+n).toNat).take 4).length:Nat):=by
 rw [List.length_take,List.length_drop]; omega
theorem Pn (h6:decide (dI 1 ((b.drop 0).take ((2+dU b).toNat - 0))=Dx (((b.drop (2+dU b).toNat).take 4).take k))=false) (h4:(4:Int)<=k) (h:2<=(b.length:Int)) (h2:¬ dU b=0) (h3:dU b<=4096) (h5:2+dU b+4<=(b.length:Int)):a_ b=([],0,3):=by
 have h6:=ahg h6;rw [ahF,ahw,ahH,ahm (by omega)] at h6;rw [a_,if_neg (by omega),if_neg (by omega),if_neg (by omega),if_neg h6]
theorem YM (h6:decide (dI 1 ((b.drop 0).take ((2+dU b).toNat - 0))=Dx (((b.drop (2+dU b).toNat).take 4).take k))=true) (h4:(4:Int)<=k) (h:2<=(b.length:Int)) (h2:¬ dU b=0) (h3:dU b<=4096) (h5:2+dU b+4<=(b.length:Int)):a_ b=((b.drop 2).take ((2+dU b).toNat - 2),2+dU b+4,0):=by
 have h6:=ac6 h6;rw [ahF,ahw,ahH,ahm (by omega)] at h6;rw [a_,if_neg (by omega),if_neg (by omega),if_neg (by omega),if_pos h6]
def YY (b:List UInt8):List (Nat × LI):=[(11,{ σ:=Nat,F:=fun k=>([(0,one (.fz .u8 (b))),(6,one (.int (2+dU b))),(7,one (.xx (.w (Dx (((b.drop (2+dU b).toNat).take 4).take k))) [])),(40,one (.fz .u8 ((b.drop (2+dU b).toNat).take 4))),(41,one (.int 4)),(42,one (.int k))],[]),J:=fun k=>k<=4,μ:=fun k=>4 - k })]
noncomputable def CZ:Kn:=aJ (ae (kC (cL .u8)) au) aw fun (b,_) _=>⟨[],[.c (.fz .u8 (((a_ b).1))),.c (.int (((a_ b).2.1))),.c (.int (((a_ b).2.2)))],none,false⟩
theorem OP:CK 83 CZ:=ah fun (b,_) _ _=>by
 refine av gq (YY b) Tryz.func83 (?_:(fun q12=>(fun q11=>(fun q10=>(fun q9=>(fun q8=>(fun q7=>(fun q6=>(fun q5=>(fun q4=>(fun q3=>(fun q13=>(fun q2=>(fun q15=>(fun q14=>(fun q1=>(fun q18=>(fun q17=>(fun q16=>(fun q19=>(fun q0=>(fun q20=>(fun q21=>(fun q22=>b.length*1<=140737488355328->(q6<q2->q14)/\(q2<=q6->q3<=q3/\q3<q6/\q12<64/\I64 q15/\q3<=1/\1<q6/\q3<=q15/\q3<=q10/\(q0=q3\/4096<q0->q13)/\(¬q0=q3/\q0<=4096->I64 q20/\I64 q21/\(q6<q21->q14)/\(q21<=q6->I64 q21/\q3<=q20/\q20<=q21/\q21<=q6/\∃ s0,(b=b/\q20=q1/\q11=Dx (List.take s0 q19)/\q22=List.take q5 q16/\(↑q22.length:Int)=q4/\q3=(↑s0:Int))/\s0<=q5/\∀ (s:Nat),s<=q5->((↑s:Int)<q4->q3<=(↑s:Int)/\(↑s:Int)<(↑(List.take q5 q16).length:Int)/\∀ (x:UInt8),(List.take q5 q16)[s]? = some x->q12<32/\I64 ((↑s:Int)+1)/\∃ s',(b=b/\q1=q1/\Dx (List.take s q19)*2 ^ q12 % 4294967296 ||| x.toNat=Dx (List.take s' q19)/\List.take q5 q16=List.take q5 q16/\q4=q4/\(↑s:Int)+1=(↑s':Int))/\s' <= q5/\q5 - s' < q5 - s)/\(q4<=(↑s:Int)->q3<=q3/\q3<=q1/\q1<=q1/\q1<=q6/\(decide (q17=Dx (List.take s q19))=false->q13)/\(decide (q17=Dx (List.take s q19))=true->q3<=q2/\q2<=q1/\q1<=q1/\q1<=q6/\(q18.length*1<=140737488355328->I64 (q1+q4)/\q18=(a_ b).fst/\q1+q4=q7.fst/\q3=q7.snd))))))) (List.take (q21.toNat - q20.toNat) (List.drop q20.toNat b))) (q20+q4)) (q2+q0)) (To q15 q10)) (List.take q5 q16)) (List.drop q1.toNat b)) (dI 1 (List.take (q1.toNat - q11) (List.drop q11 b)))) (List.take (q1.toNat - 2) (List.drop 2 b))) (q2+dU b)) (q9/\q3=q7.fst/\q2=q7.snd)) (q8*q2 ^ q12)) (2:Int)) (q9/\q3=q7.fst/\3=q7.snd)) (0:Int)) (4:Int)) (4:Nat)) (↑b.length:Int)) (a_ b).snd) (↑(UInt8.toNat (b.getD q11 (ao Sh.u8))):Int)) ((a_ b).fst=[])) (↑(UInt8.toNat (b.getD 1 (ao Sh.u8))):Int)) (0:Nat)) (8:Nat));have hn:=PV b;have hb0:=(b.getD 0 (ao .u8):UInt8).toNat_lt;have hb1:=(b.getD 1 (ao .u8):UInt8).toNat_lt;dsimp only [dU] at hn;iterate 3 ((all_goals (repeat' with_reducible first|apply bd|refine bf ?_|intro)); (all_goals try (first | exact bq | exact (congrArg Prod.fst (Sd ab)).symm | exact (congrArg (fun q=>q.2.1) (Sd ab)).symm | exact (congrArg (fun q=>q.2.2) (Sd ab)).symm | exact (congrArg Prod.fst (Qz ab ab)).symm | exact (congrArg (fun q=>q.2.1) (Qz ab ab)).symm | exact (congrArg (fun q=>q.2.2) (Qz ab ab)).symm | exact (congrArg Prod.fst (Qp ab ab ab ab)).symm | exact (congrArg (fun q=>q.2.1) (Qp ab ab ab ab)).symm | exact (congrArg (fun q=>q.2.2) (Qp ab ab ab ab)).symm | exact (congrArg Prod.fst (Pn ab ab ab ab ab ab)).symm | exact (congrArg (fun q=>q.2.1) (Pn ab ab ab ab ab ab)).symm | exact (congrArg (fun q=>q.2.2) (Pn ab ab ab ab ab ab)).symm | exact (congrArg Prod.fst (YM ab ab ab ab ab ab)).symm | exact (congrArg (fun q=>q.2.1) (YM ab ab ab ab ab ab)).symm | exact (congrArg (fun q=>q.2.2) (YM ab ab ab ab ab ab)).symm | exact (congrArg Prod.fst (Sd ab)) | exact (congrArg Prod.fst (Qz ab ab)) | exact (congrArg Prod.fst (Qp ab ab ab ab)) | exact (congrArg Prod.fst (Pn ab ab ab ab ab ab)) | exact rfl | exact (afo hn) | exact (aeY hn ab) | exact (afP ab hn ab) | exact (Mg ab) | (dsimp only [dU]; omega) | (refine bK ?_ ?_ <;> dsimp only [dU] <;> omega) | (rw [List.length_take,List.length_drop]; omega))); all_goals try first | refine ⟨‹Nat› + 1,?_⟩ | refine ⟨0,?_⟩)
noncomputable def vA:Kn:=aJ (ae (kC (aW 0 0)) (ae (kT (.nm .record)) au)) (aB (dx 64 (ax cI (ax cI (ax cI (ax (eN 1) du))))) (aB (eS 52 (.nm .entry)) aw)) fun (_,r,_) ((fl,tm,vo,_,_),lg,_)=>⟨[],[.c (.bool (.atom (((dQ (Stable.mk fl tm vo lg) r).isSome))))],some ([.box 64 ([.int ((((dQ (Stable.mk fl tm vo lg) r).getD (Stable.mk fl tm vo lg)).floor)),.int ((((dQ (Stable.mk fl tm vo lg) r).getD (Stable.mk fl tm vo lg)).term)),.int ((((dQ (Stable.mk fl tm vo lg) r).getD (Stable.mk fl tm vo lg)).vote)),.own 1]),.row 52 (.nm .entry) ((((dQ (Stable.mk fl tm vo lg) r).getD (Stable.mk fl tm vo lg)).log))]),false⟩
theorem Fk:CK 214 vA:=ah fun (_,r,_) ((fl,tm,vo,_,_),lg,_) _=>by
 refine bw gq [] Tryz.func214 (?_:(fun q0=>dK r ((r.a<fl->false=(dQ q0 r).isSome/\dH q0 ((dQ q0 r).getD q0))/\(fl<=r.a->true=(dQ q0 r).isSome/\dH (Stable.mk r.a tm vo lg) ((dQ q0 r).getD q0)))) (Stable.mk fl tm vo lg));(repeat' with_reducible first|apply bd|refine bf ?_|intro)
 all_goals first | exact bq | (simp only [dQ]; grind) | (simp only [List.length_cons,List.length_nil]; omega)
noncomputable def AG:Kn:=aJ (ae (kC (aW 0 0)) (ae (kT (.nm .record)) au)) (aB (dx 64 (ax cI (ax cI (ax cI (ax (eN 1) du))))) (aB (eS 52 (.nm .entry)) aw)) fun (_,r,_) ((fl,tm,vo,_,_),lg,_)=>⟨[],[.c (.bool (.atom (((fw (Stable.mk fl tm vo lg) r).isSome))))],some ([.box 64 ([.int ((((fw (Stable.mk fl tm vo lg) r).getD (Stable.mk fl tm vo lg)).floor)),.int ((((fw (Stable.mk fl tm vo lg) r).getD (Stable.mk fl tm vo lg)).term)),.int ((((fw (Stable.mk fl tm vo lg) r).getD (Stable.mk fl tm vo lg)).vote)),.own 1]),.row 52 (.nm .entry) ((((fw (Stable.mk fl tm vo lg) r).getD (Stable.mk fl tm vo lg)).log))]),false⟩
theorem MW:CK 215 AG:=ah fun (_,r,_) ((fl,tm,vo,_,_),lg,_) _=>by
 refine bw gq [] Tryz.func215 (?_:(fun q0=>dK r ((r.a<tm\/(r.a=tm/\¬vo=0)/\¬vo=r.b->false=(fw q0 r).isSome/\dH q0 ((fw q0 r).getD q0))/\(tm<=r.a/\((¬r.a=tm\/vo=0)\/vo=r.b)->true=(fw q0 r).isSome/\dH (Stable.mk fl r.a r.b lg) ((fw q0 r).getD q0)))) (Stable.mk fl tm vo lg));(repeat' with_reducible first|apply bd|refine bf ?_|intro)
 all_goals first | exact bq | (simp only [fw]; grind) | (simp only [List.length_cons,List.length_nil]; omega)
noncomputable def EX:Kn:=aJ (ae (kC (aW 0 0)) (ae (kT (.nm .record)) au)) (aB (dx 64 (ax cI (ax cI (ax cI (ax (eN 1) du))))) (aB (eS 52 (.nm .entry)) aw)) fun (_,r,_) ((fl,tm,vo,_,_),lg,_)=>⟨[1<=r.a/\r.a<=64],[.c (.bool (.atom (((fE (Stable.mk fl tm vo lg) r).isSome))))],some ([.box 64 ([.int ((((fE (Stable.mk fl tm vo lg) r).getD (Stable.mk fl tm vo lg)).floor)),.int ((((fE (Stable.mk fl tm vo lg) r).getD (Stable.mk fl tm vo lg)).term)),.int ((((fE (Stable.mk fl tm vo lg) r).getD (Stable.mk fl tm vo lg)).vote)),.own 1]),.row 52 (.nm .entry) ((((fE (Stable.mk fl tm vo lg) r).getD (Stable.mk fl tm vo lg)).log))]),false⟩
theorem Py:CK 217 EX:=ah fun (_,r,_) ((fl,tm,vo,_,_),lg,_) hp=>by
 have h0:=bW hp;refine bw (vZ gq) [] Tryz.func217 (?_:(fun q1=>(fun q0=>dK r (((↑lg.length:Int)<r.a->false=(fE q0 r).isSome/\dH q0 ((fE q0 r).getD q0))/\(r.a<=(↑lg.length:Int)->I64 q1/\(0<=q1/\q1<=(↑lg.length:Int))/\true=(fE q0 r).isSome/\dH (Stable.mk fl tm vo (List.take q1.toNat lg)) ((fE q0 r).getD q0)))) (Stable.mk fl tm vo lg)) (r.a - 1));(repeat' with_reducible first|apply bd|refine bf ?_|intro)
 all_goals first | exact bq | (simp only [fE]; grind) | (simp only [List.length_cons,List.length_nil]; omega)
noncomputable def vD:Kn:=aJ (ae (kC (aW 0 0)) (ae (kT (.nm .record)) au)) (aB (dx 64 (ax cI (ax cI (ax cI (ax (eN 1) du))))) (aB (eS 52 (.nm .entry)) aw)) fun (_,r,_) ((fl,tm,vo,_,_),lg,_)=>⟨[lg.length<=1000000,r.x.length<=200],[.c (.bool (.atom (((dN (Stable.mk fl tm vo lg) r).isSome))))],some ([.box 64 ([.int ((((dN (Stable.mk fl tm vo lg) r).getD (Stable.mk fl tm vo lg)).floor)),.int ((((dN (Stable.mk fl tm vo lg) r).getD (Stable.mk fl tm vo lg)).term)),.int ((((dN (Stable.mk fl tm vo lg) r).getD (Stable.mk fl tm vo lg)).vote)),.own 1]),.row 52 (.nm .entry) ((((dN (Stable.mk fl tm vo lg) r).getD (Stable.mk fl tm vo lg)).log))]),false⟩
theorem Gg:CK 216 vD:=ah fun (_,r,_) ((fl,tm,vo,_,_),lg,_) hp=>by
 have h0:=bW hp;have h1:=bW (eH hp);refine bw gq [] Tryz.func216 (?_:(fun q2=>(fun q1=>(fun q0=>dK r (I64 q1/\(¬r.a=q1->false=(dN q0 r).isSome/\dH q0 ((dN q0 r).getD q0))/\(r.a=q1->(q2->(lg.length+[Entry.mk r.b r.x].length)*32<=140737488355328)/\(q2->true=(dN q0 r).isSome/\dH (Stable.mk fl tm vo (lg++[Entry.mk r.b r.x])) ((dN q0 r).getD q0))))) (Stable.mk fl tm vo lg)) ((↑lg.length:Int)+1)) (r.x.length*1<=140737488355328));(repeat' with_reducible first|apply bd|refine bf ?_|intro)
 all_goals first | exact bq | (simp only [dN]; grind) | (simp only [List.length_cons,List.length_nil]; omega)
theorem OH :Sat Tryz.prog (al tyT) 148 [] [] ⟨[],[.c (.xx (.km bE) [])],none,false⟩:=FQ
noncomputable def EY:Kn:=aJ au aw fun _ _=>⟨[],[.c (.xx (.km bE) [])],none,false⟩
theorem Se:CK 148 EY:=ah fun _ _ _=>OH
noncomputable def CO:Kn:=aJ (ae (kC (aW 0 0)) (ae (kC (aW 1 0)) (ae (kC (aW 2 0)) au))) (aB (xq 40 (.nm .letter)) (aB (xq 64 (.nm .stable)) (aB (dx 3 (ax cI du)) aw))) fun _ (x,s,(who,_),_)=>⟨[],[.c (.bool (.atom ((decide (s.term<x.term) || decide (s.vote=0) || decide (s.vote=who)))))],none,false⟩
theorem Th:CK 169 CO:=ah fun _ (x,s,(who,_),_) _=>by
 refine av gq [] Tryz.func169 (?_:(fun q0=>q0=q0) (decide (s.term<x.term) || decide (s.vote=0) || decide (s.vote=who)));(repeat' with_reducible first|apply bd|refine bf ?_|intro)
 all_goals first | exact bq | rfl
noncomputable def yi:Kn:=aJ (ae (kT (.nm .stable)) (ae (kC cI) au)) aw fun (s,t,_) _=>⟨[s.term<=1048576],[.c (.fz (.nm .record) (((aU s t).1))),.c (.int (((aU s t).2)))],none,false⟩
theorem HV:CK 48 yi:=ah fun (s,t,_) _ hp=>by
 have h0:=bW hp;refine av gq [] Tryz.func48 (?_:bV s (I64 t->(t<0\/5<=t->(aU s t).fst=[]/\1=(aU s t).snd)/\(0<=t/\t<5->(1048576<=s.term->(aU s t).fst=[]/\4=(aU s t).snd)/\(s.term<1048576->I64 (s.term+1)/\I64 (t+1)/\[Record.mk 2 (s.term+1) (t+1) []]=(aU s t).fst/\0=(aU s t).snd))));(repeat' with_reducible first|apply bd|refine bf ?_|intro)
 all_goals first | exact bq | (simp only [aU]; grind) | (have q:=(by with_reducible assumption:I64 s.term); exact bK (by have:=q.1; omega) (by have:=q.2; omega)) | (simp only [List.length_cons,List.length_nil]; omega)
noncomputable def EJ:Kn:=aJ (ae (kT (.nm .stable)) (ae (kT (.nm .route)) au)) aw fun (s,r,_) _=>⟨[],[.agg (cellsOf (.nm .letter) ((gl s r).1)),.c (.int (((gl s r).2)))],none,false⟩
theorem Qo:CK 120 EJ:=ah fun (s,r,_) _ _=>by
 refine av gq [] Tryz.func120 (?_:(fun q5=>(fun q4=>(fun q3=>(fun q2=>(fun q1=>(fun q0=>bV s (SY r ((q5<=r.next->I64 q4)/\(r.next<q5\/q4<r.next->q2=q1.kind/\q2=q1.frm/\q2=q1.to/\q2=q1.term/\q2=q1.a/\q2=q1.b/\q2=q1.c/\q2=q1.bin/\false=q1.ok/\q1.l=[]/\q5=(gl s r).snd)/\(q5<=r.next/\r.next<=q4->I64 q3/\(I64 (cD s.log q3)->(fu s.log q3 4).length*32<=140737488355328->I64 (mayL q0)->(¬mayL q0=q2->q2=q1.kind/\q2=q1.frm/\q2=q1.to/\q2=q1.term/\q2=q1.a/\q2=q1.b/\q2=q1.c/\q2=q1.bin/\false=q1.ok/\q1.l=[]/\mayL q0=(gl s r).snd)/\(mayL q0=q2->yX q0 q1 (q2=(gl s r).snd))))))) (Letter.mk 3 r.frm r.to s.term q3 (cD s.log q3) r.commit r.bin false (fu s.log q3 4))) (gl s r).fst) (0:Int)) (r.next - q5)) ((↑s.log.length:Int)+q5)) (1:Int));(repeat' with_reducible first|apply bd|refine bf ?_|intro)
 all_goals (first | exact bq | exact (congrArg (fun q=>q.2) (pK ab)).symm | exact (congrArg (fun q=>q.1.kind) (pK ab)).symm | exact (congrArg (fun q=>q.1.frm) (pK ab)).symm | exact (congrArg (fun q=>q.1.to) (pK ab)).symm | exact (congrArg (fun q=>q.1.term) (pK ab)).symm | exact (congrArg (fun q=>q.1.a) (pK ab)).symm | exact (congrArg (fun q=>q.1.b) (pK ab)).symm | exact (congrArg (fun q=>q.1.c) (pK ab)).symm | exact (congrArg (fun q=>q.1.bin) (pK ab)).symm | exact (congrArg (fun q=>q.1.ok) (pK ab)).symm | exact (congrArg (fun q=>q.1.l) (pK ab)).symm | exact (congrArg (fun q=>q.2) (pJ ab ab ab)).symm | exact (congrArg (fun q=>q.1.kind) (pJ ab ab ab)).symm | exact (congrArg (fun q=>q.1.frm) (pJ ab ab ab)).symm | exact (congrArg (fun q=>q.1.to) (pJ ab ab ab)).symm | exact (congrArg (fun q=>q.1.term) (pJ ab ab ab)).symm | exact (congrArg (fun q=>q.1.a) (pJ ab ab ab)).symm | exact (congrArg (fun q=>q.1.b) (pJ ab ab ab)).symm | exact (congrArg (fun q=>q.1.c) (pJ ab ab ab)).symm | exact (congrArg (fun q=>q.1.bin) (pJ ab ab ab)).symm | exact (congrArg (fun q=>q.1.ok) (pJ ab ab ab)).symm | exact (congrArg (fun q=>q.1.l) (pJ ab ab ab)).symm | exact (congrArg (fun q=>q.2) (rA ab ab ab)).symm | exact (congrArg (fun q=>q.1.kind) (rA ab ab ab)).symm | exact (congrArg (fun q=>q.1.frm) (rA ab ab ab)).symm | exact (congrArg (fun q=>q.1.to) (rA ab ab ab)).symm | exact (congrArg (fun q=>q.1.term) (rA ab ab ab)).symm | exact (congrArg (fun q=>q.1.a) (rA ab ab ab)).symm | exact (congrArg (fun q=>q.1.b) (rA ab ab ab)).symm | exact (congrArg (fun q=>q.1.c) (rA ab ab ab)).symm | exact (congrArg (fun q=>q.1.bin) (rA ab ab ab)).symm | exact (congrArg (fun q=>q.1.ok) (rA ab ab ab)).symm | exact (congrArg (fun q=>q.1.l) (rA ab ab ab)).symm | exact (congrArg (fun q=>q.1.l) (pK ab)) | exact (congrArg (fun q=>q.1.l) (pJ ab ab ab)))
noncomputable def aa7:bD:=(aL 120 EJ (aL 48 yi (aL 169 CO (aL 148 EY (aL 216 vD (aL 217 EX (aL 215 AG (aL 214 vA (aL 83 CZ aav)))))))))
theorem mW:ay Tryz.prog (al tyT) aa7:=(ag Qo (ag HV (ag Th (ag Se (ag Gg (ag Py (ag MW (ag Fk (ag OP gq)))))))))
variable {r:Record}
theorem OO (h:((((((dA bE r.kind).isSome=false\/r.a<(((dA bE r.kind).getD kz).getD 0 KC.nf).int)\/(((dA bE r.kind).getD kz).getD 1 KC.nf).int<r.a)\/r.b<0)\/(((dA bE r.kind).getD kz).getD 3 KC.nf).int<r.b)\/(((dA bE r.kind).getD kz).getD 4 KC.nf).int<(r.x.length:Int))):aH r=([],1):=by
 rw [aH,if_neg];intro e;simp only [recOk,Bool.and_eq_true] at e;obtain ⟨⟨⟨⟨⟨h0,h1⟩,h2⟩,h3⟩,h4⟩,h5⟩:=e;unfold UW at h1 h2 h4 h5;grind
theorem xA (h1:(dA bE r.kind).isSome=true) (h2:(((dA bE r.kind).getD kz).getD 0 KC.nf).int<=r.a) (h3:r.a<=(((dA bE r.kind).getD kz).getD 1 KC.nf).int) (h4:0<=r.b) (h5:r.b<=(((dA bE r.kind).getD kz).getD 3 KC.nf).int) (h6:(r.x.length:Int)<=(((dA bE r.kind).getD kz).getD 4 KC.nf).int):recOk r=true:=by
 simp only [recOk,Bool.and_eq_true,decide_eq_true_eq];exact ⟨⟨⟨⟨⟨h1,h2⟩,h3⟩,h4⟩,h5⟩,h6⟩
theorem iR (h:recOk r=true):1<=r.kind/\r.kind<=4/\0<=r.a/\r.a<=1048576/\0<=r.b/\r.b<=1048576/\r.x.length<=200/\(cJ r.a.toNat).length<=10/\(cJ r.b.toNat).length<=10:=by
 have h1:=cK (n:=r.a.toNat) (by rcases bH.1 h with h | h | h | h <;> omega);have h2:=cK (n:=r.b.toNat) (by rcases bH.1 h with h | h | h | h <;> omega);have h3:r.x.length<=200:=by rcases bH.1 h with h | h | h | h <;> first | omega | simp [h]
 rcases bH.1 h with h | h | h | h <;> omega
theorem Bh (h:recOk r=true):aH r=(di r,0):=by rw [aH,if_pos h]
theorem agj (h:recOk r=true) (h2:(((dA bE r.kind).getD kz).getD 2 KC.nf).bool=true):[UInt8.ofNat r.kind.toNat]++cJ r.a.toNat++cJ r.b.toNat++r.x=(aH r).1:=by
 rw [Bh h,di,if_pos (show tj r.kind=true from h2)]
theorem ae7 (h:recOk r=true) (h2:(((dA bE r.kind).getD kz).getD 2 KC.nf).bool=false):[UInt8.ofNat r.kind.toNat]++cJ r.a.toNat++r.x=(aH r).1:=by
 rw [Bh h,di,if_neg (by rw [show tj r.kind=false from h2]; decide),ade]
theorem aaB (b:List UInt8):(((aj b).2.1:Nat):Int)<=(b.length:Nat):=by
 have:=(mP (l:=b) (k:=0) (n:=0) (by omega)).2;show (((bM 0 0 b).2.1:Nat):Int)<=_;omega
theorem Zp (hx:b[0]? = some x):(b.getD 0 (ao .u8):UInt8)=x:=by
 rw [List.getD_eq_getElem?_getD,hx]; rfl
theorem Pt (hx:b[0]? = some x):¬ b.length=0:=by
 have:=(aam.1 hx).1; omega
theorem tu (h:(b.length:Int)=0):bz b=(tL,false):=if_pos (by omega)
theorem tE (hx:b[0]? = some x) (h1:¬ (aj (b.drop 1)).2.2=0):bz b=(tL,false):=by
 rw [bz,if_neg (Pt hx),if_pos h1]
theorem tI (hx:b[0]? = some x) (h1:(aj (b.drop 1)).2.2=0) (h2:(((dA bE (x.toNat:Int)).getD kz).getD 2 KC.nf).bool=true) (h3:¬ (aj ((b.drop 1).drop (aj (b.drop 1)).2.1)).2.2=0):bz b=(tL,false):=by
 rw [bz,if_neg (Pt hx),if_neg (adi.2 h1),Zp hx,if_pos (show tj (x.toNat:Int)=true from h2),if_pos h3]
theorem tn (hx:b[0]? = some x) (h1:(aj (b.drop 1)).2.2=0) (h2:(((dA bE (x.toNat:Int)).getD kz).getD 2 KC.nf).bool=true) (h3:(aj ((b.drop 1).drop (aj (b.drop 1)).2.1)).2.2=0):bz b=(⟨(x.toNat:Int),eE (aj (b.drop 1)).1,eE (aj ((b.drop 1).drop (aj (b.drop 1)).2.1)).1,((b.drop 1).drop (aj (b.drop 1)).2.1).drop (aj ((b.drop 1).drop (aj (b.drop 1)).2.1)).2.1⟩,true):=by
 rw [bz,if_neg (Pt hx),if_neg (adi.2 h1),Zp hx,if_pos (show tj (x.toNat:Int)=true from h2),if_neg (adi.2 h3)]
theorem tk (hx:b[0]? = some x) (h1:(aj (b.drop 1)).2.2=0) (h2:(((dA bE (x.toNat:Int)).getD kz).getD 2 KC.nf).bool=false):bz b=(⟨(x.toNat:Int),eE (aj (b.drop 1)).1,0,(b.drop 1).drop (aj (b.drop 1)).2.1⟩,true):=by
 rw [bz,if_neg (Pt hx),if_neg (adi.2 h1),Zp hx,if_neg (by rw [show tj (x.toNat:Int)=false from h2]; decide)]
variable {x:Letter}
theorem FE {s:Stable} (h:¬ mayL x=0\/¬ x.kind=1):bc s x=([],false,1):=if_pos h
theorem Fm {s:Stable} (h0:mayL x=0) (h1:x.kind=1) (h:(x.term<s.term\/(decide (s.term<x.term) || decide (s.vote=0) || decide (s.vote=x.frm+1))=false)\/jy s.log x.a x.b=false):bc s x=(aC s x.term,false,0):=by
 rw [bc,if_neg (by omega)]; exact if_pos h
theorem aaN {s:Stable} (h0:mayL x=0) (h1:x.kind=1) (h2:s.term<=x.term) (h3:(decide (s.term<x.term) || decide (s.vote=0) || decide (s.vote=x.frm+1))=true) (h4:jy s.log x.a x.b=true):bc s x=if x.term=s.term/\s.vote=x.frm+1 then ([],true,0) else ([⟨2,x.term,x.frm+1,[]⟩],true,0):=by
 rw [bc,if_neg (by omega),if_neg];rintro ((h | h) | h)
 ·omega
 ·rw [show Ux s x=true from h3] at h; cases h
 grind
theorem FT {s:Stable} (h0:mayL x=0) (h1:x.kind=1) (h2:s.term<=x.term) (h3:(decide (s.term<x.term) || decide (s.vote=0) || decide (s.vote=x.frm+1))=true) (h4:jy s.log x.a x.b=true) (h5:x.term=s.term) (h6:s.vote=x.frm+1):bc s x=([],true,0):=by
 rw [aaN h0 h1 h2 h3 h4,if_pos ⟨h5,h6⟩]
theorem Fl {s:Stable} (h0:mayL x=0) (h1:x.kind=1) (h2:s.term<=x.term) (h3:(decide (s.term<x.term) || decide (s.vote=0) || decide (s.vote=x.frm+1))=true) (h4:jy s.log x.a x.b=true) (h5:¬ x.term=s.term\/¬ s.vote=x.frm+1):bc s x=([⟨2,x.term,x.frm+1,[]⟩],true,0):=by
 rw [aaN h0 h1 h2 h3 h4,if_neg (by omega)]
def dS (s:Stable) (x:Letter) (k:Nat):List Record:=aC s x.term++(if (aZ s.log x.a x.l).1=0 then [] else [⟨4,(aZ s.log x.a x.l).1,0,[]⟩])++fb (x.a+x.l.length - (aZ s.log x.a x.l).2.length+1) ((aZ s.log x.a x.l).2.take k)
theorem qx:∀ {n:Int} {l:List Entry} {y:Entry},fb n (l++[y])=fb n l++[⟨3,n+l.length,y.term,y.b⟩]
 | n,[],y=>by simp [fb]
 | n,z :: l,y=>by
  rw [List.cons_append,fb,qx,fb,List.cons_append,List.length_cons];simp; omega
theorem uD:∀ {n:Int} {l:List Entry},(fb n l).length=l.length
 | _,[]=>rfl
 | n,_ :: l=>by rw [fb,List.length_cons,List.length_cons,uD]
theorem afM {s:Stable} (h:¬ (aZ s.log x.a x.l).1=0):aC s x.term++[Record.mk 4 (aZ s.log x.a x.l).1 0 []]=dS s x 0:=by
 rw [dS,if_neg h,ahG,fb,ade]
theorem af_ {s:Stable} (h:(aZ s.log x.a x.l).1=0):aC s x.term=dS s x 0:=by
 rw [dS,if_pos h,ahG,fb,ade,ade]
theorem agI {s:Stable} {y:Entry} (h:(aZ s.log x.a x.l).2[k]? = some y):dS s x k++[Record.mk 3 (x.a+x.l.length - (aZ s.log x.a x.l).2.length+k+1) y.term y.b]=dS s x (k+1):=by
 have hk:=(aam.1 h).1;rw [dS,dS,ai h,qx,List.append_assoc,List.length_take,adA (by omega)];congr 4; omega
theorem yS {s:Stable} (h:(¬ mayL x=0\/¬ x.kind=3)\/64<x.a+x.l.length):aA s x=([],false,0,1):=if_pos h
theorem ze {s:Stable} (h0:mayL x=0) (h1:x.kind=3) (h2:x.a+x.l.length<=64) (h3:x.term<s.term):aA s x=([],false,0,0):=by
 rw [aA,if_neg (by omega),if_pos h3]
theorem yG {s:Stable} (h0:mayL x=0) (h1:x.kind=3) (h2:x.a+x.l.length<=64) (h3:s.term<=x.term) (h4:decide (cD s.log x.a=x.b)=false):aA s x=(aC s x.term,false,0,0):=by
 rw [aA,if_neg (by omega),if_neg (by omega),if_neg (ahg h4)]
theorem As {s:Stable} (h0:mayL x=0) (h1:x.kind=3) (h2:x.a+x.l.length<=64) (h3:s.term<=x.term) (h4:decide (cD s.log x.a=x.b)=true) (h5:((aZ s.log x.a x.l).2.length:Int)<=k):aA s x=(dS s x k,true,x.a+x.l.length,0):=by
 rw [aA,if_neg (by omega),if_neg (by omega),if_pos (ac6 h4),dS,List.take_of_length_le (by omega)]; rfl
theorem uy {l m:List Entry} {k:Int}:(aZ l k m).2.length<=m.length/\0<=(aZ l k m).1/\(aZ l k m).1<=l.length+1:=by
 unfold aZ;grind
theorem VZ {s:Stable}:(dS s x k).length<=2+x.l.length:=by
 have:=(uy (l:=s.log) (m:=x.l) (k:=x.a)).1;simp only [dS,List.length_append,uD];have h1:(aC s x.term).length<=1:=by unfold aC; split <;> simp
 grind
theorem aba {s:Stable} (h:mayL x=0):((dS s x k).length+[r].length)*48<=140737488355328:=by
 have:=jg h;have:=VZ (s:=s) (x:=x) (k:=k);grind
theorem acD {s:Stable}:((aC s n).length+[r].length)*48<=140737488355328:=by
 have h1:(aC s n).length<=1:=by unfold aC; split <;> simp
 grind
def Vx (s:Stable) (x:Letter):List (Nat × LI):=[(13,{ σ:=Nat,F:=fun k=>([(4,one (.own 0)),(6,one (.int (x.a+x.l.length))),(9,one (.fz (.nm .entry) (aZ s.log x.a x.l).2)),(70,one (.fz (.nm .entry) (aZ s.log x.a x.l).2)),(71,one (.int (aZ s.log x.a x.l).2.length)),(72,one (.int k))],[.row 108 (.nm .record) ((dS s x k))]),J:=fun k=>k<=(aZ s.log x.a x.l).2.length,μ:=fun k=>(aZ s.log x.a x.l).2.length - k })]
noncomputable def EF:Kn:=aJ (ae (kT (.nm .record)) au) aw fun (r,_) _=>⟨[],[.c (.fz .u8 (((aH r).1))),.c (.int (((aH r).2)))],none,false⟩
theorem DA:CK 145 EF:=ah fun (r,_) _ _=>by
 refine av mW [] Tryz.func145 (?_:(fun q3=>(fun q2=>(fun q1=>(fun q0=>dK r (((((((dA bE r.kind).isSome=false\/r.a<(q0.getD 0 KC.nf).int)\/(q0.getD q3 KC.nf).int<r.a)\/r.b<q2)\/(q0.getD 3 KC.nf).int<r.b)\/(q0.getD 4 KC.nf).int<(↑r.x.length:Int)->(aH r).fst=[]/\1=(aH r).snd)/\((((((dA bE r.kind).isSome=true/\(q0.getD 0 KC.nf).int<=r.a)/\r.a<=(q0.getD q3 KC.nf).int)/\q2<=r.b)/\r.b<=(q0.getD 3 KC.nf).int)/\(↑r.x.length:Int)<=(q0.getD 4 KC.nf).int->q2<=r.kind/\q2<=r.a/\([UInt8.ofNat r.kind.toNat].length+(cJ r.a.toNat).length)*q3<=140737488355328/\((q0.getD 2 KC.nf).bool=true->q2<=r.b/\(q1.length+(cJ r.b.toNat).length)*q3<=140737488355328/\((q1++cJ r.b.toNat).length+r.x.length)*q3<=140737488355328/\q1++cJ r.b.toNat++r.x=(aH r).fst/\q2=(aH r).snd)/\((q0.getD 2 KC.nf).bool=false->(q1.length+r.x.length)*q3<=140737488355328/\q1++r.x=(aH r).fst/\q2=(aH r).snd)))) ((dA bE r.kind).getD [KC.i q2,KC.i q2,KC.b false,KC.i q2,KC.i q2,KC.nf])) ([UInt8.ofNat r.kind.toNat]++cJ r.a.toNat)) (0:Int)) (1:Nat));(repeat' with_reducible first|apply bd|refine bf ?_|intro)
 all_goals (first | exact bq | exact (congrArg (fun q=>q.1) (OO ab)) | exact (congrArg (fun q=>q.1) (OO ab)).symm | exact (congrArg (fun q=>q.2) (OO ab)) | exact (congrArg (fun q=>q.2) (OO ab)).symm | exact (congrArg (fun q=>q.1) (Bh (xA ab ab ab ab ab ab))) | exact (congrArg (fun q=>q.1) (Bh (xA ab ab ab ab ab ab))).symm | exact (congrArg (fun q=>q.2) (Bh (xA ab ab ab ab ab ab))) | exact (congrArg (fun q=>q.2) (Bh (xA ab ab ab ab ab ab))).symm | exact (agj (xA ab ab ab ab ab ab) ab) | exact (ae7 (xA ab ab ab ab ab ab) ab) | (have hr:=iR (xA ab ab ab ab ab ab); omega) | (have hr:=iR (xA ab ab ab ab ab ab); simp only [List.length_append,List.length_cons,List.length_nil]; omega))
theorem Pa (r:Record):Sat Tryz.prog (al tyT) 145 [.agg (cellsOf (.nm .record) r)] [] ⟨[],[.c (.fz .u8 (((aH r).1))),.c (.int (((aH r).2)))],none,false⟩:=DA _ _ _ rfl (by simp)
noncomputable def uK:Kn:=aJ (ae (kC (cL .u8)) au) aw fun (b,_) _=>⟨[],[.agg (cellsOf (.nm .record) ((bz b).1)),.c (.bool (.atom (((bz b).2))))],none,false⟩
theorem HD:CK 144 uK:=ah fun (b,_) _ _=>by
 refine av mW [] Tryz.func144 (?_:(fun q6=>(fun q5=>(fun q4=>(fun q3=>(fun q7=>(fun q2=>(fun q1=>(fun q0=>(fun q8=>b.length*q5<=140737488355328->(q6=q3->q1)/\(¬q6=q3->q3<=q3/\q3<q6/\∀ (x:UInt8),(fun q9=>b[(0:Nat)]? = some x->q3<=1/\1<=q6/\(q2.fst<18446744073709551616->I64 (↑q2.snd.fst:Int)->I64 q2.snd.snd->(¬q2.snd.snd=q3->q1)/\(q2.snd.snd=q3->(q3<=(↑q2.snd.fst:Int)/\(↑q2.snd.fst:Int)<=(↑(List.drop q5 b).length:Int))/\(q9=true->(aj q0).fst<18446744073709551616->I64 (↑q8.fst:Int)->I64 q8.snd->(¬q8.snd=q3->q1)/\(q8.snd=q3->(q3<=(↑q8.fst:Int)/\(↑q8.fst:Int)<=(↑q0.length:Int))/\((List.drop q8.fst q0).length*q5<=140737488355328->qL (Record.mk (↑x.toNat:Int) (eE q2.fst) (eE (aj q0).fst) (List.drop q8.fst q0)) q4 (true=(bz b).snd))))/\(q9=false->q0.length*q5<=140737488355328->qL (Record.mk (↑x.toNat:Int) (eE q2.fst) q3 q0) q4 (true=(bz b).snd))))) (((dA bE (↑x.toNat:Int)).getD q7).getD 2 KC.nf).bool)) (aj q0).snd) (List.drop q2.snd.fst (List.drop q5 b))) (q3=q4.kind/\q3=q4.a/\q3=q4.b/\q4.x=[]/\false=(bz b).snd)) (aj (List.drop q5 b))) [KC.i q3,KC.i q3,KC.b false,KC.i q3,KC.i q3,KC.nf]) (0:Int)) (bz b).fst) (1:Nat)) (↑b.length:Int));(repeat' with_reducible first|apply bd|refine bf ?_|intro)
 all_goals (first | exact bq | exact (congrArg (fun q=>q.2) (tu ab)) | exact (congrArg (fun q=>q.2) (tu ab)).symm | exact (congrArg (fun q=>q.1.kind) (tu ab)) | exact (congrArg (fun q=>q.1.kind) (tu ab)).symm | exact (congrArg (fun q=>q.1.a) (tu ab)) | exact (congrArg (fun q=>q.1.a) (tu ab)).symm | exact (congrArg (fun q=>q.1.b) (tu ab)) | exact (congrArg (fun q=>q.1.b) (tu ab)).symm | exact (congrArg (fun q=>q.1.x) (tu ab)) | exact (congrArg (fun q=>q.1.x) (tu ab)).symm | exact (congrArg (fun q=>q.2) (tE ab ab)) | exact (congrArg (fun q=>q.2) (tE ab ab)).symm | exact (congrArg (fun q=>q.1.kind) (tE ab ab)) | exact (congrArg (fun q=>q.1.kind) (tE ab ab)).symm | exact (congrArg (fun q=>q.1.a) (tE ab ab)) | exact (congrArg (fun q=>q.1.a) (tE ab ab)).symm | exact (congrArg (fun q=>q.1.b) (tE ab ab)) | exact (congrArg (fun q=>q.1.b) (tE ab ab)).symm | exact (congrArg (fun q=>q.1.x) (tE ab ab)) | exact (congrArg (fun q=>q.1.x) (tE ab ab)).symm | exact (congrArg (fun q=>q.2) (tI ab ab ab ab)) | exact (congrArg (fun q=>q.2) (tI ab ab ab ab)).symm | exact (congrArg (fun q=>q.1.kind) (tI ab ab ab ab)) | exact (congrArg (fun q=>q.1.kind) (tI ab ab ab ab)).symm | exact (congrArg (fun q=>q.1.a) (tI ab ab ab ab)) | exact (congrArg (fun q=>q.1.a) (tI ab ab ab ab)).symm | exact (congrArg (fun q=>q.1.b) (tI ab ab ab ab)) | exact (congrArg (fun q=>q.1.b) (tI ab ab ab ab)).symm | exact (congrArg (fun q=>q.1.x) (tI ab ab ab ab)) | exact (congrArg (fun q=>q.1.x) (tI ab ab ab ab)).symm | exact (congrArg (fun q=>q.2) (tn ab ab ab ab)) | exact (congrArg (fun q=>q.2) (tn ab ab ab ab)).symm | exact (congrArg (fun q=>q.1.kind) (tn ab ab ab ab)) | exact (congrArg (fun q=>q.1.kind) (tn ab ab ab ab)).symm | exact (congrArg (fun q=>q.1.a) (tn ab ab ab ab)) | exact (congrArg (fun q=>q.1.a) (tn ab ab ab ab)).symm | exact (congrArg (fun q=>q.1.b) (tn ab ab ab ab)) | exact (congrArg (fun q=>q.1.b) (tn ab ab ab ab)).symm | exact (congrArg (fun q=>q.1.x) (tn ab ab ab ab)) | exact (congrArg (fun q=>q.1.x) (tn ab ab ab ab)).symm | exact (congrArg (fun q=>q.2) (tk ab ab ab)) | exact (congrArg (fun q=>q.2) (tk ab ab ab)).symm | exact (congrArg (fun q=>q.1.kind) (tk ab ab ab)) | exact (congrArg (fun q=>q.1.kind) (tk ab ab ab)).symm | exact (congrArg (fun q=>q.1.a) (tk ab ab ab)) | exact (congrArg (fun q=>q.1.a) (tk ab ab ab)).symm | exact (congrArg (fun q=>q.1.b) (tk ab ab ab)) | exact (congrArg (fun q=>q.1.b) (tk ab ab ab)).symm | exact (congrArg (fun q=>q.1.x) (tk ab ab ab)) | exact (congrArg (fun q=>q.1.x) (tk ab ab ab)).symm | exact (aaB _))
noncomputable def u_:Kn:=aJ (ae (kT (.nm .stable)) (ae (kT (.nm .letter)) au)) aw fun (s,x,_) _=>⟨[],[.c (.fz (.nm .record) (((bc s x).1))),.c (.bool (.atom (((bc s x).2.1)))),.c (.int (((bc s x).2.2)))],none,false⟩
theorem Ha:CK 98 u_:=ah fun (s,x,_) _ _=>by
 refine av mW [] Tryz.func98 (?_:(fun q4=>(fun q3=>(fun q2=>(fun q1=>(fun q5=>(fun q0=>bV s (aS x (I64 (mayL x)->(¬mayL x=q3\/¬x.kind=1->q4=[]/\false=q1.fst/\1=q1.snd)/\(mayL x=q3/\x.kind=1->I64 q2/\((x.term<s.term\/q0=false)\/jy s.log x.a x.b=false->aC s x.term=q4/\false=q1.fst/\q3=q1.snd)/\((s.term<=x.term/\q0=true)/\jy s.log x.a x.b=true->(x.term=s.term/\s.vote=q2->q4=[]/\q5)/\(¬x.term=s.term\/¬s.vote=q2->[Record.mk 2 x.term q2 []]=q4/\q5)))))) (decide (s.term<x.term) || decide (s.vote=q3) || decide (s.vote=q2))) (true=q1.fst/\q3=q1.snd)) (bc s x).snd) (x.frm+1)) (0:Int)) (bc s x).fst);(repeat' with_reducible first|apply bd|refine bf ?_|intro)
 all_goals (first | exact bq | exact (congrArg (fun q=>q.1) (FE ab)) | exact (congrArg (fun q=>q.1) (FE ab)).symm | exact (congrArg (fun q=>q.2.1) (FE ab)) | exact (congrArg (fun q=>q.2.1) (FE ab)).symm | exact (congrArg (fun q=>q.2.2) (FE ab)) | exact (congrArg (fun q=>q.2.2) (FE ab)).symm | exact (congrArg (fun q=>q.1) (Fm ab ab ab)) | exact (congrArg (fun q=>q.1) (Fm ab ab ab)).symm | exact (congrArg (fun q=>q.2.1) (Fm ab ab ab)) | exact (congrArg (fun q=>q.2.1) (Fm ab ab ab)).symm | exact (congrArg (fun q=>q.2.2) (Fm ab ab ab)) | exact (congrArg (fun q=>q.2.2) (Fm ab ab ab)).symm | exact (congrArg (fun q=>q.1) (FT ab ab ab ab ab ab ab)) | exact (congrArg (fun q=>q.1) (FT ab ab ab ab ab ab ab)).symm | exact (congrArg (fun q=>q.2.1) (FT ab ab ab ab ab ab ab)) | exact (congrArg (fun q=>q.2.1) (FT ab ab ab ab ab ab ab)).symm | exact (congrArg (fun q=>q.2.2) (FT ab ab ab ab ab ab ab)) | exact (congrArg (fun q=>q.2.2) (FT ab ab ab ab ab ab ab)).symm | exact (congrArg (fun q=>q.1) (Fl ab ab ab ab ab ab)) | exact (congrArg (fun q=>q.1) (Fl ab ab ab ab ab ab)).symm | exact (congrArg (fun q=>q.2.1) (Fl ab ab ab ab ab ab)) | exact (congrArg (fun q=>q.2.1) (Fl ab ab ab ab ab ab)).symm | exact (congrArg (fun q=>q.2.2) (Fl ab ab ab ab ab ab)) | exact (congrArg (fun q=>q.2.2) (Fl ab ab ab ab ab ab)).symm | (have:=jg ab; exact bK aK aK))
noncomputable def EE:Kn:=aJ (ae (kT (.nm .stable)) (ae (kT (.nm .letter)) au)) aw fun (s,x,_) _=>⟨[],[.c (.fz (.nm .record) (((aA s x).1))),.c (.bool (.atom (((aA s x).2.1)))),.c (.int (((aA s x).2.2.1))),.c (.int (((aA s x).2.2.2)))],none,false⟩
set_option maxRecDepth 8000 in
theorem Qc:CK 95 EE:=ah fun (s,x,_) _ _=>by
 refine av mW (Vx s x) Tryz.func95 (?_:(fun (q10:List Record)=>(fun (q9:Nat)=>(fun (q8:List Record)=>(fun (q7:Int)=>(fun (q6:Int)=>(fun (q5:Int)=>(fun (q4:Int)=>(fun (q3:Int)=>(fun (q2:Bool × Int × Int)=>(fun (q11:Prop)=>(fun (q1:Int)=>(fun (q12:Prop)=>(fun (q0:List Entry)=>(fun (q16:Prop)=>(fun (q15:Int)=>(fun (q14:Nat)=>(fun (q17:Int)=>(fun (q13:Int)=>bV s (aS x (I64 (mayL x)->(mayL x=q4/\x.kind=q7->I64 q3)/\((¬mayL x=q4\/¬x.kind=q7)\/64<q3->q8=[]/\false=q2.fst/\q4=q2.snd.fst/\q6=q2.snd.snd)/\((mayL x=q4/\x.kind=q7)/\q3<=64->(x.term<s.term->q8=[]/\q11)/\(s.term<=x.term->(decide (cD s.log x.a=x.b)=false->q10=q8/\q11)/\(decide (cD s.log x.a=x.b)=true->I64 q3/\(I64 q5->q0.length*32<=q9->(¬q5=q4->(q10.length+[Record.mk 4 q5 q4 []].length)*48<=q9/\∃ (s0:Nat),(q3=q1/\q16/\q16/\q15=q17/\q4=(↑s0:Int)/\q10++[Record.mk 4 q5 q4 []]=dS s x s0)/\s0<=q14/\∀ (s_1:Nat),(fun (q18:Int)=>s_1<=q14->((↑s_1:Int)<q17->q4<=(↑s_1:Int)/\(↑s_1:Int)<q15/\∀ (x_1:Entry),q0[s_1]? = some x_1->I64 x_1.term->x_1.b.length*1<=q9->I64 q13/\I64 (q13+(↑s_1:Int))/\I64 q18/\((dS s x s_1).length+[Record.mk q7 q18 x_1.term x_1.b].length)*48<=q9/\I64 ((↑s_1:Int)+q6)/\∃ (s':Nat),(q1=q1/\q16/\q16/\q17=q17/\(↑s_1:Int)+q6=(↑s':Int)/\dS s x s_1++[Record.mk q7 q18 x_1.term x_1.b]=dS s x s')/\s' <= q14/\q14 - s' < q14 - s_1)/\(q17<=(↑s_1:Int)->dS s x s_1=q8/\q12)) (q13+(↑s_1:Int)+q6))/\(q5=q4->∃ (s0:Nat),(q3=q1/\q16/\q16/\q15=q17/\q4=(↑s0:Int)/\q10=dS s x s0)/\s0<=q14/\∀ (s_1:Nat),(fun (q19:Int)=>s_1<=q14->((↑s_1:Int)<q17->q4<=(↑s_1:Int)/\(↑s_1:Int)<q15/\∀ (x_1:Entry),q0[s_1]? = some x_1->I64 x_1.term->x_1.b.length*1<=q9->I64 q13/\I64 (q13+(↑s_1:Int))/\I64 q19/\((dS s x s_1).length+[Record.mk q7 q19 x_1.term x_1.b].length)*48<=q9/\I64 ((↑s_1:Int)+q6)/\∃ (s':Nat),(q1=q1/\q16/\q16/\q17=q17/\(↑s_1:Int)+q6=(↑s':Int)/\dS s x s_1++[Record.mk q7 q19 x_1.term x_1.b]=dS s x s')/\s' <= q14/\q14 - s' < q14 - s_1)/\(q17<=(↑s_1:Int)->dS s x s_1=q8/\q12)) (q13+(↑s_1:Int)+q6))))))))) (q1 - q15)) (↑q14:Int)) q0.length) (↑q0.length:Int)) (q0=q0)) (aZ s.log x.a x.l).snd) (true=q2.fst/\q1=q2.snd.fst/\q4=q2.snd.snd)) (x.a+(↑x.l.length:Int))) (false=q2.fst/\q4=q2.snd.fst/\q4=q2.snd.snd)) (aA s x).snd) (x.a+(↑x.l.length:Int))) 0) (aZ s.log x.a x.l).fst) 1) 3) (aA s x).fst) 140737488355328) (aC s x.term));iterate 3 ((all_goals (repeat' with_reducible first|apply bd|refine bf ?_|intro)); (all_goals try (first | exact bq | (with_reducible exact afM ab) | (with_reducible exact af_ ab) | (with_reducible exact agI ab) | (with_reducible exact aba ab) | (with_reducible exact acD) | (with_reducible exact (congrArg (fun q=>q.1) (yS ab))) | (with_reducible exact (congrArg (fun q=>q.1) (yS ab)).symm) | (with_reducible exact (congrArg (fun q=>q.2.1) (yS ab))) | (with_reducible exact (congrArg (fun q=>q.2.1) (yS ab)).symm) | (with_reducible exact (congrArg (fun q=>q.2.2.1) (yS ab))) | (with_reducible exact (congrArg (fun q=>q.2.2.1) (yS ab)).symm) | (with_reducible exact (congrArg (fun q=>q.2.2.2) (yS ab))) | (with_reducible exact (congrArg (fun q=>q.2.2.2) (yS ab)).symm) | (with_reducible exact (congrArg (fun q=>q.1) (ze ab ab ab ab))) | (with_reducible exact (congrArg (fun q=>q.1) (ze ab ab ab ab)).symm) | (with_reducible exact (congrArg (fun q=>q.2.1) (ze ab ab ab ab))) | (with_reducible exact (congrArg (fun q=>q.2.1) (ze ab ab ab ab)).symm) | (with_reducible exact (congrArg (fun q=>q.2.2.1) (ze ab ab ab ab))) | (with_reducible exact (congrArg (fun q=>q.2.2.1) (ze ab ab ab ab)).symm) | (with_reducible exact (congrArg (fun q=>q.2.2.2) (ze ab ab ab ab))) | (with_reducible exact (congrArg (fun q=>q.2.2.2) (ze ab ab ab ab)).symm) | (with_reducible exact (congrArg (fun q=>q.1) (yG ab ab ab ab ab))) | (with_reducible exact (congrArg (fun q=>q.1) (yG ab ab ab ab ab)).symm) | (with_reducible exact (congrArg (fun q=>q.2.1) (yG ab ab ab ab ab))) | (with_reducible exact (congrArg (fun q=>q.2.1) (yG ab ab ab ab ab)).symm) | (with_reducible exact (congrArg (fun q=>q.2.2.1) (yG ab ab ab ab ab))) | (with_reducible exact (congrArg (fun q=>q.2.2.1) (yG ab ab ab ab ab)).symm) | (with_reducible exact (congrArg (fun q=>q.2.2.2) (yG ab ab ab ab ab))) | (with_reducible exact (congrArg (fun q=>q.2.2.2) (yG ab ab ab ab ab)).symm) | (with_reducible exact (congrArg (fun q=>q.1) (As ab ab ab ab ab ab))) | (with_reducible exact (congrArg (fun q=>q.1) (As ab ab ab ab ab ab)).symm) | (with_reducible exact (congrArg (fun q=>q.2.1) (As ab ab ab ab ab ab))) | (with_reducible exact (congrArg (fun q=>q.2.1) (As ab ab ab ab ab ab)).symm) | (with_reducible exact (congrArg (fun q=>q.2.2.1) (As ab ab ab ab ab ab))) | (with_reducible exact (congrArg (fun q=>q.2.2.1) (As ab ab ab ab ab ab)).symm) | (with_reducible exact (congrArg (fun q=>q.2.2.2) (As ab ab ab ab ab ab))) | (with_reducible exact (congrArg (fun q=>q.2.2.2) (As ab ab ab ab ab ab)).symm) | (have h:=jg ab; have hm:=uy (l:=s.log) (m:=x.l) (k:=x.a); refine bK ?_ ?_ <;> omega))); all_goals try first | refine ⟨‹Nat› + 1,?_⟩ | refine ⟨0,?_⟩)
noncomputable def Cc:bD:=(aL 95 EE (aL 98 u_ (aL 144 uK (aL 145 EF aa7))))
theorem ji:ay Tryz.prog (al tyT) Cc:=(ag Qc (ag Ha (ag HD (ag DA mW))))
theorem Nh (r:Record) (h0:recOk r=false):Sat Tryz.prog (al tyT) 145 [.agg (cellsOf (.nm .record) r)] [] ⟨[recOk r=false],[.c (.fz .u8 (([]))),.c (.int ((1)))],none,false⟩:=by
 have e:aH r=([],1):=by rw [aH,if_neg (by rw [h0]; decide)]
 have h:=Pa r;rw [e] at h; exact ⟨h.1,h.2⟩
noncomputable def yo:Kn:=aJ (ae (kT (.nm .record)) au) aw fun (r,_) _=>⟨[recOk r=false],[.c (.fz .u8 (([]))),.c (.int ((1)))],none,false⟩
theorem JG:CK 145 yo:=ah fun (r,_) _ hp=>Nh r (bW hp)
theorem Mx  (h0:False):Sat Tryz.prog (al tyT) 148 [] [] ⟨[False],[.c (.xx (.km []) [])],none,false⟩:=h0.elim
noncomputable def Ay:Kn:=aJ au aw fun _ _=>⟨[False],[.c (.xx (.km []) [])],none,false⟩
theorem JV:CK 148 Ay:=ah fun _ _ hp=>Mx  (bW hp)
noncomputable def Uj:bD:=(aL 148 Ay (aL 145 yo Cc))
theorem Lj:ay Tryz.prog (al tyT) Uj:=(ag JV (ag JG ji))
theorem lF (h:(bz b).2=false):bO b=(tL,3):=if_pos h
theorem lJ (h:(bz b).2=true) (h2:¬ (aH (bz b).1).2=0\/decide ((aH (bz b).1).1=b)=false):bO b=(tL,3):=by
 rw [bO,if_neg (by rw [h]; decide),if_pos];grind
theorem lB (h:(bz b).2=true) (h2:(aH (bz b).1).2=0) (h3:decide ((aH (bz b).1).1=b)=true):bO b=((bz b).1,0):=by
 rw [bO,if_neg (by rw [h]; decide),if_neg];grind
theorem dp:(aH r).2=0↔recOk r=true:=by
 unfold aH;grind
theorem nI (h:¬ (aH r).2=0):(aH r).2=1/\recOk r=false:=by
 unfold aH at h ⊢;grind
theorem Sq (s:Stable) (a b:Int) (x:List UInt8) (r0:Stable) (r1:Int):Uw tyT Cc [] Tryz.f85 [.agg (cellsOf (.nm .stable) s),.agg [.int 1,.int a,.int b,.fz .u8 x]] [] [.agg (cellsOf (.nm .stable) r0),.c (.int r1)]=((fun q0=>(fun q1=>bV s (I64 1->I64 a->I64 b->x.length*1<=140737488355328->(aH q0).fst.length*1<=140737488355328->I64 q1->(¬q1=0->I64 s.floor->I64 s.term->I64 s.vote->aE s r0 (q1=r1))/\(q1=0->I64 s.floor->I64 s.term->I64 s.vote->((dQ s q0).isSome=false->I64 s.floor->I64 s.term->I64 s.vote->aE s r0 (5=r1))/\((dQ s q0).isSome=true->aE ((dQ s q0).getD s) r0 (0=r1))))) (aH q0).snd) (Record.mk 1 a b x)):=cd
theorem QK (s:Stable) (a b:Int) (x:List UInt8) (r0:Stable) (r1:Int):Uw tyT Cc [] Tryz.f85 [.agg (cellsOf (.nm .stable) s),.agg [.int 2,.int a,.int b,.fz .u8 x]] [] [.agg (cellsOf (.nm .stable) r0),.c (.int r1)]=((fun q0=>(fun q1=>bV s (I64 2->I64 a->I64 b->x.length*1<=140737488355328->(aH q0).fst.length*1<=140737488355328->I64 q1->(¬q1=0->I64 s.floor->I64 s.term->I64 s.vote->aE s r0 (q1=r1))/\(q1=0->I64 s.floor->I64 s.term->I64 s.vote->((fw s q0).isSome=false->I64 s.floor->I64 s.term->I64 s.vote->aE s r0 (5=r1))/\((fw s q0).isSome=true->aE ((fw s q0).getD s) r0 (0=r1))))) (aH q0).snd) (Record.mk 2 a b x)):=cd
theorem QS (s:Stable) (a b:Int) (x:List UInt8) (r0:Stable) (r1:Int):Uw tyT Cc [] Tryz.f85 [.agg (cellsOf (.nm .stable) s),.agg [.int 3,.int a,.int b,.fz .u8 x]] [] [.agg (cellsOf (.nm .stable) r0),.c (.int r1)]=((fun q0=>(fun q1=>bV s (I64 3->I64 a->I64 b->x.length*1<=140737488355328->(aH q0).fst.length*1<=140737488355328->I64 q1->(¬q1=0->I64 s.floor->I64 s.term->I64 s.vote->aE s r0 (q1=r1))/\(q1=0->I64 s.floor->I64 s.term->I64 s.vote->s.log.length<=1000000/\x.length<=200/\((dN s q0).isSome=false->I64 s.floor->I64 s.term->I64 s.vote->aE s r0 (5=r1))/\((dN s q0).isSome=true->aE ((dN s q0).getD s) r0 (0=r1))))) (aH q0).snd) (Record.mk 3 a b x)):=cd
theorem Pm (s:Stable) (a b:Int) (x:List UInt8) (r0:Stable) (r1:Int):Uw tyT Cc [] Tryz.f85 [.agg (cellsOf (.nm .stable) s),.agg [.int 4,.int a,.int b,.fz .u8 x]] [] [.agg (cellsOf (.nm .stable) r0),.c (.int r1)]=((fun q0=>(fun q1=>bV s (I64 4->I64 a->I64 b->x.length*1<=140737488355328->(aH q0).fst.length*1<=140737488355328->I64 q1->(¬q1=0->I64 s.floor->I64 s.term->I64 s.vote->aE s r0 (q1=r1))/\(q1=0->I64 s.floor->I64 s.term->I64 s.vote->(1<=a/\a<=64)/\((fE s q0).isSome=false->I64 s.floor->I64 s.term->I64 s.vote->aE s r0 (5=r1))/\((fE s q0).isSome=true->aE ((fE s q0).getD s) r0 (0=r1))))) (aH q0).snd) (Record.mk 4 a b x)):=cd
theorem Pu (s:Stable) (r:Record) (r0:Stable) (r1:Int):Uw tyT Uj [] Tryz.f85 [.agg (cellsOf (.nm .stable) s),.agg (cellsOf (.nm .record) r)] [] [.agg (cellsOf (.nm .stable) r0),.c (.int r1)]=(bV s (dK r (recOk r=false/\((0:Nat)*(1:Nat)<=(140737488355328:Nat)->I64 (1:Int)->(¬(1:Int)=(0:Int)->I64 s.floor->I64 s.term->I64 s.vote->aE s r0 ((1:Int)=r1))/\((1:Int)=(0:Int)->I64 s.floor->I64 s.term->I64 s.vote->False/\False))))):=cd
theorem Ax {s:Stable} (h:recOk r=false):aI s r=(s,1):=if_pos h
theorem dv {s:Stable} (h:¬ (aH r).2=0):aI s r=(s,(aH r).2):=by
 rw [Ax (nI h).2,(nI h).1]
variable {o:Option Stable}
theorem dw {s:Stable} (e:fB s r=o) (h:(aH r).2=0) (h2:o.isSome=false):aI s r=(s,5):=by
 rw [aI,if_neg (by rw [dp.1 h]; decide),e];grind
theorem dt {s:Stable} (e:fB s r=o) (h:(aH r).2=0) (h2:o.isSome=true):aI s r=(o.getD s,0):=by
 rw [aI,if_neg (by rw [dp.1 h]; decide),e];grind
set_option maxRecDepth 8000 in
theorem Xy (s:Stable) (a b:Int) (x:List UInt8) (h0:s.log.length<=1000000):Sat Tryz.prog (al tyT) 85 [.agg (cellsOf (.nm .stable) s),.agg (cellsOf (.nm .record) (⟨1,a,b,x⟩:Record))] [] ⟨[s.log.length<=1000000],[.agg (cellsOf (.nm .stable) (aI s (⟨1,a,b,x⟩:Record)).1),.c (.int (aI s (⟨1,a,b,x⟩:Record)).2)],none,false⟩:=by
 have he:fB s (⟨1,a,b,x⟩:Record)=dQ s (⟨1,a,b,x⟩:Record):=rfl;refine av ji [] Tryz.func85 ?_ (Sq s a b x (aI s (⟨1,a,b,x⟩:Record)).1 (aI s (⟨1,a,b,x⟩:Record)).2).symm;(repeat' with_reducible first|apply bd|refine bf ?_|intro)
 all_goals (first | exact bq | exact (congrArg (fun q=>q.2) (dv ab)) | exact (congrArg (fun q=>q.2) (dv ab)).symm | exact (congrArg (fun q=>q.1.floor) (dv ab)) | exact (congrArg (fun q=>q.1.floor) (dv ab)).symm | exact (congrArg (fun q=>q.1.term) (dv ab)) | exact (congrArg (fun q=>q.1.term) (dv ab)).symm | exact (congrArg (fun q=>q.1.vote) (dv ab)) | exact (congrArg (fun q=>q.1.vote) (dv ab)).symm | exact (congrArg (fun q=>q.1.log) (dv ab)) | exact (congrArg (fun q=>q.1.log) (dv ab)).symm | exact (congrArg (fun q=>q.2) (dw he ab ab)) | exact (congrArg (fun q=>q.2) (dw he ab ab)).symm | exact (congrArg (fun q=>q.1.floor) (dw he ab ab)) | exact (congrArg (fun q=>q.1.floor) (dw he ab ab)).symm | exact (congrArg (fun q=>q.1.term) (dw he ab ab)) | exact (congrArg (fun q=>q.1.term) (dw he ab ab)).symm | exact (congrArg (fun q=>q.1.vote) (dw he ab ab)) | exact (congrArg (fun q=>q.1.vote) (dw he ab ab)).symm | exact (congrArg (fun q=>q.1.log) (dw he ab ab)) | exact (congrArg (fun q=>q.1.log) (dw he ab ab)).symm | exact (congrArg (fun q=>q.2) (dt he ab ab)) | exact (congrArg (fun q=>q.2) (dt he ab ab)).symm | exact (congrArg (fun q=>q.1.floor) (dt he ab ab)) | exact (congrArg (fun q=>q.1.floor) (dt he ab ab)).symm | exact (congrArg (fun q=>q.1.term) (dt he ab ab)) | exact (congrArg (fun q=>q.1.term) (dt he ab ab)).symm | exact (congrArg (fun q=>q.1.vote) (dt he ab ab)) | exact (congrArg (fun q=>q.1.vote) (dt he ab ab)).symm | exact (congrArg (fun q=>q.1.log) (dt he ab ab)) | exact (congrArg (fun q=>q.1.log) (dt he ab ab)).symm | (have:=iR (dp.1 ab); dsimp only at this; omega) | (have h:=bH.1 (dp.1 ab); dsimp only at h; omega))
set_option maxRecDepth 8000 in
theorem Wg (s:Stable) (a b:Int) (x:List UInt8) (h0:s.log.length<=1000000):Sat Tryz.prog (al tyT) 85 [.agg (cellsOf (.nm .stable) s),.agg (cellsOf (.nm .record) (⟨2,a,b,x⟩:Record))] [] ⟨[s.log.length<=1000000],[.agg (cellsOf (.nm .stable) (aI s (⟨2,a,b,x⟩:Record)).1),.c (.int (aI s (⟨2,a,b,x⟩:Record)).2)],none,false⟩:=by
 have he:fB s (⟨2,a,b,x⟩:Record)=fw s (⟨2,a,b,x⟩:Record):=rfl;refine av ji [] Tryz.func85 ?_ (QK s a b x (aI s (⟨2,a,b,x⟩:Record)).1 (aI s (⟨2,a,b,x⟩:Record)).2).symm;(repeat' with_reducible first|apply bd|refine bf ?_|intro)
 all_goals (first | exact bq | exact (congrArg (fun q=>q.2) (dv ab)) | exact (congrArg (fun q=>q.2) (dv ab)).symm | exact (congrArg (fun q=>q.1.floor) (dv ab)) | exact (congrArg (fun q=>q.1.floor) (dv ab)).symm | exact (congrArg (fun q=>q.1.term) (dv ab)) | exact (congrArg (fun q=>q.1.term) (dv ab)).symm | exact (congrArg (fun q=>q.1.vote) (dv ab)) | exact (congrArg (fun q=>q.1.vote) (dv ab)).symm | exact (congrArg (fun q=>q.1.log) (dv ab)) | exact (congrArg (fun q=>q.1.log) (dv ab)).symm | exact (congrArg (fun q=>q.2) (dw he ab ab)) | exact (congrArg (fun q=>q.2) (dw he ab ab)).symm | exact (congrArg (fun q=>q.1.floor) (dw he ab ab)) | exact (congrArg (fun q=>q.1.floor) (dw he ab ab)).symm | exact (congrArg (fun q=>q.1.term) (dw he ab ab)) | exact (congrArg (fun q=>q.1.term) (dw he ab ab)).symm | exact (congrArg (fun q=>q.1.vote) (dw he ab ab)) | exact (congrArg (fun q=>q.1.vote) (dw he ab ab)).symm | exact (congrArg (fun q=>q.1.log) (dw he ab ab)) | exact (congrArg (fun q=>q.1.log) (dw he ab ab)).symm | exact (congrArg (fun q=>q.2) (dt he ab ab)) | exact (congrArg (fun q=>q.2) (dt he ab ab)).symm | exact (congrArg (fun q=>q.1.floor) (dt he ab ab)) | exact (congrArg (fun q=>q.1.floor) (dt he ab ab)).symm | exact (congrArg (fun q=>q.1.term) (dt he ab ab)) | exact (congrArg (fun q=>q.1.term) (dt he ab ab)).symm | exact (congrArg (fun q=>q.1.vote) (dt he ab ab)) | exact (congrArg (fun q=>q.1.vote) (dt he ab ab)).symm | exact (congrArg (fun q=>q.1.log) (dt he ab ab)) | exact (congrArg (fun q=>q.1.log) (dt he ab ab)).symm | (have:=iR (dp.1 ab); dsimp only at this; omega) | (have h:=bH.1 (dp.1 ab); dsimp only at h; omega))
set_option maxRecDepth 8000 in
theorem Wu (s:Stable) (a b:Int) (x:List UInt8) (h0:s.log.length<=1000000):Sat Tryz.prog (al tyT) 85 [.agg (cellsOf (.nm .stable) s),.agg (cellsOf (.nm .record) (⟨3,a,b,x⟩:Record))] [] ⟨[s.log.length<=1000000],[.agg (cellsOf (.nm .stable) (aI s (⟨3,a,b,x⟩:Record)).1),.c (.int (aI s (⟨3,a,b,x⟩:Record)).2)],none,false⟩:=by
 have he:fB s (⟨3,a,b,x⟩:Record)=dN s (⟨3,a,b,x⟩:Record):=rfl;refine av ji [] Tryz.func85 ?_ (QS s a b x (aI s (⟨3,a,b,x⟩:Record)).1 (aI s (⟨3,a,b,x⟩:Record)).2).symm;(repeat' with_reducible first|apply bd|refine bf ?_|intro)
 all_goals (first | exact bq | exact (congrArg (fun q=>q.2) (dv ab)) | exact (congrArg (fun q=>q.2) (dv ab)).symm | exact (congrArg (fun q=>q.1.floor) (dv ab)) | exact (congrArg (fun q=>q.1.floor) (dv ab)).symm | exact (congrArg (fun q=>q.1.term) (dv ab)) | exact (congrArg (fun q=>q.1.term) (dv ab)).symm | exact (congrArg (fun q=>q.1.vote) (dv ab)) | exact (congrArg (fun q=>q.1.vote) (dv ab)).symm | exact (congrArg (fun q=>q.1.log) (dv ab)) | exact (congrArg (fun q=>q.1.log) (dv ab)).symm | exact (congrArg (fun q=>q.2) (dw he ab ab)) | exact (congrArg (fun q=>q.2) (dw he ab ab)).symm | exact (congrArg (fun q=>q.1.floor) (dw he ab ab)) | exact (congrArg (fun q=>q.1.floor) (dw he ab ab)).symm | exact (congrArg (fun q=>q.1.term) (dw he ab ab)) | exact (congrArg (fun q=>q.1.term) (dw he ab ab)).symm | exact (congrArg (fun q=>q.1.vote) (dw he ab ab)) | exact (congrArg (fun q=>q.1.vote) (dw he ab ab)).symm | exact (congrArg (fun q=>q.1.log) (dw he ab ab)) | exact (congrArg (fun q=>q.1.log) (dw he ab ab)).symm | exact (congrArg (fun q=>q.2) (dt he ab ab)) | exact (congrArg (fun q=>q.2) (dt he ab ab)).symm | exact (congrArg (fun q=>q.1.floor) (dt he ab ab)) | exact (congrArg (fun q=>q.1.floor) (dt he ab ab)).symm | exact (congrArg (fun q=>q.1.term) (dt he ab ab)) | exact (congrArg (fun q=>q.1.term) (dt he ab ab)).symm | exact (congrArg (fun q=>q.1.vote) (dt he ab ab)) | exact (congrArg (fun q=>q.1.vote) (dt he ab ab)).symm | exact (congrArg (fun q=>q.1.log) (dt he ab ab)) | exact (congrArg (fun q=>q.1.log) (dt he ab ab)).symm | (have:=iR (dp.1 ab); dsimp only at this; omega) | (have h:=bH.1 (dp.1 ab); dsimp only at h; omega))
set_option maxRecDepth 8000 in
theorem Yg (s:Stable) (a b:Int) (x:List UInt8) (h0:s.log.length<=1000000):Sat Tryz.prog (al tyT) 85 [.agg (cellsOf (.nm .stable) s),.agg (cellsOf (.nm .record) (⟨4,a,b,x⟩:Record))] [] ⟨[s.log.length<=1000000],[.agg (cellsOf (.nm .stable) (aI s (⟨4,a,b,x⟩:Record)).1),.c (.int (aI s (⟨4,a,b,x⟩:Record)).2)],none,false⟩:=by
 have he:fB s (⟨4,a,b,x⟩:Record)=fE s (⟨4,a,b,x⟩:Record):=rfl;refine av ji [] Tryz.func85 ?_ (Pm s a b x (aI s (⟨4,a,b,x⟩:Record)).1 (aI s (⟨4,a,b,x⟩:Record)).2).symm;(repeat' with_reducible first|apply bd|refine bf ?_|intro)
 all_goals (first | exact bq | exact (congrArg (fun q=>q.2) (dv ab)) | exact (congrArg (fun q=>q.2) (dv ab)).symm | exact (congrArg (fun q=>q.1.floor) (dv ab)) | exact (congrArg (fun q=>q.1.floor) (dv ab)).symm | exact (congrArg (fun q=>q.1.term) (dv ab)) | exact (congrArg (fun q=>q.1.term) (dv ab)).symm | exact (congrArg (fun q=>q.1.vote) (dv ab)) | exact (congrArg (fun q=>q.1.vote) (dv ab)).symm | exact (congrArg (fun q=>q.1.log) (dv ab)) | exact (congrArg (fun q=>q.1.log) (dv ab)).symm | exact (congrArg (fun q=>q.2) (dw he ab ab)) | exact (congrArg (fun q=>q.2) (dw he ab ab)).symm | exact (congrArg (fun q=>q.1.floor) (dw he ab ab)) | exact (congrArg (fun q=>q.1.floor) (dw he ab ab)).symm | exact (congrArg (fun q=>q.1.term) (dw he ab ab)) | exact (congrArg (fun q=>q.1.term) (dw he ab ab)).symm | exact (congrArg (fun q=>q.1.vote) (dw he ab ab)) | exact (congrArg (fun q=>q.1.vote) (dw he ab ab)).symm | exact (congrArg (fun q=>q.1.log) (dw he ab ab)) | exact (congrArg (fun q=>q.1.log) (dw he ab ab)).symm | exact (congrArg (fun q=>q.2) (dt he ab ab)) | exact (congrArg (fun q=>q.2) (dt he ab ab)).symm | exact (congrArg (fun q=>q.1.floor) (dt he ab ab)) | exact (congrArg (fun q=>q.1.floor) (dt he ab ab)).symm | exact (congrArg (fun q=>q.1.term) (dt he ab ab)) | exact (congrArg (fun q=>q.1.term) (dt he ab ab)).symm | exact (congrArg (fun q=>q.1.vote) (dt he ab ab)) | exact (congrArg (fun q=>q.1.vote) (dt he ab ab)).symm | exact (congrArg (fun q=>q.1.log) (dt he ab ab)) | exact (congrArg (fun q=>q.1.log) (dt he ab ab)).symm | (have:=iR (dp.1 ab); dsimp only at this; omega) | (have h:=bH.1 (dp.1 ab); dsimp only at h; omega))
theorem Lg (s:Stable) (r:Record) (h0:s.log.length<=1000000):Sat Tryz.prog (al tyT) 85 [.agg (cellsOf (.nm .stable) s),.agg (cellsOf (.nm .record) r)] [] ⟨[s.log.length<=1000000],[.agg (cellsOf (.nm .stable) (aI s r).1),.c (.int (aI s r).2)],none,false⟩:=by
 cases hr:recOk r
 ·refine av Lj [] Tryz.func85 ?_ (Pu s r (aI s r).1 (aI s r).2).symm;rw [Ax hr];grind
 obtain ⟨k,a,b,x⟩:=r;rcases bH.1 hr with h | h | h | h <;> (have hk:=h.1; dsimp only at hk; subst hk)
 ·exact Xy s a b x h0
 ·exact Wg s a b x h0
 ·exact Wu s a b x h0
 exact Yg s a b x h0
noncomputable def zK:Kn:=aJ (ae (kC (cL .u8)) au) aw fun (b,_) _=>⟨[],[.agg (cellsOf (.nm .record) ((bO b).1)),.c (.int (((bO b).2)))],none,false⟩
theorem Mh:CK 84 zK:=ah fun (b,_) _ _=>by
 refine av ji [] Tryz.func84 (?_:(fun q3=>(fun q2=>(fun q1=>(fun q0=>b.length*1<=140737488355328->dK (bz b).fst (((bz b).snd=false->q0)/\((bz b).snd=true->q1.fst.length*1<=140737488355328->I64 q1.snd->(¬q1.snd=q3\/decide (q1.fst=b)=false->q0)/\(q1.snd=q3/\decide (q1.fst=b)=true->qL (bz b).fst q2 (q3=(bO b).snd))))) (q3=q2.kind/\q3=q2.a/\q3=q2.b/\q2.x=[]/\3=(bO b).snd)) (aH (bz b).fst)) (bO b).fst) (0:Int));(repeat' with_reducible first|apply bd|refine bf ?_|intro)
 all_goals (first | exact bq | exact (congrArg (fun q=>q.2) (lF ab)) | exact (congrArg (fun q=>q.2) (lF ab)).symm | exact (congrArg (fun q=>q.1.kind) (lF ab)) | exact (congrArg (fun q=>q.1.kind) (lF ab)).symm | exact (congrArg (fun q=>q.1.a) (lF ab)) | exact (congrArg (fun q=>q.1.a) (lF ab)).symm | exact (congrArg (fun q=>q.1.b) (lF ab)) | exact (congrArg (fun q=>q.1.b) (lF ab)).symm | exact (congrArg (fun q=>q.1.x) (lF ab)) | exact (congrArg (fun q=>q.1.x) (lF ab)).symm | exact (congrArg (fun q=>q.2) (lJ ab ab)) | exact (congrArg (fun q=>q.2) (lJ ab ab)).symm | exact (congrArg (fun q=>q.1.kind) (lJ ab ab)) | exact (congrArg (fun q=>q.1.kind) (lJ ab ab)).symm | exact (congrArg (fun q=>q.1.a) (lJ ab ab)) | exact (congrArg (fun q=>q.1.a) (lJ ab ab)).symm | exact (congrArg (fun q=>q.1.b) (lJ ab ab)) | exact (congrArg (fun q=>q.1.b) (lJ ab ab)).symm | exact (congrArg (fun q=>q.1.x) (lJ ab ab)) | exact (congrArg (fun q=>q.1.x) (lJ ab ab)).symm | exact (congrArg (fun q=>q.2) (lB ab ab ab)) | exact (congrArg (fun q=>q.2) (lB ab ab ab)).symm | exact (congrArg (fun q=>q.1.kind) (lB ab ab ab)) | exact (congrArg (fun q=>q.1.kind) (lB ab ab ab)).symm | exact (congrArg (fun q=>q.1.a) (lB ab ab ab)) | exact (congrArg (fun q=>q.1.a) (lB ab ab ab)).symm | exact (congrArg (fun q=>q.1.b) (lB ab ab ab)) | exact (congrArg (fun q=>q.1.b) (lB ab ab ab)).symm | exact (congrArg (fun q=>q.1.x) (lB ab ab ab)) | exact (congrArg (fun q=>q.1.x) (lB ab ab ab)).symm)
theorem Ox (s:Stable) (r:Record) (h0:s.log.length<=1000000):Sat Tryz.prog (al tyT) 85 [.agg (cellsOf (.nm .stable) s),.agg (cellsOf (.nm .record) r)] [] ⟨[s.log.length<=1000000],[.agg (cellsOf (.nm .stable) ((aI s r).1)),.c (.int (((aI s r).2)))],none,false⟩:=Lg s r h0
noncomputable def Aw:Kn:=aJ (ae (kT (.nm .stable)) (ae (kT (.nm .record)) au)) aw fun (s,r,_) _=>⟨[s.log.length<=1000000],[.agg (cellsOf (.nm .stable) ((aI s r).1)),.c (.int (((aI s r).2)))],none,false⟩
theorem Lp:CK 85 Aw:=ah fun (s,r,_) _ hp=>Ox s r (bW hp)
noncomputable def ZV:bD:=(aL 85 Aw (aL 84 zK Cc))
theorem DQ:ay Tryz.prog (al tyT) ZV:=(ag Lp (ag Mh ji))
structure RJ (b:List UInt8) (s:Stable) (u:Int):Prop where
 le:0<=u/\u<=b.length
 log:(s.log.length:Int)<=u
 eq:replayF b=((playB (b.length+1) s (b.drop u.toNat)).1,u+(playB (b.length+1) s (b.drop u.toNat)).2)
theorem agP:RJ b sta0 0:=⟨by omega,by simp,by simp [replayF]⟩
section
variable {b:List UInt8} {s:Stable} {u:Int}
theorem th (h:RJ b s u) (h1:¬ (a_ (b.drop u.toNat)).2.2=0):replayF b=(s,u):=by
 rw [h.eq,mi h1,Int.add_zero]
theorem tx (h:RJ b s u) (h1:(a_ (b.drop u.toNat)).2.2=0) (h2:¬ (bO (a_ (b.drop u.toNat)).1).2=0):replayF b=(s,u):=by
 rw [h.eq,playB,if_neg (adi.2 h1),if_pos h2,Int.add_zero]
theorem tG (h:RJ b s u) (h1:(a_ (b.drop u.toNat)).2.2=0) (h2:(bO (a_ (b.drop u.toNat)).1).2=0) (h3:¬ (aI s (bO (a_ (b.drop u.toNat)).1).1).2=0):replayF b=(s,u):=by
 rw [h.eq,playB,if_neg (adi.2 h1),if_neg (adi.2 h2),if_pos h3,Int.add_zero]
theorem FK {s t:Stable} (h:fB s r=some t):t.log.length<=s.log.length+1:=by
 unfold fB dQ fw dN fE at h;grind
theorem vq {s:Stable}:(aI s r).1.log.length<=s.log.length+1:=by
 unfold aI;split
 ·simp
 split
 ·rename_i t h; exact FK h
 simp
theorem aeZ (h:RJ b s u) (h1:(a_ (b.drop u.toNat)).2.2=0) (h2:(bO (a_ (b.drop u.toNat)).1).2=0) (h3:(aI s (bO (a_ (b.drop u.toNat)).1).1).2=0):RJ b (aI s (bO (a_ (b.drop u.toNat)).1).1).1 (u+(a_ (b.drop u.toNat)).2.1):=by
 have hs:=gK h1;rw [List.length_drop] at hs;have h4:=vq (s:=s) (r:=(bO (a_ (b.drop u.toNat)).1).1);have h5:=h.log;refine ⟨by omega,by omega,?_⟩;rw [h.eq,playB,if_neg (adi.2 h1),if_neg (adi.2 h2),if_neg (adi.2 h3),agl,show u.toNat+(a_ (b.drop u.toNat)).2.1.toNat=(u+(a_ (b.drop u.toNat)).2.1).toNat by omega];rw [mf (n:=b.length) (m:=b.length+1) (by rw [List.length_drop]; omega) (by rw [List.length_drop]; omega)];grind
theorem aeD (h:RJ b s u):0<=u:=h.le.1
theorem ad3 (h:RJ b s u):u<=(b.length:Int):=h.le.2
theorem afl (h:RJ b s u) (hb:b.length<=1000000):s.log.length<=1000000:=by
 have:=h.log; have:=h.le; omega
theorem adW (h:RJ b s u) (h1:(a_ (b.drop u.toNat)).2.2=0) (hb:b.length<=1000000):I64 (u+(a_ (b.drop u.toNat)).2.1):=by
 have:=gK h1; have:=h.le;rw [List.length_drop] at *;exact bK aK aK
theorem ags (h:RJ b s u) (h1:(a_ (b.drop u.toNat)).2.2=0):((b.length:Int) - (u+(a_ (b.drop u.toNat)).2.1)).toNat<((b.length:Int) - u).toNat:=by
 have:=gK h1; have:=h.le;grind
end
variable {l:List Record}
theorem AR {s:Stable} (h:(stepsF s (l.take k)).2=0) (hr:l[k]? = some r):stepsF s (l.take (k+1))=stepsF (stepsF s (l.take k)).1 [r]:=by
 rw [ai hr,ej h]
theorem tC {s:Stable} (h:(stepsF s (l.take k)).2=0) (hr:l[k]? = some r) (h2:(aI (stepsF s (l.take k)).1 r).2=0):(stepsF s (l.take (k+1))).2=0/\(stepsF s (l.take (k+1))).1=(aI (stepsF s (l.take k)).1 r).1:=by
 rw [AR h hr,stepsF,if_pos h2,stepsF]; exact ⟨rfl,rfl⟩
theorem agu {s:Stable} (h:(stepsF s (l.take k)).2=0) (hr:l[k]? = some r) (h2:¬ (aI (stepsF s (l.take k)).1 r).2=0):(stepsF s l).2=(aI (stepsF s (l.take k)).1 r).2:=by
 have hk:=(aam.1 hr);have e:l=l.take k++r :: l.drop (k+1):=by
  rw [<- hk.2,List.getElem_cons_drop,List.take_append_drop]
 rw [show stepsF s l=stepsF s (l.take k++r :: l.drop (k+1)) from congrArg (stepsF s) e,ej h,stepsF,if_neg h2]
theorem rR:∀ {l:List Record} {s:Stable},(stepsF s l).1.log.length<=s.log.length+l.length
 | [],s=>ac5 _
 | r :: l,s=>by
  rw [stepsF];split
  ·have:=rR (l:=l) (s:=(aI s r).1);have:=vq (s:=s) (r:=r);grind
  grind
theorem acE (h:(l.take k).all recOk=true) (hr:l[k]? = some r) (h2:recOk r=true):(l.take (k+1)).all recOk=true:=by
 rw [ai hr,agr,h]; simp [h2]
theorem ZT (hr:l[k]? = some r) (h2:recOk r=false):l.all recOk=false:=by grind
theorem YA (hr:l[k]? = some r):encL (l.take k)++eF (di r)=encL (l.take (k+1)):=by
 rw [ai hr,ra]; simp [encL,jh]
theorem BV {d:Dsk} {x:List UInt8} (h:d.OK):(d.app x).OK:=by
 obtain ⟨h1,h2,h3⟩:=h;unfold Dsk.app;split
 ·exact ⟨h1,h2,h3⟩
 refine ⟨h1,?_,?_⟩ <;> dsimp only <;> rw [List.length_append] <;> omega
def Gh (b:List UInt8):List (Nat × LI):=[(3,{ σ:=Stable × Int,F:=fun q=>([(0,one (.fz .u8 (b))),(2,one (.ptr 1 0)),(4,one (.ptr 0 0)),(5,one (.int q.2))],[.box 64 (cellsOf (.nm .stable) (q.1)),.box 64 (cellsOf (.nm .stable) (sta0))]),J:=fun q=>RJ b q.1 q.2,μ:=fun q=>(b.length - q.2).toNat })]
noncomputable def qC:Kn:=aJ (ae (kC (cL .u8)) au) aw fun (b,_) _=>⟨[b.length<=1000000],[.agg (cellsOf (.nm .stable) ((replayF b).1)),.c (.int (((replayF b).2)))],none,false⟩
theorem Bm:CK 41 qC:=ah fun (b,_) _ hp=>by
 have h0:=bW hp;refine av DQ (Gh b) Tryz.func41 (?_:(fun (q0:Int)=>b.length*1<=140737488355328->∃ (s0:Stable × Int),(b=b/\q0=s0.snd/\q0=s0.fst.floor/\q0=s0.fst.term/\q0=s0.fst.vote/\s0.fst.log=[]/\q0=sta0.floor/\q0=sta0.term/\q0=sta0.vote/\sta0.log=[])/\RJ b s0.fst s0.snd/\∀ (s:Stable × Int),(fun (q2:Prop)=>(fun (q1:List UInt8 × Int × Int)=>(fun (q4:Record × Int)=>(fun (q3:Stable × Int)=>RJ b s.fst s.snd->q0<=s.snd/\s.snd<=(↑b.length:Int)/\(q1.fst.length*1<=140737488355328->I64 q1.snd.fst->I64 q1.snd.snd->(¬q1.snd.snd=q0->q2)/\(q1.snd.snd=q0->dK q4.fst (I64 q4.snd->(¬q4.snd=q0->q2)/\(q4.snd=q0->s.fst.log.length<=1000000/\bV q3.fst (I64 q3.snd->(¬q3.snd=q0->q2)/\(q3.snd=q0->I64 (s.snd+q1.snd.fst)/\∃ (s':Stable × Int),(b=b/\s.snd+q1.snd.fst=s'.snd/\aE q3.fst s'.fst (dH sta0 sta0))/\RJ b s'.fst s'.snd/\((↑b.length:Int) - s'.snd).toNat<((↑b.length:Int) - s.snd).toNat))))))) (aI s.fst q4.fst)) (bO q1.fst)) (a_ (List.drop s.snd.toNat b))) (aE s.fst (replayF b).fst (s.snd=(replayF b).snd))) 0);iterate 3 ((all_goals (repeat' with_reducible first|apply bd|refine bf ?_|intro)); (all_goals try (first | exact bq | (with_reducible exact agP) | (with_reducible exact aeD ab) | (with_reducible exact ad3 ab) | (with_reducible exact afl ab h0) | (with_reducible exact adW ab ab h0) | (with_reducible exact ags ab ab) | (with_reducible exact aeZ ab ab ab ab) | exact (congrArg (fun q=>q.2) (th ab ab)) | exact (congrArg (fun q=>q.2) (th ab ab)).symm | exact (congrArg (fun q=>q.1.floor) (th ab ab)) | exact (congrArg (fun q=>q.1.floor) (th ab ab)).symm | exact (congrArg (fun q=>q.1.term) (th ab ab)) | exact (congrArg (fun q=>q.1.term) (th ab ab)).symm | exact (congrArg (fun q=>q.1.vote) (th ab ab)) | exact (congrArg (fun q=>q.1.vote) (th ab ab)).symm | exact (congrArg (fun q=>q.1.log) (th ab ab)) | exact (congrArg (fun q=>q.1.log) (th ab ab)).symm | exact (congrArg (fun q=>q.2) (tx ab ab ab)) | exact (congrArg (fun q=>q.2) (tx ab ab ab)).symm | exact (congrArg (fun q=>q.1.floor) (tx ab ab ab)) | exact (congrArg (fun q=>q.1.floor) (tx ab ab ab)).symm | exact (congrArg (fun q=>q.1.term) (tx ab ab ab)) | exact (congrArg (fun q=>q.1.term) (tx ab ab ab)).symm | exact (congrArg (fun q=>q.1.vote) (tx ab ab ab)) | exact (congrArg (fun q=>q.1.vote) (tx ab ab ab)).symm | exact (congrArg (fun q=>q.1.log) (tx ab ab ab)) | exact (congrArg (fun q=>q.1.log) (tx ab ab ab)).symm | exact (congrArg (fun q=>q.2) (tG ab ab ab ab)) | exact (congrArg (fun q=>q.2) (tG ab ab ab ab)).symm | exact (congrArg (fun q=>q.1.floor) (tG ab ab ab ab)) | exact (congrArg (fun q=>q.1.floor) (tG ab ab ab ab)).symm | exact (congrArg (fun q=>q.1.term) (tG ab ab ab ab)) | exact (congrArg (fun q=>q.1.term) (tG ab ab ab ab)).symm | exact (congrArg (fun q=>q.1.vote) (tG ab ab ab ab)) | exact (congrArg (fun q=>q.1.vote) (tG ab ab ab ab)).symm | exact (congrArg (fun q=>q.1.log) (tG ab ab ab ab)) | exact (congrArg (fun q=>q.1.log) (tG ab ab ab ab)).symm)); all_goals try first | refine ⟨((aI (‹Stable × Int›).1 (bO (a_ (b.drop (‹Stable × Int›).2.toNat)).1).1).1,(‹Stable × Int›).2+(a_ (b.drop (‹Stable × Int›).2.toNat)).2.1),?_⟩ | refine ⟨(sta0,0),?_⟩)
noncomputable def abF:bD:=(aL 41 qC ZV)
theorem CR:ay Tryz.prog (al tyT) abF:=(ag Bm DQ)
section
variable {d:Dsk} {s:Stable} {l:List Record} {k:Nat} {r:Record}
theorem aaL (hr:l[k]? = some r) (h:¬ (aH r).2=0):saveF d s l=(d,s,(aH r).2):=by
 rw [saveF,if_pos (ZT hr (nI h).2),(nI h).1]
theorem Vq (h:(aH r).2=0):ow (aH r).1=(eF (di r),0):=by
 have hr:=dp.1 h;have:=iZ hr;rw [Bh hr,ow,if_neg (by dsimp only; omega)]
theorem aaS {p:Prop} (h:(aH r).2=0) (h2:¬ (ow (aH r).1).2=0):p:=absurd (by rw [Vq h]) h2
theorem aak (hr:l[k]? = some r) (h:(aH r).2=0):encL (l.take k)++(ow (aH r).1).1=encL (l.take (k+1)):=by
 rw [Vq h]; exact YA hr
theorem UX (h:l.length<=1000) (h2:(l.take k).all recOk=true) (h3:(aH r).2=0):((encL (l.take k)).length+(ow (aH r).1).1.length)*1<=140737488355328:=by
 have h4:=qv h2;have h5:=iZ (dp.1 h3);have h6:(l.take k).length<=l.length:=by rw [List.length_take]; omega
 rw [Vq h3]; dsimp only; rw [mn]; omega
theorem acK (hk:(l.length:Int)<=k) (h:(l.take k).all recOk=true):l.all recOk=true:=by rwa [List.take_of_length_le (by omega)] at h
theorem abl (hk:(l.length:Int)<=k):encL (l.take k)=encL l:=by rw [List.take_of_length_le (by omega)]
theorem aby (h1:s.log.length<=10000) (h2:l.length<=1000):(stepsF s (l.take k)).1.log.length<=1000000:=by
 have:=rR (s:=s) (l:=l.take k);grind
theorem aaW (ha:l.all recOk=true) (h:(stepsF s (l.take k)).2=0) (hr:l[k]? = some r) (h2:¬ (aI (stepsF s (l.take k)).1 r).2=0):saveF d s l=(d,s,(aI (stepsF s (l.take k)).1 r).2):=by
 have e:=agu h hr h2;rw [saveF,if_neg (by rw [ha]; decide),if_pos (by rw [e]; exact h2),e]
theorem aay (hl:(l.length:Int)=0):saveF d s l=(d,(stepsF s (l.take k)).1,0):=by
 rw [acr (l:=l) (by omega),List.take_nil]; rfl
theorem WD (hk:(l.length:Int)<=k) (ha:l.all recOk=true) (h:(stepsF s (l.take k)).2=0) (hl:¬ (l.length:Int)=0):saveF d s l=if d.jJ (encL l)≠0 then (d,s,d.jJ (encL l)) else if (d.app (encL l)).eX≠0 then ((d.app (encL l)).sync,s,(d.app (encL l)).eX) else ((d.app (encL l)).sync,(stepsF s (l.take k)).1,0):=by
 rw [List.take_of_length_le (by omega)] at h ⊢;rw [saveF,if_neg (by rw [ha]; decide),if_neg (by rw [h]; decide),if_neg (by omega)]
theorem aa9 (hk:(l.length:Int)<=k) (ha:l.all recOk=true) (h:(stepsF s (l.take k)).2=0) (hl:¬ (l.length:Int)=0) (h1:¬ d.jJ (encL l)=0):saveF d s l=(d.app (encL l),s,d.jJ (encL l)):=by
 have e:d.app (encL l)=d:=by
  unfold Dsk.app Dsk.jJ at *;grind
 rw [WD hk ha h hl,if_pos h1,e]
theorem acJ (hk:(l.length:Int)<=k) (ha:l.all recOk=true) (h:(stepsF s (l.take k)).2=0) (hl:¬ (l.length:Int)=0) (h1:d.jJ (encL l)=0) (h2:¬ (d.app (encL l)).eX=0):saveF d s l=((d.app (encL l)).sync,s,(d.app (encL l)).eX):=by
 rw [WD hk ha h hl,if_neg (adi.2 h1),if_pos h2]
theorem aaJ (hk:(l.length:Int)<=k) (ha:l.all recOk=true) (h:(stepsF s (l.take k)).2=0) (hl:¬ (l.length:Int)=0) (h1:d.jJ (encL l)=0) (h2:(d.app (encL l)).eX=0):saveF d s l=((d.app (encL l)).sync,(stepsF s (l.take k)).1,0):=by
 rw [WD hk ha h hl,if_neg (adi.2 h1),if_neg (adi.2 h2)]
variable {x:List UInt8}
theorem app_1 (h:d.OK):0<=(d.app x).synced:=(BV h).1
theorem Ug (h:d.OK):(d.app x).synced<=((d.app x).b.length:Int):=(BV h).2.1
theorem UZ (h:d.OK):(d.app x).b.length<=65536:=(BV h).2.2
theorem Mv (h:(l.take k).all recOk=true) (hr:l[k]? = some r) (h2:(aH r).2=0):(l.take (k+1)).all recOk=true:=acE h hr (dp.1 h2)
end
def RO (s:Stable) (l:List Record) (sy:Int) (dn:Bool) (dm:Bool) (kp:Int) (bs:List UInt8):List (Nat × LI):=[(3,{ σ:=Nat,F:=fun k=>([(0,one (.ptr 0 0)),(2,one (.fz (.nm .record) (l))),(4,one (.ptr 2 0)),(6,one (.ptr 3 0)),(8,one (.own 4)),(20,one (.fz (.nm .record) (l))),(21,one (.int (l).length)),(22,one (.int k))],[.box 147 ([.own 1,.int ((sy)),.bool (.atom ((dn))),.bool (.atom ((dm))),.int ((kp))]),.row 5 .u8 ((bs)),.box 64 (cellsOf (.nm .stable) (s)),.box 64 (cellsOf (.nm .stable) (sta0)),.row 5 .u8 ((encL (l.take k)))]),J:=fun k=>k<=l.length/\(l.take k).all recOk=true,μ:=fun k=>(l).length - k }),(15,{ σ:=Nat,F:=fun k=>([(0,one (.ptr 0 0)),(2,one (.fz (.nm .record) (l))),(4,one (.ptr 2 0)),(6,one (.ptr 3 0)),(8,one (.own 4)),(14,one (.ptr 5 0)),(52,one (.fz (.nm .record) (l))),(53,one (.int (l).length)),(54,one (.int k))],[.box 147 ([.own 1,.int ((sy)),.bool (.atom ((dn))),.bool (.atom ((dm))),.int ((kp))]),.row 5 .u8 ((bs)),.box 64 (cellsOf (.nm .stable) (s)),.box 64 (cellsOf (.nm .stable) (sta0)),.row 5 .u8 ((encL l)),.box 64 (cellsOf (.nm .stable) ((stepsF s (l.take k)).1))]),J:=fun k=>k<=l.length/\l.all recOk=true/\(stepsF s (l.take k)).2=0,μ:=fun k=>(l).length - k })]
noncomputable def Aa:Kn:=aJ (ae (kC (aW 0 0)) (ae (kT (.nm .stable)) (ae (kC (cL (.nm .record))) au))) (aB (dx 147 (ax (eN 1) (ax cI (ax cB (ax cB (ax cI du)))))) (aB (eS 5 .u8) aw)) fun (_,s,l,_) ((_,sy,dn,dm,kp,_),bs,_)=>⟨[(Dsk.mk bs sy dn dm kp).OK,s.log.length<=10000,l.length<=1000],[.agg (cellsOf (.nm .stable) ((saveF (Dsk.mk bs sy dn dm kp) s l).2.1)),.c (.int (((saveF (Dsk.mk bs sy dn dm kp) s l).2.2)))],some ([.box 147 ([.own 1,.int (((saveF (Dsk.mk bs sy dn dm kp) s l).1.synced)),.bool (.atom (((saveF (Dsk.mk bs sy dn dm kp) s l).1.down))),.bool (.atom (((saveF (Dsk.mk bs sy dn dm kp) s l).1.doomed))),.int (((saveF (Dsk.mk bs sy dn dm kp) s l).1.keep))]),.row 5 .u8 (((saveF (Dsk.mk bs sy dn dm kp) s l).1.b))]),false⟩
set_option maxRecDepth 8000 in
theorem JL:CK 87 Aa:=ah fun (_,s,l,_) ((_,sy,dn,dm,kp,_),bs,_) hp=>by
 have h0:=bW hp;have h1:=bW (eH hp);have h2:=bW (eH (eH hp));refine bw CR (RO s l sy dn dm kp bs) Tryz.func87 (?_:(fun (q11:Dsk)=>(fun (q10:Prop)=>(fun (q9:Prop)=>(fun (q8:Prop)=>(fun (q7:Prop)=>(fun (q6:Prop)=>(fun (q5:Int)=>(fun (q4:Int)=>(fun (q3:Nat)=>(fun (q12:Int)=>(fun (q2:Int)=>(fun (q1:Dsk)=>(fun (q13:Dsk)=>(fun (q0:Dsk × Stable × Int)=>(fun (q18:Stable)=>(fun (q17:Int)=>(fun (q16:Dsk)=>(fun (q15:Prop)=>(fun (q14:Prop)=>bV s (l.length*48<=140737488355328->∃ (s0:Nat),(q10/\q10/\q5=q12/\q2=(↑s0:Int)/\sy=sy/\dn=dn/\dm=dm/\kp=kp/\bs=bs/\aE s s (q2=sta0.floor/\q2=sta0.term/\q2=sta0.vote/\sta0.log=[]/\encL (List.take s0 l)=[]))/\(s0<=q3/\(List.take s0 l).all recOk=true)/\∀ (s_1:Nat),s_1<=q3/\(List.take s_1 l).all recOk=true->((↑s_1:Int)<q12->q2<=(↑s_1:Int)/\(↑s_1:Int)<q5/\∀ (x:Record),(fun (q20:Int)=>(fun (q19:List UInt8 × Int)=>l[s_1]? = some x->dK x ((aH x).fst.length*1<=140737488355328->I64 q20->(¬q20=q2->q6->q7->q8->aE s q18 (q20=q17/\q14))/\(q20=q2->q19.fst.length*1<=140737488355328->I64 q19.snd->(¬q19.snd=q2->q6->q7->q8->aE s q18 (q19.snd=q17/\q14))/\(q19.snd=q2->((encL (List.take s_1 l)).length+q19.fst.length)*1<=140737488355328/\I64 ((↑s_1:Int)+1)/\∃ (s':Nat),(q10/\q10/\q12=q12/\(↑s_1:Int)+1=(↑s':Int)/\sy=sy/\dn=dn/\dm=dm/\kp=kp/\bs=bs/\aE s s (aE sta0 sta0 (encL (List.take s_1 l)++q19.fst=encL (List.take s' l))))/\(s' <= q3/\(List.take s' l).all recOk=true)/\q3 - s' < q3 - s_1)))) (ow (aH x).fst)) (aH x).snd)/\(q12<=(↑s_1:Int)->q6->q7->q8->∃ (s0:Nat),(q10/\q10/\q5=q12/\q2=(↑s0:Int)/\sy=sy/\dn=dn/\dm=dm/\kp=kp/\bs=bs/\aE s s (aE sta0 sta0 (encL (List.take s_1 l)=encL l/\dH s (stepsF s (List.take s0 l)).fst)))/\(s0<=q3/\q9/\(stepsF s (List.take s0 l)).snd=q2)/\∀ (s_2:Nat),(fun (q21:Stable)=>s_2<=q3/\q9/\(stepsF s (List.take s_2 l)).snd=q2->((↑s_2:Int)<q12->q2<=(↑s_2:Int)/\(↑s_2:Int)<q5/\∀ (x:Record),(fun (q22:Int)=>l[s_2]? = some x->dK x (q21.log.length<=1000000/\bV (aI q21 x).fst (I64 q22->(¬q22=q2->q6->q7->q8->aE s q18 (q22=q17/\q14))/\(q22=q2->I64 ((↑s_2:Int)+1)/\∃ (s':Nat),(q10/\q10/\q12=q12/\(↑s_2:Int)+1=(↑s':Int)/\sy=sy/\dn=dn/\dm=dm/\kp=kp/\bs=bs/\aE s s (aE sta0 sta0 (encL l=encL l/\dH (aI q21 x).fst (stepsF s (List.take s' l)).fst)))/\(s' <= q3/\q9/\(stepsF s (List.take s' l)).snd=q2)/\q3 - s' < q3 - s_2)))) (aI q21 x).snd)/\(q12<=(↑s_2:Int)->(q5=q2->aE q21 q18 (q2=q17/\q14))/\(¬q5=q2->(q2<=sy/\sy<=(↑bs.length:Int)/\bs.length<=65536)/\(I64 q4->(¬q4=q2->q6->q7->q8->aE s q18 (q4=q17/\q1.synced=q16.synced/\q1.down=q16.down/\q1.doomed=q16.doomed/\q1.keep=q16.keep/\q1.b=q16.b))/\(q4=q2->(q2<=q1.synced/\q1.synced<=(↑q1.b.length:Int)/\q1.b.length<=65536)/\(I64 q1.eX->(¬q1.eX=q2->q6->q7->q8->aE s q18 (q1.eX=q17/\q15))/\(q1.eX=q2->aE q21 q18 (q2=q17/\q15)))))))) (stepsF s (List.take s_2 l)).fst))) (sy=q16.synced/\dn=q16.down/\dm=q16.doomed/\kp=q16.keep/\bs=q16.b)) (q13.synced=q16.synced/\q13.down=q16.down/\q13.doomed=q16.doomed/\q13.keep=q16.keep/\q13.b=q16.b)) q0.fst) q0.snd.snd) q0.snd.fst) (saveF q11 s l)) q1.sync) (q11.app (encL l))) 0) (↑q3:Int)) l.length) (q11.jJ (encL l))) (↑l.length:Int)) (I64 s.floor)) (I64 s.term)) (I64 s.vote)) (l.all recOk=true)) (l=l)) (Dsk.mk bs sy dn dm kp))
 have hO:=h0;obtain ⟨o1,o2,o3⟩:=h0;dsimp only at o1 o2 o3;(repeat' with_reducible first|apply bd|refine bf ?_|intro)
 all_goals try (refine ⟨0,?_⟩; (repeat' with_reducible first|apply bd|refine bf ?_|intro))
 all_goals try (first | (refine ⟨‹Nat› + 1,?_⟩; (repeat' with_reducible first|apply bd|refine bf ?_|intro) <;> (first | exact bq | (with_reducible exact aak ab ab) | (with_reducible exact Mv ab ab ab) | (with_reducible exact UX h2 ab ab) | (with_reducible exact acK ab ab) | (with_reducible exact abl ab) | (with_reducible exact aby h1 h2) | (with_reducible exact aaS ab ab) | (with_reducible exact (tC ab ab ab).1) | (with_reducible exact app_1 hO) | (with_reducible exact Ug hO) | (with_reducible exact UZ hO) | (with_reducible exact (congrArg Stable.floor (tC ab ab ab).2).symm) | (with_reducible exact (congrArg Stable.term (tC ab ab ab).2).symm) | (with_reducible exact (congrArg Stable.vote (tC ab ab ab).2).symm) | (with_reducible exact (congrArg Stable.log (tC ab ab ab).2).symm) | (rw [aaL (d:=Dsk.mk bs sy dn dm kp) ab ab] <;> rfl) | (rw [aaW (d:=Dsk.mk bs sy dn dm kp) ab ab ab ab] <;> rfl) | (rw [aa9 (d:=Dsk.mk bs sy dn dm kp) ab ab ab ab ab] <;> rfl) | (rw [acJ (d:=Dsk.mk bs sy dn dm kp) ab ab ab ab ab ab] <;> rfl) | (rw [aaJ (d:=Dsk.mk bs sy dn dm kp) ab ab ab ab ab ab] <;> rfl) | (rw [aay (d:=Dsk.mk bs sy dn dm kp) (k:=‹Nat›) ab] <;> rfl) | exact rfl); done) | (refine ⟨0,?_⟩; (repeat' with_reducible first|apply bd|refine bf ?_|intro)))
 all_goals try (refine ⟨‹Nat› + 1,?_⟩; (repeat' with_reducible first|apply bd|refine bf ?_|intro))
 all_goals (first | exact bq | (with_reducible exact aak ab ab) | (with_reducible exact Mv ab ab ab) | (with_reducible exact UX h2 ab ab) | (with_reducible exact acK ab ab) | (with_reducible exact abl ab) | (with_reducible exact aby h1 h2) | (with_reducible exact aaS ab ab) | (with_reducible exact (tC ab ab ab).1) | (with_reducible exact app_1 hO) | (with_reducible exact Ug hO) | (with_reducible exact UZ hO) | (with_reducible exact (congrArg Stable.floor (tC ab ab ab).2).symm) | (with_reducible exact (congrArg Stable.term (tC ab ab ab).2).symm) | (with_reducible exact (congrArg Stable.vote (tC ab ab ab).2).symm) | (with_reducible exact (congrArg Stable.log (tC ab ab ab).2).symm) | (rw [aaL (d:=Dsk.mk bs sy dn dm kp) ab ab] <;> rfl) | (rw [aaW (d:=Dsk.mk bs sy dn dm kp) ab ab ab ab] <;> rfl) | (rw [aa9 (d:=Dsk.mk bs sy dn dm kp) ab ab ab ab ab] <;> rfl) | (rw [acJ (d:=Dsk.mk bs sy dn dm kp) ab ab ab ab ab ab] <;> rfl) | (rw [aaJ (d:=Dsk.mk bs sy dn dm kp) ab ab ab ab ab ab] <;> rfl) | (rw [aay (d:=Dsk.mk bs sy dn dm kp) (k:=‹Nat›) ab] <;> rfl) | exact rfl)
noncomputable def aa_:bD:=(aL 87 Aa abF)
theorem pW:ay Tryz.prog (al tyT) aa_:=(ag JL CR)
variable {l:List Entry}
theorem abi {x:Entry} (h:l[k]? = some x):l.take k++[x]=l.take (k+1):=(ai h).symm
theorem acu (h:(l.length:Int)<=k):l.take k=l:=List.take_of_length_le (by omega)
def He (l:List Entry):List (Nat × LI):=[(3,{ σ:=Nat,F:=fun k=>([(3,one (.own 0)),(6,one (.fz (.nm .entry) (l))),(7,one (.int (l).length)),(8,one (.int k))],[.row 52 (.nm .entry) ((l.take k))]),J:=fun k=>k<=l.length,μ:=fun k=>(l).length - k })]
noncomputable def zu:Kn:=aJ au aw fun _ _=>⟨[],[.agg (cellsOf (.nm .state) (State.mk 1 1 0 0 [] [] []))],none,false⟩
theorem Iq:CK 46 zu:=ah fun _ _ _=>by
 refine av pW [] Tryz.func46 (?_:(1:Int)=1/\(1:Int)=1/\(0:Int)=0/\(0:Int)=0 /\ @Eq (List (den (Sh.nm NT.sess))) [] [] /\ @Eq (List (den (Sh.nm NT.opn))) [] [] /\ @Eq (List (den (Sh.nm NT.snap))) [] []);exact ⟨rfl,rfl,rfl,rfl,rfl,rfl,rfl⟩
noncomputable def uk:Kn:=aJ (ae (kC (aW 0 0)) (ae (kC cI) (ae (kC cI) au))) wN fun (_,kd,to,_) n=>⟨[],[.agg (cellsOf (.nm .letter) (pU n.c kd to))],none,false⟩
theorem GL:CK 51 uk:=ah fun (_,kd,to,_) n _=>by
 refine av pW [] Tryz.func51 (?_:(fun q0=>I64 kd->I64 to->kd=q0.kind/\n.c.me=q0.frm/\to=q0.to/\n.c.st.term=q0.term/\0=q0.a/\0=q0.b/\0=q0.c/\n.c.bin=q0.bin/\false=q0.ok/\q0.l=[]) (pU n.c kd to));(repeat' with_reducible first|apply bd|refine bf ?_|intro)
 all_goals first | exact bq | rfl
noncomputable def rV:Kn:=aJ (ae (kC (cL (.nm .entry))) au) aw fun (l,_) _=>⟨[],[.c (.fz (.nm .entry) ((l)))],none,false⟩
theorem Br:CK 60 rV:=ah fun (l,_) _ _=>by
 refine av pW (He l) Tryz.func60 (?_:(fun (q0:Nat)=>l.length*32<=140737488355328->∃ (s0:Nat),(l=l/\(↑l.length:Int)=(↑q0:Int)/\0=(↑s0:Int)/\List.take s0 l=[])/\s0<=q0/\∀ (s:Nat),s<=q0->((↑s:Int)<(↑q0:Int)->0<=(↑s:Int)/\(↑s:Int)<(↑l.length:Int)/\∀ (x:Entry),(fun (q1:Prop)=>l[s]? = some x->I64 x.term->q1->(q1->((List.take s l).length+[x].length)*32<=140737488355328)/\(q1->I64 ((↑s:Int)+1)/\∃ (s':Nat),(l=l/\(↑q0:Int)=(↑q0:Int)/\(↑s:Int)+1=(↑s':Int)/\List.take s l++[x]=List.take s' l)/\s' <= q0/\q0 - s' < q0 - s)) (x.b.length*1<=140737488355328))/\((↑q0:Int)<=(↑s:Int)->List.take s l=l)) l.length);iterate 3 ((all_goals (repeat' with_reducible first|apply bd|refine bf ?_|intro)); (all_goals try (first | exact bq | exact rfl | exact (abi ab) | exact (acu ab) | (simp only [List.length_take,List.length_cons,List.length_nil]; omega))); all_goals try first | refine ⟨‹Nat› + 1,?_⟩ | refine ⟨0,?_⟩)
noncomputable def Up:bD:=(aL 60 rV (aL 51 uk (aL 46 zu aa_)))
theorem nB:ay Tryz.prog (al tyT) Up:=(ag Br (ag GL (ag Iq pW)))
variable {n:NdC}
theorem acW (h:¬ (k:Int)=n.me):jw n k++[(k:Int)]=jw n (k+1):=by
 simp [jw,List.range_succ,h]
theorem ZX (h:(k:Int)=n.me):jw n k=jw n (k+1):=by
 simp [jw,List.range_succ,h]
theorem aa6 (h1:k<=n.many.toNat) (h:n.many<=k):jw n k=cz n:=by
 unfold cz; congr 1; omega
theorem pV:(jw n k).length<=k:=by
 unfold jw;refine Nat.le_trans (List.length_filter_le _ _) ?_;simp
def Ix (n:Nd):List (Nat × LI):=[(3,{ σ:=Nat,F:=fun k=>([(0,one (.ptr 0 0)),(3,one (.own 8)),(8,one (.int n.c.many)),(9,one (.int k))],(nq (n)++[.row 3 .int ((jw n.c k))])),J:=fun k=>k<=n.c.many.toNat,μ:=fun k=>n.c.many.toNat - k })]
noncomputable def uO:Kn:=aJ (ae (kC (cL .int)) au) aw fun (l,_) _=>⟨[],[.c (.own 0)],some ([.row 3 .int ((l))]),true⟩
theorem uc:CK 75 uO:=ah fun (l,_) _ _=>by
 refine dr nB [] Tryz.func75 (?_:(fun q0=>q0->∀ (b:Bool),(b=true->l=[])->(b=true->l=[])/\(b=false->q0/\l=l)) (l.length*8<=140737488355328));exact fun h b hb=>⟨hb,fun _=>⟨h,rfl⟩⟩
theorem Hj (l:List Int):Sat Tryz.prog (al tyT) 75 [.c (.fz .int (l))] [] ⟨[],[.c (.own 0)],some ([.row 3 .int ((l))]),true⟩:=uc _ _ _ rfl (by simp)
noncomputable def JJ:Kn:=aJ (ae (kT (.nm .letter)) au) aw fun (x,_) _=>⟨[],[.agg (cellsOf (.nm .letter) (x))],none,false⟩
theorem XD:CK 59 JJ:=ah fun (x,_) _ _=>by
 refine av nB [] Tryz.func59 (?_:aS x (x.l.length*32<=140737488355328->K_ x x));(repeat' with_reducible first|apply bd|refine bf ?_|intro)
 all_goals first | exact bq | rfl
noncomputable def ui:Kn:=aJ (ae (kC (aW 0 0)) au) wN fun _ n=>⟨[n.c.many<=5],[.c (.fz .int ((cz n.c)))],none,false⟩
theorem FL:CK 50 ui:=ah fun _ n hp=>by
 have h0:=bW hp;refine av nB (Ix n) Tryz.func50 (?_:(fun (q0:Int)=>(fun (q1:Nat)=>∃ (s0:Nat),(q0=q0/\0=(↑s0:Int)/\tH n n (jw n.c s0=[]))/\s0<=q1/\∀ (s:Nat),(fun (q2:Int)=>s<=q1->((↑s:Int)<q0->(¬(↑s:Int)=n.c.me->((jw n.c s).length+[(↑s:Int)].length)*8<=140737488355328/\I64 q2/\∃ (s':Nat),(q0=q0/\q2=(↑s':Int)/\tH n n (jw n.c s++[(↑s:Int)]=jw n.c s'))/\s' <= q1/\q1 - s' < q1 - s)/\((↑s:Int)=n.c.me->I64 q2/\∃ (s':Nat),(q0=q0/\q2=(↑s':Int)/\tH n n (jw n.c s=jw n.c s'))/\s' <= q1/\q1 - s' < q1 - s))/\(q0<=(↑s:Int)->jw n.c s=cz n.c)) ((↑s:Int)+1)) q0.toNat) n.c.many);iterate 3 ((all_goals (repeat' with_reducible first|apply bd|refine bf ?_|intro)); (all_goals try (first | exact bq | exact rfl | exact (acW ab) | exact (ZX ab) | exact (aa6 ab ab) | (have:=pV (n:=n.c) (k:=‹Nat›); simp only [List.length_cons,List.length_nil]; omega))); all_goals try first | refine ⟨‹Nat› + 1,?_⟩ | refine ⟨0,?_⟩)
noncomputable def Tt:bD:=(aL 50 ui (aL 59 JJ (aL 75 uO Up)))
theorem Mr:ay Tryz.prog (al tyT) Tt:=(ag FL (ag XD (ag uc nB)))
end Go.Proofs.YticbaadnibdbkaaGreat
namespace Go.Proofs.YticbaadnibdbkaaGreat
open Go.RowKit Go.Proofs Go.Shelf Go.Sort
def vN (w w1:World) (l:List Int) (g:Nat) (sp:List Value):Prop:=Kp [] w w1/\w.heap.size<=g/\w1.heap[g]? = some (.cells (List.toArray (l.map (Value.int .i64)++sp)) 3 (0,0))
variable {l:List Int} {w:World}
theorem Bi {G:Gl} {ρ:List RE} {v:Value} (hG:G.shp=al tyT) (hR:Rep G ρ [] w) (h1:Rd (cx G ρ w) ρ (.fz .int l) v) (hl:l.length≠0) :
  jI Tryz.prog 75 #[v] w fun r w1=>∃ g cap sp,r = .slice (some ⟨g,0,none⟩) l.length cap/\vN w w1 l g sp:=by
 have hρ:ρ=[]:=acr hR.obj.length.symm;subst hρ;refine ((Hj l).2 G [] w [v] hG hR (.cons h1 .nil)).mono fun r w1 ⟨us,e,ρ',hR',hx,hblk,hus,hk⟩=>?_;have hH:getO [AO.row 3 .int l] 0 = .row 3 .int l:=rfl;cases hus with | cons a b=>?_
 cases b;rcases bl hR' hH with ⟨_,h5⟩ | ⟨g,cap,cells,sp,h5,h6,h7,h8,h9,h10⟩
 ·grind
 rcases a with ⟨_,_,_,_,h3,rfl⟩ | ⟨h3,_⟩;case inr=>rw [h5] at h3; cases h3
 rw [h5] at h3; cases h3;obtain ⟨rfl,hI⟩:=lX h7;refine ⟨g,cap,sp,e,(hk rfl).1,?_,h6⟩;rcases Nat.lt_or_ge g w.heap.size with h | h
 ·exact absurd ⟨0,_,h5,rfl⟩ (hx.old g h (fun ⟨i,r,h,_⟩=>by simp at h)).1
 exact h
variable {w1:World} {sp:List Value}
theorem BW {g cap:Nat} (h:vN w w1 l g sp) (h0:l.length<=12) :
  Calls Tryz.prog 265 #[.slice (some ⟨g,0,none⟩) l.length cap,.func (.func 266) #[] #[]] w1 fun e w2=>e = .returned (.tuple #[])/\vN w w2 (nr l) g sp:=by
 obtain ⟨hk,hg,h6⟩:=h;refine (JQ h0 h6).mono fun e w2 ⟨he,hk2,h7⟩=>⟨he,⟨hk2.os.trans hk.os,hk2.tape.trans hk.tape,hk2.output.trans hk.output,Nat.le_trans hk.size hk2.size,fun b hb hn=>?_⟩,hg,h7⟩;exact (hk2.block b (ac3 hb hk.size) (by simp; omega)).trans (hk.block b hb hn)
theorem Ci {g i:Nat} (h:vN w w1 l g sp) (hi:i<l.length):w1.cell? ⟨g,i,none⟩=some (.int .i64 (l.getD i 0)):=by
 rw [Lib.cell_of_heap h.2.2,List.getElem?_toArray,List.getElem?_append_left (by simpa using hi),List.getElem?_map,List.getElem?_eq_getElem hi,List.getD_eq_getElem?_getD,List.getElem?_eq_getElem hi]; rfl
theorem GH (l:List Int) (h0:l.length<=12):Sat Tryz.prog (al tyT) 228 [.c (.fz .int l)] [] ⟨[l.length<=12],[.c (.int (gj l))],none,false⟩:=by
 refine ⟨⟨_,Tryz.func228,by decide,by kernel_rfl⟩,fun G ρ w vs hG hR hvs=>?_⟩;cases hvs with | cons h1 hvs=>?_
 cases hvs;have hc:=Bi (l:=l) hG hR h1;replace h1:Pd (cx G ρ w) (.fz .int l) _:=h1;cases h1 with | fz k1 k2 k3 k4 k5=>?_
 rename_i a k cells;have hI:=(lX k4).2;by_cases hl:l.length=0
 ·clear hc;go_enter Tryz.func228,Tryz.ntmps228
  have hl':(l.length:Int)=0:=by omega
  go_wp2
  go_ret
  refine ⟨_,rfl,[_],rfl,?_,?_⟩
  ·exact Kp.refl w
  refine .cons ?_ .nil;have e:gj l=0:=if_pos hl;show Pd (cx G ρ w) (.int (gj l)) (.int .i64 0);rw [e]; exact .int ⟨by decide,by decide⟩
 replace hc:=hc hl;go_enter Tryz.func228,Tryz.ntmps228
 have hl':¬ (l.length:Int)=0:=by omega
 have h4:(l.length:Int).tdiv 2=((l.length / 2:Nat):Int):=by rw [Int.tdiv_eq_ediv_of_nonneg (by omega)]; omega
 have h5:0<=(l.length:Int).tdiv 2:=by omega
 have h6:(l.length:Int).tdiv 2<(l.length:Int):=by omega
 have h7:I64 ((l.length:Int).tdiv 2):=bK (by omega) (by omega);go_wp2_with (first | (go_at_call 75; refine ahB hc ?_; rintro e w1 ⟨_,rfl,g,cap,sp,rfl,hw1⟩) | (go_at_call 265; refine ahB (BW hw1 h0) ?_; rintro e w2 ⟨rfl,hw2⟩; have hcl:=Ci (i:=l.length / 2) hw2 (by rw [nN]; omega)))
 go_ret
 refine ⟨_,rfl,[_],rfl,hw2.1,.cons ?_ .nil⟩;have e:gj l=(nr l).getD (l.length / 2) 0:=if_neg hl;show Pd (cx G ρ w2) (.int (gj l)) (.int .i64 ((nr l).getD (l.length / 2) 0));rw [e];refine .int (hI _ ((List.mergeSort_perm l (fun a b=>decide (b<=a))).mem_iff.1 (show _ ∈ nr l from ?_)));have hlt:l.length / 2<(nr l).length:=by rw [nN]; omega
 rw [List.getD_eq_getElem?_getD,List.getElem?_eq_getElem hlt];exact adV hlt
end Go.Proofs.YticbaadnibdbkaaGreat
namespace Go.Proofs.YticbaadnibdbkaaGreat
open Go.RowKit
theorem Lh (l:List Int) (h0:l.length<=12):Sat Tryz.prog (al tyT) 228 [.c (.fz .int (l))] [] ⟨[l.length<=12],[.c (.int ((gj l)))],none,false⟩:=GH l h0
noncomputable def Ab:Kn:=aJ (ae (kC (cL .int)) au) aw fun (l,_) _=>⟨[l.length<=12],[.c (.int ((gj l)))],none,false⟩
theorem IY:CK 228 Ab:=ah fun (l,_) _ hp=>Lh l (bW hp)
noncomputable def Us:bD:=(aL 228 Ab Tt)
theorem qV:ay Tryz.prog (al tyT) Us:=(ag IY Mr)
theorem fW {d:Dsk} {s:Stable} {l:List Record} (h:¬ (saveF d s l).2.2=0):(saveF d s l).2.1=s:=by
 revert h;unfold saveF;repeat' split
 all_goals first | (intro _; rfl) | (intro h; exact absurd rfl h)
noncomputable def um:Kn:=aJ (ae (kT (.nm .stable)) (ae (kC (cL .int)) (ae (kC cI) au))) aw fun (s,l,k,_) _=>⟨[l.length<=12],[.c (.int ((pM s l k)))],none,false⟩
theorem FJ:CK 173 um:=ah fun (s,l,k,_) _ hp=>by
 have h0:=bW hp;refine av qV [] Tryz.func173 (?_:(fun q0=>bV s (l.length*8<=140737488355328->I64 k->l.length<=12/\(I64 (gj l)->(k<q0->I64 (cD s.log q0))->(k<q0/\cD s.log q0=s.term->q0=pM s l k)/\(q0<=k\/¬cD s.log q0=s.term->k=pM s l k)))) (min (gj l) (↑s.log.length:Int)));(repeat' with_reducible first|apply bd|refine bf ?_|intro)
 all_goals (first | exact bq | (rw [pM,if_pos ⟨ab,ab⟩]) | (rw [pM,if_neg aK]))
noncomputable def CC:Kn:=aJ (ae (kC (aW 0 0)) (ae (kC (cL (.nm .record))) au)) wN fun (_,l,_) n=>⟨[n.d.OK,n.c.st.log.length<=10000,l.length<=1000],[.c (.int ((n.aN l)))],some ((nq ((n.save l)))),false⟩
theorem Sc:CK 47 CC:=ah fun (_,l,_) n hp=>by
 have h0:=bW hp;have h1:=bW (eH hp);have h2:=bW (eH (eH hp));refine bw qV [] Tryz.func47 (?_:(fun q0=>l.length*48<=140737488355328->((0<=n.d.synced/\n.d.synced<=(↑n.d.b.length:Int)/\n.d.b.length<=65536)/\n.c.st.log.length<=10000/\l.length<=1000)/\bV q0.snd.fst (I64 q0.snd.snd->(¬q0.snd.snd=0->q0.snd.snd=n.aN l/\b_ (Nd.mk n.c q0.fst n.rp n.vs n.bn n.nx n.mt) (n.save l))/\(q0.snd.snd=0->0=n.aN l/\b_ (Nd.mk (NdC.mk n.c.me n.c.many n.c.bin q0.snd.fst n.c.role n.c.commit n.c.applied n.c.s) q0.fst n.rp n.vs n.bn n.nx n.mt) (n.save l)))) (saveF n.d n.c.st l));obtain ⟨o1,o2,o3⟩:=id h0;(repeat' with_reducible first|apply bd|refine bf ?_|intro)
 all_goals (first | exact bq | exact rfl | exact (Eq.symm ab) | exact (congrArg Stable.floor (fW ab)).symm | exact (congrArg Stable.term (fW ab)).symm | exact (congrArg Stable.vote (fW ab)).symm | exact (congrArg Stable.log (fW ab)).symm)
noncomputable def UU:bD:=(aL 47 CC (aL 173 um Us))
theorem mB:ay Tryz.prog (al tyT) UU:=(ag Sc (ag FJ qV))
structure AJ (n q:Nd):Prop where
 eq:n.apply=q.apply
 le:0<=q.c.applied/\q.c.commit<=(q.c.st.log.length:Int)/\(q.rp.length:Int)<=q.c.applied/\q.c.st.log.length<=10000
noncomputable def Nd.ap1 (q:Nd):Nd:={ q with c:={ q.c with s:=plS q.c.bin q.c.s ((q.c.st.log.drop q.c.applied.toNat).take ((q.c.applied+1).toNat - q.c.applied.toNat)),applied:=q.c.applied+1 },rp:=q.rp++plR q.c.bin q.c.s ((q.c.st.log.drop q.c.applied.toNat).take ((q.c.applied+1).toNat - q.c.applied.toNat)) }
section
variable {n q:Nd}
theorem adU (h:(0<=n.c.applied/\n.c.commit<=(n.c.st.log.length:Int))/\(n.rp.length:Int)<=n.c.applied/\n.c.st.log.length<=10000):AJ n n:=⟨rfl,by omega⟩
theorem SI (h:AJ n q):(q.c.applied+1).toNat - q.c.applied.toNat=1:=by have:=h.le; omega
theorem Jl (h:AJ n q):(plR q.c.bin q.c.s ((q.c.st.log.drop q.c.applied.toNat).take ((q.c.applied+1).toNat - q.c.applied.toNat))).length<=1:=by
 rw [SI h,plR,B_,List.length_take,List.length_take]; omega
theorem afg (h:AJ n q) (h1:q.c.applied<q.c.commit) (h2:pE q.c.bin ((q.c.st.log.drop q.c.applied.toNat).take ((q.c.applied+1).toNat - q.c.applied.toNat))=0):AJ n q.ap1:=by
 have hl:=h.le;have hk:=Jl h;refine ⟨?_,?_,hl.2.1,?_,hl.2.2.2⟩
 ·rw [h.eq,Nd.apply,show (q.c.commit - q.c.applied).toNat=(q.c.commit - (q.c.applied+1)).toNat+1 by omega,Nd.iF,if_pos h1];rw [SI h] at h2;rw [if_pos h2,Nd.apply,Nd.ap1,SI h]
 ·show 0<=q.c.applied+1;omega
 show (((q.rp++_).length:Nat):Int)<=q.c.applied+1;grind
theorem afK (h1:q.c.applied<q.c.commit):(q.c.commit - (q.c.applied+1)).toNat<(q.c.commit - q.c.applied).toNat:=by omega
theorem aeV (h:AJ n q) (h1:q.c.applied<q.c.commit) (h2:¬ pE q.c.bin ((q.c.st.log.drop q.c.applied.toNat).take ((q.c.applied+1).toNat - q.c.applied.toNat))=0):n.apply=q:=by
 rw [SI h] at h2;rw [h.eq,Nd.apply,show (q.c.commit - q.c.applied).toNat=(q.c.commit - (q.c.applied+1)).toNat+1 by omega,Nd.iF,if_pos h1,if_neg h2]
theorem adO (h:AJ n q) (h1:q.c.commit<=q.c.applied):n.apply=q:=by
 rw [h.eq,Nd.apply,show (q.c.commit - q.c.applied).toNat=0 by omega,Nd.iF]
theorem adq (h:AJ n q):0<=q.c.applied:=h.le.1
theorem afW (h:AJ n q) (h1:q.c.applied<q.c.commit):q.c.applied+1<=(q.c.st.log.length:Int):=by have:=h.le; omega
theorem af3 (h:AJ n q) (h1:q.c.applied<q.c.commit):I64 (q.c.applied+1):=by have:=h.le; exact bK (by omega) (by omega)
theorem aeH (h:AJ n q) (h1:q.c.applied<q.c.commit):(q.rp.length+(plR q.c.bin q.c.s ((q.c.st.log.drop q.c.applied.toNat).take ((q.c.applied+1).toNat - q.c.applied.toNat))).length)*16<=140737488355328:=by
 have:=h.le; have:=Jl h; omega
end
def siteF (n:Nd):Site:=if n.d.down=true then ⟨false,0,0,0,0,0,0,0,[],⟨0,0,0,0,[],[],[]⟩⟩ else ⟨true,n.c.role,n.c.bin,n.c.st.floor,n.c.st.term,n.c.st.vote,n.c.commit,n.c.applied,n.c.st.log,n.c.s⟩
variable {n:Nd}
theorem Zc (h:n.d.down=true):siteF n=⟨false,0,0,0,0,0,0,0,[],⟨0,0,0,0,[],[],[]⟩⟩:=if_pos h
theorem Wf (h:n.d.down=false):siteF n=⟨true,n.c.role,n.c.bin,n.c.st.floor,n.c.st.term,n.c.st.vote,n.c.commit,n.c.applied,n.c.st.log,n.c.s⟩:=if_neg (by rw [h]; decide)
theorem kR {s:Stable} {r:Route} (h:¬ (gl s r).2=0):(gl s r).1=na:=by
 revert h;unfold gl;grind
section
variable {n:Nd} {k t:Int}
end
def Qy (n:Nd):List (Nat × LI):=[(0,{ σ:=Nd,F:=fun q=>([(0,one (.ptr 0 0))],(nq (q))),J:=fun q=>AJ n q,μ:=fun q=>(q.c.commit - q.c.applied).toNat })]
noncomputable def ua:Kn:=aJ (ae (kC (aW 0 0)) (ae (kC cI) au)) wN fun (_,k,_) n=>⟨[0<=k/\k<(n.nx.length:Int)],[.agg (cellsOf (.nm .letter) ((ln n k).1)),.c (.int (((ln n k).2)))],none,false⟩
theorem Hb:CK 71 ua:=ah fun (_,k,_) n hp=>by
 have h0:=bW hp;refine av mB [] Tryz.func71 (?_:(fun q2=>(fun q1=>(fun q0=>I64 k->(q2<=k/\k<(↑n.nx.length:Int))/\(I64 (n.nx.getD k.toNat (ao Sh.int))->aS q0.fst (I64 q0.snd->(¬q0.snd=q2->q2=q1.kind/\q2=q1.frm/\q2=q1.to/\q2=q1.term/\q2=q1.a/\q2=q1.b/\q2=q1.c/\q2=q1.bin/\false=q1.ok/\q1.l=[]/\q0.snd=(ln n k).snd)/\(q0.snd=q2->aS q0.fst (yX q0.fst q1 (q2=(ln n k).snd)))))) (gl n.c.st (Route.mk n.c.me k (n.nx.getD k.toNat (ao Sh.int)) n.c.commit n.c.bin))) (ln n k).fst) (0:Int));(repeat' with_reducible first|apply bd|refine bf ?_|intro)
 all_goals (first | exact bq | exact rfl | exact (congrArg Letter.kind (kR (by assumption))).symm | exact (congrArg Letter.frm (kR (by assumption))).symm | exact (congrArg Letter.to (kR (by assumption))).symm | exact (congrArg Letter.term (kR (by assumption))).symm | exact (congrArg Letter.a (kR (by assumption))).symm | exact (congrArg Letter.b (kR (by assumption))).symm | exact (congrArg Letter.c (kR (by assumption))).symm | exact (congrArg Letter.bin (kR (by assumption))).symm | exact (congrArg Letter.ok (kR (by assumption))).symm | exact (congrArg Letter.l (kR (by assumption))).symm | exact (Eq.symm (by assumption)) | exact (congrArg Letter.l (kR (by assumption))))
noncomputable def Ed:Kn:=aJ (ae (kC (aW 0 0)) au) wN fun _ n=>⟨[],[.agg (cellsOf (.nm .site) (siteF n))],none,false⟩
theorem SJ:CK 17 Ed:=ah fun _ n _=>by
 refine av mB [] Tryz.func17 (?_:(fun q1=>(fun q0=>(fun q2=>(n.d.down=true->false=q0.up/\q1=q0.role/\q1=q0.binary/\q1=q0.floor/\q1=q0.term/\q1=q0.vote/\q1=q0.commit/\q1=q0.applied/\q0.log=[]/\q1=q2.version/\q1=q2.next/\q1=q2.keep/\q1=q2.quota/\q2.sess=[]/\q2.opens=[]/\q2.snaps=[])/\(n.d.down=false->n.c.st.log.length*32<=140737488355328->I64 n.c.s.version->I64 n.c.s.next->I64 n.c.s.keep->I64 n.c.s.quota->Ys (Site.mk true n.c.role n.c.bin n.c.st.floor n.c.st.term n.c.st.vote n.c.commit n.c.applied n.c.st.log n.c.s) q0)) q0.state) (siteF n)) (0:Int));(repeat' with_reducible first|apply bd|refine bf ?_|intro)
 all_goals (first | exact bq | (rw [Zc (n:=n) ab] <;> rfl) | (rw [Wf (n:=n) ab] <;> rfl))
noncomputable def zk:Kn:=aJ (ae (kC (aW 0 0)) au) wN fun _ n=>⟨[(0<=n.c.applied/\n.c.commit<=(n.c.st.log.length:Int))/\(n.rp.length:Int)<=n.c.applied/\n.c.st.log.length<=10000],[],some ((nq ((n.apply)))),false⟩
theorem JY:CK 99 zk:=ah fun _ n hp=>by
 have h0:=bW hp;refine bw mB (Qy n) Tryz.func99 (?_:(fun q0=>∃ s0,b_ n s0/\AJ n s0/\∀ (s:Nd),(fun q4=>(fun q3=>(fun q2=>(fun q5=>(fun q1=>(fun q6=>AJ n s->(q2<q4.commit->I64 q5/\(0<=q2/\q2<=q5/\q5<=(↑q4.st.log.length:Int))/\(I64 q6.version->I64 q6.next->I64 q6.keep->I64 q6.quota->I64 (pE q3 q1)->(¬pE q3 q1=0->b_ s n.apply)/\(pE q3 q1=0->(s.rp.length+(plR q3 q4.s q1).length)*16<=140737488355328/\I64 q5/\∃ s',b_ (Nd.mk (NdC.mk q4.me q4.many q3 q4.st q4.role q4.commit q5 q6) s.d (s.rp++plR q3 q4.s q1) s.vs s.bn s.nx s.mt) s' /\ AJ n s' /\ (s'.c.commit - s'.c.applied).toNat<(q4.commit - q2).toNat)))/\(q4.commit<=q2->b_ s n.apply)) (plS q3 q4.s q1)) (List.take (q5.toNat - q2.toNat) (List.drop q2.toNat q4.st.log))) (q2+q0)) q4.applied) q4.bin) s.c) (1:Int));obtain ⟨hp0,hp1⟩:=id h0;(repeat' with_reducible first|apply bd|refine bf ?_|intro)
 all_goals try ( refine ⟨n,?_⟩; (repeat' with_reducible first|apply bd|refine bf ?_|intro))
 all_goals try ( refine ⟨(‹Nd›).ap1,?_⟩; (repeat' with_reducible first|apply bd|refine bf ?_|intro))
 all_goals (first | exact bq | exact rfl | exact (adU (n:=n) h0) | exact adq ab | exact (afW ab ab) | exact (af3 ab ab) | exact (aeH ab ab) | exact (afK ab) | exact (afg ab ab ab) | (rw [aeV ab ab ab] <;> rfl) | (rw [adO ab ab] <;> rfl))
noncomputable def Un:bD:=(aL 99 zk (aL 17 Ed (aL 71 ua UU)))
theorem ng:ay Tryz.prog (al tyT) Un:=(ag JY (ag SJ (ag Hb mB)))
section
variable {n:Nd} {l:List Int} {x:Int} {k:Nat}
theorem Wi:∀ {l:List Int},(cq n l).2=0->cq n (l++[x])=if (ln n x).2=0 then ((cq n l).1++[(ln n x).1],0) else ([],(ln n x).2)
 | [],_=>by
  by_cases h:(ln n x).2=0
  ·rw [if_pos h]; simp [cq,h]
  rw [if_neg h]; simp [cq,h]
 | t :: l,h=>by
  unfold cq at h;split at h
  ·rename_i h1;split at h
   ·rename_i h2;rw [List.cons_append,cq,if_pos h1,Wi h2];by_cases h3:(ln n x).2=0
    ·rw [if_pos h3,if_pos h3,if_pos rfl,cq,if_pos h1,if_pos h2]; rfl
    grind
   grind
  grind
theorem abO:∀ {l m:List Int},¬ (cq n l).2=0->cq n (l++m)=([],(cq n l).2)
 | t :: l,m,h=>by
  unfold cq at h ⊢;rw [List.cons_append];dsimp only;split at h
  ·rename_i h1;split at h
   ·grind
   rename_i h2;rw [if_neg h2,abO h2,if_neg h2,if_pos h1]
  grind
theorem MD:∀ {l:List Int},(cq n l).1.length<=l.length
 | []=>ac5 _
 | t :: l=>by
  have:=MD (l:=l);unfold cq;grind
theorem afy (h:n.d.down=true):cG n=([],30):=if_pos h
theorem aga (h:n.d.down=false) (h1:¬ n.c.role=2):cG n=([],33):=by
 rw [cG,if_neg (by rw [h]; decide),if_neg h1]
theorem aaZ (h:n.d.down=false) (h1:n.c.role=2):cG n=cq n (cz n.c):=by
 rw [cG,if_neg (by rw [h]; decide),if_pos h1]
theorem adG (h:n.d.down=false) (h1:n.c.role=2) (hk:(cq n ((cz n.c).take k)).2=0) (hx:(cz n.c)[k]? = some x) (he:¬ (ln n x).2=0):cG n=([],(ln n x).2):=by
 have e:cz n.c=(cz n.c).take k++[x]++(cz n.c).drop (k+1):=by
  rw [<- ai hx,List.take_append_drop]
 have e2:=Wi (x:=x) hk;rw [if_neg he] at e2;rw [aaZ h h1,e,abO (by rw [e2]; exact he),e2]
theorem agQ (h:n.d.down=false) (h1:n.c.role=2) (hk:(cq n ((cz n.c).take k)).2=0) (hl:((cz n.c).length:Int)<=k):cG n=((cq n ((cz n.c).take k)).1,0):=by
 rw [aaZ h h1,List.take_of_length_le (by omega)] at *;grind
theorem aaj (hk:(cq n ((cz n.c).take k)).2=0) (hx:(cz n.c)[k]? = some x) (he:(ln n x).2=0):(cq n ((cz n.c).take k)).1++[(ln n x).1]=(cq n ((cz n.c).take (k+1))).1/\(cq n ((cz n.c).take (k+1))).2=0:=by
 rw [ai hx,Wi hk,if_pos he]; exact ⟨rfl,rfl⟩
theorem agU {y:Letter} (hm:n.c.many<=5):((cq n ((cz n.c).take k)).1.length+[y].length)*96<=140737488355328:=by
 have h1:=MD (n:=n) (l:=(cz n.c).take k);have h2:(cz n.c).length<=n.c.many.toNat:=pV;grind
theorem UF {n:NdC} (hx:(cz n)[k]? = some x):x≠n.me/\0<=x/\x<n.many:=Qr (List.mem_iff_getElem?.2 ⟨k,hx⟩)
theorem af1 (h:n.c.role=0\/(n.nx.length:Int)=n.c.many) (h1:n.c.role=2) (hx:(cz n.c)[k]? = some x):x<(n.nx.length:Int):=by
 have:=UF hx; omega
end
section
variable {n:Nd} {c:Command}
theorem lz {b:Bool} (h:b=false):¬ b=true:=by rw [h]; decide
theorem adH (h:n.d.down=true):callF n c=⟨n,0,0,30⟩:=if_pos h
theorem aed (h:n.d.down=false) (h1:¬ n.c.role=2):callF n c=⟨n,0,0,33⟩:=by rw [callF,if_neg (lz h),if_pos h1]
theorem af8 (h:n.d.down=false) (h1:n.c.role=2) (h2:¬ bC c n.c.s.version=0):callF n c=⟨n,0,0,bC c n.c.s.version⟩:=by rw [callF,if_neg (lz h),if_neg (by omega),if_pos h2]
variable (h:n.d.down=false) (h1:n.c.role=2) (h2:bC c n.c.s.version=0)
include h h1 h2
theorem agK (h3:c.kind=8) (h4:¬ c.n=n.c.s.version+1):callF n c=⟨n,0,0,1⟩:=by rw [callF,if_neg (lz h),if_neg (by omega),if_neg (by omega),if_pos ⟨h3,h4⟩]
theorem adN (h3:¬ c.kind=8\/c.n=n.c.s.version+1) (h4:c.kind=8) (h5:kg n.c.s.version n.bn=false):callF n c=⟨n,0,0,34⟩:=by rw [callF,if_neg (lz h),if_neg (by omega),if_neg (by omega),if_neg (by omega),if_pos ⟨h4,h5⟩]
variable (h3:¬ c.kind=8\/c.n=n.c.s.version+1) (h4:¬ c.kind=8\/kg n.c.s.version n.bn=true)
include h3 h4
theorem RM:callF n c=if 64<(n.c.st.log.length:Int)+1 then ⟨n,0,0,20⟩ else if ¬ (eJ c n.c.st.term n.c.s.version).2=0 then ⟨n,0,0,(eJ c n.c.st.term n.c.s.version).2⟩
 else let l:=[⟨3,(n.c.st.log.length:Int)+1,(eJ c n.c.st.term n.c.s.version).1.term,(eJ c n.c.st.term n.c.s.version).1.b⟩]
  if n.aN l=0 then ⟨n.save l,(n.c.st.log.length:Int)+1,n.c.st.term,0⟩ else ⟨n.save l,0,0,n.aN l⟩:=by
 rw [callF,if_neg (lz h),if_neg (by omega),if_neg (by omega),if_neg (by omega),if_neg];grind
theorem ag5 (h5:64<(n.c.st.log.length:Int)+1):callF n c=⟨n,0,0,20⟩:=by rw [RM h h1 h2 h3 h4,if_pos h5]
variable (h5:(n.c.st.log.length:Int)+1<=64)
include h5
theorem agZ (h6:¬ (eJ c n.c.st.term n.c.s.version).2=0):callF n c=⟨n,0,0,(eJ c n.c.st.term n.c.s.version).2⟩:=by rw [RM h h1 h2 h3 h4,if_neg (by omega),if_pos h6]
theorem ae4 (h6:(eJ c n.c.st.term n.c.s.version).2=0) (h7:¬ n.aN [⟨3,(n.c.st.log.length:Int)+1,(eJ c n.c.st.term n.c.s.version).1.term,(eJ c n.c.st.term n.c.s.version).1.b⟩]=0):callF n c=⟨n.save [⟨3,(n.c.st.log.length:Int)+1,(eJ c n.c.st.term n.c.s.version).1.term,(eJ c n.c.st.term n.c.s.version).1.b⟩],0,0,n.aN [⟨3,(n.c.st.log.length:Int)+1,(eJ c n.c.st.term n.c.s.version).1.term,(eJ c n.c.st.term n.c.s.version).1.b⟩]⟩:=by rw [RM h h1 h2 h3 h4,if_neg (by omega),if_neg (by omega)]; exact if_neg h7
theorem ael (h6:(eJ c n.c.st.term n.c.s.version).2=0) (h7:n.aN [⟨3,(n.c.st.log.length:Int)+1,(eJ c n.c.st.term n.c.s.version).1.term,(eJ c n.c.st.term n.c.s.version).1.b⟩]=0):callF n c=⟨n.save [⟨3,(n.c.st.log.length:Int)+1,(eJ c n.c.st.term n.c.s.version).1.term,(eJ c n.c.st.term n.c.s.version).1.b⟩],(n.c.st.log.length:Int)+1,n.c.st.term,0⟩:=by rw [RM h h1 h2 h3 h4,if_neg (by omega),if_neg (by omega)]; exact if_pos h7
end
section
variable {n:Nd} {x:Letter}
theorem ae_ (h:¬ (bc n.c.st x).2.2=0):df n x=⟨n,[],(bc n.c.st x).2.2⟩:=if_pos h
theorem aft (h:(bc n.c.st x).2.2=0) (h1:¬ n.aN (bc n.c.st x).1=0):df n x=⟨n.save (bc n.c.st x).1,[],n.aN (bc n.c.st x).1⟩:=by rw [df,if_neg (by omega),if_pos h1]
theorem ad6 (h:(bc n.c.st x).2.2=0) (h1:n.aN (bc n.c.st x).1=0):df n x=⟨n.save (bc n.c.st x).1,[{ pU (n.save (bc n.c.st x).1).c 2 x.frm with ok:=(bc n.c.st x).2.1 }],0⟩:=by rw [df,if_neg (by omega),if_neg (by omega)]
theorem Qe {s:Stable}:(bc s x).1.length<=1000:=by
 have h:=ld (s:=s) (t:=x.term);unfold bc;grind
end
def Xg (n:Nd):List (Nat × LI):=[(7,{ σ:=Nat,F:=fun k=>([(0,one (.ptr 0 0)),(4,one (.own 8)),(21,one (.fz .int (cz n.c))),(22,one (.int (cz n.c).length)),(23,one (.int k))],(nq (n)++[.row 40 (.nm .letter) (((cq n ((cz n.c).take k)).1))])),J:=fun k=>k<=(cz n.c).length/\(cq n ((cz n.c).take k)).2=0,μ:=fun k=>(cz n.c).length - k })]
noncomputable def DX:Kn:=aJ (ae (kC (aW 0 0)) au) wN fun _ n=>⟨[n.c.many<=5,n.c.role=0\/(n.nx.length:Int)=n.c.many],[.c (.fz (.nm .letter) (((cG n).1))),.c (.int (((cG n).2)))],none,false⟩
theorem SH:CK 31 DX:=ah fun _ n hp=>by
 have h0:=bW hp;have h1:=bW (eH hp);refine av ng (Xg n) Tryz.func31 (?_:(fun (q2:Prop)=>(fun (q1:Int)=>(fun (q0:List Int)=>(fun (q3:Nat)=>(n.d.down=true->q2/\30=(cG n).snd)/\(n.d.down=false->(¬n.c.role=2->q2/\33=(cG n).snd)/\(n.c.role=2->n.c.many<=5/\(q0.length*8<=140737488355328->∃ (s0:Nat),(q0=q0/\(↑q0.length:Int)=(↑q3:Int)/\q1=(↑s0:Int)/\tH n n ((cq n (List.take s0 q0)).fst=[]))/\(s0<=q3/\(cq n (List.take s0 q0)).snd=q1)/\∀ (s:Nat),(fun (q4:List Letter)=>s<=q3/\(cq n (List.take s q0)).snd=q1->((↑s:Int)<(↑q3:Int)->q1<=(↑s:Int)/\(↑s:Int)<(↑q0.length:Int)/\∀ (x:Int),(fun (q5:Int)=>q0[s]? = some x->I64 x->(q1<=x/\x<(↑n.nx.length:Int))/\aS (ln n x).fst (I64 q5->(¬q5=q1->q2/\q5=(cG n).snd)/\(q5=q1->(q4.length+[(ln n x).fst].length)*96<=140737488355328/\I64 ((↑s:Int)+1)/\∃ (s':Nat),(q0=q0/\(↑q3:Int)=(↑q3:Int)/\(↑s:Int)+1=(↑s':Int)/\tH n n (q4++[(ln n x).fst]=(cq n (List.take s' q0)).fst))/\(s' <= q3/\(cq n (List.take s' q0)).snd=q1)/\q3 - s' < q3 - s))) (ln n x).snd)/\((↑q3:Int)<=(↑s:Int)->q4=(cG n).fst/\q1=(cG n).snd)) (cq n (List.take s q0)).fst)))) q0.length) (cz n.c)) 0) ((cG n).fst=[]));iterate 3 ((all_goals (repeat' with_reducible first|apply bd|refine bf ?_|intro)); (all_goals try (first | exact bq | exact rfl | exact (aaj ab ab ab).1 | exact (aaj ab ab ab).2 | exact (agU h0) | exact (UF ab).2.1 | exact (af1 h1 ab ab) | (rw [afy (n:=n) ab] <;> rfl) | (rw [aga (n:=n) ab ab] <;> rfl) | (rw [adG (n:=n) ab ab ab ab ab] <;> rfl) | (rw [agQ (n:=n) ab ab ab ab] <;> rfl))); all_goals try first | refine ⟨‹Nat› + 1,?_⟩ | refine ⟨0,?_⟩)
noncomputable def DE:Kn:=aJ (ae (kC (aW 0 0)) (ae (kT (.nm .command)) au)) wN fun (_,c,_) n=>⟨[NdOK n],[.c (.int (((callF n c).a))),.c (.int (((callF n c).b))),.c (.int (((callF n c).e)))],some ((nq ((callF n c).n))),false⟩
theorem PY:CK 15 DE:=ah fun (_,c,_) n hp=>by
 have h0:=bW hp;refine bw ng [] Tryz.func15 (?_:(fun q6=>(fun q5=>(fun q7=>(fun q4=>(fun q3=>(fun q2=>(fun q1=>(fun q10=>(fun q9=>(fun q8=>(fun q0=>bI c ((n.d.down=true->q8/\q9/\30=q1.e/\q10)/\(n.d.down=false->(¬n.c.role=2->q8/\q9/\33=q1.e/\q10)/\(n.c.role=2->I64 (bC c q5)->(¬bC c q5=q3->q8/\q9/\bC c q5=q1.e/\q10)/\(bC c q5=q3->(q6->I64 q7)/\(q6/\¬c.n=q7->q8/\q9/\1=q1.e/\q10)/\(¬q6\/c.n=q7->(q6/\kg q5 n.bn=false->q8/\q9/\34=q1.e/\q10)/\(¬q6\/kg q5 n.bn=true->I64 q4/\(64<q4->q8/\q9/\20=q1.e/\q10)/\(q4<=64->I64 q2.fst.term->q2.fst.b.length*1<=140737488355328->I64 q2.snd->(¬q2.snd=q3->q8/\q9/\q2.snd=q1.e/\q10)/\(q2.snd=q3->(q3<=n.d.synced/\n.d.synced<=(↑n.d.b.length:Int)/\n.d.b.length<=65536)/\n.c.st.log.length<=10000/\q0.length<=1000/\(I64 (n.aN q0)->(¬n.aN q0=q3->q8/\q9/\n.aN q0=q1.e/\b_ (n.save q0) q1.n)/\(n.aN q0=q3->q4=q1.a/\n.c.st.term=q1.b/\q3=q1.e/\b_ (n.save q0) q1.n))))))))))) [Record.mk 3 q4 q2.fst.term q2.fst.b]) (q3=q1.a)) (q3=q1.b)) (b_ n q1.n)) (callF n c)) (eJ c n.c.st.term q5)) (0:Int)) ((↑n.c.st.log.length:Int)+1)) (q5+1)) n.c.s.version) (c.kind=8));obtain ⟨o1,o2,o3⟩:=id h0.d;have o4:=h0.log;(repeat' with_reducible first|apply bd|refine bf ?_|intro)
 all_goals (first | exact bq | (simp only [List.length_cons,List.length_nil]; omega) | (have q2:=(SA (by with_reducible assumption:bC c n.c.s.version=0)).1; exact bK aK aK) | (rw [adH (n:=n) ab] <;> rfl) | (rw [aed (n:=n) ab ab] <;> rfl) | (rw [af8 (n:=n) ab ab ab] <;> rfl) | (rw [agK (n:=n) ab ab ab ab ab] <;> rfl) | (rw [adN (n:=n) ab ab ab ab ab ab] <;> rfl) | (rw [ag5 (n:=n) ab ab ab ab ab ab] <;> rfl) | (rw [agZ (n:=n) ab ab ab ab ab ab ab] <;> rfl) | (rw [ae4 (n:=n) ab ab ab ab ab ab ab ab] <;> rfl) | (rw [ael (n:=n) ab ab ab ab ab ab ab ab] <;> rfl))
noncomputable def Aq:Kn:=aJ (ae (kC (aW 0 0)) (ae (kT (.nm .letter)) au)) wN fun (_,x,_) n=>⟨[NdOK n],[.c (.fz (.nm .letter) (((df n x).l))),.c (.int (((df n x).e)))],some ((nq ((df n x).n))),false⟩
theorem NA:CK 56 Aq:=ah fun (_,x,_) n hp=>by
 have h0:=bW hp;refine bw ng [] Tryz.func56 (?_:(fun q3=>(fun q2=>(fun q1=>(fun q4=>(fun q0=>aS x (q1.fst.length*48<=140737488355328->I64 q1.snd.snd->(¬q1.snd.snd=q3->q2.l=[]/\q1.snd.snd=q2.e/\b_ n q2.n)/\(q1.snd.snd=q3->(q3<=n.d.synced/\n.d.synced<=(↑n.d.b.length:Int)/\n.d.b.length<=65536)/\n.c.st.log.length<=10000/\q1.fst.length<=1000/\(I64 q4->(¬q4=q3->q2.l=[]/\q4=q2.e/\b_ (n.save q1.fst) q2.n)/\(q4=q3->aS q0 ([Letter.mk q0.kind q0.frm q0.to q0.term q0.a q0.b q0.c q0.bin q1.snd.fst q0.l]=q2.l/\q3=q2.e/\b_ (n.save q1.fst) q2.n)))))) (pU (n.save q1.fst).c 2 x.frm)) (n.aN q1.fst)) (bc n.c.st x)) (df n x)) (0:Int));obtain ⟨o1,o2,o3⟩:=id h0.d;have o4:=h0.log;(repeat' with_reducible first|apply bd|refine bf ?_|intro)
 all_goals (first | exact bq | exact Qe | (rw [ae_ (n:=n) ab] <;> rfl) | (rw [aft (n:=n) ab ab] <;> rfl) | (rw [ad6 (n:=n) ab ab] <;> rfl))
noncomputable def Vo:bD:=(aL 56 Aq (aL 15 DE (aL 31 DX Un)))
theorem qR:ay Tryz.prog (al tyT) Vo:=(ag NA (ag PY (ag SH ng)))
section
variable {n:Nd} {k:Nat} {y:Int}
theorem Fy {s:Stable} {m:Int}:(aU s m).1.length<=1000:=by
 unfold aU;grind
theorem aei (h:n.d.down=true):timeoutF n=⟨n,[],30⟩:=if_pos h
variable (h:n.d.down=false)
include h
theorem aeS (h1:n.c.role=2):timeoutF n=⟨n,[],0⟩:=by rw [timeoutF,if_neg (lz h),if_pos h1]
variable (h1:¬ n.c.role=2)
include h1
theorem aeG (h2:¬ (aU n.c.st n.c.me).2=0):timeoutF n=⟨n,[],(aU n.c.st n.c.me).2⟩:=by rw [timeoutF,if_neg (lz h),if_neg h1,if_pos h2]
variable (h2:(aU n.c.st n.c.me).2=0)
include h2
theorem af5 (h3:¬ n.aN (aU n.c.st n.c.me).1=0):timeoutF n=⟨n.save (aU n.c.st n.c.me).1,[],n.aN (aU n.c.st n.c.me).1⟩:=by rw [timeoutF,if_neg (lz h),if_neg h1,if_neg (by omega),if_pos h3]
variable (h3:n.aN (aU n.c.st n.c.me).1=0)
include h3
theorem acH:timeoutF n=⟨(n.save (aU n.c.st n.c.me).1).dX,gm (n.save (aU n.c.st n.c.me).1).dX.c,0⟩:=by rw [timeoutF,if_neg (lz h),if_neg h1,if_neg (by omega),if_neg (by omega)]
theorem afI (hl:((cz (n.save (aU n.c.st n.c.me).1).dX.c).length:Int)<=k):(gm (n.save (aU n.c.st n.c.me).1).dX.c).take k=(timeoutF n).l:=by
 rw [acH h h1 h2 h3];exact List.take_of_length_le (by unfold gm; rw [List.length_map]; omega)
end
section
variable {c:NdC} {k:Nat} {y:Int} {z:Letter}
theorem agV (hm:c.many<=5):(((gm c).take k).length+[z].length)*96<=140737488355328:=by
 have h2:(cz c).length<=c.many.toNat:=pV;rw [List.length_take,gm,List.length_map];grind
theorem afB (hk:(k:Int)<((cz c).length:Nat)) (hm:c.many<=5):I64 ((k:Int)+1):=by
 have h2:(cz c).length<=c.many.toNat:=pV;exact bK aK aK
theorem afH (hx:(cz c)[k]? = some y):(gm c).take k++[Letter.mk (pU c 1 y).kind (pU c 1 y).frm (pU c 1 y).to (pU c 1 y).term c.st.log.length (gY c.st.log) (pU c 1 y).c (pU c 1 y).bin (pU c 1 y).ok (pU c 1 y).l]=(gm c).take (k+1):=by
 have:(gm c)[k]? = some { pU c 1 y with a:=c.st.log.length,b:=gY c.st.log }:=by
  unfold gm; rw [List.getElem?_map,hx]; rfl
 rw [ai this]
end
section
variable {n:Nd} {x:Letter}
theorem ahb (h:¬ (aA n.c.st x).2.2.2=0):bZ n x=⟨n,[],(aA n.c.st x).2.2.2⟩:=if_pos h
variable (h:(aA n.c.st x).2.2.2=0)
include h
theorem afp (h1:¬ n.aN (aA n.c.st x).1=0):bZ n x=⟨n.save (aA n.c.st x).1,[],n.aN (aA n.c.st x).1⟩:=by rw [bZ,if_neg (by omega),if_pos h1]
variable (h1:n.aN (aA n.c.st x).1=0)
include h1
theorem adI (h2:x.term=(n.save (aA n.c.st x).1).c.st.term) (h3:(aA n.c.st x).2.1=true):bZ n x=⟨({ (n.save (aA n.c.st x).1) with c:={ (n.save (aA n.c.st x).1).c with role:=0,commit:=max (n.save (aA n.c.st x).1).c.commit (min x.c (aA n.c.st x).2.2.1) } }:Nd).apply,[{ pU { (n.save (aA n.c.st x).1).c with role:=0 } 4 x.frm with ok:=(aA n.c.st x).2.1,a:=(aA n.c.st x).2.2.1 }],0⟩:=by
 rw [bZ,if_neg (by omega),if_neg (by omega),h3];dsimp only;rw [if_pos h2]; rfl
theorem agN (h2:¬ x.term=(n.save (aA n.c.st x).1).c.st.term) (h3:(aA n.c.st x).2.1=true):bZ n x=⟨({ (n.save (aA n.c.st x).1) with c:={ (n.save (aA n.c.st x).1).c with commit:=max (n.save (aA n.c.st x).1).c.commit (min x.c (aA n.c.st x).2.2.1) } }:Nd).apply,[{ pU (n.save (aA n.c.st x).1).c 4 x.frm with ok:=(aA n.c.st x).2.1,a:=(aA n.c.st x).2.2.1 }],0⟩:=by
 rw [bZ,if_neg (by omega),if_neg (by omega),h3];grind
theorem adF (h2:x.term=(n.save (aA n.c.st x).1).c.st.term) (h3:(aA n.c.st x).2.1=false):bZ n x=⟨(n.save (aA n.c.st x).1).follow,[{ pU { (n.save (aA n.c.st x).1).c with role:=0 } 4 x.frm with ok:=(aA n.c.st x).2.1,a:=min 64 ((n.save (aA n.c.st x).1).c.st.log.length:Int) }],0⟩:=by
 rw [bZ,if_neg (by omega),if_neg (by omega),h3];dsimp only;rw [if_pos h2,if_neg (by decide)];split
 ·rfl
 rename_i q; exact absurd h2 q
theorem ae1 (h2:¬ x.term=(n.save (aA n.c.st x).1).c.st.term) (h3:(aA n.c.st x).2.1=false):bZ n x=⟨n.save (aA n.c.st x).1,[{ pU (n.save (aA n.c.st x).1).c 4 x.frm with ok:=(aA n.c.st x).2.1 }],0⟩:=by
 rw [bZ,if_neg (by omega),if_neg (by omega),h3];dsimp only;split
 ·grind
 rfl
end
variable {x:Letter}
theorem Hf {s:Stable}:(aA s x).1.length<=1000:=by
 by_cases h:(aA s x).2.2.2=0
 ·obtain ⟨⟨hm,_⟩,hc⟩:=sa h;rcases hc with ⟨_,e⟩ | ⟨_,_,e⟩ | ⟨_,_,e⟩ <;> rw [e]
  ·simp
  ·have:=Fu (s:=s) hm; dsimp only; omega
  have:=ld (s:=s) (t:=x.term); dsimp only; omega
 have e:aA s x=([],false,0,1):=by
  unfold aA at h ⊢;grind
 rw [e]; simp
def Hg (n:Nd):List (Nat × LI):=[(17,{ σ:=Nat,F:=fun k=>([(0,one (.ptr 0 0)),(7,one (.int (n.save (aU n.c.st n.c.me).1).c.st.log.length)),(8,one (.int (gY (n.save (aU n.c.st n.c.me).1).c.st.log))),(9,one (.own 12)),(113,one (.fz .int (cz (n.save (aU n.c.st n.c.me).1).dX.c))),(114,one (.int (cz (n.save (aU n.c.st n.c.me).1).dX.c).length)),(115,one (.int k))],[.box 103 (XS 0 (((n.save (aU n.c.st n.c.me).1).dX.c))++[.own 3,.own 8,.own 9,.own 10,.own 11]),.box 147 ([.own 2,.int (((n.save (aU n.c.st n.c.me).1).dX.d.synced)),.bool (.atom (((n.save (aU n.c.st n.c.me).1).dX.d.down))),.bool (.atom (((n.save (aU n.c.st n.c.me).1).dX.d.doomed))),.int (((n.save (aU n.c.st n.c.me).1).dX.d.keep))]),.row 5 .u8 (((n.save (aU n.c.st n.c.me).1).dX.d.b)),.row 78 (.nm .reply) ((n.rp)),.row 4 .bool ((n.vs)),.row 3 .int ((n.bn)),.row 3 .int ((n.nx)),.row 3 .int ((n.mt)),.row 4 .bool (((n.save (aU n.c.st n.c.me).1).dX.vs)),.row 3 .int (((n.save (aU n.c.st n.c.me).1).dX.bn)),.row 3 .int (((n.save (aU n.c.st n.c.me).1).dX.nx)),.row 3 .int (((n.save (aU n.c.st n.c.me).1).dX.mt)),.row 40 (.nm .letter) (((gm (n.save (aU n.c.st n.c.me).1).dX.c).take k))]),J:=fun k=>k<=(cz (n.save (aU n.c.st n.c.me).1).dX.c).length,μ:=fun k=>(cz (n.save (aU n.c.st n.c.me).1).dX.c).length - k })]
noncomputable def sx:Kn:=aJ (ae (kC (aW 0 0)) au) wN fun _ n=>⟨[NdOK n],[.c (.fz (.nm .letter) (((timeoutF n).l))),.c (.int (((timeoutF n).e)))],some ((nq ((timeoutF n).n))),false⟩
theorem Cr:CK 14 sx:=ah fun _ n hp=>by
 have h0:=bW hp;refine bw qR (Hg n) Tryz.func14 (?_:(fun (q4:Int)=>(fun (q3:NdR)=>(fun (q2:Int)=>(fun (q1:List Record × Int)=>(fun (q5:Int)=>(fun (q0:Nd)=>(fun (q9:NdC)=>(fun (q10:Int)=>(fun (q8:List Entry)=>(fun (q12:Int)=>(fun (q11:Int)=>(fun (q7:Int)=>(fun (q15:List (den Sh.int))=>(fun (q14:List Int)=>(fun (q13:Prop)=>(fun (q6:Nd)=>(fun (q17:Dsk)=>(fun (q16:NdC)=>(fun (q18:Nat)=>(n.d.down=true->q3.l=[]/\(30:Int)=q3.e/\b_ n q3.n)/\(n.d.down=false->(n.c.role=(2:Int)->q3.l=[]/\q4=q3.e/\b_ n q3.n)/\(¬n.c.role=(2:Int)->n.c.st.term<=(1048576:Int)/\(q1.fst.length*(48:Nat)<=(140737488355328:Nat)->I64 q1.snd->(¬q1.snd=q4->q3.l=[]/\q1.snd=q3.e/\b_ n q3.n)/\(q1.snd=q4->(q4<=n.d.synced/\n.d.synced<=(↑n.d.b.length:Int)/\n.d.b.length<=(65536:Nat))/\n.c.st.log.length<=(10000:Nat)/\q1.fst.length<=(1000:Nat)/\(I64 q5->(¬q5=q4->q3.l=[]/\q5=q3.e/\b_ q0 q3.n)/\(q5=q4->(q4<=q7/\q7*(↑(1:Nat):Int)<=(140737488355328:Int)/\q7=q7)/\q13/\q13/\q13/\q4<=q10/\q10<(↑(List.replicate q7.toNat (ao Sh.bool)).length:Int)/\q4<=q10/\q10<(↑q15.length:Int)/\(I64 (q15.getD q10.toNat (ao Sh.int))->I64 (↑q8.length:Int)->I64 q12->q7<=(5:Int)/\(q14.length*(8:Nat)<=(140737488355328:Nat)->∃ (s0:Nat),((↑q8.length:Int)=q11/\q12=q12/\q14=cz q16/\(↑q14.length:Int)=(↑q18:Int)/\q4=(↑s0:Int)/\q10=q16.me/\q7=q16.many/\q9.bin=q16.bin/\aE q9.st q16.st (q2=q16.role/\q9.commit=q16.commit/\q9.applied=q16.applied/\bN q9.s q16.s (q0.d.synced=q17.synced/\q0.d.down=q17.down/\q0.d.doomed=q17.doomed/\q0.d.keep=q17.keep/\q0.d.b=q17.b/\q0.rp=n.rp/\q0.vs=n.vs/\q0.bn=n.bn/\q0.nx=n.nx/\q0.mt=n.mt/\(List.replicate q7.toNat (ao Sh.bool)).set q10.toNat true=q6.vs/\q15.set q10.toNat q9.bin=q6.bn/\q15=q6.nx/\q15=q6.mt/\List.take s0 (gm q16)=[])))/\s0<=q18/\∀ (s:Nat),s<=q18->((↑s:Int)<(↑q18:Int)->q4<=(↑s:Int)/\(↑s:Int)<(↑(cz q16).length:Int)/\∀ (x:Int),(fun (q19:Letter)=>(fun (q20:Letter)=>(cz q16)[s]? = some x->I64 x->aS q19 (((List.take s (gm q16)).length+[q20].length)*(96:Nat)<=(140737488355328:Nat)/\I64 ((↑s:Int)+q2)/\∃ (s':Nat),(q11=q11/\q12=q12/\cz q16=cz q16/\(↑q18:Int)=(↑q18:Int)/\(↑s:Int)+q2=(↑s':Int)/\q16.me=q16.me/\q16.many=q16.many/\q16.bin=q16.bin/\aE q16.st q16.st (q16.role=q16.role/\q16.commit=q16.commit/\q16.applied=q16.applied/\bN q16.s q16.s (q17.synced=q17.synced/\q17.down=q17.down/\q17.doomed=q17.doomed/\q17.keep=q17.keep/\q17.b=q17.b/\n.rp=n.rp/\n.vs=n.vs/\n.bn=n.bn/\n.nx=n.nx/\n.mt=n.mt/\q6.vs=q6.vs/\q6.bn=q6.bn/\q6.nx=q6.nx/\q6.mt=q6.mt/\List.take s (gm q16)++[q20]=List.take s' (gm q16))))/\s' <= q18/\q18 - s' < q18 - s)) (Letter.mk q19.kind q19.frm q19.to q19.term q11 q12 q19.c q19.bin q19.ok q19.l)) (pU q16 q2 x))/\((↑q18:Int)<=(↑s:Int)->List.take s (gm q16)=q3.l/\q4=q3.e/\b_ (Nd.mk q16 q17 n.rp q6.vs q6.bn q6.nx q6.mt) q3.n)))))))))) (cz q16).length) q6.c) q6.d) q0.dX) (q4<=q7/\q7*(↑(8:Nat):Int)<=(140737488355328:Int)/\q7=q7)) (cz (NdC.mk q10 q7 q9.bin q9.st q2 q9.commit q9.applied q9.s))) (List.replicate q7.toNat (ao Sh.int))) q9.many) (↑q8.length:Int)) (gY q8)) q9.st.log) q9.me) q0.c) (n.save q1.fst)) (n.aN q1.fst)) (aU n.c.st n.c.me)) (1:Int)) (timeoutF n)) (0:Int))
 obtain ⟨o1,o2,o3⟩:=id h0.d;have o4:=h0.log;have o5:=h0.many;have o6:=h0.me;have o7:=h0.com;have o8:=h0.term;have o9:=h0.rp;iterate 3 ((all_goals (repeat' with_reducible first|apply bd|refine bf ?_|intro)); (all_goals try (first | exact bq | exact rfl | exact Fy | exact (afI ab ab ab ab ab) | exact (afH ab) | exact (agV o5.2) | exact (afB (c:=(n.save (aU n.c.st n.c.me).1).dX.c) ab o5.2) | (dsimp only [Nd.save]; omega) | (rw [ahh]; dsimp only [Nd.save]; omega) | (rw [aei (n:=n) ab] <;> rfl) | (rw [aeS (n:=n) ab ab] <;> rfl) | (rw [aeG (n:=n) ab ab ab] <;> rfl) | (rw [af5 (n:=n) ab ab ab ab] <;> rfl) | (rw [acH (n:=n) ab ab ab ab] <;> rfl))); all_goals try first | refine ⟨‹Nat› + 1,?_⟩ | refine ⟨0,?_⟩)
noncomputable def tN:Kn:=aJ (ae (kC (aW 0 0)) (ae (kT (.nm .letter)) au)) wN fun (_,x,_) n=>⟨[NdOK n,db n.c x=true,x.kind=3],[.c (.fz (.nm .letter) (((bZ n x).l))),.c (.int (((bZ n x).e)))],some ((nq ((bZ n x).n))),false⟩
theorem GW:CK 57 tN:=ah fun (_,x,_) n hp=>by
 have h0:=bW hp;have h1:=bW (eH hp);have h2:=bW (eH (eH hp));refine bw qR [] Tryz.func57 (?_:(fun q6=>(fun q5=>(fun q4=>(fun q3=>(fun q7=>(fun q2=>(fun q9=>(fun q8=>(fun q1=>(fun q0=>(fun q15=>(fun q18=>(fun q17=>(fun q16=>(fun q14=>(fun q13=>(fun q12=>(fun q19=>(fun q11=>(fun q10=>aS x (q6.length*48<=140737488355328->I64 q2.snd.fst->I64 q2.snd.snd->(¬q2.snd.snd=q3->q4.l=[]/\q2.snd.snd=q4.e/\b_ n q4.n)/\(q2.snd.snd=q3->(q3<=n.d.synced/\n.d.synced<=(↑n.d.b.length:Int)/\n.d.b.length<=65536)/\n.c.st.log.length<=10000/\q6.length<=1000/\(I64 (n.aN q6)->(¬n.aN q6=q3->q4.l=[]/\n.aN q6=q4.e/\b_ q0 q4.n)/\(n.aN q6=q3->(q14->aS q10 ((q9=true->q13/\[Letter.mk q10.kind q10.frm q10.to q10.term q2.snd.fst q10.b q10.c q10.bin q9 q10.l]=q4.l/\q7/\b_ (Nd.mk (NdC.mk q15.me q15.many q15.bin q15.st q3 q18 q17 q15.s) q0.d q0.rp q0.vs q0.bn q0.nx q0.mt).apply q4.n)/\(q9=false->(q14->[Letter.mk q10.kind q10.frm q10.to q10.term q16 q10.b q10.c q10.bin q9 q10.l]=q4.l/\q19)/\(¬q14->[Letter.mk q10.kind q10.frm q10.to q10.term q10.a q10.b q10.c q10.bin q9 q10.l]=q4.l/\q19))))/\(¬q14->aS q11 ((q9=true->q13/\[Letter.mk q11.kind q11.frm q11.to q11.term q2.snd.fst q11.b q11.c q11.bin q9 q11.l]=q4.l/\q7/\b_ (Nd.mk (NdC.mk q15.me q15.many q15.bin q15.st q15.role q18 q17 q15.s) q0.d q0.rp q0.vs q0.bn q0.nx q0.mt).apply q4.n)/\(q9=false->(q14->[Letter.mk q11.kind q11.frm q11.to q11.term q16 q11.b q11.c q11.bin q9 q11.l]=q4.l/\q7/\b_ q0 q4.n)/\(¬q14->[Letter.mk q11.kind q11.frm q11.to q11.term q11.a q11.b q11.c q11.bin q9 q11.l]=q4.l/\q7/\b_ q0 q4.n))))))))) (pU q12 q1 q5)) (pU q15 q1 q5)) (q7/\b_ (Nd.mk q12 q0.d q0.rp q0.vs q0.bn q0.nx q0.mt) q4.n)) (NdC.mk q15.me q15.many q15.bin q15.st q3 q15.commit q17 q15.s)) ((q3<=q17/\q18<=(↑q15.st.log.length:Int))/\(↑q0.rp.length:Int)<=q17/\q15.st.log.length<=10000)) (x.term=q15.st.term)) (min 64 (↑q15.st.log.length:Int))) q15.applied) (max q15.commit q8)) q0.c) (n.save q6)) (4:Int)) (min x.c q2.snd.fst)) q2.fst) (aA n.c.st x).snd) (q3=q4.e)) (0:Int)) (bZ n x)) x.frm) (aA n.c.st x).fst);obtain ⟨o1,o2,o3⟩:=id h0.d;have o4:=h0.log;(repeat' with_reducible first|apply bd|refine bf ?_|intro)
 all_goals (first | exact bq | exact Hf | exact (Ey h0 h1 h2 ab ab).1.1 | exact (Ey h0 h1 h2 ab ab).1.2 | exact (Ey h0 h1 h2 ab ab).2.1 | exact (Ey h0 h1 h2 ab ab).2.2 | (rw [ahb (n:=n) ab] <;> rfl) | (rw [afp (n:=n) ab ab] <;> rfl) | (rw [adI (n:=n) ab ab ab ab] <;> rfl) | (rw [agN (n:=n) ab ab ab ab] <;> rfl) | (rw [adF (n:=n) ab ab ab ab] <;> rfl) | (rw [ae1 (n:=n) ab ab ab ab] <;> rfl))
noncomputable def UM:bD:=(aL 57 tN (aL 14 sx Vo))
theorem rQ:ay Tryz.prog (al tyT) UM:=(ag GW (ag Cr qR))
theorem Sat.afU {P:Program} {shp:TypeId->Option Sh} {f:Nat} {args rs:List TV1} {H1 H2:AH} {pre:List Prop} (hc:gu H1 [0,1,2] [0,1,2]=true) (ho:nQ (posOf · [0,1,2]) (kF H1 [0,1,2])=H2) (hrs:∀ (c c':Cx) (ρ ρ':List RE) us,All2 (cO c ρ) rs us->All2 (cO c' ρ') rs us) (h:Sat P shp f args (nq n) ⟨pre,rs,some H1,false⟩):Sat P shp f args (nq n) ⟨pre,rs,some H2,false⟩:=by
 refine ⟨h.1,fun G ρ w vs hg hR hv=>(h.2 G ρ w vs hg hR hv).mono ?_⟩;rintro v w' ⟨us,e1,ρ',k1,k2,k3,k4,k5⟩;obtain ⟨m1,m2⟩:=k1.sub (σ:=[0,1,2]) (Z':=G.Z) rfl hc k1.z (fun _ h _=>h) (fun b hl=>by
  obtain ⟨i,r,h1,h2⟩:=ga hl;exact (k1.bnd i r b h1 h2).2.2)
 rw [ho] at m1;refine ⟨us,e1,cR ρ' [0,1,2],m1,⟨k2.os,k2.tape,k2.output,k2.size,fun b hb hl=>⟨fun h=>(k2.old b hb hl).1 (ga h),(k2.old b hb hl).2⟩⟩,fun i g h=>?_,hrs _ _ _ _ _ k4,fun h=>by cases h⟩;have hi:∀ (j:Nat) (t:TypeId) (s:Sh) (xs:List (den s)),(nq n)[j]? = some (.row t s xs)->i≠j:=fun j t s xs hj e=>by
  subst e;obtain ⟨r,hr,h1⟩:=hR.at_ hj;rw [h] at hr; cases hr;obtain ⟨_,_,h1 | ⟨_,_,_,_,h1,_⟩⟩:=h1
  ·grind
  cases h1
 have hlt:i<8:=by
  have h1:=(aam.1 h).1;have h2:(nq n).length=8:=rfl;have h3:=hR.obj.length;omega
 have h3:=hi 3 _ _ _ rfl;have h4:=hi 4 _ _ _ rfl;have h5:=hi 5 _ _ _ rfl;have h6:=hi 6 _ _ _ rfl;have h7:=hi 7 _ _ _ rfl;have hk:=k3 i g h;have:i=0\/i=1\/i=2:=by omega
 rcases this with rfl | rfl | rfl
 ·exact (nb (j:=0) (i:=0) rfl).trans (congrArg some (getD_some hk))
 ·exact (nb (j:=1) (i:=1) rfl).trans (congrArg some (getD_some hk))
 exact (nb (j:=2) (i:=2) rfl).trans (congrArg some (getD_some hk))
theorem Vz {e:Int} (c c':Cx) (ρ ρ':List RE) (us:List Value) (h:All2 (cO c ρ) [.c (.int e)] us):All2 (cO c' ρ') [.c (.int e)] us:=by
 cases h with | cons h1 h2=>?_
 cases h2;cases h1 with | int hi=>exact .cons (show Pd c' (.int e) _ from .int hi) .nil
def newN (me many:Int):Nd:=⟨⟨me,many,0,sta0,0,0,0,⟨0,0,0,0,[],[],[]⟩⟩,⟨[],0,true,false,0⟩,[],[],[],[],[]⟩
theorem PS:(Dsk.mk [] 0 false false 0).dk 0=⟨[],0,true,false,0⟩:=by decide
noncomputable def CU:Kn:=aJ (ae (kC cI) (ae (kC cI) au)) aw fun (me,many,_) _=>⟨[3<=many/\many<=5/\0<=me/\me<many],[.c (.ptr 0 0),.c (.int ((0)))],some ([.box 103 (XS 0 (((newN me many).c))++[.em true,.em true,.em true,.em true,.em true]),.box 147 ([.own 2,.int (((newN me many).d.synced)),.bool (.atom (((newN me many).d.down))),.bool (.atom (((newN me many).d.doomed))),.int (((newN me many).d.keep))]),.row 5 .u8 (((newN me many).d.b))]),true⟩
theorem Dv:CK 12 CU:=ah fun (me,many,_) _ hp=>by
 have h0:=bW hp;refine dr rQ [] Tryz.func12 (?_:(fun (q1:Int)=>(fun (q2:Dsk)=>(fun (q0:Nd)=>(fun (q3:NdC)=>I64 me->I64 many->(((many<(3:Int)\/(5:Int)<many)\/me<q1)\/many<=me->False/\(1:Int)=q1/\False/\False/\q0.d.b=[])/\((((3:Int)<=many/\many<=(5:Int))/\q1<=me)/\me<many->(q1<=q1/\q1<=(↑(0:Nat):Int)/\(0:Nat)<=(65536:Nat))/\q1=q1/\me=q3.me/\many=q3.many/\q1=q3.bin/\q1=q3.st.floor/\q1=q3.st.term/\q1=q3.st.vote/\q3.st.log=[]/\q1=q3.role/\q1=q3.commit/\q1=q3.applied/\q1=q3.s.version/\q1=q3.s.next/\q1=q3.s.keep/\q1=q3.s.quota/\q3.s.sess=[]/\q3.s.opens=[]/\q3.s.snaps=[]/\q2.synced=q0.d.synced/\q2.down=q0.d.down/\q2.doomed=q0.d.doomed/\q2.keep=q0.d.keep/\q2.b=q0.d.b)) q0.c) (newN me many)) ((Dsk.mk [] q1 false false q1).dk q1)) (0:Int));(repeat' with_reducible first|apply bd|refine bf ?_|intro)
 all_goals (first | exact bq | exact rfl | (rw [PS] <;> rfl) | (exfalso; omega))
theorem SP (me:Int) (many:Int) (h0:3<=many/\many<=5/\0<=me/\me<many):Sat Tryz.prog (al tyT) 12 [.c (.int (me)),.c (.int (many))] [] ⟨[3<=many/\many<=5/\0<=me/\me<many],[.c (.ptr 0 0),.c (.int ((0)))],some ([.box 103 (XS 0 (((newN me many).c))++[.em true,.em true,.em true,.em true,.em true]),.box 147 ([.own 2,.int (((newN me many).d.synced)),.bool (.atom (((newN me many).d.down))),.bool (.atom (((newN me many).d.doomed))),.int (((newN me many).d.keep))]),.row 5 .u8 (((newN me many).d.b))]),true⟩:=Dv _ _ _ rfl (by intro p hp; simp only [ac4,ahf,or_false] at hp; subst hp; exact h0)
theorem XE (me:Int) (many:Int) (h0:3<=many/\many<=5/\0<=me/\me<many):Sat Tryz.prog (al tyT) 12 [.c (.int (me)),.c (.int (many))] [] ⟨[3<=many/\many<=5/\0<=me/\me<many],[.c (.ptr 0 0),.c (.int ((0)))],some ((nq ((newN me many)))),true⟩:=Sat.Mq 0 22 3 .int cd rfl rfl (Sat.Mq 0 21 3 .int cd rfl rfl (Sat.Mq 0 20 3 .int cd rfl rfl (Sat.Mq 0 19 4 .bool cd rfl rfl (Sat.Mq 0 18 78 (.nm .reply) cd rfl rfl (SP me many h0) rfl) rfl) rfl) rfl) rfl
noncomputable def HR:Kn:=aJ (ae (kC cI) (ae (kC cI) au)) aw fun (me,many,_) _=>⟨[3<=many/\many<=5/\0<=me/\me<many],[.c (.ptr 0 0),.c (.int ((0)))],some ((nq ((newN me many)))),true⟩
theorem VF:CK 12 HR:=ah fun (me,many,_) _ hp=>XE me many (bW hp)
noncomputable def xY:Kn:=aJ (ae (kC (aW 0 0)) (ae (kC (cL (.nm .record))) au)) (aB (dx 103 (lNd 0 (ax (YC true) (ax (YC true) (ax (YC true) (ax (YC true) (ax (YC true) du))))))) (aB (dx 147 (ax (eN 2) (ax cI (ax cB (ax cB (ax cI du)))))) (aB (eS 5 .u8) aw))) fun (_,l,_) ((nd,_,_,_,_,_,_),(_,sy,dn,dm,kp,_),bs,_)=>⟨[(Dsk.mk bs sy dn dm kp).OK,nd.st.log.length<=10000,l.length<=1000],[.c (.int (((Nd.mk nd ⟨bs,sy,dn,dm,kp⟩ [] [] [] [] []).aN l)))],some ([.box 103 (XS 0 ((((Nd.mk nd ⟨bs,sy,dn,dm,kp⟩ [] [] [] [] []).save l).c))++[.em true,.em true,.em true,.em true,.em true]),.box 147 ([.own 2,.int ((((Nd.mk nd ⟨bs,sy,dn,dm,kp⟩ [] [] [] [] []).save l).d.synced)),.bool (.atom ((((Nd.mk nd ⟨bs,sy,dn,dm,kp⟩ [] [] [] [] []).save l).d.down))),.bool (.atom ((((Nd.mk nd ⟨bs,sy,dn,dm,kp⟩ [] [] [] [] []).save l).d.doomed))),.int ((((Nd.mk nd ⟨bs,sy,dn,dm,kp⟩ [] [] [] [] []).save l).d.keep))]),.row 5 .u8 ((((Nd.mk nd ⟨bs,sy,dn,dm,kp⟩ [] [] [] [] []).save l).d.b))]),false⟩
theorem LX:CK 47 xY:=ah fun (_,l,_) ((nd,_,_,_,_,_,_),(_,sy,dn,dm,kp,_),bs,_) hp=>by
 have h0:=bW hp;have h1:=bW (eH hp);have h2:=bW (eH (eH hp));refine bw rQ [] Tryz.func47 (?_:(fun q2=>(fun q1=>(fun q3=>(fun q0=>(fun q4=>l.length*48<=140737488355328->((0<=sy/\sy<=(↑bs.length:Int)/\bs.length<=65536)/\nd.st.log.length<=10000/\l.length<=1000)/\bV q1.snd.fst (I64 q1.snd.snd->(¬q1.snd.snd=0->q1.snd.snd=q2.aN l/\nd.me=q0.c.me/\nd.many=q0.c.many/\nd.bin=q0.c.bin/\aE nd.st q0.c.st q4)/\(q1.snd.snd=0->0=q2.aN l/\nd.me=q0.c.me/\nd.many=q0.c.many/\nd.bin=q0.c.bin/\aE q1.snd.fst q0.c.st q4))) (nd.role=q0.c.role/\nd.commit=q0.c.commit/\nd.applied=q0.c.applied/\bN nd.s q0.c.s (q3.synced=q0.d.synced/\q3.down=q0.d.down/\q3.doomed=q0.d.doomed/\q3.keep=q0.d.keep/\q3.b=q0.d.b))) (q2.save l)) q1.fst) (saveF (Dsk.mk bs sy dn dm kp) nd.st l)) (Nd.mk nd (Dsk.mk bs sy dn dm kp) [] [] [] [] []));obtain ⟨o1,o2,o3⟩:=id h0;(repeat' with_reducible first|apply bd|refine bf ?_|intro)
 all_goals (first | exact bq | exact rfl | exact (Eq.symm ab) | exact (congrArg Stable.floor (fW ab)).symm | exact (congrArg Stable.term (fW ab)).symm | exact (congrArg Stable.vote (fW ab)).symm | exact (congrArg Stable.log (fW ab)).symm)
noncomputable def TS:bD:=(aL 47 xY (aL 12 HR (aL 12 CU UM)))
theorem sm:ay Tryz.prog (al tyT) TS:=(ag LX (ag VF (ag Dv rQ)))
theorem ag_ {m:Nd} (e1:m.rp=[]) (e2:m.vs=[]) (e3:m.bn=[]) (e4:m.nx=[]) (e5:m.mt=[]):nq m=nq ⟨m.c,m.d,[],[],[],[],[]⟩:=by
 cases m;grind
theorem aef {p:Prop} {x:Bool} (h:x=true) (h2:x=false):p:=by rw [h] at h2; cases h2
theorem aao {b:List UInt8}:(replayF b).1.log.length<=10000:=by have:=lZ b; omega
theorem abo {r:Record}:[r].length<=1000:=by simp
section
variable {n:Nd} {b:Int}
theorem Wk (h0:NdOK n) (h:n.d.down=true):((if n.d.down=true then n.d.up else n.d).cut (replayF n.d.b).2).OK:=(xg h h0.d).1
theorem Yh (h0:NdOK n):(if n.d.down=true then n.d.up else n.d).OK:=by
 split
 ·exact UK h0.d
 exact h0.d
theorem aaK {p:Prop} (h0:NdOK n) (h:n.d.down=true) (he:¬ (if n.d.down=true then n.d.up else n.d).kQ (replayF n.d.b).2=0):p:=absurd (xg h h0.d).2.1 he
theorem acO {p:Prop} (h:n.d.down=true) (he:¬ (if n.d.down=true then (0:Int) else 31)=0):p:=absurd (if_pos h) he
theorem Zf (h0:NdOK n) (h:n.d.down=true):((n.fr b).save [⟨1,b,0,[]⟩]).d.OK:=qn (xg h h0.d).1
theorem ac0 {p:Prop} (h:n.d.down=false\/¬ bS b (max (replayF n.d.b).1.floor 1)=0) (h1:n.d.down=true) (h2:bS b (max (replayF n.d.b).1.floor 1)=0):p:=by grind
end
noncomputable def uo:Kn:=aJ (ae (kC (aW 0 0)) (ae (kC cI) au)) wN fun (_,b,_) n=>⟨[NdOK n,n.d.down=true,bS b (max (replayF n.d.b).1.floor 1)=0],[.c (.int (((startF n b).e)))],some ([.box 103 (XS 0 (((startF n b).n.c))++[.em true,.em true,.em true,.em true,.em true]),.box 147 ([.own 2,.int (((startF n b).n.d.synced)),.bool (.atom (((startF n b).n.d.down))),.bool (.atom (((startF n b).n.d.doomed))),.int (((startF n b).n.d.keep))]),.row 5 .u8 (((startF n b).n.d.b)),.row 78 (.nm .reply) ((n.rp)),.row 4 .bool ((n.vs)),.row 3 .int ((n.bn)),.row 3 .int ((n.nx)),.row 3 .int ((n.mt))]),false⟩
theorem tZ:CK 13 uo:=ah fun (_,b,_) n hp=>by
 have h0:=bW hp;have h1:=bW (eH hp);have h2:=bW (eH (eH hp));refine bw sm [] Tryz.func13 (?_:(fun (q10:Bool)=>(fun (q9:NdC)=>(fun (q8:Int)=>(fun (q7:Int)=>(fun (q6:Int)=>(fun (q12:Int)=>(fun (q11:List (den (Sh.nm NT.record)))=>(fun (q5:Stable × Int)=>(fun (q14:Int)=>(fun (q13:Int)=>(fun (q4:NdC)=>(fun (q3:Prop)=>(fun (q2:Nd)=>(fun (q17:Dsk)=>(fun (q19:Bool)=>(fun (q18:Int)=>(fun (q16:NdC)=>(fun (q25:Prop)=>(fun (q24:Prop)=>(fun (q23:Prop)=>(fun (q22:Prop)=>(fun (q21:Prop)=>(fun (q20:Prop)=>(fun (q15:Prop)=>(fun (q1:Dsk)=>(fun (q28:Dsk)=>(fun (q27:Nd)=>(fun (q29:Int)=>(fun (q26:Prop)=>(fun (q0:Nd)=>(fun (q31:NdC)=>(fun (q30:Dsk)=>I64 b->(q10=false->(31:Int)=q8/\q15)/\(q10=true->(q6<=n.d.synced/\n.d.synced<=(↑n.d.b.length:Int)/\n.d.b.length<=(65536:Nat))/\n.d.b.length<=(1000000:Nat)/\bV q5.fst (I64 q13->I64 q14->(¬q14=q6->q14=q8/\q15)/\(q14=q6->I64 q12->(¬q12=q6->q12=q8/\q22/\q20/\q25/\aE q9.st q16.st (q24/\q23/\q21/\bN q9.s q16.s (False/\False/\False/\False/\False/\q1.synced=q18/\q1.down=q17.down/\q1.doomed=q19/\q1.keep=q17.keep/\q1.b=q17.b/\q3)))/\(q12=q6->(q6<=q1.synced/\q1.synced<=(↑q1.b.length:Int)/\q1.b.length<=(65536:Nat))/\(I64 (q1.kQ q13)->(¬q1.kQ q13=q6->q1.kQ q13=q8/\q22/\q20/\q25/\aE q9.st q16.st (q24/\q23/\q21/\bN q9.s q16.s (False/\False/\False/\False/\False/\q26)))/\(q1.kQ q13=q6->I64 q7->I64 q7->I64 q6->I64 q6->(0:Nat)*(32:Nat)<=(140737488355328:Nat)->(0:Nat)*(16:Nat)<=(140737488355328:Nat)->(0:Nat)*(64:Nat)<=(140737488355328:Nat)->(q5.fst.floor<b->(q6<=q28.synced/\q28.synced<=(↑q28.b.length:Int)/\q28.b.length<=(65536:Nat))/\q5.fst.log.length<=(10000:Nat)/\q11.length<=(1000:Nat)/\(I64 q29->(¬q29=q6->(q6<=q0.d.synced/\q0.d.synced<=(↑q0.d.b.length:Int)/\q0.d.b.length<=(65536:Nat))/\q29=q8/\q31.me=q16.me/\q31.many=q16.many/\q31.bin=q16.bin/\aE q31.st q16.st (q31.role=q16.role/\q31.commit=q16.commit/\q31.applied=q16.applied/\bN q31.s q16.s (q30.synced=q18/\q30.down=q17.down/\q30.doomed=q19/\q30.keep=q17.keep/\q30.b=q17.b/\q3)))/\(q29=q6->q6=q8/\q31.me=q16.me/\q31.many=q16.many/\q31.bin=q16.bin/\aE q31.st q16.st (q31.role=q16.role/\q31.commit=q16.commit/\q31.applied=q16.applied/\bN q31.s q16.s (q0.d.synced=q18/\q0.d.down=q17.down/\q0.d.doomed=q19/\q0.d.keep=q17.keep/\q0.d.b=q17.b/\q3)))))/\(b<=q5.fst.floor->q6=q8/\q22/\q20/\b=q16.bin/\aE q5.fst q16.st (q6=q16.role/\q6=q16.commit/\q6=q16.applied/\bN (State.mk q7 q7 q6 q6 [] [] []) q16.s q26))))))))) (q0.d.dk q6)) q0.c) (q27.save q11)) (q28.synced=q18/\q28.down=q17.down/\q28.doomed=q19/\q28.keep=q17.keep/\q28.b=q17.b/\q3)) (q27.aN q11)) (Nd.mk q4 q28 [] [] [] [] [])) (q1.cut q13)) (if q10=true then n.d.up else n.d)) (q22/\q20/\q25/\aE q9.st q16.st (q24/\q23/\q21/\bN q9.s q16.s (False/\False/\False/\False/\False/\n.d.synced=q18/\q10=q17.down/\n.d.doomed=q19/\n.d.keep=q17.keep/\n.d.b=q17.b/\q3)))) (q9.many=q16.many)) (q9.applied=q16.applied)) (q9.me=q16.me)) (q9.commit=q16.commit)) (q9.role=q16.role)) (q9.bin=q16.bin)) q2.c) q17.synced) q17.doomed) q2.d) (startF n b).n) (n.rp=n.rp/\n.vs=n.vs/\n.bn=n.bn/\n.nx=n.nx/\n.mt=n.mt)) (NdC.mk q9.me q9.many b q5.fst q6 q6 q6 (State.mk q7 q7 q6 q6 [] [] []))) q5.snd) (bS b (max q5.fst.floor q7))) (replayF n.d.b)) [Record.mk q7 b q6 []]) (if q10=true then q6 else (31:Int))) (0:Int)) (1:Int)) (startF n b).e) n.c) n.d.down)
 obtain ⟨o1,o2,o3⟩:=id h0.d;have o4:=h0.log;(repeat' with_reducible first|apply bd|refine bf ?_|intro)
 all_goals (first | exact bq | exact (aef h1 ab) | exact (absurd h2 ab) | exact (aaK h0 h1 ab) | exact (acO h1 ab) | exact aao | exact abo | exact (Wk h0 h1).1 | exact (Wk h0 h1).2.1 | exact (Wk h0 h1).2.2 | exact (Yh h0).1 | exact (Yh h0).2.1 | exact (Yh h0).2.2 | exact (Zf h0 h1).1 | exact (Zf h0 h1).2.1 | exact (Zf h0 h1).2.2 | (rw [VH (n:=n) (b:=b) h1 h2 ab ab] <;> rfl) | (rw [WV (n:=n) (b:=b) h1 h2 ab ab] <;> rfl) | (rw [Yu (n:=n) (b:=b) h1 h2 ab] <;> rfl))
theorem GO (b:Int) (n:Nd) (h0:NdOK n) (h1:n.d.down=true) (h2:bS b (max (replayF n.d.b).1.floor 1)=0):Sat Tryz.prog (al tyT) 13 [.c (.ptr 0 0),.c (.int (b))] (nq n) ⟨[NdOK n,n.d.down=true,bS b (max (replayF n.d.b).1.floor 1)=0],[.c (.int (((startF n b).e)))],some ([.box 103 (XS 0 (((startF n b).n.c))++[.em true,.em true,.em true,.em true,.em true]),.box 147 ([.own 2,.int (((startF n b).n.d.synced)),.bool (.atom (((startF n b).n.d.down))),.bool (.atom (((startF n b).n.d.doomed))),.int (((startF n b).n.d.keep))]),.row 5 .u8 (((startF n b).n.d.b)),.row 78 (.nm .reply) ((n.rp)),.row 4 .bool ((n.vs)),.row 3 .int ((n.bn)),.row 3 .int ((n.nx)),.row 3 .int ((n.mt))]),false⟩:=tZ _ _ _ rfl (by intro p hp; simp only [ac4,ahf,or_false] at hp; rcases hp with rfl | rfl | rfl <;> assumption)
noncomputable def ub:Kn:=aJ (ae (kC (aW 0 0)) (ae (kC cI) au)) wN fun (_,b,_) n=>⟨[NdOK n,n.d.down=false\/¬ bS b (max (replayF n.d.b).1.floor 1)=0],[.c (.int (((startF n b).e)))],some ((nq ((startF n b).n))),false⟩
theorem vx:CK 13 ub:=ah fun (_,b,_) n hp=>by
 have h0:=bW hp;have h1:=bW (eH hp);refine bw sm [] Tryz.func13 (?_:(fun (q8:Bool)=>(fun (q7:Int)=>(fun (q6:Int)=>(fun (q5:Int)=>(fun (q10:Int)=>(fun (q9:List (den (Sh.nm NT.record)))=>(fun (q4:Stable × Int)=>(fun (q12:Int)=>(fun (q11:Int)=>(fun (q3:Dsk)=>(fun (q13:Dsk)=>(fun (q2:Nd)=>(fun (q16:Dsk)=>(fun (q15:NdC)=>(fun (q14:Prop)=>(fun (q1:Nd)=>(fun (q0:Nd)=>(fun (q18:NdC)=>(fun (q17:Dsk)=>I64 b->(q8=false->(31:Int)=q7/\b_ n q2)/\(q8=true->(q5<=n.d.synced/\n.d.synced<=(↑n.d.b.length:Int)/\n.d.b.length<=(65536:Nat))/\n.d.b.length<=(1000000:Nat)/\bV q4.fst (I64 q12->I64 q11->(¬q11=q5->q11=q7/\b_ n q2)/\(q11=q5->I64 q10->(¬q10=q5->q10=q7/\b_ (Nd.mk n.c q3 n.rp n.vs n.bn n.nx n.mt) q2)/\(q10=q5->(q5<=q3.synced/\q3.synced<=(↑q3.b.length:Int)/\q3.b.length<=(65536:Nat))/\(I64 (q3.kQ q12)->(¬q3.kQ q12=q5->q3.kQ q12=q7/\b_ (Nd.mk n.c q13 n.rp n.vs n.bn n.nx n.mt) q2)/\(q3.kQ q12=q5->I64 q6->I64 q6->I64 q5->I64 q5->(0:Nat)*(32:Nat)<=(140737488355328:Nat)->(0:Nat)*(16:Nat)<=(140737488355328:Nat)->(0:Nat)*(64:Nat)<=(140737488355328:Nat)->(q4.fst.floor<b->(q5<=q13.synced/\q13.synced<=(↑q13.b.length:Int)/\q13.b.length<=(65536:Nat))/\q4.fst.log.length<=(10000:Nat)/\q9.length<=(1000:Nat)/\(I64 (q1.aN q9)->(¬q1.aN q9=q5->(q5<=q0.d.synced/\q0.d.synced<=(↑q0.d.b.length:Int)/\q0.d.b.length<=(65536:Nat))/\q1.aN q9=q7/\q18.me=q15.me/\q18.many=q15.many/\q18.bin=q15.bin/\aE q18.st q15.st (q18.role=q15.role/\q18.commit=q15.commit/\q18.applied=q15.applied/\bN q18.s q15.s (False/\False/\False/\False/\False/\q17.synced=q16.synced/\q17.down=q16.down/\q17.doomed=q16.doomed/\q17.keep=q16.keep/\q17.b=q16.b/\q14)))/\(q1.aN q9=q5->q5=q7/\q18.me=q15.me/\q18.many=q15.many/\q18.bin=q15.bin/\aE q18.st q15.st (q18.role=q15.role/\q18.commit=q15.commit/\q18.applied=q15.applied/\bN q18.s q15.s (False/\False/\False/\False/\False/\q0.d.synced=q16.synced/\q0.d.down=q16.down/\q0.d.doomed=q16.doomed/\q0.d.keep=q16.keep/\q0.d.b=q16.b/\q14)))))/\(b<=q4.fst.floor->q5=q7/\n.c.me=q15.me/\n.c.many=q15.many/\b=q15.bin/\aE q4.fst q15.st (q5=q15.role/\q5=q15.commit/\q5=q15.applied/\bN (State.mk q6 q6 q5 q5 [] [] []) q15.s (False/\False/\False/\False/\False/\q13.synced=q16.synced/\q13.down=q16.down/\q13.doomed=q16.doomed/\q13.keep=q16.keep/\q13.b=q16.b/\q14)))))))))) (q0.d.dk q5)) q0.c) (q1.save q9)) (Nd.mk (NdC.mk n.c.me n.c.many b q4.fst q5 q5 q5 (State.mk q6 q6 q5 q5 [] [] [])) q13 [] [] [] [] [])) (n.rp=q2.rp/\n.vs=q2.vs/\n.bn=q2.bn/\n.nx=q2.nx/\n.mt=q2.mt)) q2.c) q2.d) (startF n b).n) (q3.cut q12)) (if q8=true then n.d.up else n.d)) (bS b (max q4.fst.floor q6))) q4.snd) (replayF n.d.b)) [Record.mk q6 b q5 []]) (if q8=true then q5 else (31:Int))) (0:Int)) (1:Int)) (startF n b).e) n.d.down);obtain ⟨o1,o2,o3⟩:=id h0.d;have o4:=h0.log;(repeat' with_reducible first|apply bd|refine bf ?_|intro)
 all_goals (first | exact bq | exact (ac0 h1 ab ab) | (rw [ZQ (n:=n) (b:=b) ab] <;> rfl) | (rw [abb (n:=n) (b:=b) ab ab] <;> rfl))
theorem uj (b:Int) (n:Nd) (h0:NdOK n) (h1:n.d.down=false\/¬ bS b (max (replayF n.d.b).1.floor 1)=0):Sat Tryz.prog (al tyT) 13 [.c (.ptr 0 0),.c (.int (b))] (nq n) ⟨[NdOK n,n.d.down=false\/¬ bS b (max (replayF n.d.b).1.floor 1)=0],[.c (.int (((startF n b).e)))],some ((nq ((startF n b).n))),false⟩:=vx _ _ _ rfl (by intro p hp; simp only [ac4,ahf,or_false] at hp; rcases hp with rfl | rfl <;> assumption)
theorem Jt (b:Int) (n:Nd) (h0:NdOK n):Sat Tryz.prog (al tyT) 13 [.c (.ptr 0 0),.c (.int (b))] (nq n) ⟨[NdOK n],[.c (.int (((startF n b).e)))],some ((nq ((startF n b).n))),false⟩:=by
 by_cases hd:n.d.down=true
 ·by_cases hs:bS b (max (replayF n.d.b).1.floor 1)=0
  ·have h:=Sat.Mq 0 22 3 .int cd rfl rfl (Sat.Mq 0 21 3 .int cd rfl rfl (Sat.Mq 0 20 3 .int cd rfl rfl (Sat.Mq 0 19 4 .bool cd rfl rfl (Sat.Mq 0 18 78 (.nm .reply) cd rfl rfl (Sat.afU cd rfl Vz (GO b n h0 hd hs)) rfl) rfl) rfl) rfl) rfl;obtain ⟨e1,e2,e3,e4,e5⟩:=ad7 hd hs;rw [ag_ e1 e2 e3 e4 e5];exact ⟨h.1,h.2⟩
  have h:=uj b n h0 (.inr hs);exact ⟨h.1,h.2⟩
 have h:=uj b n h0 (.inl (by simpa using hd));exact ⟨h.1,h.2⟩
noncomputable def zF:Kn:=aJ (ae (kC (aW 0 0)) (ae (kC cI) au)) wN fun (_,b,_) n=>⟨[NdOK n],[.c (.int (((startF n b).e)))],some ((nq ((startF n b).n))),false⟩
theorem Ke:CK 13 zF:=ah fun (_,b,_) n hp=>Jt b n (bW hp)
noncomputable def Uo:bD:=(aL 13 zF (aL 13 ub (aL 13 uo TS)))
theorem yD:ay Tryz.prog (al tyT) Uo:=(ag Ke (ag vx (ag tZ sm)))
def adr (n:Nd):AH:=.box 25 [.ptr 1 0] :: ndO 1 n
def WY:PH Nd:=PH.Yr (aB (dx 25 (ax (aW 1 0) du)) (abd 1 aw)) (·.2.1) (fun n=>(((),()),n,()))
def f_ (n:Nd) (r:Record):Bool:=decide (r.kind=4) && decide (r.a<=n.c.commit)
def Jr (n:Nd) (l:List Record):Int:=if l.any (f_ n)=true then (l.findIdx (f_ n):Int) else -1
section
variable {n:Nd} {l:List Record} {k:Nat} {r:Record}
theorem ae3 (h:(l.take k).any (f_ n)=false) (hr:l[k]? = some r) (h2:f_ n r=false):(l.take (k+1)).any (f_ n)=false:=by
 rw [ai hr,List.any_append,h]; simp [h2]
theorem aeU (h:(l.take k).any (f_ n)=false) (hr:l[k]? = some r) (h2:f_ n r=true):(k:Int)=Jr n l:=by
 have hk:=aam.1 hr;have h1:l.any (f_ n)=true:=List.any_eq_true.2 ⟨r,ada hr,h2⟩;rw [Jr,if_pos h1];have e:l.findIdx (f_ n)=k:=by
  rw [List.findIdx_eq hk.1];refine ⟨by rw [hk.2]; exact h2,fun j hj=>?_⟩;have:=List.any_eq_false.1 h (l[j]'(by have:=hk.1; omega)) (List.mem_iff_getElem?.2 ⟨j,by rw [List.getElem?_take_of_lt hj,List.getElem?_eq_getElem]⟩);simpa using this
 rw [e]
theorem aew (h:(l.take k).any (f_ n)=false) (hk:(l.length:Int)<=k):-1=Jr n l:=by
 rw [List.take_of_length_le (by omega)] at h;rw [Jr,if_neg (by rw [h]; decide)]
theorem aeh:decide (0<=Jr n l)=l.any (f_ n):=by
 unfold Jr;cases h:l.any (f_ n) <;> simp
end
noncomputable def Dp:Kn:=aJ (ae (kT (.nm .record)) (ae (kC (aW 0 0)) au)) WY fun (r,_,_) n=>⟨[],[.c (.bool (.atom ((f_ n r))))],none,false⟩
theorem QV:CK 97 Dp:=ah fun (r,_,_) n _=>by
 refine av yD [] Tryz.func97 (?_:dK r ((r.kind=4->decide (r.a<=n.c.commit)=f_ n r)/\(¬r.kind=4->false=f_ n r)));(repeat' with_reducible first|apply bd|refine bf ?_|intro)
 all_goals (first | exact bq | (simp only [f_]; simp_all; done) | exact rfl)
noncomputable def Vl:bD:=(aL 97 Dp Uo)
theorem Ah:ay Tryz.prog (al tyT) Vl:=(ag QV yD)
def adL (l:List Record) (n:Nd):List (Nat × LI):=[(2,{ σ:=Nat,F:=fun k=>([(0,one (.fz (.nm .record) (l))),(1,one (.fn 97 [] [(0,0)])),(7,one (.int (l).length)),(8,one (.int k))],(adr (n))),J:=fun k=>k<=l.length/\(l.take k).any (f_ n)=false,μ:=fun k=>(l).length - k })]
noncomputable def TH:Kn:=aJ (ae (kC (cL (.nm .record))) (ae (kC (qf 97 [] [(0,0)])) au)) WY fun (l,_,_) n=>⟨[],[.c (.int ((Jr n l)))],none,false⟩
theorem ZZ:CK 168 TH:=ah fun (l,_,_) n _=>by
 refine av Ah (adL l n) Tryz.func168 (?_:(fun (q0:Nat)=>l.length*48<=140737488355328->∃ (s0:Nat),(l=l/\(↑l.length:Int)=(↑q0:Int)/\0=(↑s0:Int)/\b_ n n)/\(s0<=q0/\(List.take s0 l).any (f_ n)=false)/\∀ (s:Nat),s<=q0/\(List.take s l).any (f_ n)=false->((↑s:Int)<(↑q0:Int)->0<=(↑s:Int)/\(↑s:Int)<(↑l.length:Int)/\∀ (x:Record),l[s]? = some x->dK x ((f_ n x=true->(↑s:Int)=Jr n l)/\(f_ n x=false->I64 ((↑s:Int)+1)/\∃ (s':Nat),(l=l/\(↑q0:Int)=(↑q0:Int)/\(↑s:Int)+1=(↑s':Int)/\b_ n n)/\(s' <= q0/\(List.take s' l).any (f_ n)=false)/\q0 - s' < q0 - s)))/\((↑q0:Int)<=(↑s:Int) -> -1=Jr n l)) l.length);iterate 3 ((all_goals (repeat' with_reducible first|apply bd|refine bf ?_|intro)); (all_goals try (first | exact bq | exact rfl | exact (ae3 ab ab ab) | exact (aeU ab ab ab) | exact (aew ab ab))); all_goals try first | refine ⟨‹Nat› + 1,?_⟩ | refine ⟨0,?_⟩)
noncomputable def Va:bD:=(aL 168 TH Vl)
theorem yO:ay Tryz.prog (al tyT) Va:=(ag ZZ Ah)
noncomputable def UA:Kn:=aJ (ae (kC (cL (.nm .record))) (ae (kC (qf 97 [] [(0,0)])) au)) WY fun (l,_,_) n=>⟨[],[.c (.bool (.atom ((l.any (f_ n)))))],none,false⟩
theorem acw:CK 96 UA:=ah fun (l,_,_) n _=>by
 refine av yO [] Tryz.func96 (?_:l.length*48<=140737488355328->I64 (Jr n l)->decide (0<=Jr n l)=l.any (f_ n));(repeat' with_reducible first|apply bd|refine bf ?_|intro)
 all_goals (first | exact bq | exact aeh)
noncomputable def Tx:bD:=(aL 96 UA Va)
theorem zG:ay Tryz.prog (al tyT) Tx:=(ag acw yO)
variable {n:NdC}
theorem acR (h:(¬ mayL x=0\/¬ x.to=n.me)\/n.many<=x.frm):db n x=false:=if_pos h
theorem ab1 (h:mayL x=0) (h1:x.to=n.me) (h2:x.frm<n.many) (h3:¬ x.kind=3):db n x=true:=by rw [db,if_neg (by omega),if_pos h3]
theorem aap (h:mayL x=0) (h1:x.to=n.me) (h2:x.frm<n.many) (h3:x.kind=3) (h4:¬ (aA n.st x).2.2.2=0):db n x=false:=by rw [db,if_neg (by omega),if_neg (by omega),if_pos h4]
variable {n:Nd}
theorem aan (h:mayL x=0) (h1:x.to=n.c.me) (h2:x.frm<n.c.many) (h3:x.kind=3) (h4:(aA n.c.st x).2.2.2=0):(!(aA n.c.st x).1.any (f_ n))=db n.c x:=by rw [db,if_neg (by omega),if_neg (by omega),if_neg (by omega)]; rfl
noncomputable def IP:Kn:=aJ (ae (kC (aW 0 0)) (ae (kT (.nm .letter)) au)) wN fun (_,x,_) n=>⟨[],[.c (.bool (.atom ((db n.c x))))],none,false⟩
theorem WR:CK 55 IP:=ah fun (_,x,_) n _=>by
 refine av zG [] Tryz.func55 (?_:(fun q0=>aS x (I64 (mayL x)->((¬mayL x=0\/¬x.to=n.c.me)\/n.c.many<=x.frm->false=db n.c x)/\((mayL x=0/\x.to=n.c.me)/\x.frm<n.c.many->(¬x.kind=3->true=db n.c x)/\(x.kind=3->(aA n.c.st x).fst.length*48<=140737488355328->I64 q0.fst->I64 q0.snd->(¬q0.snd=0->false=db n.c x)/\(q0.snd=0->(!(aA n.c.st x).fst.any (f_ n))=db n.c x))))) (aA n.c.st x).snd.snd);(repeat' with_reducible first|apply bd|refine bf ?_|intro)
 all_goals (first | exact bq | exact (aan ab ab ab ab ab) | exact (acR ab).symm | exact (ab1 ab ab ab ab).symm | exact (aap ab ab ab ab ab).symm)
noncomputable def Vd:bD:=(aL 55 IP Tx)
theorem s_:ay Tryz.prog (al tyT) Vd:=(ag WR zG)
theorem aah:∀ {k:Nat} {n:Nd},(n.iF k).nx=n.nx/\(n.iF k).d=n.d/\(n.iF k).c.me=n.c.me/\(n.iF k).c.st=n.c.st
 | 0,_=>⟨rfl,rfl,rfl,rfl⟩
 | k+1,n=>by
  unfold Nd.iF;split
  ·split
   ·exact aah
   grind
  grind
theorem UD:n.apply.nx=n.nx:=aah.1
theorem WN {s:Stable} {l:List Int} {k:Int} (h:k<=(s.log.length:Int)):pM s l k<=(s.log.length:Int):=by
 unfold pM;grind
noncomputable abbrev MF (n:Nd) (x:Letter):Nd:=⟨⟨n.c.me,n.c.many,n.c.bin,n.c.st,n.c.role,pM n.c.st ((n.mt.set x.frm.toNat (max (n.mt.getD x.frm.toNat (ao Sh.int)) (min x.a (n.c.st.log.length:Int)))).set n.c.me.toNat (n.c.st.log.length:Int)) n.c.commit,n.c.applied,n.c.s⟩,n.d,n.rp,n.vs,n.bn,n.nx.set x.frm.toNat (min (lI (n.nx.getD x.frm.toNat (ao Sh.int)) x) ((n.c.st.log.length:Int)+1)),n.mt.set x.frm.toNat (max (n.mt.getD x.frm.toNat (ao Sh.int)) (min x.a (n.c.st.log.length:Int)))⟩
noncomputable abbrev Ik (n:Nd) (x:Letter):Nd:=⟨⟨n.c.me,n.c.many,n.c.bin,n.c.st,n.c.role,pM n.c.st (n.mt.set n.c.me.toNat (n.c.st.log.length:Int)) n.c.commit,n.c.applied,n.c.s⟩,n.d,n.rp,n.vs,n.bn,n.nx.set x.frm.toNat (min (lI (n.nx.getD x.frm.toNat (ao Sh.int)) x) ((n.c.st.log.length:Int)+1)),n.mt⟩
section
variable {n:Nd} {x:Letter}
theorem Mu (h:x.ok=true):n.Vn x=MF n x:=by
 unfold Nd.Vn; dsimp only; rw [if_pos h]; rfl
theorem MN (h:x.ok=false):n.Vn x=Ik n x:=by
 unfold Nd.Vn; dsimp only; rw [if_neg (lz h)]; rfl
theorem Xz:(MF n x).apply.nx.length=n.nx.length:=by rw [UD]; exact adn
theorem Ye:(Ik n x).apply.nx.length=n.nx.length:=by rw [UD]; exact adn
variable {G:Nd}
theorem aaO (hG:n.Vn x=G) (h:(n.c.st.log.length:Int)<G.apply.nx.getD x.frm.toNat (ao Sh.int)):iq n x=⟨G.apply,[],0⟩:=by
 rw [iq,hG]; exact if_pos h
theorem aaH (hG:n.Vn x=G) (h:G.apply.nx.getD x.frm.toNat (ao Sh.int)<=(n.c.st.log.length:Int)) (h1:¬ (ln G.apply x.frm).2=0):iq n x=⟨G.apply,[],(ln G.apply x.frm).2⟩:=by
 rw [iq,hG]; exact (if_neg (Int.not_lt.2 h)).trans (if_neg h1)
theorem abm (hG:n.Vn x=G) (h:G.apply.nx.getD x.frm.toNat (ao Sh.int)<=(n.c.st.log.length:Int)) (h1:(ln G.apply x.frm).2=0):iq n x=⟨G.apply,[(ln G.apply x.frm).1],0⟩:=by
 rw [iq,hG]; exact (if_neg (Int.not_lt.2 h)).trans (if_pos h1)
end
def cM (n:Nd) (k:Nat):Nd:={ n with c:={ n.c with role:=2 },nx:=List.replicate k ((n.c.st.log.length:Int)+1)++n.nx.drop k,mt:=List.replicate k (0:Int)++n.mt.drop k }
theorem wC {α:Type} {a:α}:∀ {l:List α} {k:Nat},k<l.length->(List.replicate k a++l.drop k).set k a=List.replicate (k+1) a++l.drop (k+1)
 | x :: l,0,_=>by simp
 | x :: l,k+1,h=>by
  rw [List.replicate_succ,List.drop_succ_cons,List.cons_append,List.set_cons_succ,wC (by simpa using h),List.replicate_succ (n:=k+1),List.cons_append,List.drop_succ_cons]
section
variable {n:Nd} {k:Nat}
theorem ZJ (h:(k:Int)<(n.nx.length:Int)):(cM n k).nx.set k ((n.c.st.log.length:Int)+1)=(cM n (k+1)).nx:=wC (by omega)
theorem abI (h:(k:Int)<(n.mt.length:Int)):(cM n k).mt.set k 0=(cM n (k+1)).mt:=wC (by omega)
theorem Tw (h:k<=n.nx.length):(cM n k).nx.length=n.nx.length:=by
 simp only [cM,List.length_append,ahh,List.length_drop]; omega
theorem abu (h:k<=n.mt.length):(cM n k).mt.length=n.mt.length:=by
 simp only [cM,List.length_append,ahh,List.length_drop]; omega
variable (h1:(n.nx.length:Int)=n.c.many) (h2:(n.mt.length:Int)=n.c.many) (hk:k<=n.c.many.toNat) (hm:n.c.many<=k)
include h1 h2 hk hm
theorem WK:cM n k={ n with c:={ n.c with role:=2 },nx:=List.replicate n.nx.length ((n.c.st.log.length:Int)+1),mt:=List.replicate n.mt.length 0 }:=by
 unfold cM;grind
theorem afb (h:(n.c.st.log.length:Int)+1<=64) (hs:(cM n k).aN [⟨3,(n.c.st.log.length:Int)+1,(cM n k).c.st.term,[]⟩]=0):gO n=⟨(cM n k).save [⟨3,(n.c.st.log.length:Int)+1,(cM n k).c.st.term,[]⟩],(cG ((cM n k).save [⟨3,(n.c.st.log.length:Int)+1,(cM n k).c.st.term,[]⟩])).1,(cG ((cM n k).save [⟨3,(n.c.st.log.length:Int)+1,(cM n k).c.st.term,[]⟩])).2⟩:=by
 rw [WK h1 h2 hk hm] at hs ⊢;exact (if_pos h).trans (if_pos hs)
theorem ago (h:(n.c.st.log.length:Int)+1<=64) (hs:¬ (cM n k).aN [⟨3,(n.c.st.log.length:Int)+1,(cM n k).c.st.term,[]⟩]=0):gO n=⟨(cM n k).save [⟨3,(n.c.st.log.length:Int)+1,(cM n k).c.st.term,[]⟩],[],(cM n k).aN [⟨3,(n.c.st.log.length:Int)+1,(cM n k).c.st.term,[]⟩]⟩:=by
 rw [WK h1 h2 hk hm] at hs ⊢;exact (if_pos h).trans (if_neg hs)
theorem aen (h:64<(n.c.st.log.length:Int)+1):gO n=⟨cM n k,(cG (cM n k)).1,(cG (cM n k)).2⟩:=by
 rw [WK h1 h2 hk hm];exact if_neg aK
end
def XM (n:Nd):List (Nat × LI):=[(4,{ σ:=Nat,F:=fun k=>([(0,one (.ptr 0 0)),(4,one (.int (n.c.st.log.length+1))),(22,one (.int n.c.many)),(23,one (.int k))],(nq ((cM n k)))),J:=fun k=>k<=n.c.many.toNat,μ:=fun k=>n.c.many.toNat - k })]
noncomputable def Ez:Kn:=aJ (ae (kC (aW 0 0)) (ae (kT (.nm .letter)) au)) wN fun (_,x,_) n=>⟨[NdOK n,0<=x.frm/\x.frm<n.c.many,n.c.role=2,0<=x.a/\x.a<=64],[.c (.fz (.nm .letter) (((iq n x).l))),.c (.int (((iq n x).e)))],some ((nq ((iq n x).n))),false⟩
theorem PI:CK 103 Ez:=ah fun (_,x,_) n hp=>by
 have h0:=bW hp;have h1:=bW (eH hp);have h2:=bW (eH (eH hp));have h3:=bW (eH (eH (eH hp)));refine bw s_ [] Tryz.func103 (?_:(fun q10=>(fun q13=>(fun q12=>(fun q11=>(fun q9=>(fun q8=>(fun q7=>(fun q6=>(fun q5=>(fun q4=>(fun q15=>(fun q14=>(fun q16=>(fun q3=>(fun q18=>(fun q17=>(fun q2=>(fun q19=>(fun q1=>(fun q20=>(fun q0=>(fun q21=>aS x (q15/\q4<(↑n.nx.length:Int)/\(q5<=x.a/\x.a<=64)/\I64 (q3+1)/\q15/\q4<(↑n.nx.length:Int)/\(I64 q16->I64 (lI q16 x)->I64 q16->(x.ok=true->q15/\q4<(↑n.mt.length:Int)/\q15/\q4<(↑n.mt.length:Int)/\(I64 (n.mt.getD q14 q8)->I64 (n.mt.getD q14 q8)->q5<=q10.me/\q10.me<(↑q2.length:Int)/\(I64 (q2.getD q7 q8)->(q2.set q7 q3).length<=12/\(I64 q19->((q5<=q13/\q19<=(↑q11.log.length:Int))/\q9)/\q15/\q4<(↑q0.nx.length:Int)/\(I64 (q0.nx.getD q14 q8)->(q3<q0.nx.getD q14 q8->q6.l=[]/\q5=q6.e/\b_ q0 q6.n)/\(q0.nx.getD q14 q8<=q3->(q15/\q4<(↑q0.nx.length:Int))/\aS (ln q0 q4).fst (I64 q21->(¬q21=q5->q6.l=[]/\q21=q6.e/\b_ q0 q6.n)/\(q21=q5->[(ln q0 q4).fst]=q6.l/\q5=q6.e/\b_ q0 q6.n))))))))/\(x.ok=false->q5<=q10.me/\q10.me<(↑n.mt.length:Int)/\(I64 (n.mt.getD q7 q8)->(n.mt.set q7 q3).length<=12/\(I64 q17->((q5<=q13/\q17<=(↑q11.log.length:Int))/\q9)/\q15/\q4<(↑q1.nx.length:Int)/\(I64 (q1.nx.getD q14 q8)->(q3<q1.nx.getD q14 q8->q6.l=[]/\q5=q6.e/\b_ q1 q6.n)/\(q1.nx.getD q14 q8<=q3->(q15/\q4<(↑q1.nx.length:Int))/\aS (ln q1 q4).fst (I64 q20->(¬q20=q5->q6.l=[]/\q20=q6.e/\b_ q1 q6.n)/\(q20=q5->[(ln q1 q4).fst]=q6.l/\q5=q6.e/\b_ q1 q6.n)))))))))) (ln q0 q4).snd) (Nd.mk (NdC.mk q10.me q10.many q10.bin q11 q10.role q19 q13 q10.s) n.d n.rp n.vs n.bn q18 q2).apply) (ln q1 q4).snd) (Nd.mk (NdC.mk q10.me q10.many q10.bin q11 q10.role q17 q13 q10.s) n.d n.rp n.vs n.bn q18 n.mt).apply) (pM q11 (q2.set q7 q3) q12)) (n.mt.set q14 (max (n.mt.getD q14 q8) (min x.a q3)))) (pM q11 (n.mt.set q7 q3) q12)) (n.nx.set q14 (min (lI q16 x) (q3+1)))) (↑q11.log.length:Int)) (n.nx.getD q14 q8)) q4.toNat) (q5<=q4)) x.frm) (0:Int)) (iq n x)) q10.me.toNat) (ao Sh.int)) ((↑n.rp.length:Int)<=q13/\q11.log.length<=10000)) q10.st) q10.commit) q10.applied) n.c);obtain ⟨o1,o2,o3⟩:=id h0.d;have o4:=h0.log;have o5:=h0.many;have o6:=h0.me;have o7:=h0.com;have o8:=h0.term;have o9:=h0.rp;obtain ⟨l1,l2,l3,l4⟩:=h0.len.resolve_left (by omega);(repeat' with_reducible first|apply bd|refine bf ?_|intro)
 all_goals (first | exact bq | exact (WN o7.2.2) | (rw [Xz]; omega) | (rw [Ye]; omega) | (rw [adn]; omega) | (rw [adn,adn]; omega) | (rw [aaO (n:=n) (x:=x) (G:=MF n x) (Mu ab) ab] <;> rfl) | (rw [aaH (n:=n) (x:=x) (G:=MF n x) (Mu ab) ab ab] <;> rfl) | (rw [abm (n:=n) (x:=x) (G:=MF n x) (Mu ab) ab ab] <;> rfl) | (rw [aaO (n:=n) (x:=x) (G:=Ik n x) (MN ab) ab] <;> rfl) | (rw [aaH (n:=n) (x:=x) (G:=Ik n x) (MN ab) ab ab] <;> rfl) | (rw [abm (n:=n) (x:=x) (G:=Ik n x) (MN ab) ab ab] <;> rfl))
noncomputable def DJ:Kn:=aJ (ae (kC (aW 0 0)) au) wN fun _ n=>⟨[NdOK n,n.c.role=1],[.c (.fz (.nm .letter) (((gO n).l))),.c (.int (((gO n).e)))],some ((nq ((gO n).n))),false⟩
theorem RS:CK 102 DJ:=ah fun _ n hp=>by
 have h0:=bW hp;have h1:=bW (eH hp);refine bw s_ (XM n) Tryz.func102 (?_:(fun (q5:Int)=>(fun (q4:NdR)=>(fun (q3:Int)=>(fun (q2:Int)=>(fun (q1:Int)=>(fun (q0:Int)=>I64 q5/\∃ (s0:Nat),(q5=q0/\q2=q2/\q3=(↑s0:Int)/\b_ (Nd.mk (NdC.mk n.c.me q2 n.c.bin n.c.st 2 n.c.commit n.c.applied n.c.s) n.d n.rp n.vs n.bn n.nx n.mt) (cM n s0))/\s0<=q2.toNat/\∀ (s:Nat),(fun (q7:Nd)=>(fun (q6:List (den (Sh.nm NT.record)))=>(fun (q8:Nd)=>s<=q2.toNat->((↑s:Int)<q2->(q3<=(↑s:Int)/\(↑s:Int)<(↑q7.nx.length:Int))/\(I64 (q7.nx.getD s (ao Sh.int))->q3<=(↑s:Int)/\(↑s:Int)<(↑q7.mt.length:Int))/\(I64 (q7.nx.getD s (ao Sh.int))->I64 (q7.mt.getD s (ao Sh.int))->I64 ((↑s:Int)+1)/\∃ (s':Nat),(q0=q0/\q2=q2/\(↑s:Int)+1=(↑s':Int)/\b_ (Nd.mk q7.c q7.d q7.rp q7.vs q7.bn (q7.nx.set s q0) (q7.mt.set s q3)) (cM n s'))/\s' <= q2.toNat/\q2.toNat - s' < q2.toNat - s))/\(q2<=(↑s:Int)->(q0<=64->(q3<=q7.d.synced/\q7.d.synced<=(↑q7.d.b.length:Int)/\q7.d.b.length<=65536)/\q7.c.st.log.length<=10000/\q6.length<=1000/\(I64 (q7.aN q6)->(¬q7.aN q6=q3->q4.l=[]/\q7.aN q6=q4.e/\b_ q8 q4.n)/\(q7.aN q6=q3->q8.c.many<=5/\(q8.c.role=q3\/(↑q8.nx.length:Int)=q8.c.many)/\((cG q8).fst.length*96<=140737488355328->I64 (cG q8).snd->(cG q8).fst=q4.l/\(cG q8).snd=q4.e/\b_ q8 q4.n))))/\(64<q0->q7.c.many<=5/\(q7.c.role=q3\/(↑q7.nx.length:Int)=q7.c.many)/\((cG q7).fst.length*96<=140737488355328->I64 (cG q7).snd->(cG q7).fst=q4.l/\(cG q7).snd=q4.e/\b_ q7 q4.n)))) (q7.save q6)) [Record.mk q1 q0 q7.c.st.term []]) (cM n s)) ((↑n.c.st.log.length:Int)+1)) 3) n.c.many) 0) (gO n)) ((↑n.c.st.log.length:Int)+1));obtain ⟨o1,o2,o3⟩:=id h0.d;have o4:=h0.log;have o5:=h0.many;have o6:=h0.me;have o7:=h0.com;have o8:=h0.term;have o9:=h0.rp;obtain ⟨l1,l2,l3,l4⟩:=h0.len.resolve_left (by omega);iterate 3 ((all_goals (repeat' with_reducible first|apply bd|refine bf ?_|intro)); (all_goals try (first | exact bq | exact rfl | exact (ZJ aK) | exact (abI aK) | (rw [Tw aK]; omega) | (rw [abu aK]; omega) | exact (.inr ((congrArg Int.ofNat (Tw aK)).trans l3)) | exact abo | exact o5.2 | exact o1 | exact o2 | exact o3 | exact (Nat.le_trans o4 (by decide)) | (rw [afb (n:=n) (k:=‹Nat›) l3 l4 ab ab ab ab] <;> rfl) | (rw [ago (n:=n) (k:=‹Nat›) l3 l4 ab ab ab ab] <;> rfl) | (rw [aen (n:=n) (k:=‹Nat›) l3 l4 ab ab ab] <;> rfl))); all_goals try first | refine ⟨‹Nat› + 1,?_⟩ | refine ⟨0,?_⟩)
noncomputable def UO:bD:=(aL 102 DJ (aL 103 Ez Vd))
theorem yI:ay Tryz.prog (al tyT) UO:=(ag RS (ag PI s_))
end Go.Proofs.YticbaadnibdbkaaGreat
