/- What leads to the law, part 7. Conditions: each lemma's own. -/
import Derived.Test.YticbaadnibdbkaaGreatNLM6
set_option linter.unusedVariables false
set_option linter.unusedSimpArgs false
set_option maxHeartbeats 2000000
namespace Go.Proofs.YticbaadnibdbkaaGreat
open Go.RowKit
variable {r:Route}
theorem pB {s:Stable} (h:r.next<1\/(s.log.length:Int)+1<r.next):gh s r=(mD,1):=if_pos h
theorem pA {s:Stable} (h1:1<=r.next) (h2:r.next<=(s.log.length:Int)+1) (h:¬ mayL (Letter.mk 3 r.frm r.to s.term (r.next - 1) (cF s.log (r.next - 1)) r.commit r.bin false (fb s.log (r.next - 1) 4))=0):gh s r=(mD,mayL (q_ s r)):=by
 rw [gh,if_neg (by omega),if_pos (show ¬ mayL (q_ s r)=0 from h)]
theorem qU {s:Stable} (h1:1<=r.next) (h2:r.next<=(s.log.length:Int)+1) (h:mayL (Letter.mk 3 r.frm r.to s.term (r.next - 1) (cF s.log (r.next - 1)) r.commit r.bin false (fb s.log (r.next - 1) 4))=0):gh s r=(q_ s r,0):=by
 rw [gh,if_neg (by omega),if_neg (ac9.2 (show mayL (q_ s r)=0 from h))]
variable {b:List UInt8}
theorem QV (h:(b.length:Int)<2):aZ b=([],0,2):=if_pos (by omega)
theorem Pv (h:2<=(b.length:Int)) (h2:dS b=0\/4096<dS b):aZ b=([],0,3):=by rw [aZ,if_neg (by omega),if_pos h2]
theorem OP (h:2<=(b.length:Int)) (h2:¬ dS b=0) (h3:dS b<=4096) (h4:(b.length:Int)<2+dS b+4):aZ b=([],0,2):=by rw [aZ,if_neg (by omega),if_neg (by omega),if_pos h4]
variable {x:UInt8} {k:Nat}
theorem Oc {l:List UInt8} (h:l[k]? = some x):(Ez (l.take k)*2 ^ 8) % 4294967296 ||| x.toNat=Ez (l.take (k+1)):=by
 rw [ai h]; simp only [Ez,List.foldl_append]; rfl
variable {n:Int}
theorem afR (h0:0<=n):(b.drop (2+n).toNat).take ((2+n+4).toNat - (2+n).toNat)=(b.drop (2+n).toNat).take 4:=by
 congr 1; omega
theorem aec (h0:0<=n) (h:2+n+4<=(b.length:Int)):(((b.drop (2+n).toNat).take ((2+n+4).toNat - (2+n).toNat)).length:Int)=4:=by
 rw [List.length_take,List.length_drop]; omega
theorem afx (hk:(k:Int)<4) (h0:0<=n) (h:2+n+4<=(b.length:Int)):(k:Int)<(((b.drop (2+n).toNat).take 4).length:Nat):=by
 rw [List.length_take,List.length_drop]; omega
theorem QU (h6:decide (dH 1 ((b.drop 0).take ((2+dS b).toNat - 0))=Ez (((b.drop (2+dS b).toNat).take 4).take k))=false) (h4:(4:Int)<=k) (h:2<=(b.length:Int)) (h2:¬ dS b=0) (h3:dS b<=4096) (h5:2+dS b+4<=(b.length:Int)):aZ b=([],0,3):=by
 have h6:=ag6 h6;rw [ahv,ahm,ahx,ahb (by omega)] at h6;rw [aZ,if_neg (by omega),if_neg (by omega),if_neg (by omega),if_neg h6]
theorem WL (h6:decide (dH 1 ((b.drop 0).take ((2+dS b).toNat - 0))=Ez (((b.drop (2+dS b).toNat).take 4).take k))=true) (h4:(4:Int)<=k) (h:2<=(b.length:Int)) (h2:¬ dS b=0) (h3:dS b<=4096) (h5:2+dS b+4<=(b.length:Int)):aZ b=((b.drop 2).take ((2+dS b).toNat - 2),2+dS b+4,0):=by
 have h6:=acZ h6;rw [ahv,ahm,ahx,ahb (by omega)] at h6;rw [aZ,if_neg (by omega),if_neg (by omega),if_neg (by omega),if_pos h6]
def XH (b:List UInt8):List (Nat × LI):=[(11,{ σ:=Nat,F:=fun k=>([(0,one (.fz .u8 (b))),(6,one (.int (2+dS b))),(7,one (.xx (.w (Ez (((b.drop (2+dS b).toNat).take 4).take k))) [])),(40,one (.fz .u8 ((b.drop (2+dS b).toNat).take 4))),(41,one (.int 4)),(42,one (.int k))],[]),J:=fun k=>k<=4,μ:=fun k=>4 - k })]
noncomputable def Cz:Kn:=aI (ae (kC (cL .u8)) au) aw fun (b,_) _=>⟨[],[.c (.fz .u8 (((aZ b).1))),.c (.int (((aZ b).2.1))),.c (.int (((aZ b).2.2)))],none,false⟩
theorem Py:CK 83 Cz:=ah fun (b,_) _ _=>by
 refine av gp (XH b) Tryz.func83 (?_:(fun q12=>(fun q11=>(fun q10=>(fun q9=>(fun q8=>(fun q7=>(fun q6=>(fun q5=>(fun q4=>(fun q3=>(fun q13=>(fun q2=>(fun q15=>(fun q14=>(fun q1=>(fun q18=>(fun q17=>(fun q16=>(fun q19=>(fun q0=>(fun q20=>(fun q21=>(fun q22=>b.length*1<=140737488355328->(q6<q2->q14)/\(q2<=q6->q3<=q3/\q3<q6/\q12<64/\I64 q15/\q3<=1/\1<q6/\q3<=q15/\q3<=q10/\(q0=q3\/4096<q0->q13)/\(¬q0=q3/\q0<=4096->I64 q20/\I64 q21/\(q6<q21->q14)/\(q21<=q6->I64 q21/\q3<=q20/\q20<=q21/\q21<=q6/\∃ s0,(b=b/\q20=q1/\q11=Ez (List.take s0 q19)/\q22=List.take q5 q16/\(↑q22.length:Int)=q4/\q3=(↑s0:Int))/\s0<=q5/\∀ (s:Nat),s<=q5->((↑s:Int)<q4->q3<=(↑s:Int)/\(↑s:Int)<(↑(List.take q5 q16).length:Int)/\∀ (x:UInt8),(List.take q5 q16)[s]? = some x->q12<32/\I64 ((↑s:Int)+1)/\∃ s',(b=b/\q1=q1/\Ez (List.take s q19)*2 ^ q12 % 4294967296 ||| x.toNat=Ez (List.take s' q19)/\List.take q5 q16=List.take q5 q16/\q4=q4/\(↑s:Int)+1=(↑s':Int))/\s' <= q5/\q5 - s' < q5 - s)/\(q4<=(↑s:Int)->q3<=q3/\q3<=q1/\q1<=q1/\q1<=q6/\(decide (q17=Ez (List.take s q19))=false->q13)/\(decide (q17=Ez (List.take s q19))=true->q3<=q2/\q2<=q1/\q1<=q1/\q1<=q6/\(q18.length*1<=140737488355328->I64 (q1+q4)/\q18=(aZ b).fst/\q1+q4=q7.fst/\q3=q7.snd))))))) (List.take (q21.toNat - q20.toNat) (List.drop q20.toNat b))) (q20+q4)) (q2+q0)) (Uv q15 q10)) (List.take q5 q16)) (List.drop q1.toNat b)) (dH 1 (List.take (q1.toNat - q11) (List.drop q11 b)))) (List.take (q1.toNat - 2) (List.drop 2 b))) (q2+dS b)) (q9/\q3=q7.fst/\q2=q7.snd)) (q8*q2 ^ q12)) (2:Int)) (q9/\q3=q7.fst/\3=q7.snd)) (0:Int)) (4:Int)) (4:Nat)) (↑b.length:Int)) (aZ b).snd) (↑(UInt8.toNat (b.getD q11 (ao Sh.u8))):Int)) ((aZ b).fst=[])) (↑(UInt8.toNat (b.getD 1 (ao Sh.u8))):Int)) (0:Nat)) (8:Nat));have hn:=Si b;have hb0:=(b.getD 0 (ao .u8):UInt8).toNat_lt;have hb1:=(b.getD 1 (ao .u8):UInt8).toNat_lt;dsimp only [dS] at hn;iterate 3 ((all_goals (repeat' with_reducible first|apply bd|refine ba ?_|intro)); (all_goals try (first | exact bq | exact (congrArg Prod.fst (QV ab)).symm | exact (congrArg (fun q=>q.2.1) (QV ab)).symm | exact (congrArg (fun q=>q.2.2) (QV ab)).symm | exact (congrArg Prod.fst (Pv ab ab)).symm | exact (congrArg (fun q=>q.2.1) (Pv ab ab)).symm | exact (congrArg (fun q=>q.2.2) (Pv ab ab)).symm | exact (congrArg Prod.fst (OP ab ab ab ab)).symm | exact (congrArg (fun q=>q.2.1) (OP ab ab ab ab)).symm | exact (congrArg (fun q=>q.2.2) (OP ab ab ab ab)).symm | exact (congrArg Prod.fst (QU ab ab ab ab ab ab)).symm | exact (congrArg (fun q=>q.2.1) (QU ab ab ab ab ab ab)).symm | exact (congrArg (fun q=>q.2.2) (QU ab ab ab ab ab ab)).symm | exact (congrArg Prod.fst (WL ab ab ab ab ab ab)).symm | exact (congrArg (fun q=>q.2.1) (WL ab ab ab ab ab ab)).symm | exact (congrArg (fun q=>q.2.2) (WL ab ab ab ab ab ab)).symm | exact (congrArg Prod.fst (QV ab)) | exact (congrArg Prod.fst (Pv ab ab)) | exact (congrArg Prod.fst (OP ab ab ab ab)) | exact (congrArg Prod.fst (QU ab ab ab ab ab ab)) | exact rfl | exact (afR hn) | exact (aec hn ab) | exact (afx ab hn ab) | exact (Oc ab) | (dsimp only [dS]; omega) | (refine bI ?_ ?_ <;> dsimp only [dS] <;> omega) | (rw [List.length_take,List.length_drop]; omega))); all_goals try first | refine ⟨‹Nat› + 1,?_⟩ | refine ⟨0,?_⟩)
noncomputable def tO:Kn:=aI (ae (kC (aW 0 0)) (ae (kT (.nm .record)) au)) (aA (dB 64 (ax cI (ax cI (ax cI (ax (eN 1) dt))))) (aA (eO 52 (.nm .entry)) aw)) fun (_,r,_) ((fl,tm,vo,_,_),lg,_)=>⟨[],[.c (.bool (.atom (((dM (Stable.mk fl tm vo lg) r).isSome))))],some ([.box 64 ([.int ((((dM (Stable.mk fl tm vo lg) r).getD (Stable.mk fl tm vo lg)).floor)),.int ((((dM (Stable.mk fl tm vo lg) r).getD (Stable.mk fl tm vo lg)).term)),.int ((((dM (Stable.mk fl tm vo lg) r).getD (Stable.mk fl tm vo lg)).vote)),.own 1]),.row 52 (.nm .entry) ((((dM (Stable.mk fl tm vo lg) r).getD (Stable.mk fl tm vo lg)).log))]),false⟩
theorem Hz:CK 214 tO:=ah fun (_,r,_) ((fl,tm,vo,_,_),lg,_) _=>by
 refine bu gp [] Tryz.func214 (?_:(fun q0=>dJ r ((r.a<fl->false=(dM q0 r).isSome/\dI q0 ((dM q0 r).getD q0))/\(fl<=r.a->true=(dM q0 r).isSome/\dI (Stable.mk r.a tm vo lg) ((dM q0 r).getD q0)))) (Stable.mk fl tm vo lg));(repeat' with_reducible first|apply bd|refine ba ?_|intro)
 all_goals first | exact bq | (simp only [dM]; grind) | (simp only [List.length_cons,List.length_nil]; omega)
noncomputable def zO:Kn:=aI (ae (kC (aW 0 0)) (ae (kT (.nm .record)) au)) (aA (dB 64 (ax cI (ax cI (ax cI (ax (eN 1) dt))))) (aA (eO 52 (.nm .entry)) aw)) fun (_,r,_) ((fl,tm,vo,_,_),lg,_)=>⟨[],[.c (.bool (.atom (((fq (Stable.mk fl tm vo lg) r).isSome))))],some ([.box 64 ([.int ((((fq (Stable.mk fl tm vo lg) r).getD (Stable.mk fl tm vo lg)).floor)),.int ((((fq (Stable.mk fl tm vo lg) r).getD (Stable.mk fl tm vo lg)).term)),.int ((((fq (Stable.mk fl tm vo lg) r).getD (Stable.mk fl tm vo lg)).vote)),.own 1]),.row 52 (.nm .entry) ((((fq (Stable.mk fl tm vo lg) r).getD (Stable.mk fl tm vo lg)).log))]),false⟩
theorem Od:CK 215 zO:=ah fun (_,r,_) ((fl,tm,vo,_,_),lg,_) _=>by
 refine bu gp [] Tryz.func215 (?_:(fun q0=>dJ r ((r.a<tm\/(r.a=tm/\¬vo=0)/\¬vo=r.b->false=(fq q0 r).isSome/\dI q0 ((fq q0 r).getD q0))/\(tm<=r.a/\((¬r.a=tm\/vo=0)\/vo=r.b)->true=(fq q0 r).isSome/\dI (Stable.mk fl r.a r.b lg) ((fq q0 r).getD q0)))) (Stable.mk fl tm vo lg));(repeat' with_reducible first|apply bd|refine ba ?_|intro)
 all_goals first | exact bq | (simp only [fq]; grind) | (simp only [List.length_cons,List.length_nil]; omega)
noncomputable def DP:Kn:=aI (ae (kC (aW 0 0)) (ae (kT (.nm .record)) au)) (aA (dB 64 (ax cI (ax cI (ax cI (ax (eN 1) dt))))) (aA (eO 52 (.nm .entry)) aw)) fun (_,r,_) ((fl,tm,vo,_,_),lg,_)=>⟨[1<=r.a/\r.a<=64],[.c (.bool (.atom (((fV (Stable.mk fl tm vo lg) r).isSome))))],some ([.box 64 ([.int ((((fV (Stable.mk fl tm vo lg) r).getD (Stable.mk fl tm vo lg)).floor)),.int ((((fV (Stable.mk fl tm vo lg) r).getD (Stable.mk fl tm vo lg)).term)),.int ((((fV (Stable.mk fl tm vo lg) r).getD (Stable.mk fl tm vo lg)).vote)),.own 1]),.row 52 (.nm .entry) ((((fV (Stable.mk fl tm vo lg) r).getD (Stable.mk fl tm vo lg)).log))]),false⟩
theorem PF:CK 217 DP:=ah fun (_,r,_) ((fl,tm,vo,_,_),lg,_) hp=>by
 have h0:=bV hp;refine bu (vM gp) [] Tryz.func217 (?_:(fun q1=>(fun q0=>dJ r (((↑lg.length:Int)<r.a->false=(fV q0 r).isSome/\dI q0 ((fV q0 r).getD q0))/\(r.a<=(↑lg.length:Int)->I64 q1/\(0<=q1/\q1<=(↑lg.length:Int))/\true=(fV q0 r).isSome/\dI (Stable.mk fl tm vo (List.take q1.toNat lg)) ((fV q0 r).getD q0)))) (Stable.mk fl tm vo lg)) (r.a - 1));(repeat' with_reducible first|apply bd|refine ba ?_|intro)
 all_goals first | exact bq | (simp only [fV]; grind) | (simp only [List.length_cons,List.length_nil]; omega)
noncomputable def uS:Kn:=aI (ae (kC (aW 0 0)) (ae (kT (.nm .record)) au)) (aA (dB 64 (ax cI (ax cI (ax cI (ax (eN 1) dt))))) (aA (eO 52 (.nm .entry)) aw)) fun (_,r,_) ((fl,tm,vo,_,_),lg,_)=>⟨[lg.length<=1000000,r.x.length<=200],[.c (.bool (.atom (((d_ (Stable.mk fl tm vo lg) r).isSome))))],some ([.box 64 ([.int ((((d_ (Stable.mk fl tm vo lg) r).getD (Stable.mk fl tm vo lg)).floor)),.int ((((d_ (Stable.mk fl tm vo lg) r).getD (Stable.mk fl tm vo lg)).term)),.int ((((d_ (Stable.mk fl tm vo lg) r).getD (Stable.mk fl tm vo lg)).vote)),.own 1]),.row 52 (.nm .entry) ((((d_ (Stable.mk fl tm vo lg) r).getD (Stable.mk fl tm vo lg)).log))]),false⟩
theorem Gp:CK 216 uS:=ah fun (_,r,_) ((fl,tm,vo,_,_),lg,_) hp=>by
 have h0:=bV hp;have h1:=bV (eG hp);refine bu gp [] Tryz.func216 (?_:(fun q2=>(fun q1=>(fun q0=>dJ r (I64 q1/\(¬r.a=q1->false=(d_ q0 r).isSome/\dI q0 ((d_ q0 r).getD q0))/\(r.a=q1->(q2->(lg.length+[Entry.mk r.b r.x].length)*32<=140737488355328)/\(q2->true=(d_ q0 r).isSome/\dI (Stable.mk fl tm vo (lg++[Entry.mk r.b r.x])) ((d_ q0 r).getD q0))))) (Stable.mk fl tm vo lg)) ((↑lg.length:Int)+1)) (r.x.length*1<=140737488355328));(repeat' with_reducible first|apply bd|refine ba ?_|intro)
 all_goals first | exact bq | (simp only [d_]; grind) | (simp only [List.length_cons,List.length_nil]; omega)
theorem OB :Sat Tryz.prog (al tyT) 148 [] [] ⟨[],[.c (.xx (.km bG) [])],none,false⟩:=Ff
noncomputable def Dz:Kn:=aI au aw fun _ _=>⟨[],[.c (.xx (.km bG) [])],none,false⟩
theorem O_:CK 148 Dz:=ah fun _ _ _=>OB
noncomputable def Dv:Kn:=aI (ae (kC (aW 0 0)) (ae (kC (aW 1 0)) (ae (kC (aW 2 0)) au))) (aA (xn 40 (.nm .letter)) (aA (xn 64 (.nm .stable)) (aA (dB 3 (ax cI dt)) aw))) fun _ (x,s,(who,_),_)=>⟨[],[.c (.bool (.atom ((decide (s.term<x.term) || decide (s.vote=0) || decide (s.vote=who)))))],none,false⟩
theorem QP:CK 169 Dv:=ah fun _ (x,s,(who,_),_) _=>by
 refine av gp [] Tryz.func169 (?_:(fun q0=>q0=q0) (decide (s.term<x.term) || decide (s.vote=0) || decide (s.vote=who)));(repeat' with_reducible first|apply bd|refine ba ?_|intro)
 all_goals first | exact bq | rfl
noncomputable def ye:Kn:=aI (ae (kT (.nm .stable)) (ae (kC cI) au)) aw fun (s,t,_) _=>⟨[s.term<=1048576],[.c (.fz (.nm .record) (((aU s t).1))),.c (.int (((aU s t).2)))],none,false⟩
theorem Np:CK 48 ye:=ah fun (s,t,_) _ hp=>by
 have h0:=bV hp;refine av gp [] Tryz.func48 (?_:bU s (I64 t->(t<0\/5<=t->(aU s t).fst=[]/\1=(aU s t).snd)/\(0<=t/\t<5->(1048576<=s.term->(aU s t).fst=[]/\4=(aU s t).snd)/\(s.term<1048576->I64 (s.term+1)/\I64 (t+1)/\[Record.mk 2 (s.term+1) (t+1) []]=(aU s t).fst/\0=(aU s t).snd))));(repeat' with_reducible first|apply bd|refine ba ?_|intro)
 all_goals first | exact bq | (simp only [aU]; grind) | (have q:=(by with_reducible assumption:I64 s.term); exact bI (by have:=q.1; omega) (by have:=q.2; omega)) | (simp only [List.length_cons,List.length_nil]; omega)
noncomputable def EU:Kn:=aI (ae (kT (.nm .stable)) (ae (kT (.nm .route)) au)) aw fun (s,r,_) _=>⟨[],[.agg (cellsOf (.nm .letter) ((gh s r).1)),.c (.int (((gh s r).2)))],none,false⟩
theorem Qz:CK 120 EU:=ah fun (s,r,_) _ _=>by
 refine av gp [] Tryz.func120 (?_:(fun q5=>(fun q4=>(fun q3=>(fun q2=>(fun q1=>(fun q0=>bU s (Sd r ((q5<=r.next->I64 q4)/\(r.next<q5\/q4<r.next->q2=q1.kind/\q2=q1.frm/\q2=q1.to/\q2=q1.term/\q2=q1.a/\q2=q1.b/\q2=q1.c/\q2=q1.bin/\false=q1.ok/\q1.l=[]/\q5=(gh s r).snd)/\(q5<=r.next/\r.next<=q4->I64 q3/\(I64 (cF s.log q3)->(fb s.log q3 4).length*32<=140737488355328->I64 (mayL q0)->(¬mayL q0=q2->q2=q1.kind/\q2=q1.frm/\q2=q1.to/\q2=q1.term/\q2=q1.a/\q2=q1.b/\q2=q1.c/\q2=q1.bin/\false=q1.ok/\q1.l=[]/\mayL q0=(gh s r).snd)/\(mayL q0=q2->xV q0 q1 (q2=(gh s r).snd))))))) (Letter.mk 3 r.frm r.to s.term q3 (cF s.log q3) r.commit r.bin false (fb s.log q3 4))) (gh s r).fst) (0:Int)) (r.next - q5)) ((↑s.log.length:Int)+q5)) (1:Int));(repeat' with_reducible first|apply bd|refine ba ?_|intro)
 all_goals (first | exact bq | exact (congrArg (fun q=>q.2) (pB ab)).symm | exact (congrArg (fun q=>q.1.kind) (pB ab)).symm | exact (congrArg (fun q=>q.1.frm) (pB ab)).symm | exact (congrArg (fun q=>q.1.to) (pB ab)).symm | exact (congrArg (fun q=>q.1.term) (pB ab)).symm | exact (congrArg (fun q=>q.1.a) (pB ab)).symm | exact (congrArg (fun q=>q.1.b) (pB ab)).symm | exact (congrArg (fun q=>q.1.c) (pB ab)).symm | exact (congrArg (fun q=>q.1.bin) (pB ab)).symm | exact (congrArg (fun q=>q.1.ok) (pB ab)).symm | exact (congrArg (fun q=>q.1.l) (pB ab)).symm | exact (congrArg (fun q=>q.2) (pA ab ab ab)).symm | exact (congrArg (fun q=>q.1.kind) (pA ab ab ab)).symm | exact (congrArg (fun q=>q.1.frm) (pA ab ab ab)).symm | exact (congrArg (fun q=>q.1.to) (pA ab ab ab)).symm | exact (congrArg (fun q=>q.1.term) (pA ab ab ab)).symm | exact (congrArg (fun q=>q.1.a) (pA ab ab ab)).symm | exact (congrArg (fun q=>q.1.b) (pA ab ab ab)).symm | exact (congrArg (fun q=>q.1.c) (pA ab ab ab)).symm | exact (congrArg (fun q=>q.1.bin) (pA ab ab ab)).symm | exact (congrArg (fun q=>q.1.ok) (pA ab ab ab)).symm | exact (congrArg (fun q=>q.1.l) (pA ab ab ab)).symm | exact (congrArg (fun q=>q.2) (qU ab ab ab)).symm | exact (congrArg (fun q=>q.1.kind) (qU ab ab ab)).symm | exact (congrArg (fun q=>q.1.frm) (qU ab ab ab)).symm | exact (congrArg (fun q=>q.1.to) (qU ab ab ab)).symm | exact (congrArg (fun q=>q.1.term) (qU ab ab ab)).symm | exact (congrArg (fun q=>q.1.a) (qU ab ab ab)).symm | exact (congrArg (fun q=>q.1.b) (qU ab ab ab)).symm | exact (congrArg (fun q=>q.1.c) (qU ab ab ab)).symm | exact (congrArg (fun q=>q.1.bin) (qU ab ab ab)).symm | exact (congrArg (fun q=>q.1.ok) (qU ab ab ab)).symm | exact (congrArg (fun q=>q.1.l) (qU ab ab ab)).symm | exact (congrArg (fun q=>q.1.l) (pB ab)) | exact (congrArg (fun q=>q.1.l) (pA ab ab ab)))
noncomputable def abR:bE:=(aK 120 EU (aK 48 ye (aK 169 Dv (aK 148 Dz (aK 216 uS (aK 217 DP (aK 215 zO (aK 214 tO (aK 83 Cz abH)))))))))
theorem nc:ay Tryz.prog (al tyT) abR:=(ag Qz (ag Np (ag QP (ag O_ (ag Gp (ag PF (ag Od (ag Hz (ag Py gp)))))))))
variable {r:Record}
theorem SN (h:((((((dA bG r.kind).isSome=false\/r.a<(((dA bG r.kind).getD kz).getD 0 KC.nf).int)\/(((dA bG r.kind).getD kz).getD 1 KC.nf).int<r.a)\/r.b<0)\/(((dA bG r.kind).getD kz).getD 3 KC.nf).int<r.b)\/(((dA bG r.kind).getD kz).getD 4 KC.nf).int<(r.x.length:Int))):aH r=([],1):=by
 rw [aH,if_neg];intro e;simp only [recOk,Bool.and_eq_true] at e;obtain ⟨⟨⟨⟨⟨h0,h1⟩,h2⟩,h3⟩,h4⟩,h5⟩:=e;unfold UA at h1 h2 h4 h5;grind
theorem An (h1:(dA bG r.kind).isSome=true) (h2:(((dA bG r.kind).getD kz).getD 0 KC.nf).int<=r.a) (h3:r.a<=(((dA bG r.kind).getD kz).getD 1 KC.nf).int) (h4:0<=r.b) (h5:r.b<=(((dA bG r.kind).getD kz).getD 3 KC.nf).int) (h6:(r.x.length:Int)<=(((dA bG r.kind).getD kz).getD 4 KC.nf).int):recOk r=true:=by
 simp only [recOk,Bool.and_eq_true,decide_eq_true_eq];exact ⟨⟨⟨⟨⟨h1,h2⟩,h3⟩,h4⟩,h5⟩,h6⟩
theorem jb (h:recOk r=true):1<=r.kind/\r.kind<=4/\0<=r.a/\r.a<=1048576/\0<=r.b/\r.b<=1048576/\r.x.length<=200/\(cK r.a.toNat).length<=10/\(cK r.b.toNat).length<=10:=by
 have h1:=cH (n:=r.a.toNat) (by rcases bZ.1 h with h | h | h | h <;> omega);have h2:=cH (n:=r.b.toNat) (by rcases bZ.1 h with h | h | h | h <;> omega);have h3:r.x.length<=200:=by rcases bZ.1 h with h | h | h | h <;> first | omega | simp [h]
 rcases bZ.1 h with h | h | h | h <;> omega
theorem BT (h:recOk r=true):aH r=(di r,0):=by rw [aH,if_pos h]
theorem aeq (h:recOk r=true) (h2:(((dA bG r.kind).getD kz).getD 2 KC.nf).bool=true):[UInt8.ofNat r.kind.toNat]++cK r.a.toNat++cK r.b.toNat++r.x=(aH r).1:=by
 rw [BT h,di,if_pos (show tj r.kind=true from h2)]
theorem adV (h:recOk r=true) (h2:(((dA bG r.kind).getD kz).getD 2 KC.nf).bool=false):[UInt8.ofNat r.kind.toNat]++cK r.a.toNat++r.x=(aH r).1:=by
 rw [BT h,di,if_neg (by rw [show tj r.kind=false from h2]; decide),adb]
theorem abe (b:List UInt8):(((aj b).2.1:Nat):Int)<=(b.length:Nat):=by
 have:=(mE (l:=b) (k:=0) (n:=0) (by omega)).2;show (((bJ 0 0 b).2.1:Nat):Int)<=_;omega
theorem Wj (hx:b[0]? = some x):(b.getD 0 (ao .u8):UInt8)=x:=by
 rw [List.getD_eq_getElem?_getD,hx]; rfl
theorem RI (hx:b[0]? = some x):¬ b.length=0:=by
 have:=(aaT.1 hx).1; omega
theorem tI (h:(b.length:Int)=0):bC b=(tx,false):=if_pos (by omega)
theorem tg (hx:b[0]? = some x) (h1:¬ (aj (b.drop 1)).2.2=0):bC b=(tx,false):=by
 rw [bC,if_neg (RI hx),if_pos h1]
theorem tk (hx:b[0]? = some x) (h1:(aj (b.drop 1)).2.2=0) (h2:(((dA bG (x.toNat:Int)).getD kz).getD 2 KC.nf).bool=true) (h3:¬ (aj ((b.drop 1).drop (aj (b.drop 1)).2.1)).2.2=0):bC b=(tx,false):=by
 rw [bC,if_neg (RI hx),if_neg (ac9.2 h1),Wj hx,if_pos (show tj (x.toNat:Int)=true from h2),if_pos h3]
theorem td (hx:b[0]? = some x) (h1:(aj (b.drop 1)).2.2=0) (h2:(((dA bG (x.toNat:Int)).getD kz).getD 2 KC.nf).bool=true) (h3:(aj ((b.drop 1).drop (aj (b.drop 1)).2.1)).2.2=0):bC b=(⟨(x.toNat:Int),eE (aj (b.drop 1)).1,eE (aj ((b.drop 1).drop (aj (b.drop 1)).2.1)).1,((b.drop 1).drop (aj (b.drop 1)).2.1).drop (aj ((b.drop 1).drop (aj (b.drop 1)).2.1)).2.1⟩,true):=by
 rw [bC,if_neg (RI hx),if_neg (ac9.2 h1),Wj hx,if_pos (show tj (x.toNat:Int)=true from h2),if_neg (ac9.2 h3)]
theorem th (hx:b[0]? = some x) (h1:(aj (b.drop 1)).2.2=0) (h2:(((dA bG (x.toNat:Int)).getD kz).getD 2 KC.nf).bool=false):bC b=(⟨(x.toNat:Int),eE (aj (b.drop 1)).1,0,(b.drop 1).drop (aj (b.drop 1)).2.1⟩,true):=by
 rw [bC,if_neg (RI hx),if_neg (ac9.2 h1),Wj hx,if_neg (by rw [show tj (x.toNat:Int)=false from h2]; decide)]
variable {x:Letter}
theorem FL {s:Stable} (h:¬ mayL x=0\/¬ x.kind=1):bc s x=([],false,1):=if_pos h
theorem Hv {s:Stable} (h0:mayL x=0) (h1:x.kind=1) (h:(x.term<s.term\/(decide (s.term<x.term) || decide (s.vote=0) || decide (s.vote=x.frm+1))=false)\/jJ s.log x.a x.b=false):bc s x=(aD s x.term,false,0):=by
 rw [bc,if_neg (by omega)]; exact if_pos h
theorem ZR {s:Stable} (h0:mayL x=0) (h1:x.kind=1) (h2:s.term<=x.term) (h3:(decide (s.term<x.term) || decide (s.vote=0) || decide (s.vote=x.frm+1))=true) (h4:jJ s.log x.a x.b=true):bc s x=if x.term=s.term/\s.vote=x.frm+1 then ([],true,0) else ([⟨2,x.term,x.frm+1,[]⟩],true,0):=by
 rw [bc,if_neg (by omega),if_neg];rintro ((h | h) | h)
 ·omega
 ·rw [show Uz s x=true from h3] at h; cases h
 grind
theorem Hc {s:Stable} (h0:mayL x=0) (h1:x.kind=1) (h2:s.term<=x.term) (h3:(decide (s.term<x.term) || decide (s.vote=0) || decide (s.vote=x.frm+1))=true) (h4:jJ s.log x.a x.b=true) (h5:x.term=s.term) (h6:s.vote=x.frm+1):bc s x=([],true,0):=by
 rw [ZR h0 h1 h2 h3 h4,if_pos ⟨h5,h6⟩]
theorem Ho {s:Stable} (h0:mayL x=0) (h1:x.kind=1) (h2:s.term<=x.term) (h3:(decide (s.term<x.term) || decide (s.vote=0) || decide (s.vote=x.frm+1))=true) (h4:jJ s.log x.a x.b=true) (h5:¬ x.term=s.term\/¬ s.vote=x.frm+1):bc s x=([⟨2,x.term,x.frm+1,[]⟩],true,0):=by
 rw [ZR h0 h1 h2 h3 h4,if_neg (by omega)]
def dQ (s:Stable) (x:Letter) (k:Nat):List Record:=aD s x.term++(if (bh s.log x.a x.l).1=0 then [] else [⟨4,(bh s.log x.a x.l).1,0,[]⟩])++im (x.a+x.l.length - (bh s.log x.a x.l).2.length+1) ((bh s.log x.a x.l).2.take k)
theorem sO:∀ {n:Int} {l:List Entry} {y:Entry},im n (l++[y])=im n l++[⟨3,n+l.length,y.term,y.b⟩]
 | n,[],y=>by simp [im]
 | n,z :: l,y=>by
  rw [List.cons_append,im,sO,im,List.cons_append,List.length_cons];simp; omega
theorem vr:∀ {n:Int} {l:List Entry},(im n l).length=l.length
 | _,[]=>rfl
 | n,_ :: l=>by rw [im,List.length_cons,List.length_cons,vr]
theorem adF {s:Stable} (h:¬ (bh s.log x.a x.l).1=0):aD s x.term++[Record.mk 4 (bh s.log x.a x.l).1 0 []]=dQ s x 0:=by
 rw [dQ,if_neg h,ahw,im,adb]
theorem afM {s:Stable} (h:(bh s.log x.a x.l).1=0):aD s x.term=dQ s x 0:=by
 rw [dQ,if_pos h,ahw,im,adb,adb]
theorem aet {s:Stable} {y:Entry} (h:(bh s.log x.a x.l).2[k]? = some y):dQ s x k++[Record.mk 3 (x.a+x.l.length - (bh s.log x.a x.l).2.length+k+1) y.term y.b]=dQ s x (k+1):=by
 have hk:=(aaT.1 h).1;rw [dQ,dQ,ai h,sO,List.append_assoc,List.length_take,ad0 (by omega)];congr 4; omega
theorem zg {s:Stable} (h:(¬ mayL x=0\/¬ x.kind=3)\/64<x.a+x.l.length):aB s x=([],false,0,1):=if_pos h
theorem yO {s:Stable} (h0:mayL x=0) (h1:x.kind=3) (h2:x.a+x.l.length<=64) (h3:x.term<s.term):aB s x=([],false,0,0):=by
 rw [aB,if_neg (by omega),if_pos h3]
theorem zW {s:Stable} (h0:mayL x=0) (h1:x.kind=3) (h2:x.a+x.l.length<=64) (h3:s.term<=x.term) (h4:decide (cF s.log x.a=x.b)=false):aB s x=(aD s x.term,false,0,0):=by
 rw [aB,if_neg (by omega),if_neg (by omega),if_neg (ag6 h4)]
theorem yr {s:Stable} (h0:mayL x=0) (h1:x.kind=3) (h2:x.a+x.l.length<=64) (h3:s.term<=x.term) (h4:decide (cF s.log x.a=x.b)=true) (h5:((bh s.log x.a x.l).2.length:Int)<=k):aB s x=(dQ s x k,true,x.a+x.l.length,0):=by
 rw [aB,if_neg (by omega),if_neg (by omega),if_pos (acZ h4),dQ,List.take_of_length_le (by omega)]; rfl
theorem uK {l m:List Entry} {k:Int}:(bh l k m).2.length<=m.length/\0<=(bh l k m).1/\(bh l k m).1<=l.length+1:=by
 unfold bh;grind
theorem VR {s:Stable}:(dQ s x k).length<=2+x.l.length:=by
 have:=(uK (l:=s.log) (m:=x.l) (k:=x.a)).1;simp only [dQ,List.length_append,vr];have h1:(aD s x.term).length<=1:=by unfold aD; split <;> simp
 grind
theorem acz {s:Stable} (h:mayL x=0):((dQ s x k).length+[r].length)*48<=140737488355328:=by
 have:=jA h;have:=VR (s:=s) (x:=x) (k:=k);grind
theorem ZZ {s:Stable}:((aD s n).length+[r].length)*48<=140737488355328:=by
 have h1:(aD s n).length<=1:=by unfold aD; split <;> simp
 grind
def Xx (s:Stable) (x:Letter):List (Nat × LI):=[(13,{ σ:=Nat,F:=fun k=>([(4,one (.own 0)),(6,one (.int (x.a+x.l.length))),(9,one (.fz (.nm .entry) (bh s.log x.a x.l).2)),(70,one (.fz (.nm .entry) (bh s.log x.a x.l).2)),(71,one (.int (bh s.log x.a x.l).2.length)),(72,one (.int k))],[.row 108 (.nm .record) ((dQ s x k))]),J:=fun k=>k<=(bh s.log x.a x.l).2.length,μ:=fun k=>(bh s.log x.a x.l).2.length - k })]
noncomputable def Ef:Kn:=aI (ae (kT (.nm .record)) au) aw fun (r,_) _=>⟨[],[.c (.fz .u8 (((aH r).1))),.c (.int (((aH r).2)))],none,false⟩
theorem ET:CK 145 Ef:=ah fun (r,_) _ _=>by
 refine av nc [] Tryz.func145 (?_:(fun q3=>(fun q2=>(fun q1=>(fun q0=>dJ r (((((((dA bG r.kind).isSome=false\/r.a<(q0.getD 0 KC.nf).int)\/(q0.getD q3 KC.nf).int<r.a)\/r.b<q2)\/(q0.getD 3 KC.nf).int<r.b)\/(q0.getD 4 KC.nf).int<(↑r.x.length:Int)->(aH r).fst=[]/\1=(aH r).snd)/\((((((dA bG r.kind).isSome=true/\(q0.getD 0 KC.nf).int<=r.a)/\r.a<=(q0.getD q3 KC.nf).int)/\q2<=r.b)/\r.b<=(q0.getD 3 KC.nf).int)/\(↑r.x.length:Int)<=(q0.getD 4 KC.nf).int->q2<=r.kind/\q2<=r.a/\([UInt8.ofNat r.kind.toNat].length+(cK r.a.toNat).length)*q3<=140737488355328/\((q0.getD 2 KC.nf).bool=true->q2<=r.b/\(q1.length+(cK r.b.toNat).length)*q3<=140737488355328/\((q1++cK r.b.toNat).length+r.x.length)*q3<=140737488355328/\q1++cK r.b.toNat++r.x=(aH r).fst/\q2=(aH r).snd)/\((q0.getD 2 KC.nf).bool=false->(q1.length+r.x.length)*q3<=140737488355328/\q1++r.x=(aH r).fst/\q2=(aH r).snd)))) ((dA bG r.kind).getD [KC.i q2,KC.i q2,KC.b false,KC.i q2,KC.i q2,KC.nf])) ([UInt8.ofNat r.kind.toNat]++cK r.a.toNat)) (0:Int)) (1:Nat));(repeat' with_reducible first|apply bd|refine ba ?_|intro)
 all_goals (first | exact bq | exact (congrArg (fun q=>q.1) (SN ab)) | exact (congrArg (fun q=>q.1) (SN ab)).symm | exact (congrArg (fun q=>q.2) (SN ab)) | exact (congrArg (fun q=>q.2) (SN ab)).symm | exact (congrArg (fun q=>q.1) (BT (An ab ab ab ab ab ab))) | exact (congrArg (fun q=>q.1) (BT (An ab ab ab ab ab ab))).symm | exact (congrArg (fun q=>q.2) (BT (An ab ab ab ab ab ab))) | exact (congrArg (fun q=>q.2) (BT (An ab ab ab ab ab ab))).symm | exact (aeq (An ab ab ab ab ab ab) ab) | exact (adV (An ab ab ab ab ab ab) ab) | (have hr:=jb (An ab ab ab ab ab ab); omega) | (have hr:=jb (An ab ab ab ab ab ab); simp only [List.length_append,List.length_cons,List.length_nil]; omega))
theorem SC (r:Record):Sat Tryz.prog (al tyT) 145 [.agg (cellsOf (.nm .record) r)] [] ⟨[],[.c (.fz .u8 (((aH r).1))),.c (.int (((aH r).2)))],none,false⟩:=ET _ _ _ rfl (by simp)
noncomputable def uT:Kn:=aI (ae (kC (cL .u8)) au) aw fun (b,_) _=>⟨[],[.agg (cellsOf (.nm .record) ((bC b).1)),.c (.bool (.atom (((bC b).2))))],none,false⟩
theorem FD:CK 144 uT:=ah fun (b,_) _ _=>by
 refine av nc [] Tryz.func144 (?_:(fun q6=>(fun q5=>(fun q4=>(fun q3=>(fun q7=>(fun q2=>(fun q1=>(fun q0=>(fun q8=>b.length*q5<=140737488355328->(q6=q3->q1)/\(¬q6=q3->q3<=q3/\q3<q6/\∀ (x:UInt8),(fun q9=>b[(0:Nat)]? = some x->q3<=1/\1<=q6/\(q2.fst<18446744073709551616->I64 (↑q2.snd.fst:Int)->I64 q2.snd.snd->(¬q2.snd.snd=q3->q1)/\(q2.snd.snd=q3->(q3<=(↑q2.snd.fst:Int)/\(↑q2.snd.fst:Int)<=(↑(List.drop q5 b).length:Int))/\(q9=true->(aj q0).fst<18446744073709551616->I64 (↑q8.fst:Int)->I64 q8.snd->(¬q8.snd=q3->q1)/\(q8.snd=q3->(q3<=(↑q8.fst:Int)/\(↑q8.fst:Int)<=(↑q0.length:Int))/\((List.drop q8.fst q0).length*q5<=140737488355328->sx (Record.mk (↑x.toNat:Int) (eE q2.fst) (eE (aj q0).fst) (List.drop q8.fst q0)) q4 (true=(bC b).snd))))/\(q9=false->q0.length*q5<=140737488355328->sx (Record.mk (↑x.toNat:Int) (eE q2.fst) q3 q0) q4 (true=(bC b).snd))))) (((dA bG (↑x.toNat:Int)).getD q7).getD 2 KC.nf).bool)) (aj q0).snd) (List.drop q2.snd.fst (List.drop q5 b))) (q3=q4.kind/\q3=q4.a/\q3=q4.b/\q4.x=[]/\false=(bC b).snd)) (aj (List.drop q5 b))) [KC.i q3,KC.i q3,KC.b false,KC.i q3,KC.i q3,KC.nf]) (0:Int)) (bC b).fst) (1:Nat)) (↑b.length:Int));(repeat' with_reducible first|apply bd|refine ba ?_|intro)
 all_goals (first | exact bq | exact (congrArg (fun q=>q.2) (tI ab)) | exact (congrArg (fun q=>q.2) (tI ab)).symm | exact (congrArg (fun q=>q.1.kind) (tI ab)) | exact (congrArg (fun q=>q.1.kind) (tI ab)).symm | exact (congrArg (fun q=>q.1.a) (tI ab)) | exact (congrArg (fun q=>q.1.a) (tI ab)).symm | exact (congrArg (fun q=>q.1.b) (tI ab)) | exact (congrArg (fun q=>q.1.b) (tI ab)).symm | exact (congrArg (fun q=>q.1.x) (tI ab)) | exact (congrArg (fun q=>q.1.x) (tI ab)).symm | exact (congrArg (fun q=>q.2) (tg ab ab)) | exact (congrArg (fun q=>q.2) (tg ab ab)).symm | exact (congrArg (fun q=>q.1.kind) (tg ab ab)) | exact (congrArg (fun q=>q.1.kind) (tg ab ab)).symm | exact (congrArg (fun q=>q.1.a) (tg ab ab)) | exact (congrArg (fun q=>q.1.a) (tg ab ab)).symm | exact (congrArg (fun q=>q.1.b) (tg ab ab)) | exact (congrArg (fun q=>q.1.b) (tg ab ab)).symm | exact (congrArg (fun q=>q.1.x) (tg ab ab)) | exact (congrArg (fun q=>q.1.x) (tg ab ab)).symm | exact (congrArg (fun q=>q.2) (tk ab ab ab ab)) | exact (congrArg (fun q=>q.2) (tk ab ab ab ab)).symm | exact (congrArg (fun q=>q.1.kind) (tk ab ab ab ab)) | exact (congrArg (fun q=>q.1.kind) (tk ab ab ab ab)).symm | exact (congrArg (fun q=>q.1.a) (tk ab ab ab ab)) | exact (congrArg (fun q=>q.1.a) (tk ab ab ab ab)).symm | exact (congrArg (fun q=>q.1.b) (tk ab ab ab ab)) | exact (congrArg (fun q=>q.1.b) (tk ab ab ab ab)).symm | exact (congrArg (fun q=>q.1.x) (tk ab ab ab ab)) | exact (congrArg (fun q=>q.1.x) (tk ab ab ab ab)).symm | exact (congrArg (fun q=>q.2) (td ab ab ab ab)) | exact (congrArg (fun q=>q.2) (td ab ab ab ab)).symm | exact (congrArg (fun q=>q.1.kind) (td ab ab ab ab)) | exact (congrArg (fun q=>q.1.kind) (td ab ab ab ab)).symm | exact (congrArg (fun q=>q.1.a) (td ab ab ab ab)) | exact (congrArg (fun q=>q.1.a) (td ab ab ab ab)).symm | exact (congrArg (fun q=>q.1.b) (td ab ab ab ab)) | exact (congrArg (fun q=>q.1.b) (td ab ab ab ab)).symm | exact (congrArg (fun q=>q.1.x) (td ab ab ab ab)) | exact (congrArg (fun q=>q.1.x) (td ab ab ab ab)).symm | exact (congrArg (fun q=>q.2) (th ab ab ab)) | exact (congrArg (fun q=>q.2) (th ab ab ab)).symm | exact (congrArg (fun q=>q.1.kind) (th ab ab ab)) | exact (congrArg (fun q=>q.1.kind) (th ab ab ab)).symm | exact (congrArg (fun q=>q.1.a) (th ab ab ab)) | exact (congrArg (fun q=>q.1.a) (th ab ab ab)).symm | exact (congrArg (fun q=>q.1.b) (th ab ab ab)) | exact (congrArg (fun q=>q.1.b) (th ab ab ab)).symm | exact (congrArg (fun q=>q.1.x) (th ab ab ab)) | exact (congrArg (fun q=>q.1.x) (th ab ab ab)).symm | exact (abe _))
noncomputable def vy:Kn:=aI (ae (kT (.nm .stable)) (ae (kT (.nm .letter)) au)) aw fun (s,x,_) _=>⟨[],[.c (.fz (.nm .record) (((bc s x).1))),.c (.bool (.atom (((bc s x).2.1)))),.c (.int (((bc s x).2.2)))],none,false⟩
theorem Gc:CK 98 vy:=ah fun (s,x,_) _ _=>by
 refine av nc [] Tryz.func98 (?_:(fun q4=>(fun q3=>(fun q2=>(fun q1=>(fun q5=>(fun q0=>bU s (aS x (I64 (mayL x)->(¬mayL x=q3\/¬x.kind=1->q4=[]/\false=q1.fst/\1=q1.snd)/\(mayL x=q3/\x.kind=1->I64 q2/\((x.term<s.term\/q0=false)\/jJ s.log x.a x.b=false->aD s x.term=q4/\false=q1.fst/\q3=q1.snd)/\((s.term<=x.term/\q0=true)/\jJ s.log x.a x.b=true->(x.term=s.term/\s.vote=q2->q4=[]/\q5)/\(¬x.term=s.term\/¬s.vote=q2->[Record.mk 2 x.term q2 []]=q4/\q5)))))) (decide (s.term<x.term) || decide (s.vote=q3) || decide (s.vote=q2))) (true=q1.fst/\q3=q1.snd)) (bc s x).snd) (x.frm+1)) (0:Int)) (bc s x).fst);(repeat' with_reducible first|apply bd|refine ba ?_|intro)
 all_goals (first | exact bq | exact (congrArg (fun q=>q.1) (FL ab)) | exact (congrArg (fun q=>q.1) (FL ab)).symm | exact (congrArg (fun q=>q.2.1) (FL ab)) | exact (congrArg (fun q=>q.2.1) (FL ab)).symm | exact (congrArg (fun q=>q.2.2) (FL ab)) | exact (congrArg (fun q=>q.2.2) (FL ab)).symm | exact (congrArg (fun q=>q.1) (Hv ab ab ab)) | exact (congrArg (fun q=>q.1) (Hv ab ab ab)).symm | exact (congrArg (fun q=>q.2.1) (Hv ab ab ab)) | exact (congrArg (fun q=>q.2.1) (Hv ab ab ab)).symm | exact (congrArg (fun q=>q.2.2) (Hv ab ab ab)) | exact (congrArg (fun q=>q.2.2) (Hv ab ab ab)).symm | exact (congrArg (fun q=>q.1) (Hc ab ab ab ab ab ab ab)) | exact (congrArg (fun q=>q.1) (Hc ab ab ab ab ab ab ab)).symm | exact (congrArg (fun q=>q.2.1) (Hc ab ab ab ab ab ab ab)) | exact (congrArg (fun q=>q.2.1) (Hc ab ab ab ab ab ab ab)).symm | exact (congrArg (fun q=>q.2.2) (Hc ab ab ab ab ab ab ab)) | exact (congrArg (fun q=>q.2.2) (Hc ab ab ab ab ab ab ab)).symm | exact (congrArg (fun q=>q.1) (Ho ab ab ab ab ab ab)) | exact (congrArg (fun q=>q.1) (Ho ab ab ab ab ab ab)).symm | exact (congrArg (fun q=>q.2.1) (Ho ab ab ab ab ab ab)) | exact (congrArg (fun q=>q.2.1) (Ho ab ab ab ab ab ab)).symm | exact (congrArg (fun q=>q.2.2) (Ho ab ab ab ab ab ab)) | exact (congrArg (fun q=>q.2.2) (Ho ab ab ab ab ab ab)).symm | (have:=jA ab; exact bI aJ aJ))
noncomputable def Ds:Kn:=aI (ae (kT (.nm .stable)) (ae (kT (.nm .letter)) au)) aw fun (s,x,_) _=>⟨[],[.c (.fz (.nm .record) (((aB s x).1))),.c (.bool (.atom (((aB s x).2.1)))),.c (.int (((aB s x).2.2.1))),.c (.int (((aB s x).2.2.2)))],none,false⟩
set_option maxRecDepth 8000 in
theorem PJ:CK 95 Ds:=ah fun (s,x,_) _ _=>by
 refine av nc (Xx s x) Tryz.func95 (?_:(fun (q10:List Record)=>(fun (q9:Nat)=>(fun (q8:List Record)=>(fun (q7:Int)=>(fun (q6:Int)=>(fun (q5:Int)=>(fun (q4:Int)=>(fun (q3:Int)=>(fun (q2:Bool × Int × Int)=>(fun (q11:Prop)=>(fun (q1:Int)=>(fun (q12:Prop)=>(fun (q0:List Entry)=>(fun (q16:Prop)=>(fun (q15:Int)=>(fun (q14:Nat)=>(fun (q17:Int)=>(fun (q13:Int)=>bU s (aS x (I64 (mayL x)->(mayL x=q4/\x.kind=q7->I64 q3)/\((¬mayL x=q4\/¬x.kind=q7)\/64<q3->q8=[]/\false=q2.fst/\q4=q2.snd.fst/\q6=q2.snd.snd)/\((mayL x=q4/\x.kind=q7)/\q3<=64->(x.term<s.term->q8=[]/\q11)/\(s.term<=x.term->(decide (cF s.log x.a=x.b)=false->q10=q8/\q11)/\(decide (cF s.log x.a=x.b)=true->I64 q3/\(I64 q5->q0.length*32<=q9->(¬q5=q4->(q10.length+[Record.mk 4 q5 q4 []].length)*48<=q9/\∃ (s0:Nat),(q3=q1/\q16/\q16/\q15=q17/\q4=(↑s0:Int)/\q10++[Record.mk 4 q5 q4 []]=dQ s x s0)/\s0<=q14/\∀ (s_1:Nat),(fun (q18:Int)=>s_1<=q14->((↑s_1:Int)<q17->q4<=(↑s_1:Int)/\(↑s_1:Int)<q15/\∀ (x_1:Entry),q0[s_1]? = some x_1->I64 x_1.term->x_1.b.length*1<=q9->I64 q13/\I64 (q13+(↑s_1:Int))/\I64 q18/\((dQ s x s_1).length+[Record.mk q7 q18 x_1.term x_1.b].length)*48<=q9/\I64 ((↑s_1:Int)+q6)/\∃ (s':Nat),(q1=q1/\q16/\q16/\q17=q17/\(↑s_1:Int)+q6=(↑s':Int)/\dQ s x s_1++[Record.mk q7 q18 x_1.term x_1.b]=dQ s x s')/\s' <= q14/\q14 - s' < q14 - s_1)/\(q17<=(↑s_1:Int)->dQ s x s_1=q8/\q12)) (q13+(↑s_1:Int)+q6))/\(q5=q4->∃ (s0:Nat),(q3=q1/\q16/\q16/\q15=q17/\q4=(↑s0:Int)/\q10=dQ s x s0)/\s0<=q14/\∀ (s_1:Nat),(fun (q19:Int)=>s_1<=q14->((↑s_1:Int)<q17->q4<=(↑s_1:Int)/\(↑s_1:Int)<q15/\∀ (x_1:Entry),q0[s_1]? = some x_1->I64 x_1.term->x_1.b.length*1<=q9->I64 q13/\I64 (q13+(↑s_1:Int))/\I64 q19/\((dQ s x s_1).length+[Record.mk q7 q19 x_1.term x_1.b].length)*48<=q9/\I64 ((↑s_1:Int)+q6)/\∃ (s':Nat),(q1=q1/\q16/\q16/\q17=q17/\(↑s_1:Int)+q6=(↑s':Int)/\dQ s x s_1++[Record.mk q7 q19 x_1.term x_1.b]=dQ s x s')/\s' <= q14/\q14 - s' < q14 - s_1)/\(q17<=(↑s_1:Int)->dQ s x s_1=q8/\q12)) (q13+(↑s_1:Int)+q6))))))))) (q1 - q15)) (↑q14:Int)) q0.length) (↑q0.length:Int)) (q0=q0)) (bh s.log x.a x.l).snd) (true=q2.fst/\q1=q2.snd.fst/\q4=q2.snd.snd)) (x.a+(↑x.l.length:Int))) (false=q2.fst/\q4=q2.snd.fst/\q4=q2.snd.snd)) (aB s x).snd) (x.a+(↑x.l.length:Int))) 0) (bh s.log x.a x.l).fst) 1) 3) (aB s x).fst) 140737488355328) (aD s x.term));iterate 3 ((all_goals (repeat' with_reducible first|apply bd|refine ba ?_|intro)); (all_goals try (first | exact bq | (with_reducible exact adF ab) | (with_reducible exact afM ab) | (with_reducible exact aet ab) | (with_reducible exact acz ab) | (with_reducible exact ZZ) | (with_reducible exact (congrArg (fun q=>q.1) (zg ab))) | (with_reducible exact (congrArg (fun q=>q.1) (zg ab)).symm) | (with_reducible exact (congrArg (fun q=>q.2.1) (zg ab))) | (with_reducible exact (congrArg (fun q=>q.2.1) (zg ab)).symm) | (with_reducible exact (congrArg (fun q=>q.2.2.1) (zg ab))) | (with_reducible exact (congrArg (fun q=>q.2.2.1) (zg ab)).symm) | (with_reducible exact (congrArg (fun q=>q.2.2.2) (zg ab))) | (with_reducible exact (congrArg (fun q=>q.2.2.2) (zg ab)).symm) | (with_reducible exact (congrArg (fun q=>q.1) (yO ab ab ab ab))) | (with_reducible exact (congrArg (fun q=>q.1) (yO ab ab ab ab)).symm) | (with_reducible exact (congrArg (fun q=>q.2.1) (yO ab ab ab ab))) | (with_reducible exact (congrArg (fun q=>q.2.1) (yO ab ab ab ab)).symm) | (with_reducible exact (congrArg (fun q=>q.2.2.1) (yO ab ab ab ab))) | (with_reducible exact (congrArg (fun q=>q.2.2.1) (yO ab ab ab ab)).symm) | (with_reducible exact (congrArg (fun q=>q.2.2.2) (yO ab ab ab ab))) | (with_reducible exact (congrArg (fun q=>q.2.2.2) (yO ab ab ab ab)).symm) | (with_reducible exact (congrArg (fun q=>q.1) (zW ab ab ab ab ab))) | (with_reducible exact (congrArg (fun q=>q.1) (zW ab ab ab ab ab)).symm) | (with_reducible exact (congrArg (fun q=>q.2.1) (zW ab ab ab ab ab))) | (with_reducible exact (congrArg (fun q=>q.2.1) (zW ab ab ab ab ab)).symm) | (with_reducible exact (congrArg (fun q=>q.2.2.1) (zW ab ab ab ab ab))) | (with_reducible exact (congrArg (fun q=>q.2.2.1) (zW ab ab ab ab ab)).symm) | (with_reducible exact (congrArg (fun q=>q.2.2.2) (zW ab ab ab ab ab))) | (with_reducible exact (congrArg (fun q=>q.2.2.2) (zW ab ab ab ab ab)).symm) | (with_reducible exact (congrArg (fun q=>q.1) (yr ab ab ab ab ab ab))) | (with_reducible exact (congrArg (fun q=>q.1) (yr ab ab ab ab ab ab)).symm) | (with_reducible exact (congrArg (fun q=>q.2.1) (yr ab ab ab ab ab ab))) | (with_reducible exact (congrArg (fun q=>q.2.1) (yr ab ab ab ab ab ab)).symm) | (with_reducible exact (congrArg (fun q=>q.2.2.1) (yr ab ab ab ab ab ab))) | (with_reducible exact (congrArg (fun q=>q.2.2.1) (yr ab ab ab ab ab ab)).symm) | (with_reducible exact (congrArg (fun q=>q.2.2.2) (yr ab ab ab ab ab ab))) | (with_reducible exact (congrArg (fun q=>q.2.2.2) (yr ab ab ab ab ab ab)).symm) | (have h:=jA ab; have hm:=uK (l:=s.log) (m:=x.l) (k:=x.a); refine bI ?_ ?_ <;> omega))); all_goals try first | refine ⟨‹Nat› + 1,?_⟩ | refine ⟨0,?_⟩)
noncomputable def Cn:bE:=(aK 95 Ds (aK 98 vy (aK 144 uT (aK 145 Ef abR))))
theorem jG:ay Tryz.prog (al tyT) Cn:=(ag PJ (ag Gc (ag FD (ag ET nc))))
theorem Ih (r:Record) (h0:recOk r=false):Sat Tryz.prog (al tyT) 145 [.agg (cellsOf (.nm .record) r)] [] ⟨[recOk r=false],[.c (.fz .u8 (([]))),.c (.int ((1)))],none,false⟩:=by
 have e:aH r=([],1):=by rw [aH,if_neg (by rw [h0]; decide)]
 have h:=SC r;rw [e] at h; exact ⟨h.1,h.2⟩
noncomputable def yT:Kn:=aI (ae (kT (.nm .record)) au) aw fun (r,_) _=>⟨[recOk r=false],[.c (.fz .u8 (([]))),.c (.int ((1)))],none,false⟩
theorem MS:CK 145 yT:=ah fun (r,_) _ hp=>Ih r (bV hp)
theorem Kl  (h0:False):Sat Tryz.prog (al tyT) 148 [] [] ⟨[False],[.c (.xx (.km []) [])],none,false⟩:=h0.elim
noncomputable def zn:Kn:=aI au aw fun _ _=>⟨[False],[.c (.xx (.km []) [])],none,false⟩
theorem Mh:CK 148 zn:=ah fun _ _ hp=>Kl  (bV hp)
noncomputable def Ue:bE:=(aK 148 zn (aK 145 yT Cn))
theorem Oj:ay Tryz.prog (al tyT) Ue:=(ag Mh (ag MS jG))
theorem lG (h:(bC b).2=false):bN b=(tx,3):=if_pos h
theorem lH (h:(bC b).2=true) (h2:¬ (aH (bC b).1).2=0\/decide ((aH (bC b).1).1=b)=false):bN b=(tx,3):=by
 rw [bN,if_neg (by rw [h]; decide),if_pos];grind
theorem lE (h:(bC b).2=true) (h2:(aH (bC b).1).2=0) (h3:decide ((aH (bC b).1).1=b)=true):bN b=((bC b).1,0):=by
 rw [bN,if_neg (by rw [h]; decide),if_neg];grind
theorem dq:(aH r).2=0↔recOk r=true:=by
 unfold aH;grind
theorem mw (h:¬ (aH r).2=0):(aH r).2=1/\recOk r=false:=by
 unfold aH at h ⊢;grind
theorem Pf (s:Stable) (a b:Int) (x:List UInt8) (r0:Stable) (r1:Int):US tyT Cn [] Tryz.f85 [.agg (cellsOf (.nm .stable) s),.agg [.int 1,.int a,.int b,.fz .u8 x]] [] [.agg (cellsOf (.nm .stable) r0),.c (.int r1)]=((fun q0=>(fun q1=>bU s (I64 1->I64 a->I64 b->x.length*1<=140737488355328->(aH q0).fst.length*1<=140737488355328->I64 q1->(¬q1=0->I64 s.floor->I64 s.term->I64 s.vote->aE s r0 (q1=r1))/\(q1=0->I64 s.floor->I64 s.term->I64 s.vote->((dM s q0).isSome=false->I64 s.floor->I64 s.term->I64 s.vote->aE s r0 (5=r1))/\((dM s q0).isSome=true->aE ((dM s q0).getD s) r0 (0=r1))))) (aH q0).snd) (Record.mk 1 a b x)):=cf
theorem SK (s:Stable) (a b:Int) (x:List UInt8) (r0:Stable) (r1:Int):US tyT Cn [] Tryz.f85 [.agg (cellsOf (.nm .stable) s),.agg [.int 2,.int a,.int b,.fz .u8 x]] [] [.agg (cellsOf (.nm .stable) r0),.c (.int r1)]=((fun q0=>(fun q1=>bU s (I64 2->I64 a->I64 b->x.length*1<=140737488355328->(aH q0).fst.length*1<=140737488355328->I64 q1->(¬q1=0->I64 s.floor->I64 s.term->I64 s.vote->aE s r0 (q1=r1))/\(q1=0->I64 s.floor->I64 s.term->I64 s.vote->((fq s q0).isSome=false->I64 s.floor->I64 s.term->I64 s.vote->aE s r0 (5=r1))/\((fq s q0).isSome=true->aE ((fq s q0).getD s) r0 (0=r1))))) (aH q0).snd) (Record.mk 2 a b x)):=cf
theorem PB (s:Stable) (a b:Int) (x:List UInt8) (r0:Stable) (r1:Int):US tyT Cn [] Tryz.f85 [.agg (cellsOf (.nm .stable) s),.agg [.int 3,.int a,.int b,.fz .u8 x]] [] [.agg (cellsOf (.nm .stable) r0),.c (.int r1)]=((fun q0=>(fun q1=>bU s (I64 3->I64 a->I64 b->x.length*1<=140737488355328->(aH q0).fst.length*1<=140737488355328->I64 q1->(¬q1=0->I64 s.floor->I64 s.term->I64 s.vote->aE s r0 (q1=r1))/\(q1=0->I64 s.floor->I64 s.term->I64 s.vote->s.log.length<=1000000/\x.length<=200/\((d_ s q0).isSome=false->I64 s.floor->I64 s.term->I64 s.vote->aE s r0 (5=r1))/\((d_ s q0).isSome=true->aE ((d_ s q0).getD s) r0 (0=r1))))) (aH q0).snd) (Record.mk 3 a b x)):=cf
theorem Sf (s:Stable) (a b:Int) (x:List UInt8) (r0:Stable) (r1:Int):US tyT Cn [] Tryz.f85 [.agg (cellsOf (.nm .stable) s),.agg [.int 4,.int a,.int b,.fz .u8 x]] [] [.agg (cellsOf (.nm .stable) r0),.c (.int r1)]=((fun q0=>(fun q1=>bU s (I64 4->I64 a->I64 b->x.length*1<=140737488355328->(aH q0).fst.length*1<=140737488355328->I64 q1->(¬q1=0->I64 s.floor->I64 s.term->I64 s.vote->aE s r0 (q1=r1))/\(q1=0->I64 s.floor->I64 s.term->I64 s.vote->(1<=a/\a<=64)/\((fV s q0).isSome=false->I64 s.floor->I64 s.term->I64 s.vote->aE s r0 (5=r1))/\((fV s q0).isSome=true->aE ((fV s q0).getD s) r0 (0=r1))))) (aH q0).snd) (Record.mk 4 a b x)):=cf
theorem RV (s:Stable) (r:Record) (r0:Stable) (r1:Int):US tyT Ue [] Tryz.f85 [.agg (cellsOf (.nm .stable) s),.agg (cellsOf (.nm .record) r)] [] [.agg (cellsOf (.nm .stable) r0),.c (.int r1)]=(bU s (dJ r (recOk r=false/\((0:Nat)*(1:Nat)<=(140737488355328:Nat)->I64 (1:Int)->(¬(1:Int)=(0:Int)->I64 s.floor->I64 s.term->I64 s.vote->aE s r0 ((1:Int)=r1))/\((1:Int)=(0:Int)->I64 s.floor->I64 s.term->I64 s.vote->False/\False))))):=cf
theorem zQ {s:Stable} (h:recOk r=false):aL s r=(s,1):=if_pos h
theorem dw {s:Stable} (h:¬ (aH r).2=0):aL s r=(s,(aH r).2):=by
 rw [zQ (mw h).2,(mw h).1]
variable {o:Option Stable}
theorem du {s:Stable} (e:gO s r=o) (h:(aH r).2=0) (h2:o.isSome=false):aL s r=(s,5):=by
 rw [aL,if_neg (by rw [dq.1 h]; decide),e];grind
theorem dv {s:Stable} (e:gO s r=o) (h:(aH r).2=0) (h2:o.isSome=true):aL s r=(o.getD s,0):=by
 rw [aL,if_neg (by rw [dq.1 h]; decide),e];grind
set_option maxRecDepth 8000 in
theorem Yt (s:Stable) (a b:Int) (x:List UInt8) (h0:s.log.length<=1000000):Sat Tryz.prog (al tyT) 85 [.agg (cellsOf (.nm .stable) s),.agg (cellsOf (.nm .record) (⟨1,a,b,x⟩:Record))] [] ⟨[s.log.length<=1000000],[.agg (cellsOf (.nm .stable) (aL s (⟨1,a,b,x⟩:Record)).1),.c (.int (aL s (⟨1,a,b,x⟩:Record)).2)],none,false⟩:=by
 have he:gO s (⟨1,a,b,x⟩:Record)=dM s (⟨1,a,b,x⟩:Record):=rfl;refine av jG [] Tryz.func85 ?_ (Pf s a b x (aL s (⟨1,a,b,x⟩:Record)).1 (aL s (⟨1,a,b,x⟩:Record)).2).symm;(repeat' with_reducible first|apply bd|refine ba ?_|intro)
 all_goals (first | exact bq | exact (congrArg (fun q=>q.2) (dw ab)) | exact (congrArg (fun q=>q.2) (dw ab)).symm | exact (congrArg (fun q=>q.1.floor) (dw ab)) | exact (congrArg (fun q=>q.1.floor) (dw ab)).symm | exact (congrArg (fun q=>q.1.term) (dw ab)) | exact (congrArg (fun q=>q.1.term) (dw ab)).symm | exact (congrArg (fun q=>q.1.vote) (dw ab)) | exact (congrArg (fun q=>q.1.vote) (dw ab)).symm | exact (congrArg (fun q=>q.1.log) (dw ab)) | exact (congrArg (fun q=>q.1.log) (dw ab)).symm | exact (congrArg (fun q=>q.2) (du he ab ab)) | exact (congrArg (fun q=>q.2) (du he ab ab)).symm | exact (congrArg (fun q=>q.1.floor) (du he ab ab)) | exact (congrArg (fun q=>q.1.floor) (du he ab ab)).symm | exact (congrArg (fun q=>q.1.term) (du he ab ab)) | exact (congrArg (fun q=>q.1.term) (du he ab ab)).symm | exact (congrArg (fun q=>q.1.vote) (du he ab ab)) | exact (congrArg (fun q=>q.1.vote) (du he ab ab)).symm | exact (congrArg (fun q=>q.1.log) (du he ab ab)) | exact (congrArg (fun q=>q.1.log) (du he ab ab)).symm | exact (congrArg (fun q=>q.2) (dv he ab ab)) | exact (congrArg (fun q=>q.2) (dv he ab ab)).symm | exact (congrArg (fun q=>q.1.floor) (dv he ab ab)) | exact (congrArg (fun q=>q.1.floor) (dv he ab ab)).symm | exact (congrArg (fun q=>q.1.term) (dv he ab ab)) | exact (congrArg (fun q=>q.1.term) (dv he ab ab)).symm | exact (congrArg (fun q=>q.1.vote) (dv he ab ab)) | exact (congrArg (fun q=>q.1.vote) (dv he ab ab)).symm | exact (congrArg (fun q=>q.1.log) (dv he ab ab)) | exact (congrArg (fun q=>q.1.log) (dv he ab ab)).symm | (have:=jb (dq.1 ab); dsimp only at this; omega) | (have h:=bZ.1 (dq.1 ab); dsimp only at h; omega))
set_option maxRecDepth 8000 in
theorem WR (s:Stable) (a b:Int) (x:List UInt8) (h0:s.log.length<=1000000):Sat Tryz.prog (al tyT) 85 [.agg (cellsOf (.nm .stable) s),.agg (cellsOf (.nm .record) (⟨2,a,b,x⟩:Record))] [] ⟨[s.log.length<=1000000],[.agg (cellsOf (.nm .stable) (aL s (⟨2,a,b,x⟩:Record)).1),.c (.int (aL s (⟨2,a,b,x⟩:Record)).2)],none,false⟩:=by
 have he:gO s (⟨2,a,b,x⟩:Record)=fq s (⟨2,a,b,x⟩:Record):=rfl;refine av jG [] Tryz.func85 ?_ (SK s a b x (aL s (⟨2,a,b,x⟩:Record)).1 (aL s (⟨2,a,b,x⟩:Record)).2).symm;(repeat' with_reducible first|apply bd|refine ba ?_|intro)
 all_goals (first | exact bq | exact (congrArg (fun q=>q.2) (dw ab)) | exact (congrArg (fun q=>q.2) (dw ab)).symm | exact (congrArg (fun q=>q.1.floor) (dw ab)) | exact (congrArg (fun q=>q.1.floor) (dw ab)).symm | exact (congrArg (fun q=>q.1.term) (dw ab)) | exact (congrArg (fun q=>q.1.term) (dw ab)).symm | exact (congrArg (fun q=>q.1.vote) (dw ab)) | exact (congrArg (fun q=>q.1.vote) (dw ab)).symm | exact (congrArg (fun q=>q.1.log) (dw ab)) | exact (congrArg (fun q=>q.1.log) (dw ab)).symm | exact (congrArg (fun q=>q.2) (du he ab ab)) | exact (congrArg (fun q=>q.2) (du he ab ab)).symm | exact (congrArg (fun q=>q.1.floor) (du he ab ab)) | exact (congrArg (fun q=>q.1.floor) (du he ab ab)).symm | exact (congrArg (fun q=>q.1.term) (du he ab ab)) | exact (congrArg (fun q=>q.1.term) (du he ab ab)).symm | exact (congrArg (fun q=>q.1.vote) (du he ab ab)) | exact (congrArg (fun q=>q.1.vote) (du he ab ab)).symm | exact (congrArg (fun q=>q.1.log) (du he ab ab)) | exact (congrArg (fun q=>q.1.log) (du he ab ab)).symm | exact (congrArg (fun q=>q.2) (dv he ab ab)) | exact (congrArg (fun q=>q.2) (dv he ab ab)).symm | exact (congrArg (fun q=>q.1.floor) (dv he ab ab)) | exact (congrArg (fun q=>q.1.floor) (dv he ab ab)).symm | exact (congrArg (fun q=>q.1.term) (dv he ab ab)) | exact (congrArg (fun q=>q.1.term) (dv he ab ab)).symm | exact (congrArg (fun q=>q.1.vote) (dv he ab ab)) | exact (congrArg (fun q=>q.1.vote) (dv he ab ab)).symm | exact (congrArg (fun q=>q.1.log) (dv he ab ab)) | exact (congrArg (fun q=>q.1.log) (dv he ab ab)).symm | (have:=jb (dq.1 ab); dsimp only at this; omega) | (have h:=bZ.1 (dq.1 ab); dsimp only at h; omega))
set_option maxRecDepth 8000 in
theorem Vk (s:Stable) (a b:Int) (x:List UInt8) (h0:s.log.length<=1000000):Sat Tryz.prog (al tyT) 85 [.agg (cellsOf (.nm .stable) s),.agg (cellsOf (.nm .record) (⟨3,a,b,x⟩:Record))] [] ⟨[s.log.length<=1000000],[.agg (cellsOf (.nm .stable) (aL s (⟨3,a,b,x⟩:Record)).1),.c (.int (aL s (⟨3,a,b,x⟩:Record)).2)],none,false⟩:=by
 have he:gO s (⟨3,a,b,x⟩:Record)=d_ s (⟨3,a,b,x⟩:Record):=rfl;refine av jG [] Tryz.func85 ?_ (PB s a b x (aL s (⟨3,a,b,x⟩:Record)).1 (aL s (⟨3,a,b,x⟩:Record)).2).symm;(repeat' with_reducible first|apply bd|refine ba ?_|intro)
 all_goals (first | exact bq | exact (congrArg (fun q=>q.2) (dw ab)) | exact (congrArg (fun q=>q.2) (dw ab)).symm | exact (congrArg (fun q=>q.1.floor) (dw ab)) | exact (congrArg (fun q=>q.1.floor) (dw ab)).symm | exact (congrArg (fun q=>q.1.term) (dw ab)) | exact (congrArg (fun q=>q.1.term) (dw ab)).symm | exact (congrArg (fun q=>q.1.vote) (dw ab)) | exact (congrArg (fun q=>q.1.vote) (dw ab)).symm | exact (congrArg (fun q=>q.1.log) (dw ab)) | exact (congrArg (fun q=>q.1.log) (dw ab)).symm | exact (congrArg (fun q=>q.2) (du he ab ab)) | exact (congrArg (fun q=>q.2) (du he ab ab)).symm | exact (congrArg (fun q=>q.1.floor) (du he ab ab)) | exact (congrArg (fun q=>q.1.floor) (du he ab ab)).symm | exact (congrArg (fun q=>q.1.term) (du he ab ab)) | exact (congrArg (fun q=>q.1.term) (du he ab ab)).symm | exact (congrArg (fun q=>q.1.vote) (du he ab ab)) | exact (congrArg (fun q=>q.1.vote) (du he ab ab)).symm | exact (congrArg (fun q=>q.1.log) (du he ab ab)) | exact (congrArg (fun q=>q.1.log) (du he ab ab)).symm | exact (congrArg (fun q=>q.2) (dv he ab ab)) | exact (congrArg (fun q=>q.2) (dv he ab ab)).symm | exact (congrArg (fun q=>q.1.floor) (dv he ab ab)) | exact (congrArg (fun q=>q.1.floor) (dv he ab ab)).symm | exact (congrArg (fun q=>q.1.term) (dv he ab ab)) | exact (congrArg (fun q=>q.1.term) (dv he ab ab)).symm | exact (congrArg (fun q=>q.1.vote) (dv he ab ab)) | exact (congrArg (fun q=>q.1.vote) (dv he ab ab)).symm | exact (congrArg (fun q=>q.1.log) (dv he ab ab)) | exact (congrArg (fun q=>q.1.log) (dv he ab ab)).symm | (have:=jb (dq.1 ab); dsimp only at this; omega) | (have h:=bZ.1 (dq.1 ab); dsimp only at h; omega))
set_option maxRecDepth 8000 in
theorem Xd (s:Stable) (a b:Int) (x:List UInt8) (h0:s.log.length<=1000000):Sat Tryz.prog (al tyT) 85 [.agg (cellsOf (.nm .stable) s),.agg (cellsOf (.nm .record) (⟨4,a,b,x⟩:Record))] [] ⟨[s.log.length<=1000000],[.agg (cellsOf (.nm .stable) (aL s (⟨4,a,b,x⟩:Record)).1),.c (.int (aL s (⟨4,a,b,x⟩:Record)).2)],none,false⟩:=by
 have he:gO s (⟨4,a,b,x⟩:Record)=fV s (⟨4,a,b,x⟩:Record):=rfl;refine av jG [] Tryz.func85 ?_ (Sf s a b x (aL s (⟨4,a,b,x⟩:Record)).1 (aL s (⟨4,a,b,x⟩:Record)).2).symm;(repeat' with_reducible first|apply bd|refine ba ?_|intro)
 all_goals (first | exact bq | exact (congrArg (fun q=>q.2) (dw ab)) | exact (congrArg (fun q=>q.2) (dw ab)).symm | exact (congrArg (fun q=>q.1.floor) (dw ab)) | exact (congrArg (fun q=>q.1.floor) (dw ab)).symm | exact (congrArg (fun q=>q.1.term) (dw ab)) | exact (congrArg (fun q=>q.1.term) (dw ab)).symm | exact (congrArg (fun q=>q.1.vote) (dw ab)) | exact (congrArg (fun q=>q.1.vote) (dw ab)).symm | exact (congrArg (fun q=>q.1.log) (dw ab)) | exact (congrArg (fun q=>q.1.log) (dw ab)).symm | exact (congrArg (fun q=>q.2) (du he ab ab)) | exact (congrArg (fun q=>q.2) (du he ab ab)).symm | exact (congrArg (fun q=>q.1.floor) (du he ab ab)) | exact (congrArg (fun q=>q.1.floor) (du he ab ab)).symm | exact (congrArg (fun q=>q.1.term) (du he ab ab)) | exact (congrArg (fun q=>q.1.term) (du he ab ab)).symm | exact (congrArg (fun q=>q.1.vote) (du he ab ab)) | exact (congrArg (fun q=>q.1.vote) (du he ab ab)).symm | exact (congrArg (fun q=>q.1.log) (du he ab ab)) | exact (congrArg (fun q=>q.1.log) (du he ab ab)).symm | exact (congrArg (fun q=>q.2) (dv he ab ab)) | exact (congrArg (fun q=>q.2) (dv he ab ab)).symm | exact (congrArg (fun q=>q.1.floor) (dv he ab ab)) | exact (congrArg (fun q=>q.1.floor) (dv he ab ab)).symm | exact (congrArg (fun q=>q.1.term) (dv he ab ab)) | exact (congrArg (fun q=>q.1.term) (dv he ab ab)).symm | exact (congrArg (fun q=>q.1.vote) (dv he ab ab)) | exact (congrArg (fun q=>q.1.vote) (dv he ab ab)).symm | exact (congrArg (fun q=>q.1.log) (dv he ab ab)) | exact (congrArg (fun q=>q.1.log) (dv he ab ab)).symm | (have:=jb (dq.1 ab); dsimp only at this; omega) | (have h:=bZ.1 (dq.1 ab); dsimp only at h; omega))
theorem Kv (s:Stable) (r:Record) (h0:s.log.length<=1000000):Sat Tryz.prog (al tyT) 85 [.agg (cellsOf (.nm .stable) s),.agg (cellsOf (.nm .record) r)] [] ⟨[s.log.length<=1000000],[.agg (cellsOf (.nm .stable) (aL s r).1),.c (.int (aL s r).2)],none,false⟩:=by
 cases hr:recOk r
 ·refine av Oj [] Tryz.func85 ?_ (RV s r (aL s r).1 (aL s r).2).symm;rw [zQ hr];grind
 obtain ⟨k,a,b,x⟩:=r;rcases bZ.1 hr with h | h | h | h <;> (have hk:=h.1; dsimp only at hk; subst hk)
 ·exact Yt s a b x h0
 ·exact WR s a b x h0
 ·exact Vk s a b x h0
 exact Xd s a b x h0
noncomputable def Ad:Kn:=aI (ae (kC (cL .u8)) au) aw fun (b,_) _=>⟨[],[.agg (cellsOf (.nm .record) ((bN b).1)),.c (.int (((bN b).2)))],none,false⟩
theorem Ol:CK 84 Ad:=ah fun (b,_) _ _=>by
 refine av jG [] Tryz.func84 (?_:(fun q3=>(fun q2=>(fun q1=>(fun q0=>b.length*1<=140737488355328->dJ (bC b).fst (((bC b).snd=false->q0)/\((bC b).snd=true->q1.fst.length*1<=140737488355328->I64 q1.snd->(¬q1.snd=q3\/decide (q1.fst=b)=false->q0)/\(q1.snd=q3/\decide (q1.fst=b)=true->sx (bC b).fst q2 (q3=(bN b).snd))))) (q3=q2.kind/\q3=q2.a/\q3=q2.b/\q2.x=[]/\3=(bN b).snd)) (aH (bC b).fst)) (bN b).fst) (0:Int));(repeat' with_reducible first|apply bd|refine ba ?_|intro)
 all_goals (first | exact bq | exact (congrArg (fun q=>q.2) (lG ab)) | exact (congrArg (fun q=>q.2) (lG ab)).symm | exact (congrArg (fun q=>q.1.kind) (lG ab)) | exact (congrArg (fun q=>q.1.kind) (lG ab)).symm | exact (congrArg (fun q=>q.1.a) (lG ab)) | exact (congrArg (fun q=>q.1.a) (lG ab)).symm | exact (congrArg (fun q=>q.1.b) (lG ab)) | exact (congrArg (fun q=>q.1.b) (lG ab)).symm | exact (congrArg (fun q=>q.1.x) (lG ab)) | exact (congrArg (fun q=>q.1.x) (lG ab)).symm | exact (congrArg (fun q=>q.2) (lH ab ab)) | exact (congrArg (fun q=>q.2) (lH ab ab)).symm | exact (congrArg (fun q=>q.1.kind) (lH ab ab)) | exact (congrArg (fun q=>q.1.kind) (lH ab ab)).symm | exact (congrArg (fun q=>q.1.a) (lH ab ab)) | exact (congrArg (fun q=>q.1.a) (lH ab ab)).symm | exact (congrArg (fun q=>q.1.b) (lH ab ab)) | exact (congrArg (fun q=>q.1.b) (lH ab ab)).symm | exact (congrArg (fun q=>q.1.x) (lH ab ab)) | exact (congrArg (fun q=>q.1.x) (lH ab ab)).symm | exact (congrArg (fun q=>q.2) (lE ab ab ab)) | exact (congrArg (fun q=>q.2) (lE ab ab ab)).symm | exact (congrArg (fun q=>q.1.kind) (lE ab ab ab)) | exact (congrArg (fun q=>q.1.kind) (lE ab ab ab)).symm | exact (congrArg (fun q=>q.1.a) (lE ab ab ab)) | exact (congrArg (fun q=>q.1.a) (lE ab ab ab)).symm | exact (congrArg (fun q=>q.1.b) (lE ab ab ab)) | exact (congrArg (fun q=>q.1.b) (lE ab ab ab)).symm | exact (congrArg (fun q=>q.1.x) (lE ab ab ab)) | exact (congrArg (fun q=>q.1.x) (lE ab ab ab)).symm)
theorem HX (s:Stable) (r:Record) (h0:s.log.length<=1000000):Sat Tryz.prog (al tyT) 85 [.agg (cellsOf (.nm .stable) s),.agg (cellsOf (.nm .record) r)] [] ⟨[s.log.length<=1000000],[.agg (cellsOf (.nm .stable) ((aL s r).1)),.c (.int (((aL s r).2)))],none,false⟩:=Kv s r h0
noncomputable def zL:Kn:=aI (ae (kT (.nm .stable)) (ae (kT (.nm .record)) au)) aw fun (s,r,_) _=>⟨[s.log.length<=1000000],[.agg (cellsOf (.nm .stable) ((aL s r).1)),.c (.int (((aL s r).2)))],none,false⟩
theorem IB:CK 85 zL:=ah fun (s,r,_) _ hp=>HX s r (bV hp)
noncomputable def abO:bE:=(aK 85 zL (aK 84 Ad Cn))
theorem DJ:ay Tryz.prog (al tyT) abO:=(ag IB (ag Ol jG))
structure RJ (b:List UInt8) (s:Stable) (u:Int):Prop where
 le:0<=u/\u<=b.length
 log:(s.log.length:Int)<=u
 eq:replayF b=((playB (b.length+1) s (b.drop u.toNat)).1,u+(playB (b.length+1) s (b.drop u.toNat)).2)
theorem afC:RJ b sta0 0:=⟨by omega,by simp,by simp [replayF]⟩
section
variable {b:List UInt8} {s:Stable} {u:Int}
theorem tC (h:RJ b s u) (h1:¬ (aZ (b.drop u.toNat)).2.2=0):replayF b=(s,u):=by
 rw [h.eq,mb h1,Int.add_zero]
theorem tD (h:RJ b s u) (h1:(aZ (b.drop u.toNat)).2.2=0) (h2:¬ (bN (aZ (b.drop u.toNat)).1).2=0):replayF b=(s,u):=by
 rw [h.eq,playB,if_neg (ac9.2 h1),if_pos h2,Int.add_zero]
theorem tf (h:RJ b s u) (h1:(aZ (b.drop u.toNat)).2.2=0) (h2:(bN (aZ (b.drop u.toNat)).1).2=0) (h3:¬ (aL s (bN (aZ (b.drop u.toNat)).1).1).2=0):replayF b=(s,u):=by
 rw [h.eq,playB,if_neg (ac9.2 h1),if_neg (ac9.2 h2),if_pos h3,Int.add_zero]
theorem FC {s t:Stable} (h:gO s r=some t):t.log.length<=s.log.length+1:=by
 unfold gO dM fq d_ fV at h;grind
theorem uX {s:Stable}:(aL s r).1.log.length<=s.log.length+1:=by
 unfold aL;split
 ·simp
 split
 ·rename_i t h; exact FC h
 simp
theorem aeT (h:RJ b s u) (h1:(aZ (b.drop u.toNat)).2.2=0) (h2:(bN (aZ (b.drop u.toNat)).1).2=0) (h3:(aL s (bN (aZ (b.drop u.toNat)).1).1).2=0):RJ b (aL s (bN (aZ (b.drop u.toNat)).1).1).1 (u+(aZ (b.drop u.toNat)).2.1):=by
 have hs:=gK h1;rw [List.length_drop] at hs;have h4:=uX (s:=s) (r:=(bN (aZ (b.drop u.toNat)).1).1);have h5:=h.log;refine ⟨by omega,by omega,?_⟩;rw [h.eq,playB,if_neg (ac9.2 h1),if_neg (ac9.2 h2),if_neg (ac9.2 h3),afJ,show u.toNat+(aZ (b.drop u.toNat)).2.1.toNat=(u+(aZ (b.drop u.toNat)).2.1).toNat by omega];rw [mi (n:=b.length) (m:=b.length+1) (by rw [List.length_drop]; omega) (by rw [List.length_drop]; omega)];grind
theorem adK (h:RJ b s u):0<=u:=h.le.1
theorem agF (h:RJ b s u):u<=(b.length:Int):=h.le.2
theorem aeJ (h:RJ b s u) (hb:b.length<=1000000):s.log.length<=1000000:=by
 have:=h.log; have:=h.le; omega
theorem afW (h:RJ b s u) (h1:(aZ (b.drop u.toNat)).2.2=0) (hb:b.length<=1000000):I64 (u+(aZ (b.drop u.toNat)).2.1):=by
 have:=gK h1; have:=h.le;rw [List.length_drop] at *;exact bI aJ aJ
theorem adk (h:RJ b s u) (h1:(aZ (b.drop u.toNat)).2.2=0):((b.length:Int) - (u+(aZ (b.drop u.toNat)).2.1)).toNat<((b.length:Int) - u).toNat:=by
 have:=gK h1; have:=h.le;grind
end
variable {l:List Record}
theorem xq {s:Stable} (h:(stepsF s (l.take k)).2=0) (hr:l[k]? = some r):stepsF s (l.take (k+1))=stepsF (stepsF s (l.take k)).1 [r]:=by
 rw [ai hr,gJ h]
theorem tF {s:Stable} (h:(stepsF s (l.take k)).2=0) (hr:l[k]? = some r) (h2:(aL (stepsF s (l.take k)).1 r).2=0):(stepsF s (l.take (k+1))).2=0/\(stepsF s (l.take (k+1))).1=(aL (stepsF s (l.take k)).1 r).1:=by
 rw [xq h hr,stepsF,if_pos h2,stepsF]; exact ⟨rfl,rfl⟩
theorem af0 {s:Stable} (h:(stepsF s (l.take k)).2=0) (hr:l[k]? = some r) (h2:¬ (aL (stepsF s (l.take k)).1 r).2=0):(stepsF s l).2=(aL (stepsF s (l.take k)).1 r).2:=by
 have hk:=(aaT.1 hr);have e:l=l.take k++r :: l.drop (k+1):=by
  rw [<- hk.2,List.getElem_cons_drop,List.take_append_drop]
 rw [show stepsF s l=stepsF s (l.take k++r :: l.drop (k+1)) from congrArg (stepsF s) e,gJ h,stepsF,if_neg h2]
theorem qD:∀ {l:List Record} {s:Stable},(stepsF s l).1.log.length<=s.log.length+l.length
 | [],s=>acY _
 | r :: l,s=>by
  rw [stepsF];split
  ·have:=qD (l:=l) (s:=(aL s r).1);have:=uX (s:=s) (r:=r);grind
  grind
theorem acH (h:(l.take k).all recOk=true) (hr:l[k]? = some r) (h2:recOk r=true):(l.take (k+1)).all recOk=true:=by
 rw [ai hr,ahf,h]; simp [h2]
theorem ZI (hr:l[k]? = some r) (h2:recOk r=false):l.all recOk=false:=by grind
theorem Zb (hr:l[k]? = some r):encL (l.take k)++eA (di r)=encL (l.take (k+1)):=by
 rw [ai hr,qZ]; simp [encL,ju]
theorem Cl {d:Dsk} {x:List UInt8} (h:d.OK):(d.app x).OK:=by
 obtain ⟨h1,h2,h3⟩:=h;unfold Dsk.app;split
 ·exact ⟨h1,h2,h3⟩
 refine ⟨h1,?_,?_⟩ <;> dsimp only <;> rw [List.length_append] <;> omega
def Fh (b:List UInt8):List (Nat × LI):=[(3,{ σ:=Stable × Int,F:=fun q=>([(0,one (.fz .u8 (b))),(2,one (.ptr 1 0)),(4,one (.ptr 0 0)),(5,one (.int q.2))],[.box 64 (cellsOf (.nm .stable) (q.1)),.box 64 (cellsOf (.nm .stable) (sta0))]),J:=fun q=>RJ b q.1 q.2,μ:=fun q=>(b.length - q.2).toNat })]
noncomputable def qY:Kn:=aI (ae (kC (cL .u8)) au) aw fun (b,_) _=>⟨[b.length<=1000000],[.agg (cellsOf (.nm .stable) ((replayF b).1)),.c (.int (((replayF b).2)))],none,false⟩
theorem Br:CK 41 qY:=ah fun (b,_) _ hp=>by
 have h0:=bV hp;refine av DJ (Fh b) Tryz.func41 (?_:(fun (q0:Int)=>b.length*1<=140737488355328->∃ (s0:Stable × Int),(b=b/\q0=s0.snd/\q0=s0.fst.floor/\q0=s0.fst.term/\q0=s0.fst.vote/\s0.fst.log=[]/\q0=sta0.floor/\q0=sta0.term/\q0=sta0.vote/\sta0.log=[])/\RJ b s0.fst s0.snd/\∀ (s:Stable × Int),(fun (q2:Prop)=>(fun (q1:List UInt8 × Int × Int)=>(fun (q4:Record × Int)=>(fun (q3:Stable × Int)=>RJ b s.fst s.snd->q0<=s.snd/\s.snd<=(↑b.length:Int)/\(q1.fst.length*1<=140737488355328->I64 q1.snd.fst->I64 q1.snd.snd->(¬q1.snd.snd=q0->q2)/\(q1.snd.snd=q0->dJ q4.fst (I64 q4.snd->(¬q4.snd=q0->q2)/\(q4.snd=q0->s.fst.log.length<=1000000/\bU q3.fst (I64 q3.snd->(¬q3.snd=q0->q2)/\(q3.snd=q0->I64 (s.snd+q1.snd.fst)/\∃ (s':Stable × Int),(b=b/\s.snd+q1.snd.fst=s'.snd/\aE q3.fst s'.fst (dI sta0 sta0))/\RJ b s'.fst s'.snd/\((↑b.length:Int) - s'.snd).toNat<((↑b.length:Int) - s.snd).toNat))))))) (aL s.fst q4.fst)) (bN q1.fst)) (aZ (List.drop s.snd.toNat b))) (aE s.fst (replayF b).fst (s.snd=(replayF b).snd))) 0);iterate 3 ((all_goals (repeat' with_reducible first|apply bd|refine ba ?_|intro)); (all_goals try (first | exact bq | (with_reducible exact afC) | (with_reducible exact adK ab) | (with_reducible exact agF ab) | (with_reducible exact aeJ ab h0) | (with_reducible exact afW ab ab h0) | (with_reducible exact adk ab ab) | (with_reducible exact aeT ab ab ab ab) | exact (congrArg (fun q=>q.2) (tC ab ab)) | exact (congrArg (fun q=>q.2) (tC ab ab)).symm | exact (congrArg (fun q=>q.1.floor) (tC ab ab)) | exact (congrArg (fun q=>q.1.floor) (tC ab ab)).symm | exact (congrArg (fun q=>q.1.term) (tC ab ab)) | exact (congrArg (fun q=>q.1.term) (tC ab ab)).symm | exact (congrArg (fun q=>q.1.vote) (tC ab ab)) | exact (congrArg (fun q=>q.1.vote) (tC ab ab)).symm | exact (congrArg (fun q=>q.1.log) (tC ab ab)) | exact (congrArg (fun q=>q.1.log) (tC ab ab)).symm | exact (congrArg (fun q=>q.2) (tD ab ab ab)) | exact (congrArg (fun q=>q.2) (tD ab ab ab)).symm | exact (congrArg (fun q=>q.1.floor) (tD ab ab ab)) | exact (congrArg (fun q=>q.1.floor) (tD ab ab ab)).symm | exact (congrArg (fun q=>q.1.term) (tD ab ab ab)) | exact (congrArg (fun q=>q.1.term) (tD ab ab ab)).symm | exact (congrArg (fun q=>q.1.vote) (tD ab ab ab)) | exact (congrArg (fun q=>q.1.vote) (tD ab ab ab)).symm | exact (congrArg (fun q=>q.1.log) (tD ab ab ab)) | exact (congrArg (fun q=>q.1.log) (tD ab ab ab)).symm | exact (congrArg (fun q=>q.2) (tf ab ab ab ab)) | exact (congrArg (fun q=>q.2) (tf ab ab ab ab)).symm | exact (congrArg (fun q=>q.1.floor) (tf ab ab ab ab)) | exact (congrArg (fun q=>q.1.floor) (tf ab ab ab ab)).symm | exact (congrArg (fun q=>q.1.term) (tf ab ab ab ab)) | exact (congrArg (fun q=>q.1.term) (tf ab ab ab ab)).symm | exact (congrArg (fun q=>q.1.vote) (tf ab ab ab ab)) | exact (congrArg (fun q=>q.1.vote) (tf ab ab ab ab)).symm | exact (congrArg (fun q=>q.1.log) (tf ab ab ab ab)) | exact (congrArg (fun q=>q.1.log) (tf ab ab ab ab)).symm)); all_goals try first | refine ⟨((aL (‹Stable × Int›).1 (bN (aZ (b.drop (‹Stable × Int›).2.toNat)).1).1).1,(‹Stable × Int›).2+(aZ (b.drop (‹Stable × Int›).2.toNat)).2.1),?_⟩ | refine ⟨(sta0,0),?_⟩)
noncomputable def aaq:bE:=(aK 41 qY abO)
theorem CQ:ay Tryz.prog (al tyT) aaq:=(ag Br DJ)
section
variable {d:Dsk} {s:Stable} {l:List Record} {k:Nat} {r:Record}
theorem abr (hr:l[k]? = some r) (h:¬ (aH r).2=0):saveF d s l=(d,s,(aH r).2):=by
 rw [saveF,if_pos (ZI hr (mw h).2),(mw h).1]
theorem Vm (h:(aH r).2=0):n_ (aH r).1=(eA (di r),0):=by
 have hr:=dq.1 h;have:=iS hr;rw [BT hr,n_,if_neg (by dsimp only; omega)]
theorem abM {p:Prop} (h:(aH r).2=0) (h2:¬ (n_ (aH r).1).2=0):p:=absurd (by rw [Vm h]) h2
theorem acr (hr:l[k]? = some r) (h:(aH r).2=0):encL (l.take k)++(n_ (aH r).1).1=encL (l.take (k+1)):=by
 rw [Vm h]; exact Zb hr
theorem Tf (h:l.length<=1000) (h2:(l.take k).all recOk=true) (h3:(aH r).2=0):((encL (l.take k)).length+(n_ (aH r).1).1.length)*1<=140737488355328:=by
 have h4:=rG h2;have h5:=iS (dq.1 h3);have h6:(l.take k).length<=l.length:=by rw [List.length_take]; omega
 rw [Vm h3]; dsimp only; rw [lS]; omega
theorem abw (hk:(l.length:Int)<=k) (h:(l.take k).all recOk=true):l.all recOk=true:=by rwa [List.take_of_length_le (by omega)] at h
theorem aax (hk:(l.length:Int)<=k):encL (l.take k)=encL l:=by rw [List.take_of_length_le (by omega)]
theorem abt (h1:s.log.length<=10000) (h2:l.length<=1000):(stepsF s (l.take k)).1.log.length<=1000000:=by
 have:=qD (s:=s) (l:=l.take k);grind
theorem aaw (ha:l.all recOk=true) (h:(stepsF s (l.take k)).2=0) (hr:l[k]? = some r) (h2:¬ (aL (stepsF s (l.take k)).1 r).2=0):saveF d s l=(d,s,(aL (stepsF s (l.take k)).1 r).2):=by
 have e:=af0 h hr h2;rw [saveF,if_neg (by rw [ha]; decide),if_pos (by rw [e]; exact h2),e]
theorem abE (hl:(l.length:Int)=0):saveF d s l=(d,(stepsF s (l.take k)).1,0):=by
 rw [acT (l:=l) (by omega),List.take_nil]; rfl
theorem Xr (hk:(l.length:Int)<=k) (ha:l.all recOk=true) (h:(stepsF s (l.take k)).2=0) (hl:¬ (l.length:Int)=0):saveF d s l=if d.jB (encL l)≠0 then (d,s,d.jB (encL l)) else if (d.app (encL l)).eW≠0 then ((d.app (encL l)).sync,s,(d.app (encL l)).eW) else ((d.app (encL l)).sync,(stepsF s (l.take k)).1,0):=by
 rw [List.take_of_length_le (by omega)] at h ⊢;rw [saveF,if_neg (by rw [ha]; decide),if_neg (by rw [h]; decide),if_neg (by omega)]
theorem abG (hk:(l.length:Int)<=k) (ha:l.all recOk=true) (h:(stepsF s (l.take k)).2=0) (hl:¬ (l.length:Int)=0) (h1:¬ d.jB (encL l)=0):saveF d s l=(d.app (encL l),s,d.jB (encL l)):=by
 have e:d.app (encL l)=d:=by
  unfold Dsk.app Dsk.jB at *;grind
 rw [Xr hk ha h hl,if_pos h1,e]
theorem abJ (hk:(l.length:Int)<=k) (ha:l.all recOk=true) (h:(stepsF s (l.take k)).2=0) (hl:¬ (l.length:Int)=0) (h1:d.jB (encL l)=0) (h2:¬ (d.app (encL l)).eW=0):saveF d s l=((d.app (encL l)).sync,s,(d.app (encL l)).eW):=by
 rw [Xr hk ha h hl,if_neg (ac9.2 h1),if_pos h2]
theorem aaj (hk:(l.length:Int)<=k) (ha:l.all recOk=true) (h:(stepsF s (l.take k)).2=0) (hl:¬ (l.length:Int)=0) (h1:d.jB (encL l)=0) (h2:(d.app (encL l)).eW=0):saveF d s l=((d.app (encL l)).sync,(stepsF s (l.take k)).1,0):=by
 rw [Xr hk ha h hl,if_neg (ac9.2 h1),if_neg (ac9.2 h2)]
variable {x:List UInt8}
theorem app_1 (h:d.OK):0<=(d.app x).synced:=(Cl h).1
theorem Tv (h:d.OK):(d.app x).synced<=((d.app x).b.length:Int):=(Cl h).2.1
theorem Vc (h:d.OK):(d.app x).b.length<=65536:=(Cl h).2.2
theorem Oh (h:(l.take k).all recOk=true) (hr:l[k]? = some r) (h2:(aH r).2=0):(l.take (k+1)).all recOk=true:=acH h hr (dq.1 h2)
end
def QY (s:Stable) (l:List Record) (sy:Int) (dn:Bool) (dm:Bool) (kp:Int) (bs:List UInt8):List (Nat × LI):=[(3,{ σ:=Nat,F:=fun k=>([(0,one (.ptr 0 0)),(2,one (.fz (.nm .record) (l))),(4,one (.ptr 2 0)),(6,one (.ptr 3 0)),(8,one (.own 4)),(20,one (.fz (.nm .record) (l))),(21,one (.int (l).length)),(22,one (.int k))],[.box 147 ([.own 1,.int ((sy)),.bool (.atom ((dn))),.bool (.atom ((dm))),.int ((kp))]),.row 5 .u8 ((bs)),.box 64 (cellsOf (.nm .stable) (s)),.box 64 (cellsOf (.nm .stable) (sta0)),.row 5 .u8 ((encL (l.take k)))]),J:=fun k=>k<=l.length/\(l.take k).all recOk=true,μ:=fun k=>(l).length - k }),(15,{ σ:=Nat,F:=fun k=>([(0,one (.ptr 0 0)),(2,one (.fz (.nm .record) (l))),(4,one (.ptr 2 0)),(6,one (.ptr 3 0)),(8,one (.own 4)),(14,one (.ptr 5 0)),(52,one (.fz (.nm .record) (l))),(53,one (.int (l).length)),(54,one (.int k))],[.box 147 ([.own 1,.int ((sy)),.bool (.atom ((dn))),.bool (.atom ((dm))),.int ((kp))]),.row 5 .u8 ((bs)),.box 64 (cellsOf (.nm .stable) (s)),.box 64 (cellsOf (.nm .stable) (sta0)),.row 5 .u8 ((encL l)),.box 64 (cellsOf (.nm .stable) ((stepsF s (l.take k)).1))]),J:=fun k=>k<=l.length/\l.all recOk=true/\(stepsF s (l.take k)).2=0,μ:=fun k=>(l).length - k })]
noncomputable def Aa:Kn:=aI (ae (kC (aW 0 0)) (ae (kT (.nm .stable)) (ae (kC (cL (.nm .record))) au))) (aA (dB 147 (ax (eN 1) (ax cI (ax cB (ax cB (ax cI dt)))))) (aA (eO 5 .u8) aw)) fun (_,s,l,_) ((_,sy,dn,dm,kp,_),bs,_)=>⟨[(Dsk.mk bs sy dn dm kp).OK,s.log.length<=10000,l.length<=1000],[.agg (cellsOf (.nm .stable) ((saveF (Dsk.mk bs sy dn dm kp) s l).2.1)),.c (.int (((saveF (Dsk.mk bs sy dn dm kp) s l).2.2)))],some ([.box 147 ([.own 1,.int (((saveF (Dsk.mk bs sy dn dm kp) s l).1.synced)),.bool (.atom (((saveF (Dsk.mk bs sy dn dm kp) s l).1.down))),.bool (.atom (((saveF (Dsk.mk bs sy dn dm kp) s l).1.doomed))),.int (((saveF (Dsk.mk bs sy dn dm kp) s l).1.keep))]),.row 5 .u8 (((saveF (Dsk.mk bs sy dn dm kp) s l).1.b))]),false⟩
set_option maxRecDepth 8000 in
theorem Ig:CK 87 Aa:=ah fun (_,s,l,_) ((_,sy,dn,dm,kp,_),bs,_) hp=>by
 have h0:=bV hp;have h1:=bV (eG hp);have h2:=bV (eG (eG hp));refine bu CQ (QY s l sy dn dm kp bs) Tryz.func87 (?_:(fun (q11:Dsk)=>(fun (q10:Prop)=>(fun (q9:Prop)=>(fun (q8:Prop)=>(fun (q7:Prop)=>(fun (q6:Prop)=>(fun (q5:Int)=>(fun (q4:Int)=>(fun (q3:Nat)=>(fun (q12:Int)=>(fun (q2:Int)=>(fun (q1:Dsk)=>(fun (q13:Dsk)=>(fun (q0:Dsk × Stable × Int)=>(fun (q18:Stable)=>(fun (q17:Int)=>(fun (q16:Dsk)=>(fun (q15:Prop)=>(fun (q14:Prop)=>bU s (l.length*48<=140737488355328->∃ (s0:Nat),(q10/\q10/\q5=q12/\q2=(↑s0:Int)/\sy=sy/\dn=dn/\dm=dm/\kp=kp/\bs=bs/\aE s s (q2=sta0.floor/\q2=sta0.term/\q2=sta0.vote/\sta0.log=[]/\encL (List.take s0 l)=[]))/\(s0<=q3/\(List.take s0 l).all recOk=true)/\∀ (s_1:Nat),s_1<=q3/\(List.take s_1 l).all recOk=true->((↑s_1:Int)<q12->q2<=(↑s_1:Int)/\(↑s_1:Int)<q5/\∀ (x:Record),(fun (q20:Int)=>(fun (q19:List UInt8 × Int)=>l[s_1]? = some x->dJ x ((aH x).fst.length*1<=140737488355328->I64 q20->(¬q20=q2->q6->q7->q8->aE s q18 (q20=q17/\q14))/\(q20=q2->q19.fst.length*1<=140737488355328->I64 q19.snd->(¬q19.snd=q2->q6->q7->q8->aE s q18 (q19.snd=q17/\q14))/\(q19.snd=q2->((encL (List.take s_1 l)).length+q19.fst.length)*1<=140737488355328/\I64 ((↑s_1:Int)+1)/\∃ (s':Nat),(q10/\q10/\q12=q12/\(↑s_1:Int)+1=(↑s':Int)/\sy=sy/\dn=dn/\dm=dm/\kp=kp/\bs=bs/\aE s s (aE sta0 sta0 (encL (List.take s_1 l)++q19.fst=encL (List.take s' l))))/\(s' <= q3/\(List.take s' l).all recOk=true)/\q3 - s' < q3 - s_1)))) (n_ (aH x).fst)) (aH x).snd)/\(q12<=(↑s_1:Int)->q6->q7->q8->∃ (s0:Nat),(q10/\q10/\q5=q12/\q2=(↑s0:Int)/\sy=sy/\dn=dn/\dm=dm/\kp=kp/\bs=bs/\aE s s (aE sta0 sta0 (encL (List.take s_1 l)=encL l/\dI s (stepsF s (List.take s0 l)).fst)))/\(s0<=q3/\q9/\(stepsF s (List.take s0 l)).snd=q2)/\∀ (s_2:Nat),(fun (q21:Stable)=>s_2<=q3/\q9/\(stepsF s (List.take s_2 l)).snd=q2->((↑s_2:Int)<q12->q2<=(↑s_2:Int)/\(↑s_2:Int)<q5/\∀ (x:Record),(fun (q22:Int)=>l[s_2]? = some x->dJ x (q21.log.length<=1000000/\bU (aL q21 x).fst (I64 q22->(¬q22=q2->q6->q7->q8->aE s q18 (q22=q17/\q14))/\(q22=q2->I64 ((↑s_2:Int)+1)/\∃ (s':Nat),(q10/\q10/\q12=q12/\(↑s_2:Int)+1=(↑s':Int)/\sy=sy/\dn=dn/\dm=dm/\kp=kp/\bs=bs/\aE s s (aE sta0 sta0 (encL l=encL l/\dI (aL q21 x).fst (stepsF s (List.take s' l)).fst)))/\(s' <= q3/\q9/\(stepsF s (List.take s' l)).snd=q2)/\q3 - s' < q3 - s_2)))) (aL q21 x).snd)/\(q12<=(↑s_2:Int)->(q5=q2->aE q21 q18 (q2=q17/\q14))/\(¬q5=q2->(q2<=sy/\sy<=(↑bs.length:Int)/\bs.length<=65536)/\(I64 q4->(¬q4=q2->q6->q7->q8->aE s q18 (q4=q17/\q1.synced=q16.synced/\q1.down=q16.down/\q1.doomed=q16.doomed/\q1.keep=q16.keep/\q1.b=q16.b))/\(q4=q2->(q2<=q1.synced/\q1.synced<=(↑q1.b.length:Int)/\q1.b.length<=65536)/\(I64 q1.eW->(¬q1.eW=q2->q6->q7->q8->aE s q18 (q1.eW=q17/\q15))/\(q1.eW=q2->aE q21 q18 (q2=q17/\q15)))))))) (stepsF s (List.take s_2 l)).fst))) (sy=q16.synced/\dn=q16.down/\dm=q16.doomed/\kp=q16.keep/\bs=q16.b)) (q13.synced=q16.synced/\q13.down=q16.down/\q13.doomed=q16.doomed/\q13.keep=q16.keep/\q13.b=q16.b)) q0.fst) q0.snd.snd) q0.snd.fst) (saveF q11 s l)) q1.sync) (q11.app (encL l))) 0) (↑q3:Int)) l.length) (q11.jB (encL l))) (↑l.length:Int)) (I64 s.floor)) (I64 s.term)) (I64 s.vote)) (l.all recOk=true)) (l=l)) (Dsk.mk bs sy dn dm kp))
 have hO:=h0;obtain ⟨o1,o2,o3⟩:=h0;dsimp only at o1 o2 o3;(repeat' with_reducible first|apply bd|refine ba ?_|intro)
 all_goals try (refine ⟨0,?_⟩; (repeat' with_reducible first|apply bd|refine ba ?_|intro))
 all_goals try (first | (refine ⟨‹Nat› + 1,?_⟩; (repeat' with_reducible first|apply bd|refine ba ?_|intro) <;> (first | exact bq | (with_reducible exact acr ab ab) | (with_reducible exact Oh ab ab ab) | (with_reducible exact Tf h2 ab ab) | (with_reducible exact abw ab ab) | (with_reducible exact aax ab) | (with_reducible exact abt h1 h2) | (with_reducible exact abM ab ab) | (with_reducible exact (tF ab ab ab).1) | (with_reducible exact app_1 hO) | (with_reducible exact Tv hO) | (with_reducible exact Vc hO) | (with_reducible exact (congrArg Stable.floor (tF ab ab ab).2).symm) | (with_reducible exact (congrArg Stable.term (tF ab ab ab).2).symm) | (with_reducible exact (congrArg Stable.vote (tF ab ab ab).2).symm) | (with_reducible exact (congrArg Stable.log (tF ab ab ab).2).symm) | (rw [abr (d:=Dsk.mk bs sy dn dm kp) ab ab] <;> rfl) | (rw [aaw (d:=Dsk.mk bs sy dn dm kp) ab ab ab ab] <;> rfl) | (rw [abG (d:=Dsk.mk bs sy dn dm kp) ab ab ab ab ab] <;> rfl) | (rw [abJ (d:=Dsk.mk bs sy dn dm kp) ab ab ab ab ab ab] <;> rfl) | (rw [aaj (d:=Dsk.mk bs sy dn dm kp) ab ab ab ab ab ab] <;> rfl) | (rw [abE (d:=Dsk.mk bs sy dn dm kp) (k:=‹Nat›) ab] <;> rfl) | exact rfl); done) | (refine ⟨0,?_⟩; (repeat' with_reducible first|apply bd|refine ba ?_|intro)))
 all_goals try (refine ⟨‹Nat› + 1,?_⟩; (repeat' with_reducible first|apply bd|refine ba ?_|intro))
 all_goals (first | exact bq | (with_reducible exact acr ab ab) | (with_reducible exact Oh ab ab ab) | (with_reducible exact Tf h2 ab ab) | (with_reducible exact abw ab ab) | (with_reducible exact aax ab) | (with_reducible exact abt h1 h2) | (with_reducible exact abM ab ab) | (with_reducible exact (tF ab ab ab).1) | (with_reducible exact app_1 hO) | (with_reducible exact Tv hO) | (with_reducible exact Vc hO) | (with_reducible exact (congrArg Stable.floor (tF ab ab ab).2).symm) | (with_reducible exact (congrArg Stable.term (tF ab ab ab).2).symm) | (with_reducible exact (congrArg Stable.vote (tF ab ab ab).2).symm) | (with_reducible exact (congrArg Stable.log (tF ab ab ab).2).symm) | (rw [abr (d:=Dsk.mk bs sy dn dm kp) ab ab] <;> rfl) | (rw [aaw (d:=Dsk.mk bs sy dn dm kp) ab ab ab ab] <;> rfl) | (rw [abG (d:=Dsk.mk bs sy dn dm kp) ab ab ab ab ab] <;> rfl) | (rw [abJ (d:=Dsk.mk bs sy dn dm kp) ab ab ab ab ab ab] <;> rfl) | (rw [aaj (d:=Dsk.mk bs sy dn dm kp) ab ab ab ab ab ab] <;> rfl) | (rw [abE (d:=Dsk.mk bs sy dn dm kp) (k:=‹Nat›) ab] <;> rfl) | exact rfl)
noncomputable def ZN:bE:=(aK 87 Aa aaq)
theorem pL:ay Tryz.prog (al tyT) ZN:=(ag Ig CQ)
variable {l:List Entry}
theorem acI {x:Entry} (h:l[k]? = some x):l.take k++[x]=l.take (k+1):=(ai h).symm
theorem acN (h:(l.length:Int)<=k):l.take k=l:=List.take_of_length_le (by omega)
def Hi (l:List Entry):List (Nat × LI):=[(3,{ σ:=Nat,F:=fun k=>([(3,one (.own 0)),(6,one (.fz (.nm .entry) (l))),(7,one (.int (l).length)),(8,one (.int k))],[.row 52 (.nm .entry) ((l.take k))]),J:=fun k=>k<=l.length,μ:=fun k=>(l).length - k })]
noncomputable def AE:Kn:=aI au aw fun _ _=>⟨[],[.agg (cellsOf (.nm .state) (State.mk 1 1 0 0 [] [] []))],none,false⟩
theorem JV:CK 46 AE:=ah fun _ _ _=>by
 refine av pL [] Tryz.func46 (?_:(1:Int)=1/\(1:Int)=1/\(0:Int)=0/\(0:Int)=0 /\ @Eq (List (den (Sh.nm NT.sess))) [] [] /\ @Eq (List (den (Sh.nm NT.opn))) [] [] /\ @Eq (List (den (Sh.nm NT.snap))) [] []);exact ⟨rfl,rfl,rfl,rfl,rfl,rfl,rfl⟩
noncomputable def uN:Kn:=aI (ae (kC (aW 0 0)) (ae (kC cI) (ae (kC cI) au))) wS fun (_,kd,to,_) n=>⟨[],[.agg (cellsOf (.nm .letter) (qh n.c kd to))],none,false⟩
theorem FK:CK 51 uN:=ah fun (_,kd,to,_) n _=>by
 refine av pL [] Tryz.func51 (?_:(fun q0=>I64 kd->I64 to->kd=q0.kind/\n.c.me=q0.frm/\to=q0.to/\n.c.st.term=q0.term/\0=q0.a/\0=q0.b/\0=q0.c/\n.c.bin=q0.bin/\false=q0.ok/\q0.l=[]) (qh n.c kd to));(repeat' with_reducible first|apply bd|refine ba ?_|intro)
 all_goals first | exact bq | rfl
noncomputable def qS:Kn:=aI (ae (kC (cL (.nm .entry))) au) aw fun (l,_) _=>⟨[],[.c (.fz (.nm .entry) ((l)))],none,false⟩
theorem A_:CK 60 qS:=ah fun (l,_) _ _=>by
 refine av pL (Hi l) Tryz.func60 (?_:(fun (q0:Nat)=>l.length*32<=140737488355328->∃ (s0:Nat),(l=l/\(↑l.length:Int)=(↑q0:Int)/\0=(↑s0:Int)/\List.take s0 l=[])/\s0<=q0/\∀ (s:Nat),s<=q0->((↑s:Int)<(↑q0:Int)->0<=(↑s:Int)/\(↑s:Int)<(↑l.length:Int)/\∀ (x:Entry),(fun (q1:Prop)=>l[s]? = some x->I64 x.term->q1->(q1->((List.take s l).length+[x].length)*32<=140737488355328)/\(q1->I64 ((↑s:Int)+1)/\∃ (s':Nat),(l=l/\(↑q0:Int)=(↑q0:Int)/\(↑s:Int)+1=(↑s':Int)/\List.take s l++[x]=List.take s' l)/\s' <= q0/\q0 - s' < q0 - s)) (x.b.length*1<=140737488355328))/\((↑q0:Int)<=(↑s:Int)->List.take s l=l)) l.length);iterate 3 ((all_goals (repeat' with_reducible first|apply bd|refine ba ?_|intro)); (all_goals try (first | exact bq | exact rfl | exact (acI ab) | exact (acN ab) | (simp only [List.length_take,List.length_cons,List.length_nil]; omega))); all_goals try first | refine ⟨‹Nat› + 1,?_⟩ | refine ⟨0,?_⟩)
noncomputable def Ug:bE:=(aK 60 qS (aK 51 uN (aK 46 AE ZN)))
theorem mB:ay Tryz.prog (al tyT) Ug:=(ag A_ (ag FK (ag JV pL)))
variable {n:NdC}
theorem acF (h:¬ (k:Int)=n.me):jj n k++[(k:Int)]=jj n (k+1):=by
 simp [jj,List.range_succ,h]
theorem abI (h:(k:Int)=n.me):jj n k=jj n (k+1):=by
 simp [jj,List.range_succ,h]
theorem aab (h1:k<=n.many.toNat) (h:n.many<=k):jj n k=cz n:=by
 unfold cz; congr 1; omega
theorem pJ:(jj n k).length<=k:=by
 unfold jj;refine Nat.le_trans (List.length_filter_le _ _) ?_;simp
def NC (n:Nd):List (Nat × LI):=[(3,{ σ:=Nat,F:=fun k=>([(0,one (.ptr 0 0)),(3,one (.own 8)),(8,one (.int n.c.many)),(9,one (.int k))],(mI (n)++[.row 3 .int ((jj n.c k))])),J:=fun k=>k<=n.c.many.toNat,μ:=fun k=>n.c.many.toNat - k })]
noncomputable def uW:Kn:=aI (ae (kC (cL .int)) au) aw fun (l,_) _=>⟨[],[.c (.own 0)],some ([.row 3 .int ((l))]),true⟩
theorem uj:CK 75 uW:=ah fun (l,_) _ _=>by
 refine dj mB [] Tryz.func75 (?_:(fun q0=>q0->∀ (b:Bool),(b=true->l=[])->(b=true->l=[])/\(b=false->q0/\l=l)) (l.length*8<=140737488355328));exact fun h b hb=>⟨hb,fun _=>⟨h,rfl⟩⟩
theorem Fo (l:List Int):Sat Tryz.prog (al tyT) 75 [.c (.fz .int (l))] [] ⟨[],[.c (.own 0)],some ([.row 3 .int ((l))]),true⟩:=uj _ _ _ rfl (by simp)
noncomputable def Il:Kn:=aI (ae (kT (.nm .letter)) au) aw fun (x,_) _=>⟨[],[.agg (cellsOf (.nm .letter) (x))],none,false⟩
theorem Yw:CK 59 Il:=ah fun (x,_) _ _=>by
 refine av mB [] Tryz.func59 (?_:aS x (x.l.length*32<=140737488355328->HN x x));(repeat' with_reducible first|apply bd|refine ba ?_|intro)
 all_goals first | exact bq | rfl
noncomputable def vC:Kn:=aI (ae (kC (aW 0 0)) au) wS fun _ n=>⟨[n.c.many<=5],[.c (.fz .int ((cz n.c)))],none,false⟩
theorem Ge:CK 50 vC:=ah fun _ n hp=>by
 have h0:=bV hp;refine av mB (NC n) Tryz.func50 (?_:(fun (q0:Int)=>(fun (q1:Nat)=>∃ (s0:Nat),(q0=q0/\0=(↑s0:Int)/\tH n n (jj n.c s0=[]))/\s0<=q1/\∀ (s:Nat),(fun (q2:Int)=>s<=q1->((↑s:Int)<q0->(¬(↑s:Int)=n.c.me->((jj n.c s).length+[(↑s:Int)].length)*8<=140737488355328/\I64 q2/\∃ (s':Nat),(q0=q0/\q2=(↑s':Int)/\tH n n (jj n.c s++[(↑s:Int)]=jj n.c s'))/\s' <= q1/\q1 - s' < q1 - s)/\((↑s:Int)=n.c.me->I64 q2/\∃ (s':Nat),(q0=q0/\q2=(↑s':Int)/\tH n n (jj n.c s=jj n.c s'))/\s' <= q1/\q1 - s' < q1 - s))/\(q0<=(↑s:Int)->jj n.c s=cz n.c)) ((↑s:Int)+1)) q0.toNat) n.c.many);iterate 3 ((all_goals (repeat' with_reducible first|apply bd|refine ba ?_|intro)); (all_goals try (first | exact bq | exact rfl | exact (acF ab) | exact (abI ab) | exact (aab ab ab) | (have:=pJ (n:=n.c) (k:=‹Nat›); simp only [List.length_cons,List.length_nil]; omega))); all_goals try first | refine ⟨‹Nat› + 1,?_⟩ | refine ⟨0,?_⟩)
noncomputable def TC:bE:=(aK 50 vC (aK 59 Il (aK 75 uW Ug)))
theorem MO:ay Tryz.prog (al tyT) TC:=(ag Ge (ag Yw (ag uj mB)))
end Go.Proofs.YticbaadnibdbkaaGreat
namespace Go.Proofs.YticbaadnibdbkaaGreat
open Go.RowKit Go.Proofs Go.Shelf Go.Sort
def wI (w w1:World) (l:List Int) (g:Nat) (sp:List Value):Prop:=Kp [] w w1/\w.heap.size<=g/\w1.heap[g]? = some (.cells (List.toArray (l.map (Value.int .i64)++sp)) 3 (0,0))
variable {w:World} {l:List Int}
theorem Cd {G:Gl} {ρ:List RE} {v:Value} (hG:G.shp=al tyT) (hR:Rep G ρ [] w) (h1:Rd (cx G ρ w) ρ (.fz .int l) v) (hl:l.length≠0) :
  jv Tryz.prog 75 #[v] w fun r w1=>∃ g cap sp,r = .slice (some ⟨g,0,none⟩) l.length cap/\wI w w1 l g sp:=by
 have hρ:ρ=[]:=acT hR.obj.length.symm;subst hρ;refine ((Fo l).2 G [] w [v] hG hR (.cons h1 .nil)).mono fun r w1 ⟨us,e,ρ',hR',hx,hblk,hus,hk⟩=>?_;have hH:getO [AO.row 3 .int l] 0 = .row 3 .int l:=rfl;cases hus with | cons a b=>?_
 cases b;rcases bl hR' hH with ⟨_,h5⟩ | ⟨g,cap,cells,sp,h5,h6,h7,h8,h9,h10⟩
 ·grind
 rcases a with ⟨_,_,_,_,h3,rfl⟩ | ⟨h3,_⟩;case inr=>rw [h5] at h3; cases h3
 rw [h5] at h3; cases h3;obtain ⟨rfl,hI⟩:=lV h7;refine ⟨g,cap,sp,e,(hk rfl).1,?_,h6⟩;rcases Nat.lt_or_ge g w.heap.size with h | h
 ·exact absurd ⟨0,_,h5,rfl⟩ (hx.old g h (fun ⟨i,r,h,_⟩=>by simp at h)).1
 exact h
variable {sp:List Value} {w1:World}
theorem BD {g cap:Nat} (h:wI w w1 l g sp) (h0:l.length<=12) :
  Calls Tryz.prog 265 #[.slice (some ⟨g,0,none⟩) l.length cap,.func (.func 266) #[] #[]] w1 fun e w2=>e = .returned (.tuple #[])/\wI w w2 (nC l) g sp:=by
 obtain ⟨hk,hg,h6⟩:=h;refine (Mb h0 h6).mono fun e w2 ⟨he,hk2,h7⟩=>⟨he,⟨hk2.os.trans hk.os,hk2.tape.trans hk.tape,hk2.output.trans hk.output,Nat.le_trans hk.size hk2.size,fun b hb hn=>?_⟩,hg,h7⟩;exact (hk2.block b (acW hb hk.size) (by simp; omega)).trans (hk.block b hb hn)
theorem BY {g i:Nat} (h:wI w w1 l g sp) (hi:i<l.length):w1.cell? ⟨g,i,none⟩=some (.int .i64 (l.getD i 0)):=by
 rw [Lib.cell_of_heap h.2.2,List.getElem?_toArray,List.getElem?_append_left (by simpa using hi),List.getElem?_map,List.getElem?_eq_getElem hi,List.getD_eq_getElem?_getD,List.getElem?_eq_getElem hi]; rfl
theorem F_ (l:List Int) (h0:l.length<=12):Sat Tryz.prog (al tyT) 228 [.c (.fz .int l)] [] ⟨[l.length<=12],[.c (.int (gb l))],none,false⟩:=by
 refine ⟨⟨_,Tryz.func228,by decide,by kernel_rfl⟩,fun G ρ w vs hG hR hvs=>?_⟩;cases hvs with | cons h1 hvs=>?_
 cases hvs;have hc:=Cd (l:=l) hG hR h1;replace h1:Pd (cx G ρ w) (.fz .int l) _:=h1;cases h1 with | fz k1 k2 k3 k4 k5=>?_
 rename_i a k cells;have hI:=(lV k4).2;by_cases hl:l.length=0
 ·clear hc;go_enter Tryz.func228,Tryz.ntmps228
  have hl':(l.length:Int)=0:=by omega
  go_wp2
  go_ret
  refine ⟨_,rfl,[_],rfl,?_,?_⟩
  ·exact Kp.refl w
  refine .cons ?_ .nil;have e:gb l=0:=if_pos hl;show Pd (cx G ρ w) (.int (gb l)) (.int .i64 0);rw [e]; exact .int ⟨by decide,by decide⟩
 replace hc:=hc hl;go_enter Tryz.func228,Tryz.ntmps228
 have hl':¬ (l.length:Int)=0:=by omega
 have h4:(l.length:Int).tdiv 2=((l.length / 2:Nat):Int):=by rw [Int.tdiv_eq_ediv_of_nonneg (by omega)]; omega
 have h5:0<=(l.length:Int).tdiv 2:=by omega
 have h6:(l.length:Int).tdiv 2<(l.length:Int):=by omega
 have h7:I64 ((l.length:Int).tdiv 2):=bI (by omega) (by omega);go_wp2_with (first | (go_at_call 75; refine ahr hc ?_; rintro e w1 ⟨_,rfl,g,cap,sp,rfl,hw1⟩) | (go_at_call 265; refine ahr (BD hw1 h0) ?_; rintro e w2 ⟨rfl,hw2⟩; have hcl:=BY (i:=l.length / 2) hw2 (by rw [oD]; omega)))
 go_ret
 refine ⟨_,rfl,[_],rfl,hw2.1,.cons ?_ .nil⟩;have e:gb l=(nC l).getD (l.length / 2) 0:=if_neg hl;show Pd (cx G ρ w2) (.int (gb l)) (.int .i64 ((nC l).getD (l.length / 2) 0));rw [e];refine .int (hI _ ((List.mergeSort_perm l (fun a b=>decide (b<=a))).mem_iff.1 (show _ ∈ nC l from ?_)));have hlt:l.length / 2<(nC l).length:=by rw [oD]; omega
 rw [List.getD_eq_getElem?_getD,List.getElem?_eq_getElem hlt];exact aee hlt
end Go.Proofs.YticbaadnibdbkaaGreat
namespace Go.Proofs.YticbaadnibdbkaaGreat
open Go.RowKit
theorem LM (l:List Int) (h0:l.length<=12):Sat Tryz.prog (al tyT) 228 [.c (.fz .int (l))] [] ⟨[l.length<=12],[.c (.int ((gb l)))],none,false⟩:=F_ l h0
noncomputable def xO:Kn:=aI (ae (kC (cL .int)) au) aw fun (l,_) _=>⟨[l.length<=12],[.c (.int ((gb l)))],none,false⟩
theorem Jf:CK 228 xO:=ah fun (l,_) _ hp=>LM l (bV hp)
noncomputable def UR:bE:=(aK 228 xO TC)
theorem qT:ay Tryz.prog (al tyT) UR:=(ag Jf MO)
theorem fW {d:Dsk} {s:Stable} {l:List Record} (h:¬ (saveF d s l).2.2=0):(saveF d s l).2.1=s:=by
 revert h;unfold saveF;repeat' split
 all_goals first | (intro _; rfl) | (intro h; exact absurd rfl h)
noncomputable def vx:Kn:=aI (ae (kT (.nm .stable)) (ae (kC (cL .int)) (ae (kC cI) au))) aw fun (s,l,k,_) _=>⟨[l.length<=12],[.c (.int ((pG s l k)))],none,false⟩
theorem Fy:CK 173 vx:=ah fun (s,l,k,_) _ hp=>by
 have h0:=bV hp;refine av qT [] Tryz.func173 (?_:(fun q0=>bU s (l.length*8<=140737488355328->I64 k->l.length<=12/\(I64 (gb l)->(k<q0->I64 (cF s.log q0))->(k<q0/\cF s.log q0=s.term->q0=pG s l k)/\(q0<=k\/¬cF s.log q0=s.term->k=pG s l k)))) (min (gb l) (↑s.log.length:Int)));(repeat' with_reducible first|apply bd|refine ba ?_|intro)
 all_goals (first | exact bq | (rw [pG,if_pos ⟨ab,ab⟩]) | (rw [pG,if_neg aJ]))
noncomputable def DU:Kn:=aI (ae (kC (aW 0 0)) (ae (kC (cL (.nm .record))) au)) wS fun (_,l,_) n=>⟨[n.d.OK,n.c.st.log.length<=10000,l.length<=1000],[.c (.int ((n.aM l)))],some ((mI ((n.save l)))),false⟩
theorem PI:CK 47 DU:=ah fun (_,l,_) n hp=>by
 have h0:=bV hp;have h1:=bV (eG hp);have h2:=bV (eG (eG hp));refine bu qT [] Tryz.func47 (?_:(fun q0=>l.length*48<=140737488355328->((0<=n.d.synced/\n.d.synced<=(↑n.d.b.length:Int)/\n.d.b.length<=65536)/\n.c.st.log.length<=10000/\l.length<=1000)/\bU q0.snd.fst (I64 q0.snd.snd->(¬q0.snd.snd=0->q0.snd.snd=n.aM l/\b_ (Nd.mk n.c q0.fst n.rp n.vs n.bn n.nx n.mt) (n.save l))/\(q0.snd.snd=0->0=n.aM l/\b_ (Nd.mk (NdC.mk n.c.me n.c.many n.c.bin q0.snd.fst n.c.role n.c.commit n.c.applied n.c.s) q0.fst n.rp n.vs n.bn n.nx n.mt) (n.save l)))) (saveF n.d n.c.st l));obtain ⟨o1,o2,o3⟩:=id h0;(repeat' with_reducible first|apply bd|refine ba ?_|intro)
 all_goals (first | exact bq | exact rfl | exact (Eq.symm ab) | exact (congrArg Stable.floor (fW ab)).symm | exact (congrArg Stable.term (fW ab)).symm | exact (congrArg Stable.vote (fW ab)).symm | exact (congrArg Stable.log (fW ab)).symm)
noncomputable def UM:bE:=(aK 47 DU (aK 173 vx UR))
theorem mJ:ay Tryz.prog (al tyT) UM:=(ag PI (ag Fy qT))
structure AJ (n q:Nd):Prop where
 eq:n.apply=q.apply
 le:0<=q.c.applied/\q.c.commit<=(q.c.st.log.length:Int)/\(q.rp.length:Int)<=q.c.applied/\q.c.st.log.length<=10000
noncomputable def Nd.ap1 (q:Nd):Nd:={ q with c:={ q.c with s:=plS q.c.bin q.c.s ((q.c.st.log.drop q.c.applied.toNat).take ((q.c.applied+1).toNat - q.c.applied.toNat)),applied:=q.c.applied+1 },rp:=q.rp++plR q.c.bin q.c.s ((q.c.st.log.drop q.c.applied.toNat).take ((q.c.applied+1).toNat - q.c.applied.toNat)) }
section
variable {n q:Nd}
theorem ad7 (h:(0<=n.c.applied/\n.c.commit<=(n.c.st.log.length:Int))/\(n.rp.length:Int)<=n.c.applied/\n.c.st.log.length<=10000):AJ n n:=⟨rfl,by omega⟩
theorem Ry (h:AJ n q):(q.c.applied+1).toNat - q.c.applied.toNat=1:=by have:=h.le; omega
theorem JQ (h:AJ n q):(plR q.c.bin q.c.s ((q.c.st.log.drop q.c.applied.toNat).take ((q.c.applied+1).toNat - q.c.applied.toNat))).length<=1:=by
 rw [Ry h,plR,Bq,List.length_take,List.length_take]; omega
theorem aey (h:AJ n q) (h1:q.c.applied<q.c.commit) (h2:pE q.c.bin ((q.c.st.log.drop q.c.applied.toNat).take ((q.c.applied+1).toNat - q.c.applied.toNat))=0):AJ n q.ap1:=by
 have hl:=h.le;have hk:=JQ h;refine ⟨?_,?_,hl.2.1,?_,hl.2.2.2⟩
 ·rw [h.eq,Nd.apply,show (q.c.commit - q.c.applied).toNat=(q.c.commit - (q.c.applied+1)).toNat+1 by omega,Nd.iy,if_pos h1];rw [Ry h] at h2;rw [if_pos h2,Nd.apply,Nd.ap1,Ry h]
 ·show 0<=q.c.applied+1;omega
 show (((q.rp++_).length:Nat):Int)<=q.c.applied+1;grind
theorem agf (h1:q.c.applied<q.c.commit):(q.c.commit - (q.c.applied+1)).toNat<(q.c.commit - q.c.applied).toNat:=by omega
theorem aeG (h:AJ n q) (h1:q.c.applied<q.c.commit) (h2:¬ pE q.c.bin ((q.c.st.log.drop q.c.applied.toNat).take ((q.c.applied+1).toNat - q.c.applied.toNat))=0):n.apply=q:=by
 rw [Ry h] at h2;rw [h.eq,Nd.apply,show (q.c.commit - q.c.applied).toNat=(q.c.commit - (q.c.applied+1)).toNat+1 by omega,Nd.iy,if_pos h1,if_neg h2]
theorem afh (h:AJ n q) (h1:q.c.commit<=q.c.applied):n.apply=q:=by
 rw [h.eq,Nd.apply,show (q.c.commit - q.c.applied).toNat=0 by omega,Nd.iy]
theorem aeF (h:AJ n q):0<=q.c.applied:=h.le.1
theorem afB (h:AJ n q) (h1:q.c.applied<q.c.commit):q.c.applied+1<=(q.c.st.log.length:Int):=by have:=h.le; omega
theorem ad1 (h:AJ n q) (h1:q.c.applied<q.c.commit):I64 (q.c.applied+1):=by have:=h.le; exact bI (by omega) (by omega)
theorem aem (h:AJ n q) (h1:q.c.applied<q.c.commit):(q.rp.length+(plR q.c.bin q.c.s ((q.c.st.log.drop q.c.applied.toNat).take ((q.c.applied+1).toNat - q.c.applied.toNat))).length)*16<=140737488355328:=by
 have:=h.le; have:=JQ h; omega
end
def siteF (n:Nd):Site:=if n.d.down=true then ⟨false,0,0,0,0,0,0,0,[],⟨0,0,0,0,[],[],[]⟩⟩ else ⟨true,n.c.role,n.c.bin,n.c.st.floor,n.c.st.term,n.c.st.vote,n.c.commit,n.c.applied,n.c.st.log,n.c.s⟩
variable {n:Nd}
theorem Vl (h:n.d.down=true):siteF n=⟨false,0,0,0,0,0,0,0,[],⟨0,0,0,0,[],[],[]⟩⟩:=if_pos h
theorem WQ (h:n.d.down=false):siteF n=⟨true,n.c.role,n.c.bin,n.c.st.floor,n.c.st.term,n.c.st.vote,n.c.commit,n.c.applied,n.c.st.log,n.c.s⟩:=if_neg (by rw [h]; decide)
theorem kN {s:Stable} {r:Route} (h:¬ (gh s r).2=0):(gh s r).1=mD:=by
 revert h;unfold gh;grind
section
variable {n:Nd} {k t:Int}
end
def OQ (n:Nd):List (Nat × LI):=[(0,{ σ:=Nd,F:=fun q=>([(0,one (.ptr 0 0))],(mI (q))),J:=fun q=>AJ n q,μ:=fun q=>(q.c.commit - q.c.applied).toNat })]
noncomputable def uz:Kn:=aI (ae (kC (aW 0 0)) (ae (kC cI) au)) wS fun (_,k,_) n=>⟨[0<=k/\k<(n.nx.length:Int)],[.agg (cellsOf (.nm .letter) ((ln n k).1)),.c (.int (((ln n k).2)))],none,false⟩
theorem FE:CK 71 uz:=ah fun (_,k,_) n hp=>by
 have h0:=bV hp;refine av mJ [] Tryz.func71 (?_:(fun q2=>(fun q1=>(fun q0=>I64 k->(q2<=k/\k<(↑n.nx.length:Int))/\(I64 (n.nx.getD k.toNat (ao Sh.int))->aS q0.fst (I64 q0.snd->(¬q0.snd=q2->q2=q1.kind/\q2=q1.frm/\q2=q1.to/\q2=q1.term/\q2=q1.a/\q2=q1.b/\q2=q1.c/\q2=q1.bin/\false=q1.ok/\q1.l=[]/\q0.snd=(ln n k).snd)/\(q0.snd=q2->aS q0.fst (xV q0.fst q1 (q2=(ln n k).snd)))))) (gh n.c.st (Route.mk n.c.me k (n.nx.getD k.toNat (ao Sh.int)) n.c.commit n.c.bin))) (ln n k).fst) (0:Int));(repeat' with_reducible first|apply bd|refine ba ?_|intro)
 all_goals (first | exact bq | exact rfl | exact (congrArg Letter.kind (kN (by assumption))).symm | exact (congrArg Letter.frm (kN (by assumption))).symm | exact (congrArg Letter.to (kN (by assumption))).symm | exact (congrArg Letter.term (kN (by assumption))).symm | exact (congrArg Letter.a (kN (by assumption))).symm | exact (congrArg Letter.b (kN (by assumption))).symm | exact (congrArg Letter.c (kN (by assumption))).symm | exact (congrArg Letter.bin (kN (by assumption))).symm | exact (congrArg Letter.ok (kN (by assumption))).symm | exact (congrArg Letter.l (kN (by assumption))).symm | exact (Eq.symm (by assumption)) | exact (congrArg Letter.l (kN (by assumption))))
noncomputable def DN:Kn:=aI (ae (kC (aW 0 0)) au) wS fun _ n=>⟨[],[.agg (cellsOf (.nm .site) (siteF n))],none,false⟩
theorem OX:CK 17 DN:=ah fun _ n _=>by
 refine av mJ [] Tryz.func17 (?_:(fun q1=>(fun q0=>(fun q2=>(n.d.down=true->false=q0.up/\q1=q0.role/\q1=q0.binary/\q1=q0.floor/\q1=q0.term/\q1=q0.vote/\q1=q0.commit/\q1=q0.applied/\q0.log=[]/\q1=q2.version/\q1=q2.next/\q1=q2.keep/\q1=q2.quota/\q2.sess=[]/\q2.opens=[]/\q2.snaps=[])/\(n.d.down=false->n.c.st.log.length*32<=140737488355328->I64 n.c.s.version->I64 n.c.s.next->I64 n.c.s.keep->I64 n.c.s.quota->Xq (Site.mk true n.c.role n.c.bin n.c.st.floor n.c.st.term n.c.st.vote n.c.commit n.c.applied n.c.st.log n.c.s) q0)) q0.state) (siteF n)) (0:Int));(repeat' with_reducible first|apply bd|refine ba ?_|intro)
 all_goals (first | exact bq | (rw [Vl (n:=n) ab] <;> rfl) | (rw [WQ (n:=n) ab] <;> rfl))
noncomputable def zm:Kn:=aI (ae (kC (aW 0 0)) au) wS fun _ n=>⟨[(0<=n.c.applied/\n.c.commit<=(n.c.st.log.length:Int))/\(n.rp.length:Int)<=n.c.applied/\n.c.st.log.length<=10000],[],some ((mI ((n.apply)))),false⟩
theorem Im:CK 99 zm:=ah fun _ n hp=>by
 have h0:=bV hp;refine bu mJ (OQ n) Tryz.func99 (?_:(fun q0=>∃ s0,b_ n s0/\AJ n s0/\∀ (s:Nd),(fun q4=>(fun q3=>(fun q2=>(fun q5=>(fun q1=>(fun q6=>AJ n s->(q2<q4.commit->I64 q5/\(0<=q2/\q2<=q5/\q5<=(↑q4.st.log.length:Int))/\(I64 q6.version->I64 q6.next->I64 q6.keep->I64 q6.quota->I64 (pE q3 q1)->(¬pE q3 q1=0->b_ s n.apply)/\(pE q3 q1=0->(s.rp.length+(plR q3 q4.s q1).length)*16<=140737488355328/\I64 q5/\∃ s',b_ (Nd.mk (NdC.mk q4.me q4.many q3 q4.st q4.role q4.commit q5 q6) s.d (s.rp++plR q3 q4.s q1) s.vs s.bn s.nx s.mt) s' /\ AJ n s' /\ (s'.c.commit - s'.c.applied).toNat<(q4.commit - q2).toNat)))/\(q4.commit<=q2->b_ s n.apply)) (plS q3 q4.s q1)) (List.take (q5.toNat - q2.toNat) (List.drop q2.toNat q4.st.log))) (q2+q0)) q4.applied) q4.bin) s.c) (1:Int));obtain ⟨hp0,hp1⟩:=id h0;(repeat' with_reducible first|apply bd|refine ba ?_|intro)
 all_goals try ( refine ⟨n,?_⟩; (repeat' with_reducible first|apply bd|refine ba ?_|intro))
 all_goals try ( refine ⟨(‹Nd›).ap1,?_⟩; (repeat' with_reducible first|apply bd|refine ba ?_|intro))
 all_goals (first | exact bq | exact rfl | exact (ad7 (n:=n) h0) | exact aeF ab | exact (afB ab ab) | exact (ad1 ab ab) | exact (aem ab ab) | exact (agf ab) | exact (aey ab ab ab) | (rw [aeG ab ab ab] <;> rfl) | (rw [afh ab ab] <;> rfl))
noncomputable def Ve:bE:=(aK 99 zm (aK 17 DN (aK 71 uz UM)))
theorem mC:ay Tryz.prog (al tyT) Ve:=(ag Im (ag OX (ag FE mJ)))
section
variable {n:Nd} {l:List Int} {x:Int} {k:Nat}
theorem YX:∀ {l:List Int},(cj n l).2=0->cj n (l++[x])=if (ln n x).2=0 then ((cj n l).1++[(ln n x).1],0) else ([],(ln n x).2)
 | [],_=>by
  by_cases h:(ln n x).2=0
  ·rw [if_pos h]; simp [cj,h]
  rw [if_neg h]; simp [cj,h]
 | t :: l,h=>by
  unfold cj at h;split at h
  ·rename_i h1;split at h
   ·rename_i h2;rw [List.cons_append,cj,if_pos h1,YX h2];by_cases h3:(ln n x).2=0
    ·rw [if_pos h3,if_pos h3,if_pos rfl,cj,if_pos h1,if_pos h2]; rfl
    grind
   grind
  grind
theorem ace:∀ {l m:List Int},¬ (cj n l).2=0->cj n (l++m)=([],(cj n l).2)
 | t :: l,m,h=>by
  unfold cj at h ⊢;rw [List.cons_append];dsimp only;split at h
  ·rename_i h1;split at h
   ·grind
   rename_i h2;rw [if_neg h2,ace h2,if_neg h2,if_pos h1]
  grind
theorem MI:∀ {l:List Int},(cj n l).1.length<=l.length
 | []=>acY _
 | t :: l=>by
  have:=MI (l:=l);unfold cj;grind
theorem agp (h:n.d.down=true):cJ n=([],30):=if_pos h
theorem ady (h:n.d.down=false) (h1:¬ n.c.role=2):cJ n=([],33):=by
 rw [cJ,if_neg (by rw [h]; decide),if_neg h1]
theorem abn (h:n.d.down=false) (h1:n.c.role=2):cJ n=cj n (cz n.c):=by
 rw [cJ,if_neg (by rw [h]; decide),if_pos h1]
theorem afn (h:n.d.down=false) (h1:n.c.role=2) (hk:(cj n ((cz n.c).take k)).2=0) (hx:(cz n.c)[k]? = some x) (he:¬ (ln n x).2=0):cJ n=([],(ln n x).2):=by
 have e:cz n.c=(cz n.c).take k++[x]++(cz n.c).drop (k+1):=by
  rw [<- ai hx,List.take_append_drop]
 have e2:=YX (x:=x) hk;rw [if_neg he] at e2;rw [abn h h1,e,ace (by rw [e2]; exact he),e2]
theorem adD (h:n.d.down=false) (h1:n.c.role=2) (hk:(cj n ((cz n.c).take k)).2=0) (hl:((cz n.c).length:Int)<=k):cJ n=((cj n ((cz n.c).take k)).1,0):=by
 rw [abn h h1,List.take_of_length_le (by omega)] at *;grind
theorem aa3 (hk:(cj n ((cz n.c).take k)).2=0) (hx:(cz n.c)[k]? = some x) (he:(ln n x).2=0):(cj n ((cz n.c).take k)).1++[(ln n x).1]=(cj n ((cz n.c).take (k+1))).1/\(cj n ((cz n.c).take (k+1))).2=0:=by
 rw [ai hx,YX hk,if_pos he]; exact ⟨rfl,rfl⟩
theorem aei {y:Letter} (hm:n.c.many<=5):((cj n ((cz n.c).take k)).1.length+[y].length)*96<=140737488355328:=by
 have h1:=MI (n:=n) (l:=(cz n.c).take k);have h2:(cz n.c).length<=n.c.many.toNat:=pJ;grind
theorem TX {n:NdC} (hx:(cz n)[k]? = some x):x≠n.me/\0<=x/\x<n.many:=Pe (List.mem_iff_getElem?.2 ⟨k,hx⟩)
theorem agZ (h:n.c.role=0\/(n.nx.length:Int)=n.c.many) (h1:n.c.role=2) (hx:(cz n.c)[k]? = some x):x<(n.nx.length:Int):=by
 have:=TX hx; omega
end
section
variable {n:Nd} {c:Command}
theorem lu {b:Bool} (h:b=false):¬ b=true:=by rw [h]; decide
theorem ae4 (h:n.d.down=true):callF n c=⟨n,0,0,30⟩:=if_pos h
theorem afI (h:n.d.down=false) (h1:¬ n.c.role=2):callF n c=⟨n,0,0,33⟩:=by rw [callF,if_neg (lu h),if_pos h1]
theorem ag3 (h:n.d.down=false) (h1:n.c.role=2) (h2:¬ bB c n.c.s.version=0):callF n c=⟨n,0,0,bB c n.c.s.version⟩:=by rw [callF,if_neg (lu h),if_neg (by omega),if_pos h2]
variable (h:n.d.down=false) (h1:n.c.role=2) (h2:bB c n.c.s.version=0)
include h h1 h2
theorem adM (h3:c.kind=8) (h4:¬ c.n=n.c.s.version+1):callF n c=⟨n,0,0,1⟩:=by rw [callF,if_neg (lu h),if_neg (by omega),if_neg (by omega),if_pos ⟨h3,h4⟩]
theorem agi (h3:¬ c.kind=8\/c.n=n.c.s.version+1) (h4:c.kind=8) (h5:kg n.c.s.version n.bn=false):callF n c=⟨n,0,0,34⟩:=by rw [callF,if_neg (lu h),if_neg (by omega),if_neg (by omega),if_neg (by omega),if_pos ⟨h4,h5⟩]
variable (h3:¬ c.kind=8\/c.n=n.c.s.version+1) (h4:¬ c.kind=8\/kg n.c.s.version n.bn=true)
include h3 h4
theorem QL:callF n c=if 64<(n.c.st.log.length:Int)+1 then ⟨n,0,0,20⟩ else if ¬ (eL c n.c.st.term n.c.s.version).2=0 then ⟨n,0,0,(eL c n.c.st.term n.c.s.version).2⟩
 else let l:=[⟨3,(n.c.st.log.length:Int)+1,(eL c n.c.st.term n.c.s.version).1.term,(eL c n.c.st.term n.c.s.version).1.b⟩]
  if n.aM l=0 then ⟨n.save l,(n.c.st.log.length:Int)+1,n.c.st.term,0⟩ else ⟨n.save l,0,0,n.aM l⟩:=by
 rw [callF,if_neg (lu h),if_neg (by omega),if_neg (by omega),if_neg (by omega),if_neg];grind
theorem age (h5:64<(n.c.st.log.length:Int)+1):callF n c=⟨n,0,0,20⟩:=by rw [QL h h1 h2 h3 h4,if_pos h5]
variable (h5:(n.c.st.log.length:Int)+1<=64)
include h5
theorem aew (h6:¬ (eL c n.c.st.term n.c.s.version).2=0):callF n c=⟨n,0,0,(eL c n.c.st.term n.c.s.version).2⟩:=by rw [QL h h1 h2 h3 h4,if_neg (by omega),if_pos h6]
theorem agX (h6:(eL c n.c.st.term n.c.s.version).2=0) (h7:¬ n.aM [⟨3,(n.c.st.log.length:Int)+1,(eL c n.c.st.term n.c.s.version).1.term,(eL c n.c.st.term n.c.s.version).1.b⟩]=0):callF n c=⟨n.save [⟨3,(n.c.st.log.length:Int)+1,(eL c n.c.st.term n.c.s.version).1.term,(eL c n.c.st.term n.c.s.version).1.b⟩],0,0,n.aM [⟨3,(n.c.st.log.length:Int)+1,(eL c n.c.st.term n.c.s.version).1.term,(eL c n.c.st.term n.c.s.version).1.b⟩]⟩:=by rw [QL h h1 h2 h3 h4,if_neg (by omega),if_neg (by omega)]; exact if_neg h7
theorem adN (h6:(eL c n.c.st.term n.c.s.version).2=0) (h7:n.aM [⟨3,(n.c.st.log.length:Int)+1,(eL c n.c.st.term n.c.s.version).1.term,(eL c n.c.st.term n.c.s.version).1.b⟩]=0):callF n c=⟨n.save [⟨3,(n.c.st.log.length:Int)+1,(eL c n.c.st.term n.c.s.version).1.term,(eL c n.c.st.term n.c.s.version).1.b⟩],(n.c.st.log.length:Int)+1,n.c.st.term,0⟩:=by rw [QL h h1 h2 h3 h4,if_neg (by omega),if_neg (by omega)]; exact if_pos h7
end
section
variable {n:Nd} {x:Letter}
theorem af4 (h:¬ (bc n.c.st x).2.2=0):df n x=⟨n,[],(bc n.c.st x).2.2⟩:=if_pos h
theorem afy (h:(bc n.c.st x).2.2=0) (h1:¬ n.aM (bc n.c.st x).1=0):df n x=⟨n.save (bc n.c.st x).1,[],n.aM (bc n.c.st x).1⟩:=by rw [df,if_neg (by omega),if_pos h1]
theorem ag1 (h:(bc n.c.st x).2.2=0) (h1:n.aM (bc n.c.st x).1=0):df n x=⟨n.save (bc n.c.st x).1,[{ qh (n.save (bc n.c.st x).1).c 2 x.frm with ok:=(bc n.c.st x).2.1 }],0⟩:=by rw [df,if_neg (by omega),if_neg (by omega)]
theorem Tc {s:Stable}:(bc s x).1.length<=1000:=by
 have h:=kW (s:=s) (t:=x.term);unfold bc;grind
end
def Yy (n:Nd):List (Nat × LI):=[(7,{ σ:=Nat,F:=fun k=>([(0,one (.ptr 0 0)),(4,one (.own 8)),(21,one (.fz .int (cz n.c))),(22,one (.int (cz n.c).length)),(23,one (.int k))],(mI (n)++[.row 40 (.nm .letter) (((cj n ((cz n.c).take k)).1))])),J:=fun k=>k<=(cz n.c).length/\(cj n ((cz n.c).take k)).2=0,μ:=fun k=>(cz n.c).length - k })]
noncomputable def EO:Kn:=aI (ae (kC (aW 0 0)) au) wS fun _ n=>⟨[n.c.many<=5,n.c.role=0\/(n.nx.length:Int)=n.c.many],[.c (.fz (.nm .letter) (((cJ n).1))),.c (.int (((cJ n).2)))],none,false⟩
theorem Rz:CK 31 EO:=ah fun _ n hp=>by
 have h0:=bV hp;have h1:=bV (eG hp);refine av mC (Yy n) Tryz.func31 (?_:(fun (q2:Prop)=>(fun (q1:Int)=>(fun (q0:List Int)=>(fun (q3:Nat)=>(n.d.down=true->q2/\30=(cJ n).snd)/\(n.d.down=false->(¬n.c.role=2->q2/\33=(cJ n).snd)/\(n.c.role=2->n.c.many<=5/\(q0.length*8<=140737488355328->∃ (s0:Nat),(q0=q0/\(↑q0.length:Int)=(↑q3:Int)/\q1=(↑s0:Int)/\tH n n ((cj n (List.take s0 q0)).fst=[]))/\(s0<=q3/\(cj n (List.take s0 q0)).snd=q1)/\∀ (s:Nat),(fun (q4:List Letter)=>s<=q3/\(cj n (List.take s q0)).snd=q1->((↑s:Int)<(↑q3:Int)->q1<=(↑s:Int)/\(↑s:Int)<(↑q0.length:Int)/\∀ (x:Int),(fun (q5:Int)=>q0[s]? = some x->I64 x->(q1<=x/\x<(↑n.nx.length:Int))/\aS (ln n x).fst (I64 q5->(¬q5=q1->q2/\q5=(cJ n).snd)/\(q5=q1->(q4.length+[(ln n x).fst].length)*96<=140737488355328/\I64 ((↑s:Int)+1)/\∃ (s':Nat),(q0=q0/\(↑q3:Int)=(↑q3:Int)/\(↑s:Int)+1=(↑s':Int)/\tH n n (q4++[(ln n x).fst]=(cj n (List.take s' q0)).fst))/\(s' <= q3/\(cj n (List.take s' q0)).snd=q1)/\q3 - s' < q3 - s))) (ln n x).snd)/\((↑q3:Int)<=(↑s:Int)->q4=(cJ n).fst/\q1=(cJ n).snd)) (cj n (List.take s q0)).fst)))) q0.length) (cz n.c)) 0) ((cJ n).fst=[]));iterate 3 ((all_goals (repeat' with_reducible first|apply bd|refine ba ?_|intro)); (all_goals try (first | exact bq | exact rfl | exact (aa3 ab ab ab).1 | exact (aa3 ab ab ab).2 | exact (aei h0) | exact (TX ab).2.1 | exact (agZ h1 ab ab) | (rw [agp (n:=n) ab] <;> rfl) | (rw [ady (n:=n) ab ab] <;> rfl) | (rw [afn (n:=n) ab ab ab ab ab] <;> rfl) | (rw [adD (n:=n) ab ab ab ab] <;> rfl))); all_goals try first | refine ⟨‹Nat› + 1,?_⟩ | refine ⟨0,?_⟩)
noncomputable def Cs:Kn:=aI (ae (kC (aW 0 0)) (ae (kT (.nm .command)) au)) wS fun (_,c,_) n=>⟨[NdOK n],[.c (.int (((callF n c).a))),.c (.int (((callF n c).b))),.c (.int (((callF n c).e)))],some ((mI ((callF n c).n))),false⟩
theorem RW:CK 15 Cs:=ah fun (_,c,_) n hp=>by
 have h0:=bV hp;refine bu mC [] Tryz.func15 (?_:(fun q6=>(fun q5=>(fun q7=>(fun q4=>(fun q3=>(fun q2=>(fun q1=>(fun q10=>(fun q9=>(fun q8=>(fun q0=>bH c ((n.d.down=true->q8/\q9/\30=q1.e/\q10)/\(n.d.down=false->(¬n.c.role=2->q8/\q9/\33=q1.e/\q10)/\(n.c.role=2->I64 (bB c q5)->(¬bB c q5=q3->q8/\q9/\bB c q5=q1.e/\q10)/\(bB c q5=q3->(q6->I64 q7)/\(q6/\¬c.n=q7->q8/\q9/\1=q1.e/\q10)/\(¬q6\/c.n=q7->(q6/\kg q5 n.bn=false->q8/\q9/\34=q1.e/\q10)/\(¬q6\/kg q5 n.bn=true->I64 q4/\(64<q4->q8/\q9/\20=q1.e/\q10)/\(q4<=64->I64 q2.fst.term->q2.fst.b.length*1<=140737488355328->I64 q2.snd->(¬q2.snd=q3->q8/\q9/\q2.snd=q1.e/\q10)/\(q2.snd=q3->(q3<=n.d.synced/\n.d.synced<=(↑n.d.b.length:Int)/\n.d.b.length<=65536)/\n.c.st.log.length<=10000/\q0.length<=1000/\(I64 (n.aM q0)->(¬n.aM q0=q3->q8/\q9/\n.aM q0=q1.e/\b_ (n.save q0) q1.n)/\(n.aM q0=q3->q4=q1.a/\n.c.st.term=q1.b/\q3=q1.e/\b_ (n.save q0) q1.n))))))))))) [Record.mk 3 q4 q2.fst.term q2.fst.b]) (q3=q1.a)) (q3=q1.b)) (b_ n q1.n)) (callF n c)) (eL c n.c.st.term q5)) (0:Int)) ((↑n.c.st.log.length:Int)+1)) (q5+1)) n.c.s.version) (c.kind=8));obtain ⟨o1,o2,o3⟩:=id h0.d;have o4:=h0.log;(repeat' with_reducible first|apply bd|refine ba ?_|intro)
 all_goals (first | exact bq | (simp only [List.length_cons,List.length_nil]; omega) | (have q2:=(Rq (by with_reducible assumption:bB c n.c.s.version=0)).1; exact bI aJ aJ) | (rw [ae4 (n:=n) ab] <;> rfl) | (rw [afI (n:=n) ab ab] <;> rfl) | (rw [ag3 (n:=n) ab ab ab] <;> rfl) | (rw [adM (n:=n) ab ab ab ab ab] <;> rfl) | (rw [agi (n:=n) ab ab ab ab ab ab] <;> rfl) | (rw [age (n:=n) ab ab ab ab ab ab] <;> rfl) | (rw [aew (n:=n) ab ab ab ab ab ab ab] <;> rfl) | (rw [agX (n:=n) ab ab ab ab ab ab ab ab] <;> rfl) | (rw [adN (n:=n) ab ab ab ab ab ab ab ab] <;> rfl))
noncomputable def yh:Kn:=aI (ae (kC (aW 0 0)) (ae (kT (.nm .letter)) au)) wS fun (_,x,_) n=>⟨[NdOK n],[.c (.fz (.nm .letter) (((df n x).l))),.c (.int (((df n x).e)))],some ((mI ((df n x).n))),false⟩
theorem IA:CK 56 yh:=ah fun (_,x,_) n hp=>by
 have h0:=bV hp;refine bu mC [] Tryz.func56 (?_:(fun q3=>(fun q2=>(fun q1=>(fun q4=>(fun q0=>aS x (q1.fst.length*48<=140737488355328->I64 q1.snd.snd->(¬q1.snd.snd=q3->q2.l=[]/\q1.snd.snd=q2.e/\b_ n q2.n)/\(q1.snd.snd=q3->(q3<=n.d.synced/\n.d.synced<=(↑n.d.b.length:Int)/\n.d.b.length<=65536)/\n.c.st.log.length<=10000/\q1.fst.length<=1000/\(I64 q4->(¬q4=q3->q2.l=[]/\q4=q2.e/\b_ (n.save q1.fst) q2.n)/\(q4=q3->aS q0 ([Letter.mk q0.kind q0.frm q0.to q0.term q0.a q0.b q0.c q0.bin q1.snd.fst q0.l]=q2.l/\q3=q2.e/\b_ (n.save q1.fst) q2.n)))))) (qh (n.save q1.fst).c 2 x.frm)) (n.aM q1.fst)) (bc n.c.st x)) (df n x)) (0:Int));obtain ⟨o1,o2,o3⟩:=id h0.d;have o4:=h0.log;(repeat' with_reducible first|apply bd|refine ba ?_|intro)
 all_goals (first | exact bq | exact Tc | (rw [af4 (n:=n) ab] <;> rfl) | (rw [afy (n:=n) ab ab] <;> rfl) | (rw [ag1 (n:=n) ab ab] <;> rfl))
noncomputable def Uu:bE:=(aK 56 yh (aK 15 Cs (aK 31 EO Ve)))
theorem sJ:ay Tryz.prog (al tyT) Uu:=(ag IA (ag RW (ag Rz mC)))
section
variable {n:Nd} {k:Nat} {y:Int}
theorem Hr {s:Stable} {m:Int}:(aU s m).1.length<=1000:=by
 unfold aU;grind
theorem agR (h:n.d.down=true):timeoutF n=⟨n,[],30⟩:=if_pos h
variable (h:n.d.down=false)
include h
theorem agL (h1:n.c.role=2):timeoutF n=⟨n,[],0⟩:=by rw [timeoutF,if_neg (lu h),if_pos h1]
variable (h1:¬ n.c.role=2)
include h1
theorem ag0 (h2:¬ (aU n.c.st n.c.me).2=0):timeoutF n=⟨n,[],(aU n.c.st n.c.me).2⟩:=by rw [timeoutF,if_neg (lu h),if_neg h1,if_pos h2]
variable (h2:(aU n.c.st n.c.me).2=0)
include h2
theorem aex (h3:¬ n.aM (aU n.c.st n.c.me).1=0):timeoutF n=⟨n.save (aU n.c.st n.c.me).1,[],n.aM (aU n.c.st n.c.me).1⟩:=by rw [timeoutF,if_neg (lu h),if_neg h1,if_neg (by omega),if_pos h3]
variable (h3:n.aM (aU n.c.st n.c.me).1=0)
include h3
theorem abl:timeoutF n=⟨(n.save (aU n.c.st n.c.me).1).dX,gg (n.save (aU n.c.st n.c.me).1).dX.c,0⟩:=by rw [timeoutF,if_neg (lu h),if_neg h1,if_neg (by omega),if_neg (by omega)]
theorem af3 (hl:((cz (n.save (aU n.c.st n.c.me).1).dX.c).length:Int)<=k):(gg (n.save (aU n.c.st n.c.me).1).dX.c).take k=(timeoutF n).l:=by
 rw [abl h h1 h2 h3];exact List.take_of_length_le (by unfold gg; rw [List.length_map]; omega)
end
section
variable {c:NdC} {k:Nat} {y:Int} {z:Letter}
theorem ae5 (hm:c.many<=5):(((gg c).take k).length+[z].length)*96<=140737488355328:=by
 have h2:(cz c).length<=c.many.toNat:=pJ;rw [List.length_take,gg,List.length_map];grind
theorem ael (hk:(k:Int)<((cz c).length:Nat)) (hm:c.many<=5):I64 ((k:Int)+1):=by
 have h2:(cz c).length<=c.many.toNat:=pJ;exact bI aJ aJ
theorem agW (hx:(cz c)[k]? = some y):(gg c).take k++[Letter.mk (qh c 1 y).kind (qh c 1 y).frm (qh c 1 y).to (qh c 1 y).term c.st.log.length (gW c.st.log) (qh c 1 y).c (qh c 1 y).bin (qh c 1 y).ok (qh c 1 y).l]=(gg c).take (k+1):=by
 have:(gg c)[k]? = some { qh c 1 y with a:=c.st.log.length,b:=gW c.st.log }:=by
  unfold gg; rw [List.getElem?_map,hx]; rfl
 rw [ai this]
end
section
variable {n:Nd} {x:Letter}
theorem afq (h:¬ (aB n.c.st x).2.2.2=0):bY n x=⟨n,[],(aB n.c.st x).2.2.2⟩:=if_pos h
variable (h:(aB n.c.st x).2.2.2=0)
include h
theorem adL (h1:¬ n.aM (aB n.c.st x).1=0):bY n x=⟨n.save (aB n.c.st x).1,[],n.aM (aB n.c.st x).1⟩:=by rw [bY,if_neg (by omega),if_pos h1]
variable (h1:n.aM (aB n.c.st x).1=0)
include h1
theorem ads (h2:x.term=(n.save (aB n.c.st x).1).c.st.term) (h3:(aB n.c.st x).2.1=true):bY n x=⟨({ (n.save (aB n.c.st x).1) with c:={ (n.save (aB n.c.st x).1).c with role:=0,commit:=max (n.save (aB n.c.st x).1).c.commit (min x.c (aB n.c.st x).2.2.1) } }:Nd).apply,[{ qh { (n.save (aB n.c.st x).1).c with role:=0 } 4 x.frm with ok:=(aB n.c.st x).2.1,a:=(aB n.c.st x).2.2.1 }],0⟩:=by
 rw [bY,if_neg (by omega),if_neg (by omega),h3];dsimp only;rw [if_pos h2]; rfl
theorem ad9 (h2:¬ x.term=(n.save (aB n.c.st x).1).c.st.term) (h3:(aB n.c.st x).2.1=true):bY n x=⟨({ (n.save (aB n.c.st x).1) with c:={ (n.save (aB n.c.st x).1).c with commit:=max (n.save (aB n.c.st x).1).c.commit (min x.c (aB n.c.st x).2.2.1) } }:Nd).apply,[{ qh (n.save (aB n.c.st x).1).c 4 x.frm with ok:=(aB n.c.st x).2.1,a:=(aB n.c.st x).2.2.1 }],0⟩:=by
 rw [bY,if_neg (by omega),if_neg (by omega),h3];grind
theorem agK (h2:x.term=(n.save (aB n.c.st x).1).c.st.term) (h3:(aB n.c.st x).2.1=false):bY n x=⟨(n.save (aB n.c.st x).1).follow,[{ qh { (n.save (aB n.c.st x).1).c with role:=0 } 4 x.frm with ok:=(aB n.c.st x).2.1,a:=min 64 ((n.save (aB n.c.st x).1).c.st.log.length:Int) }],0⟩:=by
 rw [bY,if_neg (by omega),if_neg (by omega),h3];dsimp only;rw [if_pos h2,if_neg (by decide)];split
 ·rfl
 rename_i q; exact absurd h2 q
theorem aed (h2:¬ x.term=(n.save (aB n.c.st x).1).c.st.term) (h3:(aB n.c.st x).2.1=false):bY n x=⟨n.save (aB n.c.st x).1,[{ qh (n.save (aB n.c.st x).1).c 4 x.frm with ok:=(aB n.c.st x).2.1 }],0⟩:=by
 rw [bY,if_neg (by omega),if_neg (by omega),h3];dsimp only;split
 ·grind
 rfl
end
variable {x:Letter}
theorem GS {s:Stable}:(aB s x).1.length<=1000:=by
 by_cases h:(aB s x).2.2.2=0
 ·obtain ⟨⟨hm,_⟩,hc⟩:=qH h;rcases hc with ⟨_,e⟩ | ⟨_,_,e⟩ | ⟨_,_,e⟩ <;> rw [e]
  ·simp
  ·have:=GH (s:=s) hm; dsimp only; omega
  have:=kW (s:=s) (t:=x.term); dsimp only; omega
 have e:aB s x=([],false,0,1):=by
  unfold aB at h ⊢;grind
 rw [e]; simp
def Gi (n:Nd):List (Nat × LI):=[(17,{ σ:=Nat,F:=fun k=>([(0,one (.ptr 0 0)),(7,one (.int (n.save (aU n.c.st n.c.me).1).c.st.log.length)),(8,one (.int (gW (n.save (aU n.c.st n.c.me).1).c.st.log))),(9,one (.own 12)),(113,one (.fz .int (cz (n.save (aU n.c.st n.c.me).1).dX.c))),(114,one (.int (cz (n.save (aU n.c.st n.c.me).1).dX.c).length)),(115,one (.int k))],[.box 103 (VQ 0 (((n.save (aU n.c.st n.c.me).1).dX.c))++[.own 3,.own 8,.own 9,.own 10,.own 11]),.box 147 ([.own 2,.int (((n.save (aU n.c.st n.c.me).1).dX.d.synced)),.bool (.atom (((n.save (aU n.c.st n.c.me).1).dX.d.down))),.bool (.atom (((n.save (aU n.c.st n.c.me).1).dX.d.doomed))),.int (((n.save (aU n.c.st n.c.me).1).dX.d.keep))]),.row 5 .u8 (((n.save (aU n.c.st n.c.me).1).dX.d.b)),.row 78 (.nm .reply) ((n.rp)),.row 4 .bool ((n.vs)),.row 3 .int ((n.bn)),.row 3 .int ((n.nx)),.row 3 .int ((n.mt)),.row 4 .bool (((n.save (aU n.c.st n.c.me).1).dX.vs)),.row 3 .int (((n.save (aU n.c.st n.c.me).1).dX.bn)),.row 3 .int (((n.save (aU n.c.st n.c.me).1).dX.nx)),.row 3 .int (((n.save (aU n.c.st n.c.me).1).dX.mt)),.row 40 (.nm .letter) (((gg (n.save (aU n.c.st n.c.me).1).dX.c).take k))]),J:=fun k=>k<=(cz (n.save (aU n.c.st n.c.me).1).dX.c).length,μ:=fun k=>(cz (n.save (aU n.c.st n.c.me).1).dX.c).length - k })]
noncomputable def qF:Kn:=aI (ae (kC (aW 0 0)) au) wS fun _ n=>⟨[NdOK n],[.c (.fz (.nm .letter) (((timeoutF n).l))),.c (.int (((timeoutF n).e)))],some ((mI ((timeoutF n).n))),false⟩
theorem Bn:CK 14 qF:=ah fun _ n hp=>by
 have h0:=bV hp;refine bu sJ (Gi n) Tryz.func14 (?_:(fun (q4:Int)=>(fun (q3:NdR)=>(fun (q2:Int)=>(fun (q1:List Record × Int)=>(fun (q5:Int)=>(fun (q0:Nd)=>(fun (q9:NdC)=>(fun (q10:Int)=>(fun (q8:List Entry)=>(fun (q12:Int)=>(fun (q11:Int)=>(fun (q7:Int)=>(fun (q15:List (den Sh.int))=>(fun (q14:List Int)=>(fun (q13:Prop)=>(fun (q6:Nd)=>(fun (q17:Dsk)=>(fun (q16:NdC)=>(fun (q18:Nat)=>(n.d.down=true->q3.l=[]/\(30:Int)=q3.e/\b_ n q3.n)/\(n.d.down=false->(n.c.role=(2:Int)->q3.l=[]/\q4=q3.e/\b_ n q3.n)/\(¬n.c.role=(2:Int)->n.c.st.term<=(1048576:Int)/\(q1.fst.length*(48:Nat)<=(140737488355328:Nat)->I64 q1.snd->(¬q1.snd=q4->q3.l=[]/\q1.snd=q3.e/\b_ n q3.n)/\(q1.snd=q4->(q4<=n.d.synced/\n.d.synced<=(↑n.d.b.length:Int)/\n.d.b.length<=(65536:Nat))/\n.c.st.log.length<=(10000:Nat)/\q1.fst.length<=(1000:Nat)/\(I64 q5->(¬q5=q4->q3.l=[]/\q5=q3.e/\b_ q0 q3.n)/\(q5=q4->(q4<=q7/\q7*(↑(1:Nat):Int)<=(140737488355328:Int)/\q7=q7)/\q13/\q13/\q13/\q4<=q10/\q10<(↑(List.replicate q7.toNat (ao Sh.bool)).length:Int)/\q4<=q10/\q10<(↑q15.length:Int)/\(I64 (q15.getD q10.toNat (ao Sh.int))->I64 (↑q8.length:Int)->I64 q12->q7<=(5:Int)/\(q14.length*(8:Nat)<=(140737488355328:Nat)->∃ (s0:Nat),((↑q8.length:Int)=q11/\q12=q12/\q14=cz q16/\(↑q14.length:Int)=(↑q18:Int)/\q4=(↑s0:Int)/\q10=q16.me/\q7=q16.many/\q9.bin=q16.bin/\aE q9.st q16.st (q2=q16.role/\q9.commit=q16.commit/\q9.applied=q16.applied/\bM q9.s q16.s (q0.d.synced=q17.synced/\q0.d.down=q17.down/\q0.d.doomed=q17.doomed/\q0.d.keep=q17.keep/\q0.d.b=q17.b/\q0.rp=n.rp/\q0.vs=n.vs/\q0.bn=n.bn/\q0.nx=n.nx/\q0.mt=n.mt/\(List.replicate q7.toNat (ao Sh.bool)).set q10.toNat true=q6.vs/\q15.set q10.toNat q9.bin=q6.bn/\q15=q6.nx/\q15=q6.mt/\List.take s0 (gg q16)=[])))/\s0<=q18/\∀ (s:Nat),s<=q18->((↑s:Int)<(↑q18:Int)->q4<=(↑s:Int)/\(↑s:Int)<(↑(cz q16).length:Int)/\∀ (x:Int),(fun (q19:Letter)=>(fun (q20:Letter)=>(cz q16)[s]? = some x->I64 x->aS q19 (((List.take s (gg q16)).length+[q20].length)*(96:Nat)<=(140737488355328:Nat)/\I64 ((↑s:Int)+q2)/\∃ (s':Nat),(q11=q11/\q12=q12/\cz q16=cz q16/\(↑q18:Int)=(↑q18:Int)/\(↑s:Int)+q2=(↑s':Int)/\q16.me=q16.me/\q16.many=q16.many/\q16.bin=q16.bin/\aE q16.st q16.st (q16.role=q16.role/\q16.commit=q16.commit/\q16.applied=q16.applied/\bM q16.s q16.s (q17.synced=q17.synced/\q17.down=q17.down/\q17.doomed=q17.doomed/\q17.keep=q17.keep/\q17.b=q17.b/\n.rp=n.rp/\n.vs=n.vs/\n.bn=n.bn/\n.nx=n.nx/\n.mt=n.mt/\q6.vs=q6.vs/\q6.bn=q6.bn/\q6.nx=q6.nx/\q6.mt=q6.mt/\List.take s (gg q16)++[q20]=List.take s' (gg q16))))/\s' <= q18/\q18 - s' < q18 - s)) (Letter.mk q19.kind q19.frm q19.to q19.term q11 q12 q19.c q19.bin q19.ok q19.l)) (qh q16 q2 x))/\((↑q18:Int)<=(↑s:Int)->List.take s (gg q16)=q3.l/\q4=q3.e/\b_ (Nd.mk q16 q17 n.rp q6.vs q6.bn q6.nx q6.mt) q3.n)))))))))) (cz q16).length) q6.c) q6.d) q0.dX) (q4<=q7/\q7*(↑(8:Nat):Int)<=(140737488355328:Int)/\q7=q7)) (cz (NdC.mk q10 q7 q9.bin q9.st q2 q9.commit q9.applied q9.s))) (List.replicate q7.toNat (ao Sh.int))) q9.many) (↑q8.length:Int)) (gW q8)) q9.st.log) q9.me) q0.c) (n.save q1.fst)) (n.aM q1.fst)) (aU n.c.st n.c.me)) (1:Int)) (timeoutF n)) (0:Int))
 obtain ⟨o1,o2,o3⟩:=id h0.d;have o4:=h0.log;have o5:=h0.many;have o6:=h0.me;have o7:=h0.com;have o8:=h0.term;have o9:=h0.rp;iterate 3 ((all_goals (repeat' with_reducible first|apply bd|refine ba ?_|intro)); (all_goals try (first | exact bq | exact rfl | exact Hr | exact (af3 ab ab ab ab ab) | exact (agW ab) | exact (ae5 o5.2) | exact (ael (c:=(n.save (aU n.c.st n.c.me).1).dX.c) ab o5.2) | (dsimp only [Nd.save]; omega) | (rw [ag7]; dsimp only [Nd.save]; omega) | (rw [agR (n:=n) ab] <;> rfl) | (rw [agL (n:=n) ab ab] <;> rfl) | (rw [ag0 (n:=n) ab ab ab] <;> rfl) | (rw [aex (n:=n) ab ab ab ab] <;> rfl) | (rw [abl (n:=n) ab ab ab ab] <;> rfl))); all_goals try first | refine ⟨‹Nat› + 1,?_⟩ | refine ⟨0,?_⟩)
noncomputable def uB:Kn:=aI (ae (kC (aW 0 0)) (ae (kT (.nm .letter)) au)) wS fun (_,x,_) n=>⟨[NdOK n,de n.c x=true,x.kind=3],[.c (.fz (.nm .letter) (((bY n x).l))),.c (.int (((bY n x).e)))],some ((mI ((bY n x).n))),false⟩
theorem Fk:CK 57 uB:=ah fun (_,x,_) n hp=>by
 have h0:=bV hp;have h1:=bV (eG hp);have h2:=bV (eG (eG hp));refine bu sJ [] Tryz.func57 (?_:(fun q6=>(fun q5=>(fun q4=>(fun q3=>(fun q7=>(fun q2=>(fun q9=>(fun q8=>(fun q1=>(fun q0=>(fun q15=>(fun q18=>(fun q17=>(fun q16=>(fun q14=>(fun q13=>(fun q12=>(fun q19=>(fun q11=>(fun q10=>aS x (q6.length*48<=140737488355328->I64 q2.snd.fst->I64 q2.snd.snd->(¬q2.snd.snd=q3->q4.l=[]/\q2.snd.snd=q4.e/\b_ n q4.n)/\(q2.snd.snd=q3->(q3<=n.d.synced/\n.d.synced<=(↑n.d.b.length:Int)/\n.d.b.length<=65536)/\n.c.st.log.length<=10000/\q6.length<=1000/\(I64 (n.aM q6)->(¬n.aM q6=q3->q4.l=[]/\n.aM q6=q4.e/\b_ q0 q4.n)/\(n.aM q6=q3->(q14->aS q10 ((q9=true->q13/\[Letter.mk q10.kind q10.frm q10.to q10.term q2.snd.fst q10.b q10.c q10.bin q9 q10.l]=q4.l/\q7/\b_ (Nd.mk (NdC.mk q15.me q15.many q15.bin q15.st q3 q18 q17 q15.s) q0.d q0.rp q0.vs q0.bn q0.nx q0.mt).apply q4.n)/\(q9=false->(q14->[Letter.mk q10.kind q10.frm q10.to q10.term q16 q10.b q10.c q10.bin q9 q10.l]=q4.l/\q19)/\(¬q14->[Letter.mk q10.kind q10.frm q10.to q10.term q10.a q10.b q10.c q10.bin q9 q10.l]=q4.l/\q19))))/\(¬q14->aS q11 ((q9=true->q13/\[Letter.mk q11.kind q11.frm q11.to q11.term q2.snd.fst q11.b q11.c q11.bin q9 q11.l]=q4.l/\q7/\b_ (Nd.mk (NdC.mk q15.me q15.many q15.bin q15.st q15.role q18 q17 q15.s) q0.d q0.rp q0.vs q0.bn q0.nx q0.mt).apply q4.n)/\(q9=false->(q14->[Letter.mk q11.kind q11.frm q11.to q11.term q16 q11.b q11.c q11.bin q9 q11.l]=q4.l/\q7/\b_ q0 q4.n)/\(¬q14->[Letter.mk q11.kind q11.frm q11.to q11.term q11.a q11.b q11.c q11.bin q9 q11.l]=q4.l/\q7/\b_ q0 q4.n))))))))) (qh q12 q1 q5)) (qh q15 q1 q5)) (q7/\b_ (Nd.mk q12 q0.d q0.rp q0.vs q0.bn q0.nx q0.mt) q4.n)) (NdC.mk q15.me q15.many q15.bin q15.st q3 q15.commit q17 q15.s)) ((q3<=q17/\q18<=(↑q15.st.log.length:Int))/\(↑q0.rp.length:Int)<=q17/\q15.st.log.length<=10000)) (x.term=q15.st.term)) (min 64 (↑q15.st.log.length:Int))) q15.applied) (max q15.commit q8)) q0.c) (n.save q6)) (4:Int)) (min x.c q2.snd.fst)) q2.fst) (aB n.c.st x).snd) (q3=q4.e)) (0:Int)) (bY n x)) x.frm) (aB n.c.st x).fst);obtain ⟨o1,o2,o3⟩:=id h0.d;have o4:=h0.log;(repeat' with_reducible first|apply bd|refine ba ?_|intro)
 all_goals (first | exact bq | exact GS | exact (Ep h0 h1 h2 ab ab).1.1 | exact (Ep h0 h1 h2 ab ab).1.2 | exact (Ep h0 h1 h2 ab ab).2.1 | exact (Ep h0 h1 h2 ab ab).2.2 | (rw [afq (n:=n) ab] <;> rfl) | (rw [adL (n:=n) ab ab] <;> rfl) | (rw [ads (n:=n) ab ab ab ab] <;> rfl) | (rw [ad9 (n:=n) ab ab ab ab] <;> rfl) | (rw [agK (n:=n) ab ab ab ab] <;> rfl) | (rw [aed (n:=n) ab ab ab ab] <;> rfl))
noncomputable def Vg:bE:=(aK 57 uB (aK 14 qF Uu))
theorem qQ:ay Tryz.prog (al tyT) Vg:=(ag Fk (ag Bn sJ))
theorem Sat.ae9 {P:Program} {shp:TypeId->Option Sh} {f:Nat} {args rs:List TV1} {H1 H2:AH} {pre:List Prop} (hc:gj H1 [0,1,2] [0,1,2]=true) (ho:oC (posOf · [0,1,2]) (kv H1 [0,1,2])=H2) (hrs:∀ (c c':Cx) (ρ ρ':List RE) us,All2 (cP c ρ) rs us->All2 (cP c' ρ') rs us) (h:Sat P shp f args (mI n) ⟨pre,rs,some H1,false⟩):Sat P shp f args (mI n) ⟨pre,rs,some H2,false⟩:=by
 refine ⟨h.1,fun G ρ w vs hg hR hv=>(h.2 G ρ w vs hg hR hv).mono ?_⟩;rintro v w' ⟨us,e1,ρ',k1,k2,k3,k4,k5⟩;obtain ⟨m1,m2⟩:=k1.sub (σ:=[0,1,2]) (Z':=G.Z) rfl hc k1.z (fun _ h _=>h) (fun b hl=>by
  obtain ⟨i,r,h1,h2⟩:=fR hl;exact (k1.bnd i r b h1 h2).2.2)
 rw [ho] at m1;refine ⟨us,e1,cR ρ' [0,1,2],m1,⟨k2.os,k2.tape,k2.output,k2.size,fun b hb hl=>⟨fun h=>(k2.old b hb hl).1 (fR h),(k2.old b hb hl).2⟩⟩,fun i g h=>?_,hrs _ _ _ _ _ k4,fun h=>by cases h⟩;have hi:∀ (j:Nat) (t:TypeId) (s:Sh) (xs:List (den s)),(mI n)[j]? = some (.row t s xs)->i≠j:=fun j t s xs hj e=>by
  subst e;obtain ⟨r,hr,h1⟩:=hR.at_ hj;rw [h] at hr; cases hr;obtain ⟨_,_,h1 | ⟨_,_,_,_,h1,_⟩⟩:=h1
  ·grind
  cases h1
 have hlt:i<8:=by
  have h1:=(aaT.1 h).1;have h2:(mI n).length=8:=rfl;have h3:=hR.obj.length;omega
 have h3:=hi 3 _ _ _ rfl;have h4:=hi 4 _ _ _ rfl;have h5:=hi 5 _ _ _ rfl;have h6:=hi 6 _ _ _ rfl;have h7:=hi 7 _ _ _ rfl;have hk:=k3 i g h;have:i=0\/i=1\/i=2:=by omega
 rcases this with rfl | rfl | rfl
 ·exact (mU (j:=0) (i:=0) rfl).trans (congrArg some (getD_some hk))
 ·exact (mU (j:=1) (i:=1) rfl).trans (congrArg some (getD_some hk))
 exact (mU (j:=2) (i:=2) rfl).trans (congrArg some (getD_some hk))
theorem Yz {e:Int} (c c':Cx) (ρ ρ':List RE) (us:List Value) (h:All2 (cP c ρ) [.c (.int e)] us):All2 (cP c' ρ') [.c (.int e)] us:=by
 cases h with | cons h1 h2=>?_
 cases h2;cases h1 with | int hi=>exact .cons (show Pd c' (.int e) _ from .int hi) .nil
def newN (me many:Int):Nd:=⟨⟨me,many,0,sta0,0,0,0,⟨0,0,0,0,[],[],[]⟩⟩,⟨[],0,true,false,0⟩,[],[],[],[],[]⟩
theorem SA:(Dsk.mk [] 0 false false 0).dp 0=⟨[],0,true,false,0⟩:=by decide
noncomputable def DC:Kn:=aI (ae (kC cI) (ae (kC cI) au)) aw fun (me,many,_) _=>⟨[3<=many/\many<=5/\0<=me/\me<many],[.c (.ptr 0 0),.c (.int ((0)))],some ([.box 103 (VQ 0 (((newN me many).c))++[.em true,.em true,.em true,.em true,.em true]),.box 147 ([.own 2,.int (((newN me many).d.synced)),.bool (.atom (((newN me many).d.down))),.bool (.atom (((newN me many).d.doomed))),.int (((newN me many).d.keep))]),.row 5 .u8 (((newN me many).d.b))]),true⟩
theorem ED:CK 12 DC:=ah fun (me,many,_) _ hp=>by
 have h0:=bV hp;refine dj qQ [] Tryz.func12 (?_:(fun (q1:Int)=>(fun (q2:Dsk)=>(fun (q0:Nd)=>(fun (q3:NdC)=>I64 me->I64 many->(((many<(3:Int)\/(5:Int)<many)\/me<q1)\/many<=me->False/\(1:Int)=q1/\False/\False/\q0.d.b=[])/\((((3:Int)<=many/\many<=(5:Int))/\q1<=me)/\me<many->(q1<=q1/\q1<=(↑(0:Nat):Int)/\(0:Nat)<=(65536:Nat))/\q1=q1/\me=q3.me/\many=q3.many/\q1=q3.bin/\q1=q3.st.floor/\q1=q3.st.term/\q1=q3.st.vote/\q3.st.log=[]/\q1=q3.role/\q1=q3.commit/\q1=q3.applied/\q1=q3.s.version/\q1=q3.s.next/\q1=q3.s.keep/\q1=q3.s.quota/\q3.s.sess=[]/\q3.s.opens=[]/\q3.s.snaps=[]/\q2.synced=q0.d.synced/\q2.down=q0.d.down/\q2.doomed=q0.d.doomed/\q2.keep=q0.d.keep/\q2.b=q0.d.b)) q0.c) (newN me many)) ((Dsk.mk [] q1 false false q1).dp q1)) (0:Int));(repeat' with_reducible first|apply bd|refine ba ?_|intro)
 all_goals (first | exact bq | exact rfl | (rw [SA] <;> rfl) | (exfalso; omega))
theorem PM (me:Int) (many:Int) (h0:3<=many/\many<=5/\0<=me/\me<many):Sat Tryz.prog (al tyT) 12 [.c (.int (me)),.c (.int (many))] [] ⟨[3<=many/\many<=5/\0<=me/\me<many],[.c (.ptr 0 0),.c (.int ((0)))],some ([.box 103 (VQ 0 (((newN me many).c))++[.em true,.em true,.em true,.em true,.em true]),.box 147 ([.own 2,.int (((newN me many).d.synced)),.bool (.atom (((newN me many).d.down))),.bool (.atom (((newN me many).d.doomed))),.int (((newN me many).d.keep))]),.row 5 .u8 (((newN me many).d.b))]),true⟩:=ED _ _ _ rfl (by intro p hp; simp only [acX,ag5,or_false] at hp; subst hp; exact h0)
theorem VA (me:Int) (many:Int) (h0:3<=many/\many<=5/\0<=me/\me<many):Sat Tryz.prog (al tyT) 12 [.c (.int (me)),.c (.int (many))] [] ⟨[3<=many/\many<=5/\0<=me/\me<many],[.c (.ptr 0 0),.c (.int ((0)))],some ((mI ((newN me many)))),true⟩:=Sat.LY 0 22 3 .int cf rfl rfl (Sat.LY 0 21 3 .int cf rfl rfl (Sat.LY 0 20 3 .int cf rfl rfl (Sat.LY 0 19 4 .bool cf rfl rfl (Sat.LY 0 18 78 (.nm .reply) cf rfl rfl (PM me many h0) rfl) rfl) rfl) rfl) rfl
noncomputable def Je:Kn:=aI (ae (kC cI) (ae (kC cI) au)) aw fun (me,many,_) _=>⟨[3<=many/\many<=5/\0<=me/\me<many],[.c (.ptr 0 0),.c (.int ((0)))],some ((mI ((newN me many)))),true⟩
theorem YC:CK 12 Je:=ah fun (me,many,_) _ hp=>VA me many (bV hp)
noncomputable def xZ:Kn:=aI (ae (kC (aW 0 0)) (ae (kC (cL (.nm .record))) au)) (aA (dB 103 (lNd 0 (ax (Wa true) (ax (Wa true) (ax (Wa true) (ax (Wa true) (ax (Wa true) dt))))))) (aA (dB 147 (ax (eN 2) (ax cI (ax cB (ax cB (ax cI dt)))))) (aA (eO 5 .u8) aw))) fun (_,l,_) ((nd,_,_,_,_,_,_),(_,sy,dn,dm,kp,_),bs,_)=>⟨[(Dsk.mk bs sy dn dm kp).OK,nd.st.log.length<=10000,l.length<=1000],[.c (.int (((Nd.mk nd ⟨bs,sy,dn,dm,kp⟩ [] [] [] [] []).aM l)))],some ([.box 103 (VQ 0 ((((Nd.mk nd ⟨bs,sy,dn,dm,kp⟩ [] [] [] [] []).save l).c))++[.em true,.em true,.em true,.em true,.em true]),.box 147 ([.own 2,.int ((((Nd.mk nd ⟨bs,sy,dn,dm,kp⟩ [] [] [] [] []).save l).d.synced)),.bool (.atom ((((Nd.mk nd ⟨bs,sy,dn,dm,kp⟩ [] [] [] [] []).save l).d.down))),.bool (.atom ((((Nd.mk nd ⟨bs,sy,dn,dm,kp⟩ [] [] [] [] []).save l).d.doomed))),.int ((((Nd.mk nd ⟨bs,sy,dn,dm,kp⟩ [] [] [] [] []).save l).d.keep))]),.row 5 .u8 ((((Nd.mk nd ⟨bs,sy,dn,dm,kp⟩ [] [] [] [] []).save l).d.b))]),false⟩
theorem NH:CK 47 xZ:=ah fun (_,l,_) ((nd,_,_,_,_,_,_),(_,sy,dn,dm,kp,_),bs,_) hp=>by
 have h0:=bV hp;have h1:=bV (eG hp);have h2:=bV (eG (eG hp));refine bu qQ [] Tryz.func47 (?_:(fun q2=>(fun q1=>(fun q3=>(fun q0=>(fun q4=>l.length*48<=140737488355328->((0<=sy/\sy<=(↑bs.length:Int)/\bs.length<=65536)/\nd.st.log.length<=10000/\l.length<=1000)/\bU q1.snd.fst (I64 q1.snd.snd->(¬q1.snd.snd=0->q1.snd.snd=q2.aM l/\nd.me=q0.c.me/\nd.many=q0.c.many/\nd.bin=q0.c.bin/\aE nd.st q0.c.st q4)/\(q1.snd.snd=0->0=q2.aM l/\nd.me=q0.c.me/\nd.many=q0.c.many/\nd.bin=q0.c.bin/\aE q1.snd.fst q0.c.st q4))) (nd.role=q0.c.role/\nd.commit=q0.c.commit/\nd.applied=q0.c.applied/\bM nd.s q0.c.s (q3.synced=q0.d.synced/\q3.down=q0.d.down/\q3.doomed=q0.d.doomed/\q3.keep=q0.d.keep/\q3.b=q0.d.b))) (q2.save l)) q1.fst) (saveF (Dsk.mk bs sy dn dm kp) nd.st l)) (Nd.mk nd (Dsk.mk bs sy dn dm kp) [] [] [] [] []));obtain ⟨o1,o2,o3⟩:=id h0;(repeat' with_reducible first|apply bd|refine ba ?_|intro)
 all_goals (first | exact bq | exact rfl | exact (Eq.symm ab) | exact (congrArg Stable.floor (fW ab)).symm | exact (congrArg Stable.term (fW ab)).symm | exact (congrArg Stable.vote (fW ab)).symm | exact (congrArg Stable.log (fW ab)).symm)
noncomputable def UK:bE:=(aK 47 xZ (aK 12 Je (aK 12 DC Vg)))
theorem rR:ay Tryz.prog (al tyT) UK:=(ag NH (ag YC (ag ED qQ)))
theorem afN {m:Nd} (e1:m.rp=[]) (e2:m.vs=[]) (e3:m.bn=[]) (e4:m.nx=[]) (e5:m.mt=[]):mI m=mI ⟨m.c,m.d,[],[],[],[],[]⟩:=by
 cases m;grind
theorem afd {p:Prop} {x:Bool} (h:x=true) (h2:x=false):p:=by rw [h] at h2; cases h2
theorem aaU {b:List UInt8}:(replayF b).1.log.length<=10000:=by have:=lL b; omega
theorem acC {r:Record}:[r].length<=1000:=by simp
section
variable {n:Nd} {b:Int}
theorem WY (h0:NdOK n) (h:n.d.down=true):((if n.d.down=true then n.d.up else n.d).cut (replayF n.d.b).2).OK:=(xa h h0.d).1
theorem YI (h0:NdOK n):(if n.d.down=true then n.d.up else n.d).OK:=by
 split
 ·exact Tn h0.d
 exact h0.d
theorem Zz {p:Prop} (h0:NdOK n) (h:n.d.down=true) (he:¬ (if n.d.down=true then n.d.up else n.d).jS (replayF n.d.b).2=0):p:=absurd (xa h h0.d).2.1 he
theorem abX {p:Prop} (h:n.d.down=true) (he:¬ (if n.d.down=true then (0:Int) else 31)=0):p:=absurd (if_pos h) he
theorem X_ (h0:NdOK n) (h:n.d.down=true):((n.fr b).save [⟨1,b,0,[]⟩]).d.OK:=qb (xa h h0.d).1
theorem acn {p:Prop} (h:n.d.down=false\/¬ bR b (max (replayF n.d.b).1.floor 1)=0) (h1:n.d.down=true) (h2:bR b (max (replayF n.d.b).1.floor 1)=0):p:=by grind
end
noncomputable def uF:Kn:=aI (ae (kC (aW 0 0)) (ae (kC cI) au)) wS fun (_,b,_) n=>⟨[NdOK n,n.d.down=true,bR b (max (replayF n.d.b).1.floor 1)=0],[.c (.int (((startF n b).e)))],some ([.box 103 (VQ 0 (((startF n b).n.c))++[.em true,.em true,.em true,.em true,.em true]),.box 147 ([.own 2,.int (((startF n b).n.d.synced)),.bool (.atom (((startF n b).n.d.down))),.bool (.atom (((startF n b).n.d.doomed))),.int (((startF n b).n.d.keep))]),.row 5 .u8 (((startF n b).n.d.b)),.row 78 (.nm .reply) ((n.rp)),.row 4 .bool ((n.vs)),.row 3 .int ((n.bn)),.row 3 .int ((n.nx)),.row 3 .int ((n.mt))]),false⟩
theorem ux:CK 13 uF:=ah fun (_,b,_) n hp=>by
 have h0:=bV hp;have h1:=bV (eG hp);have h2:=bV (eG (eG hp));refine bu rR [] Tryz.func13 (?_:(fun (q10:Bool)=>(fun (q9:NdC)=>(fun (q8:Int)=>(fun (q7:Int)=>(fun (q6:Int)=>(fun (q12:Int)=>(fun (q11:List (den (Sh.nm NT.record)))=>(fun (q5:Stable × Int)=>(fun (q14:Int)=>(fun (q13:Int)=>(fun (q4:NdC)=>(fun (q3:Prop)=>(fun (q2:Nd)=>(fun (q17:Dsk)=>(fun (q19:Bool)=>(fun (q18:Int)=>(fun (q16:NdC)=>(fun (q25:Prop)=>(fun (q24:Prop)=>(fun (q23:Prop)=>(fun (q22:Prop)=>(fun (q21:Prop)=>(fun (q20:Prop)=>(fun (q15:Prop)=>(fun (q1:Dsk)=>(fun (q28:Dsk)=>(fun (q27:Nd)=>(fun (q29:Int)=>(fun (q26:Prop)=>(fun (q0:Nd)=>(fun (q31:NdC)=>(fun (q30:Dsk)=>I64 b->(q10=false->(31:Int)=q8/\q15)/\(q10=true->(q6<=n.d.synced/\n.d.synced<=(↑n.d.b.length:Int)/\n.d.b.length<=(65536:Nat))/\n.d.b.length<=(1000000:Nat)/\bU q5.fst (I64 q13->I64 q14->(¬q14=q6->q14=q8/\q15)/\(q14=q6->I64 q12->(¬q12=q6->q12=q8/\q22/\q20/\q25/\aE q9.st q16.st (q24/\q23/\q21/\bM q9.s q16.s (False/\False/\False/\False/\False/\q1.synced=q18/\q1.down=q17.down/\q1.doomed=q19/\q1.keep=q17.keep/\q1.b=q17.b/\q3)))/\(q12=q6->(q6<=q1.synced/\q1.synced<=(↑q1.b.length:Int)/\q1.b.length<=(65536:Nat))/\(I64 (q1.jS q13)->(¬q1.jS q13=q6->q1.jS q13=q8/\q22/\q20/\q25/\aE q9.st q16.st (q24/\q23/\q21/\bM q9.s q16.s (False/\False/\False/\False/\False/\q26)))/\(q1.jS q13=q6->I64 q7->I64 q7->I64 q6->I64 q6->(0:Nat)*(32:Nat)<=(140737488355328:Nat)->(0:Nat)*(16:Nat)<=(140737488355328:Nat)->(0:Nat)*(64:Nat)<=(140737488355328:Nat)->(q5.fst.floor<b->(q6<=q28.synced/\q28.synced<=(↑q28.b.length:Int)/\q28.b.length<=(65536:Nat))/\q5.fst.log.length<=(10000:Nat)/\q11.length<=(1000:Nat)/\(I64 q29->(¬q29=q6->(q6<=q0.d.synced/\q0.d.synced<=(↑q0.d.b.length:Int)/\q0.d.b.length<=(65536:Nat))/\q29=q8/\q31.me=q16.me/\q31.many=q16.many/\q31.bin=q16.bin/\aE q31.st q16.st (q31.role=q16.role/\q31.commit=q16.commit/\q31.applied=q16.applied/\bM q31.s q16.s (q30.synced=q18/\q30.down=q17.down/\q30.doomed=q19/\q30.keep=q17.keep/\q30.b=q17.b/\q3)))/\(q29=q6->q6=q8/\q31.me=q16.me/\q31.many=q16.many/\q31.bin=q16.bin/\aE q31.st q16.st (q31.role=q16.role/\q31.commit=q16.commit/\q31.applied=q16.applied/\bM q31.s q16.s (q0.d.synced=q18/\q0.d.down=q17.down/\q0.d.doomed=q19/\q0.d.keep=q17.keep/\q0.d.b=q17.b/\q3)))))/\(b<=q5.fst.floor->q6=q8/\q22/\q20/\b=q16.bin/\aE q5.fst q16.st (q6=q16.role/\q6=q16.commit/\q6=q16.applied/\bM (State.mk q7 q7 q6 q6 [] [] []) q16.s q26))))))))) (q0.d.dp q6)) q0.c) (q27.save q11)) (q28.synced=q18/\q28.down=q17.down/\q28.doomed=q19/\q28.keep=q17.keep/\q28.b=q17.b/\q3)) (q27.aM q11)) (Nd.mk q4 q28 [] [] [] [] [])) (q1.cut q13)) (if q10=true then n.d.up else n.d)) (q22/\q20/\q25/\aE q9.st q16.st (q24/\q23/\q21/\bM q9.s q16.s (False/\False/\False/\False/\False/\n.d.synced=q18/\q10=q17.down/\n.d.doomed=q19/\n.d.keep=q17.keep/\n.d.b=q17.b/\q3)))) (q9.many=q16.many)) (q9.applied=q16.applied)) (q9.me=q16.me)) (q9.commit=q16.commit)) (q9.role=q16.role)) (q9.bin=q16.bin)) q2.c) q17.synced) q17.doomed) q2.d) (startF n b).n) (n.rp=n.rp/\n.vs=n.vs/\n.bn=n.bn/\n.nx=n.nx/\n.mt=n.mt)) (NdC.mk q9.me q9.many b q5.fst q6 q6 q6 (State.mk q7 q7 q6 q6 [] [] []))) q5.snd) (bR b (max q5.fst.floor q7))) (replayF n.d.b)) [Record.mk q7 b q6 []]) (if q10=true then q6 else (31:Int))) (0:Int)) (1:Int)) (startF n b).e) n.c) n.d.down)
 obtain ⟨o1,o2,o3⟩:=id h0.d;have o4:=h0.log;(repeat' with_reducible first|apply bd|refine ba ?_|intro)
 all_goals (first | exact bq | exact (afd h1 ab) | exact (absurd h2 ab) | exact (Zz h0 h1 ab) | exact (abX h1 ab) | exact aaU | exact acC | exact (WY h0 h1).1 | exact (WY h0 h1).2.1 | exact (WY h0 h1).2.2 | exact (YI h0).1 | exact (YI h0).2.1 | exact (YI h0).2.2 | exact (X_ h0 h1).1 | exact (X_ h0 h1).2.1 | exact (X_ h0 h1).2.2 | (rw [Yx (n:=n) (b:=b) h1 h2 ab ab] <;> rfl) | (rw [VH (n:=n) (b:=b) h1 h2 ab ab] <;> rfl) | (rw [YO (n:=n) (b:=b) h1 h2 ab] <;> rfl))
theorem FY (b:Int) (n:Nd) (h0:NdOK n) (h1:n.d.down=true) (h2:bR b (max (replayF n.d.b).1.floor 1)=0):Sat Tryz.prog (al tyT) 13 [.c (.ptr 0 0),.c (.int (b))] (mI n) ⟨[NdOK n,n.d.down=true,bR b (max (replayF n.d.b).1.floor 1)=0],[.c (.int (((startF n b).e)))],some ([.box 103 (VQ 0 (((startF n b).n.c))++[.em true,.em true,.em true,.em true,.em true]),.box 147 ([.own 2,.int (((startF n b).n.d.synced)),.bool (.atom (((startF n b).n.d.down))),.bool (.atom (((startF n b).n.d.doomed))),.int (((startF n b).n.d.keep))]),.row 5 .u8 (((startF n b).n.d.b)),.row 78 (.nm .reply) ((n.rp)),.row 4 .bool ((n.vs)),.row 3 .int ((n.bn)),.row 3 .int ((n.nx)),.row 3 .int ((n.mt))]),false⟩:=ux _ _ _ rfl (by intro p hp; simp only [acX,ag5,or_false] at hp; rcases hp with rfl | rfl | rfl <;> assumption)
noncomputable def tQ:Kn:=aI (ae (kC (aW 0 0)) (ae (kC cI) au)) wS fun (_,b,_) n=>⟨[NdOK n,n.d.down=false\/¬ bR b (max (replayF n.d.b).1.floor 1)=0],[.c (.int (((startF n b).e)))],some ((mI ((startF n b).n))),false⟩
theorem vk:CK 13 tQ:=ah fun (_,b,_) n hp=>by
 have h0:=bV hp;have h1:=bV (eG hp);refine bu rR [] Tryz.func13 (?_:(fun (q8:Bool)=>(fun (q7:Int)=>(fun (q6:Int)=>(fun (q5:Int)=>(fun (q10:Int)=>(fun (q9:List (den (Sh.nm NT.record)))=>(fun (q4:Stable × Int)=>(fun (q12:Int)=>(fun (q11:Int)=>(fun (q3:Dsk)=>(fun (q13:Dsk)=>(fun (q2:Nd)=>(fun (q16:Dsk)=>(fun (q15:NdC)=>(fun (q14:Prop)=>(fun (q1:Nd)=>(fun (q0:Nd)=>(fun (q18:NdC)=>(fun (q17:Dsk)=>I64 b->(q8=false->(31:Int)=q7/\b_ n q2)/\(q8=true->(q5<=n.d.synced/\n.d.synced<=(↑n.d.b.length:Int)/\n.d.b.length<=(65536:Nat))/\n.d.b.length<=(1000000:Nat)/\bU q4.fst (I64 q12->I64 q11->(¬q11=q5->q11=q7/\b_ n q2)/\(q11=q5->I64 q10->(¬q10=q5->q10=q7/\b_ (Nd.mk n.c q3 n.rp n.vs n.bn n.nx n.mt) q2)/\(q10=q5->(q5<=q3.synced/\q3.synced<=(↑q3.b.length:Int)/\q3.b.length<=(65536:Nat))/\(I64 (q3.jS q12)->(¬q3.jS q12=q5->q3.jS q12=q7/\b_ (Nd.mk n.c q13 n.rp n.vs n.bn n.nx n.mt) q2)/\(q3.jS q12=q5->I64 q6->I64 q6->I64 q5->I64 q5->(0:Nat)*(32:Nat)<=(140737488355328:Nat)->(0:Nat)*(16:Nat)<=(140737488355328:Nat)->(0:Nat)*(64:Nat)<=(140737488355328:Nat)->(q4.fst.floor<b->(q5<=q13.synced/\q13.synced<=(↑q13.b.length:Int)/\q13.b.length<=(65536:Nat))/\q4.fst.log.length<=(10000:Nat)/\q9.length<=(1000:Nat)/\(I64 (q1.aM q9)->(¬q1.aM q9=q5->(q5<=q0.d.synced/\q0.d.synced<=(↑q0.d.b.length:Int)/\q0.d.b.length<=(65536:Nat))/\q1.aM q9=q7/\q18.me=q15.me/\q18.many=q15.many/\q18.bin=q15.bin/\aE q18.st q15.st (q18.role=q15.role/\q18.commit=q15.commit/\q18.applied=q15.applied/\bM q18.s q15.s (False/\False/\False/\False/\False/\q17.synced=q16.synced/\q17.down=q16.down/\q17.doomed=q16.doomed/\q17.keep=q16.keep/\q17.b=q16.b/\q14)))/\(q1.aM q9=q5->q5=q7/\q18.me=q15.me/\q18.many=q15.many/\q18.bin=q15.bin/\aE q18.st q15.st (q18.role=q15.role/\q18.commit=q15.commit/\q18.applied=q15.applied/\bM q18.s q15.s (False/\False/\False/\False/\False/\q0.d.synced=q16.synced/\q0.d.down=q16.down/\q0.d.doomed=q16.doomed/\q0.d.keep=q16.keep/\q0.d.b=q16.b/\q14)))))/\(b<=q4.fst.floor->q5=q7/\n.c.me=q15.me/\n.c.many=q15.many/\b=q15.bin/\aE q4.fst q15.st (q5=q15.role/\q5=q15.commit/\q5=q15.applied/\bM (State.mk q6 q6 q5 q5 [] [] []) q15.s (False/\False/\False/\False/\False/\q13.synced=q16.synced/\q13.down=q16.down/\q13.doomed=q16.doomed/\q13.keep=q16.keep/\q13.b=q16.b/\q14)))))))))) (q0.d.dp q5)) q0.c) (q1.save q9)) (Nd.mk (NdC.mk n.c.me n.c.many b q4.fst q5 q5 q5 (State.mk q6 q6 q5 q5 [] [] [])) q13 [] [] [] [] [])) (n.rp=q2.rp/\n.vs=q2.vs/\n.bn=q2.bn/\n.nx=q2.nx/\n.mt=q2.mt)) q2.c) q2.d) (startF n b).n) (q3.cut q12)) (if q8=true then n.d.up else n.d)) (bR b (max q4.fst.floor q6))) q4.snd) (replayF n.d.b)) [Record.mk q6 b q5 []]) (if q8=true then q5 else (31:Int))) (0:Int)) (1:Int)) (startF n b).e) n.d.down);obtain ⟨o1,o2,o3⟩:=id h0.d;have o4:=h0.log;(repeat' with_reducible first|apply bd|refine ba ?_|intro)
 all_goals (first | exact bq | exact (acn h1 ab ab) | (rw [abj (n:=n) (b:=b) ab] <;> rfl) | (rw [aaa (n:=n) (b:=b) ab ab] <;> rfl))
theorem uc (b:Int) (n:Nd) (h0:NdOK n) (h1:n.d.down=false\/¬ bR b (max (replayF n.d.b).1.floor 1)=0):Sat Tryz.prog (al tyT) 13 [.c (.ptr 0 0),.c (.int (b))] (mI n) ⟨[NdOK n,n.d.down=false\/¬ bR b (max (replayF n.d.b).1.floor 1)=0],[.c (.int (((startF n b).e)))],some ((mI ((startF n b).n))),false⟩:=vk _ _ _ rfl (by intro p hp; simp only [acX,ag5,or_false] at hp; rcases hp with rfl | rfl <;> assumption)
theorem Kc (b:Int) (n:Nd) (h0:NdOK n):Sat Tryz.prog (al tyT) 13 [.c (.ptr 0 0),.c (.int (b))] (mI n) ⟨[NdOK n],[.c (.int (((startF n b).e)))],some ((mI ((startF n b).n))),false⟩:=by
 by_cases hd:n.d.down=true
 ·by_cases hs:bR b (max (replayF n.d.b).1.floor 1)=0
  ·have h:=Sat.LY 0 22 3 .int cf rfl rfl (Sat.LY 0 21 3 .int cf rfl rfl (Sat.LY 0 20 3 .int cf rfl rfl (Sat.LY 0 19 4 .bool cf rfl rfl (Sat.LY 0 18 78 (.nm .reply) cf rfl rfl (Sat.ae9 cf rfl Yz (FY b n h0 hd hs)) rfl) rfl) rfl) rfl) rfl;obtain ⟨e1,e2,e3,e4,e5⟩:=afT hd hs;rw [afN e1 e2 e3 e4 e5];exact ⟨h.1,h.2⟩
  have h:=uc b n h0 (.inr hs);exact ⟨h.1,h.2⟩
 have h:=uc b n h0 (.inl (by simpa using hd));exact ⟨h.1,h.2⟩
noncomputable def yM:Kn:=aI (ae (kC (aW 0 0)) (ae (kC cI) au)) wS fun (_,b,_) n=>⟨[NdOK n],[.c (.int (((startF n b).e)))],some ((mI ((startF n b).n))),false⟩
theorem Iz:CK 13 yM:=ah fun (_,b,_) n hp=>Kc b n (bV hp)
noncomputable def Ui:bE:=(aK 13 yM (aK 13 tQ (aK 13 uF UK)))
theorem zX:ay Tryz.prog (al tyT) Ui:=(ag Iz (ag vk (ag ux rR)))
def aeo (n:Nd):AH:=.box 25 [.ptr 1 0] :: ndO 1 n
def Xe:PH Nd:=PH.Yn (aA (dB 25 (ax (aW 1 0) dt)) (aaN 1 aw)) (·.2.1) (fun n=>(((),()),n,()))
def fU (n:Nd) (r:Record):Bool:=decide (r.kind=4) && decide (r.a<=n.c.commit)
def Nh (n:Nd) (l:List Record):Int:=if l.any (fU n)=true then (l.findIdx (fU n):Int) else -1
section
variable {n:Nd} {l:List Record} {k:Nat} {r:Record}
theorem aeL (h:(l.take k).any (fU n)=false) (hr:l[k]? = some r) (h2:fU n r=false):(l.take (k+1)).any (fU n)=false:=by
 rw [ai hr,List.any_append,h]; simp [h2]
theorem aeC (h:(l.take k).any (fU n)=false) (hr:l[k]? = some r) (h2:fU n r=true):(k:Int)=Nh n l:=by
 have hk:=aaT.1 hr;have h1:l.any (fU n)=true:=List.any_eq_true.2 ⟨r,ac4 hr,h2⟩;rw [Nh,if_pos h1];have e:l.findIdx (fU n)=k:=by
  rw [List.findIdx_eq hk.1];refine ⟨by rw [hk.2]; exact h2,fun j hj=>?_⟩;have:=List.any_eq_false.1 h (l[j]'(by have:=hk.1; omega)) (List.mem_iff_getElem?.2 ⟨j,by rw [List.getElem?_take_of_lt hj,List.getElem?_eq_getElem]⟩);simpa using this
 rw [e]
theorem agj (h:(l.take k).any (fU n)=false) (hk:(l.length:Int)<=k):-1=Nh n l:=by
 rw [List.take_of_length_le (by omega)] at h;rw [Nh,if_neg (by rw [h]; decide)]
theorem agq:decide (0<=Nh n l)=l.any (fU n):=by
 unfold Nh;cases h:l.any (fU n) <;> simp
end
noncomputable def Dw:Kn:=aI (ae (kT (.nm .record)) (ae (kC (aW 0 0)) au)) Xe fun (r,_,_) n=>⟨[],[.c (.bool (.atom ((fU n r))))],none,false⟩
theorem Sc:CK 97 Dw:=ah fun (r,_,_) n _=>by
 refine av zX [] Tryz.func97 (?_:dJ r ((r.kind=4->decide (r.a<=n.c.commit)=fU n r)/\(¬r.kind=4->false=fU n r)));(repeat' with_reducible first|apply bd|refine ba ?_|intro)
 all_goals (first | exact bq | (simp only [fU]; simp_all; done) | exact rfl)
noncomputable def TU:bE:=(aK 97 Dw Ui)
theorem Ap:ay Tryz.prog (al tyT) TU:=(ag Sc zX)
def adC (l:List Record) (n:Nd):List (Nat × LI):=[(2,{ σ:=Nat,F:=fun k=>([(0,one (.fz (.nm .record) (l))),(1,one (.fn 97 [] [(0,0)])),(7,one (.int (l).length)),(8,one (.int k))],(aeo (n))),J:=fun k=>k<=l.length/\(l.take k).any (fU n)=false,μ:=fun k=>(l).length - k })]
noncomputable def Tk:Kn:=aI (ae (kC (cL (.nm .record))) (ae (kC (pX 97 [] [(0,0)])) au)) Xe fun (l,_,_) n=>⟨[],[.c (.int ((Nh n l)))],none,false⟩
theorem acv:CK 168 Tk:=ah fun (l,_,_) n _=>by
 refine av Ap (adC l n) Tryz.func168 (?_:(fun (q0:Nat)=>l.length*48<=140737488355328->∃ (s0:Nat),(l=l/\(↑l.length:Int)=(↑q0:Int)/\0=(↑s0:Int)/\b_ n n)/\(s0<=q0/\(List.take s0 l).any (fU n)=false)/\∀ (s:Nat),s<=q0/\(List.take s l).any (fU n)=false->((↑s:Int)<(↑q0:Int)->0<=(↑s:Int)/\(↑s:Int)<(↑l.length:Int)/\∀ (x:Record),l[s]? = some x->dJ x ((fU n x=true->(↑s:Int)=Nh n l)/\(fU n x=false->I64 ((↑s:Int)+1)/\∃ (s':Nat),(l=l/\(↑q0:Int)=(↑q0:Int)/\(↑s:Int)+1=(↑s':Int)/\b_ n n)/\(s' <= q0/\(List.take s' l).any (fU n)=false)/\q0 - s' < q0 - s)))/\((↑q0:Int)<=(↑s:Int) -> -1=Nh n l)) l.length);iterate 3 ((all_goals (repeat' with_reducible first|apply bd|refine ba ?_|intro)); (all_goals try (first | exact bq | exact rfl | exact (aeL ab ab ab) | exact (aeC ab ab ab) | exact (agj ab ab))); all_goals try first | refine ⟨‹Nat› + 1,?_⟩ | refine ⟨0,?_⟩)
noncomputable def UB:bE:=(aK 168 Tk TU)
theorem Aw:ay Tryz.prog (al tyT) UB:=(ag acv Ap)
noncomputable def Ti:Kn:=aI (ae (kC (cL (.nm .record))) (ae (kC (pX 97 [] [(0,0)])) au)) Xe fun (l,_,_) n=>⟨[],[.c (.bool (.atom ((l.any (fU n)))))],none,false⟩
theorem aag:CK 96 Ti:=ah fun (l,_,_) n _=>by
 refine av Aw [] Tryz.func96 (?_:l.length*48<=140737488355328->I64 (Nh n l)->decide (0<=Nh n l)=l.any (fU n));(repeat' with_reducible first|apply bd|refine ba ?_|intro)
 all_goals (first | exact bq | exact agq)
noncomputable def Uj:bE:=(aK 96 Ti UB)
theorem zk:ay Tryz.prog (al tyT) Uj:=(ag aag Aw)
variable {n:NdC}
theorem ab4 (h:(¬ mayL x=0\/¬ x.to=n.me)\/n.many<=x.frm):de n x=false:=if_pos h
theorem ZD (h:mayL x=0) (h1:x.to=n.me) (h2:x.frm<n.many) (h3:¬ x.kind=3):de n x=true:=by rw [de,if_neg (by omega),if_pos h3]
theorem ab0 (h:mayL x=0) (h1:x.to=n.me) (h2:x.frm<n.many) (h3:x.kind=3) (h4:¬ (aB n.st x).2.2.2=0):de n x=false:=by rw [de,if_neg (by omega),if_neg (by omega),if_pos h4]
variable {n:Nd}
theorem aaK (h:mayL x=0) (h1:x.to=n.c.me) (h2:x.frm<n.c.many) (h3:x.kind=3) (h4:(aB n.c.st x).2.2.2=0):(!(aB n.c.st x).1.any (fU n))=de n.c x:=by rw [de,if_neg (by omega),if_neg (by omega),if_neg (by omega)]; rfl
noncomputable def JO:Kn:=aI (ae (kC (aW 0 0)) (ae (kT (.nm .letter)) au)) wS fun (_,x,_) n=>⟨[],[.c (.bool (.atom ((de n.c x))))],none,false⟩
theorem XY:CK 55 JO:=ah fun (_,x,_) n _=>by
 refine av zk [] Tryz.func55 (?_:(fun q0=>aS x (I64 (mayL x)->((¬mayL x=0\/¬x.to=n.c.me)\/n.c.many<=x.frm->false=de n.c x)/\((mayL x=0/\x.to=n.c.me)/\x.frm<n.c.many->(¬x.kind=3->true=de n.c x)/\(x.kind=3->(aB n.c.st x).fst.length*48<=140737488355328->I64 q0.fst->I64 q0.snd->(¬q0.snd=0->false=de n.c x)/\(q0.snd=0->(!(aB n.c.st x).fst.any (fU n))=de n.c x))))) (aB n.c.st x).snd.snd);(repeat' with_reducible first|apply bd|refine ba ?_|intro)
 all_goals (first | exact bq | exact (aaK ab ab ab ab ab) | exact (ab4 ab).symm | exact (ZD ab ab ab ab).symm | exact (ab0 ab ab ab ab ab).symm)
noncomputable def TH:bE:=(aK 55 JO Uj)
theorem sa:ay Tryz.prog (al tyT) TH:=(ag XY zk)
theorem ZM:∀ {k:Nat} {n:Nd},(n.iy k).nx=n.nx/\(n.iy k).d=n.d/\(n.iy k).c.me=n.c.me/\(n.iy k).c.st=n.c.st
 | 0,_=>⟨rfl,rfl,rfl,rfl⟩
 | k+1,n=>by
  unfold Nd.iy;split
  ·split
   ·exact ZM
   grind
  grind
theorem TR:n.apply.nx=n.nx:=ZM.1
theorem YD {s:Stable} {l:List Int} {k:Int} (h:k<=(s.log.length:Int)):pG s l k<=(s.log.length:Int):=by
 unfold pG;grind
noncomputable abbrev LL (n:Nd) (x:Letter):Nd:=⟨⟨n.c.me,n.c.many,n.c.bin,n.c.st,n.c.role,pG n.c.st ((n.mt.set x.frm.toNat (max (n.mt.getD x.frm.toNat (ao Sh.int)) (min x.a (n.c.st.log.length:Int)))).set n.c.me.toNat (n.c.st.log.length:Int)) n.c.commit,n.c.applied,n.c.s⟩,n.d,n.rp,n.vs,n.bn,n.nx.set x.frm.toNat (min (lC (n.nx.getD x.frm.toNat (ao Sh.int)) x) ((n.c.st.log.length:Int)+1)),n.mt.set x.frm.toNat (max (n.mt.getD x.frm.toNat (ao Sh.int)) (min x.a (n.c.st.log.length:Int)))⟩
noncomputable abbrev Oe (n:Nd) (x:Letter):Nd:=⟨⟨n.c.me,n.c.many,n.c.bin,n.c.st,n.c.role,pG n.c.st (n.mt.set n.c.me.toNat (n.c.st.log.length:Int)) n.c.commit,n.c.applied,n.c.s⟩,n.d,n.rp,n.vs,n.bn,n.nx.set x.frm.toNat (min (lC (n.nx.getD x.frm.toNat (ao Sh.int)) x) ((n.c.st.log.length:Int)+1)),n.mt⟩
section
variable {n:Nd} {x:Letter}
theorem KU (h:x.ok=true):n.TJ x=LL n x:=by
 unfold Nd.TJ; dsimp only; rw [if_pos h]; rfl
theorem IY (h:x.ok=false):n.TJ x=Oe n x:=by
 unfold Nd.TJ; dsimp only; rw [if_neg (lu h)]; rfl
theorem Ya:(LL n x).apply.nx.length=n.nx.length:=by rw [TR]; exact adg
theorem VY:(Oe n x).apply.nx.length=n.nx.length:=by rw [TR]; exact adg
variable {G:Nd}
theorem aay (hG:n.TJ x=G) (h:(n.c.st.log.length:Int)<G.apply.nx.getD x.frm.toNat (ao Sh.int)):ig n x=⟨G.apply,[],0⟩:=by
 rw [ig,hG]; exact if_pos h
theorem aaM (hG:n.TJ x=G) (h:G.apply.nx.getD x.frm.toNat (ao Sh.int)<=(n.c.st.log.length:Int)) (h1:¬ (ln G.apply x.frm).2=0):ig n x=⟨G.apply,[],(ln G.apply x.frm).2⟩:=by
 rw [ig,hG]; exact (if_neg (Int.not_lt.2 h)).trans (if_neg h1)
theorem abx (hG:n.TJ x=G) (h:G.apply.nx.getD x.frm.toNat (ao Sh.int)<=(n.c.st.log.length:Int)) (h1:(ln G.apply x.frm).2=0):ig n x=⟨G.apply,[(ln G.apply x.frm).1],0⟩:=by
 rw [ig,hG]; exact (if_neg (Int.not_lt.2 h)).trans (if_pos h1)
end
def cN (n:Nd) (k:Nat):Nd:={ n with c:={ n.c with role:=2 },nx:=List.replicate k ((n.c.st.log.length:Int)+1)++n.nx.drop k,mt:=List.replicate k (0:Int)++n.mt.drop k }
theorem v_ {α:Type} {a:α}:∀ {l:List α} {k:Nat},k<l.length->(List.replicate k a++l.drop k).set k a=List.replicate (k+1) a++l.drop (k+1)
 | x :: l,0,_=>by simp
 | x :: l,k+1,h=>by
  rw [List.replicate_succ,List.drop_succ_cons,List.cons_append,List.set_cons_succ,v_ (by simpa using h),List.replicate_succ (n:=k+1),List.cons_append,List.drop_succ_cons]
section
variable {n:Nd} {k:Nat}
theorem aa1 (h:(k:Int)<(n.nx.length:Int)):(cN n k).nx.set k ((n.c.st.log.length:Int)+1)=(cN n (k+1)).nx:=v_ (by omega)
theorem abc (h:(k:Int)<(n.mt.length:Int)):(cN n k).mt.set k 0=(cN n (k+1)).mt:=v_ (by omega)
theorem TF (h:k<=n.nx.length):(cN n k).nx.length=n.nx.length:=by
 simp only [cN,List.length_append,ag7,List.length_drop]; omega
theorem aaY (h:k<=n.mt.length):(cN n k).mt.length=n.mt.length:=by
 simp only [cN,List.length_append,ag7,List.length_drop]; omega
variable (h1:(n.nx.length:Int)=n.c.many) (h2:(n.mt.length:Int)=n.c.many) (hk:k<=n.c.many.toNat) (hm:n.c.many<=k)
include h1 h2 hk hm
theorem XB:cN n k={ n with c:={ n.c with role:=2 },nx:=List.replicate n.nx.length ((n.c.st.log.length:Int)+1),mt:=List.replicate n.mt.length 0 }:=by
 unfold cN;grind
theorem adi (h:(n.c.st.log.length:Int)+1<=64) (hs:(cN n k).aM [⟨3,(n.c.st.log.length:Int)+1,(cN n k).c.st.term,[]⟩]=0):gC n=⟨(cN n k).save [⟨3,(n.c.st.log.length:Int)+1,(cN n k).c.st.term,[]⟩],(cJ ((cN n k).save [⟨3,(n.c.st.log.length:Int)+1,(cN n k).c.st.term,[]⟩])).1,(cJ ((cN n k).save [⟨3,(n.c.st.log.length:Int)+1,(cN n k).c.st.term,[]⟩])).2⟩:=by
 rw [XB h1 h2 hk hm] at hs ⊢;exact (if_pos h).trans (if_pos hs)
theorem agE (h:(n.c.st.log.length:Int)+1<=64) (hs:¬ (cN n k).aM [⟨3,(n.c.st.log.length:Int)+1,(cN n k).c.st.term,[]⟩]=0):gC n=⟨(cN n k).save [⟨3,(n.c.st.log.length:Int)+1,(cN n k).c.st.term,[]⟩],[],(cN n k).aM [⟨3,(n.c.st.log.length:Int)+1,(cN n k).c.st.term,[]⟩]⟩:=by
 rw [XB h1 h2 hk hm] at hs ⊢;exact (if_pos h).trans (if_neg hs)
theorem afO (h:64<(n.c.st.log.length:Int)+1):gC n=⟨cN n k,(cJ (cN n k)).1,(cJ (cN n k)).2⟩:=by
 rw [XB h1 h2 hk hm];exact if_neg aJ
end
def VJ (n:Nd):List (Nat × LI):=[(4,{ σ:=Nat,F:=fun k=>([(0,one (.ptr 0 0)),(4,one (.int (n.c.st.log.length+1))),(22,one (.int n.c.many)),(23,one (.int k))],(mI ((cN n k)))),J:=fun k=>k<=n.c.many.toNat,μ:=fun k=>n.c.many.toNat - k })]
noncomputable def Di:Kn:=aI (ae (kC (aW 0 0)) (ae (kT (.nm .letter)) au)) wS fun (_,x,_) n=>⟨[NdOK n,0<=x.frm/\x.frm<n.c.many,n.c.role=2,0<=x.a/\x.a<=64],[.c (.fz (.nm .letter) (((ig n x).l))),.c (.int (((ig n x).e)))],some ((mI ((ig n x).n))),false⟩
theorem Qu:CK 103 Di:=ah fun (_,x,_) n hp=>by
 have h0:=bV hp;have h1:=bV (eG hp);have h2:=bV (eG (eG hp));have h3:=bV (eG (eG (eG hp)));refine bu sa [] Tryz.func103 (?_:(fun q10=>(fun q13=>(fun q12=>(fun q11=>(fun q9=>(fun q8=>(fun q7=>(fun q6=>(fun q5=>(fun q4=>(fun q15=>(fun q14=>(fun q16=>(fun q3=>(fun q18=>(fun q17=>(fun q2=>(fun q19=>(fun q1=>(fun q20=>(fun q0=>(fun q21=>aS x (q15/\q4<(↑n.nx.length:Int)/\(q5<=x.a/\x.a<=64)/\I64 (q3+1)/\q15/\q4<(↑n.nx.length:Int)/\(I64 q16->I64 (lC q16 x)->I64 q16->(x.ok=true->q15/\q4<(↑n.mt.length:Int)/\q15/\q4<(↑n.mt.length:Int)/\(I64 (n.mt.getD q14 q8)->I64 (n.mt.getD q14 q8)->q5<=q10.me/\q10.me<(↑q2.length:Int)/\(I64 (q2.getD q7 q8)->(q2.set q7 q3).length<=12/\(I64 q19->((q5<=q13/\q19<=(↑q11.log.length:Int))/\q9)/\q15/\q4<(↑q0.nx.length:Int)/\(I64 (q0.nx.getD q14 q8)->(q3<q0.nx.getD q14 q8->q6.l=[]/\q5=q6.e/\b_ q0 q6.n)/\(q0.nx.getD q14 q8<=q3->(q15/\q4<(↑q0.nx.length:Int))/\aS (ln q0 q4).fst (I64 q21->(¬q21=q5->q6.l=[]/\q21=q6.e/\b_ q0 q6.n)/\(q21=q5->[(ln q0 q4).fst]=q6.l/\q5=q6.e/\b_ q0 q6.n))))))))/\(x.ok=false->q5<=q10.me/\q10.me<(↑n.mt.length:Int)/\(I64 (n.mt.getD q7 q8)->(n.mt.set q7 q3).length<=12/\(I64 q17->((q5<=q13/\q17<=(↑q11.log.length:Int))/\q9)/\q15/\q4<(↑q1.nx.length:Int)/\(I64 (q1.nx.getD q14 q8)->(q3<q1.nx.getD q14 q8->q6.l=[]/\q5=q6.e/\b_ q1 q6.n)/\(q1.nx.getD q14 q8<=q3->(q15/\q4<(↑q1.nx.length:Int))/\aS (ln q1 q4).fst (I64 q20->(¬q20=q5->q6.l=[]/\q20=q6.e/\b_ q1 q6.n)/\(q20=q5->[(ln q1 q4).fst]=q6.l/\q5=q6.e/\b_ q1 q6.n)))))))))) (ln q0 q4).snd) (Nd.mk (NdC.mk q10.me q10.many q10.bin q11 q10.role q19 q13 q10.s) n.d n.rp n.vs n.bn q18 q2).apply) (ln q1 q4).snd) (Nd.mk (NdC.mk q10.me q10.many q10.bin q11 q10.role q17 q13 q10.s) n.d n.rp n.vs n.bn q18 n.mt).apply) (pG q11 (q2.set q7 q3) q12)) (n.mt.set q14 (max (n.mt.getD q14 q8) (min x.a q3)))) (pG q11 (n.mt.set q7 q3) q12)) (n.nx.set q14 (min (lC q16 x) (q3+1)))) (↑q11.log.length:Int)) (n.nx.getD q14 q8)) q4.toNat) (q5<=q4)) x.frm) (0:Int)) (ig n x)) q10.me.toNat) (ao Sh.int)) ((↑n.rp.length:Int)<=q13/\q11.log.length<=10000)) q10.st) q10.commit) q10.applied) n.c);obtain ⟨o1,o2,o3⟩:=id h0.d;have o4:=h0.log;have o5:=h0.many;have o6:=h0.me;have o7:=h0.com;have o8:=h0.term;have o9:=h0.rp;obtain ⟨l1,l2,l3,l4⟩:=h0.len.resolve_left (by omega);(repeat' with_reducible first|apply bd|refine ba ?_|intro)
 all_goals (first | exact bq | exact (YD o7.2.2) | (rw [Ya]; omega) | (rw [VY]; omega) | (rw [adg]; omega) | (rw [adg,adg]; omega) | (rw [aay (n:=n) (x:=x) (G:=LL n x) (KU ab) ab] <;> rfl) | (rw [aaM (n:=n) (x:=x) (G:=LL n x) (KU ab) ab ab] <;> rfl) | (rw [abx (n:=n) (x:=x) (G:=LL n x) (KU ab) ab ab] <;> rfl) | (rw [aay (n:=n) (x:=x) (G:=Oe n x) (IY ab) ab] <;> rfl) | (rw [aaM (n:=n) (x:=x) (G:=Oe n x) (IY ab) ab ab] <;> rfl) | (rw [abx (n:=n) (x:=x) (G:=Oe n x) (IY ab) ab ab] <;> rfl))
noncomputable def Dd:Kn:=aI (ae (kC (aW 0 0)) au) wS fun _ n=>⟨[NdOK n,n.c.role=1],[.c (.fz (.nm .letter) (((gC n).l))),.c (.int (((gC n).e)))],some ((mI ((gC n).n))),false⟩
theorem QW:CK 102 Dd:=ah fun _ n hp=>by
 have h0:=bV hp;have h1:=bV (eG hp);refine bu sa (VJ n) Tryz.func102 (?_:(fun (q5:Int)=>(fun (q4:NdR)=>(fun (q3:Int)=>(fun (q2:Int)=>(fun (q1:Int)=>(fun (q0:Int)=>I64 q5/\∃ (s0:Nat),(q5=q0/\q2=q2/\q3=(↑s0:Int)/\b_ (Nd.mk (NdC.mk n.c.me q2 n.c.bin n.c.st 2 n.c.commit n.c.applied n.c.s) n.d n.rp n.vs n.bn n.nx n.mt) (cN n s0))/\s0<=q2.toNat/\∀ (s:Nat),(fun (q7:Nd)=>(fun (q6:List (den (Sh.nm NT.record)))=>(fun (q8:Nd)=>s<=q2.toNat->((↑s:Int)<q2->(q3<=(↑s:Int)/\(↑s:Int)<(↑q7.nx.length:Int))/\(I64 (q7.nx.getD s (ao Sh.int))->q3<=(↑s:Int)/\(↑s:Int)<(↑q7.mt.length:Int))/\(I64 (q7.nx.getD s (ao Sh.int))->I64 (q7.mt.getD s (ao Sh.int))->I64 ((↑s:Int)+1)/\∃ (s':Nat),(q0=q0/\q2=q2/\(↑s:Int)+1=(↑s':Int)/\b_ (Nd.mk q7.c q7.d q7.rp q7.vs q7.bn (q7.nx.set s q0) (q7.mt.set s q3)) (cN n s'))/\s' <= q2.toNat/\q2.toNat - s' < q2.toNat - s))/\(q2<=(↑s:Int)->(q0<=64->(q3<=q7.d.synced/\q7.d.synced<=(↑q7.d.b.length:Int)/\q7.d.b.length<=65536)/\q7.c.st.log.length<=10000/\q6.length<=1000/\(I64 (q7.aM q6)->(¬q7.aM q6=q3->q4.l=[]/\q7.aM q6=q4.e/\b_ q8 q4.n)/\(q7.aM q6=q3->q8.c.many<=5/\(q8.c.role=q3\/(↑q8.nx.length:Int)=q8.c.many)/\((cJ q8).fst.length*96<=140737488355328->I64 (cJ q8).snd->(cJ q8).fst=q4.l/\(cJ q8).snd=q4.e/\b_ q8 q4.n))))/\(64<q0->q7.c.many<=5/\(q7.c.role=q3\/(↑q7.nx.length:Int)=q7.c.many)/\((cJ q7).fst.length*96<=140737488355328->I64 (cJ q7).snd->(cJ q7).fst=q4.l/\(cJ q7).snd=q4.e/\b_ q7 q4.n)))) (q7.save q6)) [Record.mk q1 q0 q7.c.st.term []]) (cN n s)) ((↑n.c.st.log.length:Int)+1)) 3) n.c.many) 0) (gC n)) ((↑n.c.st.log.length:Int)+1));obtain ⟨o1,o2,o3⟩:=id h0.d;have o4:=h0.log;have o5:=h0.many;have o6:=h0.me;have o7:=h0.com;have o8:=h0.term;have o9:=h0.rp;obtain ⟨l1,l2,l3,l4⟩:=h0.len.resolve_left (by omega);iterate 3 ((all_goals (repeat' with_reducible first|apply bd|refine ba ?_|intro)); (all_goals try (first | exact bq | exact rfl | exact (aa1 aJ) | exact (abc aJ) | (rw [TF aJ]; omega) | (rw [aaY aJ]; omega) | exact (.inr ((congrArg Int.ofNat (TF aJ)).trans l3)) | exact acC | exact o5.2 | exact o1 | exact o2 | exact o3 | exact (Nat.le_trans o4 (by decide)) | (rw [adi (n:=n) (k:=‹Nat›) l3 l4 ab ab ab ab] <;> rfl) | (rw [agE (n:=n) (k:=‹Nat›) l3 l4 ab ab ab ab] <;> rfl) | (rw [afO (n:=n) (k:=‹Nat›) l3 l4 ab ab ab] <;> rfl))); all_goals try first | refine ⟨‹Nat› + 1,?_⟩ | refine ⟨0,?_⟩)
noncomputable def UN:bE:=(aK 102 Dd (aK 103 Di TH))
theorem xR:ay Tryz.prog (al tyT) UN:=(ag QW (ag Qu sa))
end Go.Proofs.YticbaadnibdbkaaGreat
