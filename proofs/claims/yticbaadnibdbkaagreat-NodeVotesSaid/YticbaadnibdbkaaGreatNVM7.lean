/- What leads to the law, part 7. Conditions: each lemma's own. -/
import Derived.Test.YticbaadnibdbkaaGreatNVM6
set_option linter.unusedVariables false
set_option linter.unusedSimpArgs false
set_option linter.defProp false
namespace Go.Proofs.YticbaadnibdbkaaGreat
open Go.RowKit
def agY:=@Bool.false_and
def aiL:=@List.mem_iff_getElem?
theorem TL (n:Nat):u8w (n:Int)=UInt8.ofNat n:=by
 apply UInt8.toNat_inj.1;rw [u8w,ofNat_toNat,ofNat_toNat]; omega
variable {l:List Entry} {m k:Int}
theorem Mf (h:(k<0\/(l.length:Int)<k)\/m<1):fI l k m=[]:=if_pos h
theorem Pk (h1:0<=k) (h2:k<=(l.length:Int)) (h3:1<=m):(l.drop k.toNat).take (min m ((l.drop k.toNat).length:Int)).toNat=fI l k m:=by
 rw [fI,if_neg (by omega)]
variable {m:List Entry}
theorem YB (h:k<0\/(l.length:Int)<k):bd l k m=(0,[]):=if_pos h
variable {j:Nat}
theorem VY (h4:j<=gO (l.drop k.toNat) m) (h1:0<=k) (h2:k<=(l.length:Int)) (h3:j<m.length) (h5:(((l.drop k.toNat).length:Nat):Int)<=j):bd l k m=(0,m.drop j):=by
 have:=lK (h:=l.drop k.toNat) (a:=m);have e:gO (l.drop k.toNat) m=j:=by omega
 rw [bd,if_neg (by omega),e,if_neg (by omega),if_pos (by omega)]
theorem Wc {y:Entry} (h4:j<=gO (l.drop k.toNat) m) (h1:0<=k) (h2:k<=(l.length:Int)) (h5:(j:Int)<((l.drop k.toNat).length:Nat)) (hy:m[j]? = some y) (hn:¬ ((l.drop k.toNat).getD j (au (Sh.nm NT.entry))).term=y.term):bd l k m=(k+j+1,m.drop j):=by
 have hx:(l.drop k.toNat)[j]? = some ((l.drop k.toNat).getD j (au (Sh.nm NT.entry))):=by
  rw [List.getD_eq_getElem?_getD,List.getElem?_eq_getElem (by omega)]; rfl
 have:=pc h4 hx hy;have hm:=(aaA.1 hy).1;have e:gO (l.drop k.toNat) m=j:=by
  rcases Nat.lt_or_ge j (gO (l.drop k.toNat) m) with h | h
  ·exact absurd (this.2 h) hn
  omega
 rw [bd,if_neg (by omega),e,if_neg (by omega),if_neg (by omega)]
theorem acD {y:Entry} (h4:j<=gO (l.drop k.toNat) m) (h5:(j:Int)<((l.drop k.toNat).length:Nat)) (hy:m[j]? = some y) (hn:((l.drop k.toNat).getD j (au (Sh.nm NT.entry))).term=y.term):j+1<=gO (l.drop k.toNat) m:=by
 have hx:(l.drop k.toNat)[j]? = some ((l.drop k.toNat).getD j (au (Sh.nm NT.entry))):=by
  rw [List.getD_eq_getElem?_getD,List.getElem?_eq_getElem (by omega)]; rfl
 exact (pc h4 hx hy).1 hn
theorem WZ (h4:j<=gO (l.drop k.toNat) m) (h1:0<=k) (h2:k<=(l.length:Int)) (h5:(m.length:Int)<=j):bd l k m=(0,[]):=by
 rw [bd,if_neg (by omega),if_pos (by omega)]
variable {x:Letter}
theorem ZA (h:((((((((((((¬x.kind=1/\¬x.kind=2)/\¬x.kind=3)/\¬x.kind=4)\/cj x.frm 0 4=false)\/cj x.to 0 4=false)\/x.frm=x.to)\/cj x.term 1 1048576=false)\/cj x.bin 1 3=false)\/dU x.a 64 (decide (x.kind=1) || decide (x.kind=3) || decide (x.kind=4))=false)\/dU x.b 1048576 (decide (x.kind=1) || decide (x.kind=3))=false)\/dU x.c 64 (decide (x.kind=3))=false)\/(x.ok=true/\¬x.kind=2)/\¬x.kind=4)\/dU (x.l.length:Int) 4 (decide (x.kind=3))=false):nK x=false:=by
 unfold nK;rcases h with (((((((((h | h) | h) | h) | h) | h) | h) | h) | h) | h) | h
 ·obtain ⟨⟨⟨h1,h2⟩,h3⟩,h4⟩:=h;rw [aeF h1,aeF h2,aeF h3,aeF h4]; rfl
 ·rw [h]; simp only [Bool.and_false,agY]
 ·rw [h]; simp only [Bool.and_false,agY]
 ·rw [decide_eq_true h]; simp only [Bool.not_true,Bool.and_false,agY]
 ·rw [h]; simp only [Bool.and_false,agY]
 ·rw [h]; simp only [Bool.and_false,agY]
 ·rw [h]; simp only [Bool.and_false,agY]
 ·rw [h]; simp only [Bool.and_false,agY]
 ·rw [h]; simp only [Bool.and_false,agY]
 ·obtain ⟨⟨h1,h2⟩,h3⟩:=h;have e:(!x.ok || decide (x.kind=2) || decide (x.kind=4))=false:=by rw [h1,aeF h2,aeF h3]; rfl
  rw [e]; simp only [Bool.and_false,agY]
 rw [h]; simp only [Bool.and_false]
theorem YW (h0:((x.kind=1\/x.kind=2)\/x.kind=3)\/x.kind=4) (h1:cj x.frm 0 4=true) (h2:cj x.to 0 4=true) (h3:¬x.frm=x.to) (h4:cj x.term 1 1048576=true) (h5:cj x.bin 1 3=true) (h6:dU x.a 64 (decide (x.kind=1) || decide (x.kind=3) || decide (x.kind=4))=true) (h7:dU x.b 1048576 (decide (x.kind=1) || decide (x.kind=3))=true) (h8:dU x.c 64 (decide (x.kind=3))=true) (h9:(x.ok=false\/x.kind=2)\/x.kind=4) (h10:dU (x.l.length:Int) 4 (decide (x.kind=3))=true):nK x=true:=by
 unfold nK;have e0:(decide (x.kind=1) || decide (x.kind=2) || decide (x.kind=3) || decide (x.kind=4))=true:=by
  simp only [Bool.or_eq_true,decide_eq_true_eq]; exact h0
 have e9:(!x.ok || decide (x.kind=2) || decide (x.kind=4))=true:=by
  simp only [Bool.or_eq_true,aeu,decide_eq_true_eq]; exact h9
 rw [e0,h1,h2,aeF h3,h4,h5,h6,h7,h8,e9,h10]; rfl
theorem Uu {y:Entry} (h:cj y.term 1 1048576=false\/200<(y.b.length:Int)):eN y=false:=by
 unfold eN;rcases h with h | h
 ·rw [h]; rfl
 rw [aeF (by omega),Bool.and_false]
theorem TB {y:Entry} (h:cj y.term 1 1048576=true) (h2:(y.b.length:Int)<=200):eN y=true:=by
 unfold eN; rw [h,decide_eq_true h2]; rfl
variable {k:Nat}
theorem ac_ (h:nK x=true) (h2:(x.l.length:Int)<=k) (h3:(x.l.take k).all eN=true):0=mayL x:=by
 rw [List.take_of_length_le (by omega)] at h3;rw [mayL,if_pos ⟨h,h3⟩]
theorem YY {y:Entry} (hy:x.l[k]? = some y) (h:eN y=false):1=mayL x:=by
 rw [mayL,if_neg];rintro ⟨_,h2⟩;have:=aeD.1 h2 y (aiL.2 ⟨k,hy⟩);rw [h] at this; cases this
theorem adz {y:Entry} (hy:x.l[k]? = some y) (h:eN y=true) (h3:(x.l.take k).all eN=true):(x.l.take (k+1)).all eN=true:=by
 rw [ai hy,agr,h3]; simp [h]
theorem ahu:(x.l.take 0).all eN=true:=rfl
theorem acN (h:nK x=false):1=mayL x:=by
 rw [mayL,if_neg (by rintro ⟨h1,_⟩; rw [h] at h1; cases h1)]
def ZH (x:Letter):List (Nat × LI):=[(7,{ σ:=Nat,F:=fun k=>([(112,one (.fz (.nm .entry) x.l)),(113,one (.int x.l.length)),(114,one (.int k))],[]),J:=fun k=>k<=x.l.length/\nK x=true/\(x.l.take k).all eN=true,μ:=fun k=>x.l.length - k })]
def Sa (l:List Entry) (k:Int) (m:List Entry):List (Nat × LI):=[(5,{ σ:=Nat,F:=fun j=>([(1,one (.int (k))),(2,one (.fz (.nm .entry) (m))),(8,one (.fz (.nm .entry) (l.drop k.toNat))),(22,one (.fz (.nm .entry) (m))),(23,one (.int (m).length)),(24,one (.int j))],[]),J:=fun j=>j<=m.length/\j<=gO (l.drop k.toNat) m,μ:=fun j=>(m).length - j })]
noncomputable def Eh:Kn:=aK (ae (kC (cL .u8)) (ae (kC cW) ao)) aw fun (b,s,_) _=>⟨[],[.c (.bool (.atom ((decide (dT 1 b=s)))))],none,false⟩
theorem Rj:CK 143 Eh:=ag fun (b,s,_) _ _=>by
 refine av iL [] Tryz.func143 (?_:b.length*1<=140737488355328->decide ((↑(dT 1 b):Int)=(↑s:Int))=decide (dT 1 b=s));(repeat' with_reducible first|apply aZ|refine aY ?_|intro) <;> first | (first | with_reducible rfl | with_reducible assumption | omega | (refine bT ?_ ?_ <;> omega)) | (simp only [decide_eq_decide]; omega)
noncomputable def Lo:Kn:=aK (ae (kC (cL .u8)) ao) aw fun (x,_) _=>⟨[],[.c (.fz .u8 (((pn x).1))),.c (.int (((pn x).2)))],none,false⟩
theorem Yd:CK 149 Lo:=ag fun (x,_) _ _=>by
 refine av (Ra iL) [] Tryz.func149 (?_:(fun (q4:Nat)=>(fun (q3:Nat)=>(fun (q2:Int)=>(fun (q5:Int)=>(fun (q1:List (den Sh.u8))=>(fun (q0:List (den Sh.u8))=>(fun (q6:List (den Sh.u8))=>x.length*q3<=(140737488355328:Nat)->(q2=(0:Int)\/(4096:Int)<q2->(pn x).fst=[]/\(4:Int)=(pn x).snd)/\(¬q2=(0:Int)/\q2<=(4096:Int)->I64 ((2:Int)+q2)/\I64 q5/\(0:Int)<=q5/\q5*(↑q3:Int)<=(140737488355328:Int)/\(0:Int)<=q2/\(8:Nat)<(64:Nat)/\((0:Nat)+q1.length)*q3<=(140737488355328:Nat)/\(([]++q1).length+x.length)*q3<=(140737488355328:Nat)/\(24:Nat)<(32:Nat)/\(16:Nat)<(32:Nat)/\(8:Nat)<(32:Nat)/\(q0.length+q6.length)*q3<=(140737488355328:Nat)/\q0++q6=(pn x).fst/\(0:Int)=(pn x).snd)) [UInt8.ofNat (dT q3 q0 / (2:Nat) ^ (24:Nat)),UInt8.ofNat (dT q3 q0 / (2:Nat) ^ (16:Nat)),UInt8.ofNat (dT q3 q0 / q4),UInt8.ofNat (dT q3 q0)]) ([]++q1++x)) [u8w (↑(x.length / q4):Int),u8w q2]) ((2:Int)+q2+(4:Int))) (↑x.length:Int)) (1:Nat)) ((2:Nat) ^ (8:Nat)));(repeat' with_reducible first|apply aZ|refine aY ?_|intro)
 all_goals first | exact bt | (simp only [pn,eD,jk,xA,TL,aid] at *; grind)
noncomputable def vv:Kn:=aK (ae (kC (cL (.nm .entry))) (ae (kC cI) (ae (kC cI) ao))) aw fun (l,k,m,_) _=>⟨[],[.c (.fz (.nm .entry) ((fI l k m)))],none,false⟩
theorem HG:CK 194 vv:=ag fun (l,k,m,_) _ _=>by
 refine av iL [] Tryz.func194 (?_:(fun q0=>l.length*32<=140737488355328->I64 k->I64 m->((k<0\/(↑l.length:Int)<k)\/m<1->fI l k m=[])/\((0<=k/\k<=(↑l.length:Int))/\1<=m->0<=k/\k<=(↑l.length:Int)/\0<=min m q0/\min m q0<=q0/\List.take (min m q0).toNat (List.drop k.toNat l)=fI l k m)) (↑(List.drop k.toNat l).length:Int));(repeat' with_reducible first|apply aZ|refine aY ?_|intro)
 all_goals (first | exact bt | exact (Mf ab) | exact (Pk ab ab ab))
noncomputable def Ew:Kn:=aK (ae (kT (.nm .stable)) ao) aw fun (s,_) _=>⟨[],[.agg ([.int ((s.floor)),.int ((s.term)),.int ((s.vote)),.own 0])],some ([.row 52 (.nm .entry) ((s.log))]),true⟩
theorem RB:CK 147 Ew:=ag fun (s,_) _ _=>by
 refine dD iL [] Tryz.func147 (?_:cf s (dV s s));(repeat' with_reducible first|apply aZ|refine aY ?_|intro)
 all_goals (first | exact bt | exact rfl)
noncomputable def Aq:Kn:=aK (ae (kT (.nm .stable)) (ae (kC cI) ao)) aw fun (s,t,_) _=>⟨[],[.c (.own 0)],some ([.row 108 (.nm .record) ((aA s t))]),true⟩
theorem Md:CK 100 Aq:=ag fun (s,t,_) _ _=>by
 refine dD iL [] Tryz.func100 (?_:cf s (I64 t->(t<=s.term->aA s t=[])/\(s.term<t->[Record.mk 2 t 0 []]=aA s t)));(repeat' with_reducible first|apply aZ|refine aY ?_|intro)
 all_goals (first | exact bt | (rw [aA,if_pos ab]) | (rw [aA,if_neg aL]) | (simp; done))
noncomputable def DX:Kn:=aK (ae (kT (.nm .letter)) ao) aw fun (x,_) _=>⟨[],[.c (.int ((mayL x)))],none,false⟩
theorem Tf:CK 94 DX:=ag fun (x,_) _ _=>by
 refine av iL (ZH x) Tryz.func94 (?_:(fun (q7:Int)=>(fun (q6:Int)=>(fun (q5:Int)=>(fun (q4:Int)=>(fun (q3:Nat)=>(fun (q2:Int)=>(fun (q8:Prop)=>(fun (q1:Int)=>(fun (q9:Bool)=>(fun (q0:Bool)=>(fun (q10:Bool)=>aJ x (((((((((((((¬q2=q1/\¬q8)/\¬q2=3)/\¬q2=q4\/cj x.frm q6 q4=false)\/cj x.to q6 q4=false)\/x.frm=x.to)\/cj x.term q1 q7=false)\/cj x.bin q1 3=false)\/q10=false)\/dU x.b q7 (q9 || q0)=false)\/dU x.c 64 q0=false)\/(x.ok=true/\¬q8)/\¬q2=q4)\/dU q5 q4 q0=false->q1=mayL x)/\(((((((((((((q2=q1\/q8)\/q2=3)\/q2=q4)/\cj x.frm q6 q4=true)/\cj x.to q6 q4=true)/\¬x.frm=x.to)/\cj x.term q1 q7=true)/\cj x.bin q1 3=true)/\q10=true)/\dU x.b q7 (q9 || q0)=true)/\dU x.c 64 q0=true)/\((x.ok=false\/q8)\/q2=q4))/\dU q5 q4 q0=true->∃ (s0:Nat),(x.l=x.l/\q5=(↑q3:Int)/\q6=(↑s0:Int))/\(s0<=q3/\nK x=true/\(List.take s0 x.l).all eN=true)/\∀ (s:Nat),s<=q3/\nK x=true/\(List.take s x.l).all eN=true->((↑s:Int)<(↑q3:Int)->q6<=(↑s:Int)/\(↑s:Int)<q5/\∀ (x_1:Entry),x.l[s]? = some x_1->I64 x_1.term->x_1.b.length*1<=140737488355328->(cj x_1.term q1 q7=false\/200<(↑x_1.b.length:Int)->q1=mayL x)/\(cj x_1.term q1 q7=true/\(↑x_1.b.length:Int)<=200->I64 ((↑s:Int)+q1)/\∃ (s':Nat),(x.l=x.l/\(↑q3:Int)=(↑q3:Int)/\(↑s:Int)+q1=(↑s':Int))/\(s' <= q3/\nK x=true/\(List.take s' x.l).all eN=true)/\q3 - s' < q3 - s))/\((↑q3:Int)<=(↑s:Int)->q6=mayL x)))) (dU x.a 64 (q9 || q0 || decide (q2=q4)))) (decide (q2=3))) (decide (q2=q1))) 1) (q2=2)) x.kind) x.l.length) 4) (↑x.l.length:Int)) 0) 1048576);iterate 3 ((all_goals (repeat' with_reducible first|apply aZ|refine aY ?_|intro)); (all_goals try (first | exact bt | exact ahu | exact (ac_ ab ab ab) | exact (acN (ZA ab)) | exact (YW ab ab ab ab ab ab ab ab ab ab ab) | exact (adz ab (TB ab ab) ab) | exact (YY ab (Uu ab)))); all_goals try first | refine ⟨‹Nat› + 1,?_⟩ | refine ⟨0,?_⟩)
noncomputable def BK:Kn:=aK (ae (kC (cL (.nm .entry))) (ae (kC cI) (ae (kC (cL (.nm .entry))) ao))) aw fun (l,k,m,_) _=>⟨[],[.c (.int (((bd l k m).1))),.c (.fz (.nm .entry) (((bd l k m).2)))],none,false⟩
theorem Oa:CK 167 BK:=ag fun (l,k,m,_) _ _=>by
 refine av iL (Sa l k m) Tryz.func167 (?_:(fun (q5:Int)=>(fun (q4:Nat)=>(fun (q3:Nat)=>(fun (q2:Int × List Entry)=>(fun (q1:Int)=>(fun (q0:List (den (Sh.nm NT.entry)))=>l.length*32<=140737488355328->I64 k->m.length*32<=140737488355328->(k<q1\/(↑l.length:Int)<k->q1=q2.fst/\q2.snd=[])/\(q1<=k/\k<=(↑l.length:Int)->q1<=k/\k<=(↑l.length:Int)/\∃ (s0:Nat),(k=k/\m=m/\q0=q0/\m=m/\q5=(↑q3:Int)/\q1=(↑s0:Int))/\(s0<=q3/\s0<=q4)/\∀ (s:Nat),(fun (q7:den (Sh.nm NT.entry))=>(fun (q6:Int)=>s<=q3/\s<=q4->(q6<(↑q3:Int)->q1<=q6/\q6<q5/\∀ (x:Entry),m[s]? = some x->I64 x.term->x.b.length*1<=140737488355328->((↑q0.length:Int)<=q6->q1<=q6/\q6<=q5/\q1=q2.fst/\List.drop s m=q2.snd)/\(q6<(↑q0.length:Int)->q1<=q6/\q6<(↑q0.length:Int)/\(I64 q7.term->q7.b.length*1<=140737488355328->(¬q7.term=x.term->I64 (k+q6)/\I64 (k+q6+1)/\q1<=q6/\q6<=q5/\k+q6+1=q2.fst/\List.drop s m=q2.snd)/\(q7.term=x.term->I64 (q6+1)/\∃ (s':Nat),(k=k/\m=m/\q0=q0/\m=m/\(↑q3:Int)=(↑q3:Int)/\q6+1=(↑s':Int))/\(s' <= q3/\s' <= q4)/\q3 - s' < q3 - s))))/\((↑q3:Int)<=q6->q1=q2.fst/\q2.snd=[])) (↑s:Int)) (q0.getD s (au (Sh.nm NT.entry))))) (List.drop k.toNat l)) 0) (bd l k m)) m.length) (gO (List.drop k.toNat l) m)) (↑m.length:Int));iterate 3 ((all_goals (repeat' with_reducible first|apply aZ|refine aY ?_|intro)); (all_goals try (first | exact bt | exact (congrArg Prod.fst (YB ab)).symm | exact (congrArg Prod.fst (VY ab ab ab aL ab)).symm | exact (congrArg Prod.fst (Wc ab ab ab ab ab ab)).symm | exact (congrArg Prod.fst (WZ ab ab ab ab)).symm | exact (congrArg Prod.snd (YB ab)).symm | exact (congrArg Prod.snd (VY ab ab ab aL ab)).symm | exact (congrArg Prod.snd (Wc ab ab ab ab ab ab)).symm | exact (congrArg Prod.snd (WZ ab ab ab ab)).symm | exact (congrArg Prod.snd (YB ab)) | exact (congrArg Prod.snd (WZ ab ab ab ab)) | exact (acD ab ab ab ab))); all_goals try first | refine ⟨‹Nat› + 1,?_⟩ | refine ⟨0,?_⟩)
noncomputable def ace:bN:=(aO 167 BK (aO 94 DX (aO 100 Aq (aO 147 Ew (aO 194 vv (aO 149 Lo (aO 143 Eh aen)))))))
theorem gN:ay Tryz.prog (al tyT) ace:=(ah Oa (ah Tf (ah Md (ah RB (ah HG (ah Yd (ah Rj iL)))))))
variable {r:Route}
theorem qp {s:Stable} (h:r.next<1\/(s.log.length:Int)+1<r.next):gm s r=(cC,1):=if_pos h
theorem qy {s:Stable} (h1:1<=r.next) (h2:r.next<=(s.log.length:Int)+1) (h:¬ mayL (Letter.mk 3 r.frm r.to s.term (r.next - 1) (cK s.log (r.next - 1)) r.commit r.bin false (fI s.log (r.next - 1) 4))=0):gm s r=(cC,mayL (ql s r)):=by
 rw [gm,if_neg (by omega),if_pos (show ¬ mayL (ql s r)=0 from h)]
theorem th {s:Stable} (h1:1<=r.next) (h2:r.next<=(s.log.length:Int)+1) (h:mayL (Letter.mk 3 r.frm r.to s.term (r.next - 1) (cK s.log (r.next - 1)) r.commit r.bin false (fI s.log (r.next - 1) 4))=0):gm s r=(ql s r,0):=by
 rw [gm,if_neg (by omega),if_neg (abc.2 (show mayL (ql s r)=0 from h))]
variable {b:List UInt8}
theorem Qw (h:(b.length:Int)<2):bh b=([],0,2):=if_pos (by omega)
theorem SQ (h:2<=(b.length:Int)) (h2:dS b=0\/4096<dS b):bh b=([],0,3):=by rw [bh,if_neg (by omega),if_pos h2]
theorem RM (h:2<=(b.length:Int)) (h2:¬ dS b=0) (h3:dS b<=4096) (h4:(b.length:Int)<2+dS b+4):bh b=([],0,2):=by rw [bh,if_neg (by omega),if_neg (by omega),if_pos h4]
variable {x:UInt8}
theorem K_ {l:List UInt8} (h:l[k]? = some x):(Eo (l.take k)*2 ^ 8) % 4294967296 ||| x.toNat=Eo (l.take (k+1)):=by
 rw [ai h]; simp only [Eo,List.foldl_append]; rfl
variable {n:Int}
theorem afc (h0:0<=n):(b.drop (2+n).toNat).take ((2+n+4).toNat - (2+n).toNat)=(b.drop (2+n).toNat).take 4:=by
 congr 1; omega
theorem agL (h0:0<=n) (h:2+n+4<=(b.length:Int)):(((b.drop (2+n).toNat).take ((2+n+4).toNat - (2+n).toNat)).length:Int)=4:=by
 rw [List.length_take,List.length_drop]; omega
theorem agw (hk:(k:Int)<4) (h0:0<=n) (h:2+n+4<=(b.length:Int)):(k:Int)<(((b.drop (2+n).toNat).take 4).length:Nat):=by
 rw [List.length_take,List.length_drop]; omega
theorem Rc (h6:decide (dT 1 ((b.drop 0).take ((2+dS b).toNat - 0))=Eo (((b.drop (2+dS b).toNat).take 4).take k))=false) (h4:(4:Int)<=k) (h:2<=(b.length:Int)) (h2:¬ dS b=0) (h3:dS b<=4096) (h5:2+dS b+4<=(b.length:Int)):bh b=([],0,3):=by
 have h6:=agI h6;rw [ai4,Nat.sub_zero,aiE,aiF (by omega)] at h6;rw [bh,if_neg (by omega),if_neg (by omega),if_neg (by omega),if_neg h6]
theorem aaS (h6:decide (dT 1 ((b.drop 0).take ((2+dS b).toNat - 0))=Eo (((b.drop (2+dS b).toNat).take 4).take k))=true) (h4:(4:Int)<=k) (h:2<=(b.length:Int)) (h2:¬ dS b=0) (h3:dS b<=4096) (h5:2+dS b+4<=(b.length:Int)):bh b=((b.drop 2).take ((2+dS b).toNat - 2),2+dS b+4,0):=by
 have h6:=of_decide_eq_true h6;rw [ai4,Nat.sub_zero,aiE,aiF (by omega)] at h6;rw [bh,if_neg (by omega),if_neg (by omega),if_neg (by omega),if_pos h6]
def Zi (b:List UInt8):List (Nat × LI):=[(11,{ σ:=Nat,F:=fun k=>([(0,one (.fz .u8 (b))),(6,one (.int (2+dS b))),(7,one (.xx (.w (Eo (((b.drop (2+dS b).toNat).take 4).take k))) [])),(40,one (.fz .u8 ((b.drop (2+dS b).toNat).take 4))),(41,one (.int 4)),(42,one (.int k))],[]),J:=fun k=>k<=4,μ:=fun k=>4 - k })]
noncomputable def Ft:Kn:=aK (ae (kC (cL .u8)) ao) aw fun (b,_) _=>⟨[],[.c (.fz .u8 (((bh b).1))),.c (.int (((bh b).2.1))),.c (.int (((bh b).2.2)))],none,false⟩
theorem TU:CK 83 Ft:=ag fun (b,_) _ _=>by
 refine av gN (Zi b) Tryz.func83 (?_:(fun q12=>(fun q11=>(fun q10=>(fun q9=>(fun q8=>(fun q7=>(fun q6=>(fun q5=>(fun q4=>(fun q3=>(fun q13=>(fun q2=>(fun q15=>(fun q14=>(fun q1=>(fun q18=>(fun q17=>(fun q16=>(fun q19=>(fun q0=>(fun q20=>(fun q21=>(fun q22=>b.length*1<=140737488355328->(q6<q2->q14)/\(q2<=q6->q3<=q3/\q3<q6/\q12<64/\I64 q15/\q3<=1/\1<q6/\q3<=q15/\q3<=q10/\(q0=q3\/4096<q0->q13)/\(¬q0=q3/\q0<=4096->I64 q20/\I64 q21/\(q6<q21->q14)/\(q21<=q6->I64 q21/\q3<=q20/\q20<=q21/\q21<=q6/\∃ s0,(b=b/\q20=q1/\q11=Eo (List.take s0 q19)/\q22=List.take q5 q16/\(↑q22.length:Int)=q4/\q3=(↑s0:Int))/\s0<=q5/\∀ (s:Nat),s<=q5->((↑s:Int)<q4->q3<=(↑s:Int)/\(↑s:Int)<(↑(List.take q5 q16).length:Int)/\∀ (x:UInt8),(List.take q5 q16)[s]? = some x->q12<32/\I64 ((↑s:Int)+1)/\∃ s',(b=b/\q1=q1/\Eo (List.take s q19)*2 ^ q12 % 4294967296 ||| x.toNat=Eo (List.take s' q19)/\List.take q5 q16=List.take q5 q16/\q4=q4/\(↑s:Int)+1=(↑s':Int))/\s' <= q5/\q5 - s' < q5 - s)/\(q4<=(↑s:Int)->q3<=q3/\q3<=q1/\q1<=q1/\q1<=q6/\(decide (q17=Eo (List.take s q19))=false->q13)/\(decide (q17=Eo (List.take s q19))=true->q3<=q2/\q2<=q1/\q1<=q1/\q1<=q6/\(q18.length*1<=140737488355328->I64 (q1+q4)/\q18=(bh b).fst/\q1+q4=q7.fst/\q3=q7.snd))))))) (List.take (q21.toNat - q20.toNat) (List.drop q20.toNat b))) (q20+q4)) (q2+q0)) (Vw q15 q10)) (List.take q5 q16)) (List.drop q1.toNat b)) (dT 1 (List.take (q1.toNat - q11) (List.drop q11 b)))) (List.take (q1.toNat - 2) (List.drop 2 b))) (q2+dS b)) (q9/\q3=q7.fst/\q2=q7.snd)) (q8*q2 ^ q12)) (2:Int)) (q9/\q3=q7.fst/\3=q7.snd)) (0:Int)) (4:Int)) (4:Nat)) (↑b.length:Int)) (bh b).snd) (↑(UInt8.toNat (b.getD q11 (au Sh.u8))):Int)) ((bh b).fst=[])) (↑(UInt8.toNat (b.getD 1 (au Sh.u8))):Int)) (0:Nat)) (8:Nat));have hn:=UD b;have hb0:=(b.getD 0 (au .u8):UInt8).toNat_lt;have hb1:=(b.getD 1 (au .u8):UInt8).toNat_lt;dsimp only [dS] at hn;iterate 3 ((all_goals (repeat' with_reducible first|apply aZ|refine aY ?_|intro)); (all_goals try (first | exact bt | exact (congrArg Prod.fst (Qw ab)).symm | exact (congrArg (fun q=>q.2.1) (Qw ab)).symm | exact (congrArg (fun q=>q.2.2) (Qw ab)).symm | exact (congrArg Prod.fst (SQ ab ab)).symm | exact (congrArg (fun q=>q.2.1) (SQ ab ab)).symm | exact (congrArg (fun q=>q.2.2) (SQ ab ab)).symm | exact (congrArg Prod.fst (RM ab ab ab ab)).symm | exact (congrArg (fun q=>q.2.1) (RM ab ab ab ab)).symm | exact (congrArg (fun q=>q.2.2) (RM ab ab ab ab)).symm | exact (congrArg Prod.fst (Rc ab ab ab ab ab ab)).symm | exact (congrArg (fun q=>q.2.1) (Rc ab ab ab ab ab ab)).symm | exact (congrArg (fun q=>q.2.2) (Rc ab ab ab ab ab ab)).symm | exact (congrArg Prod.fst (aaS ab ab ab ab ab ab)).symm | exact (congrArg (fun q=>q.2.1) (aaS ab ab ab ab ab ab)).symm | exact (congrArg (fun q=>q.2.2) (aaS ab ab ab ab ab ab)).symm | exact (congrArg Prod.fst (Qw ab)) | exact (congrArg Prod.fst (SQ ab ab)) | exact (congrArg Prod.fst (RM ab ab ab ab)) | exact (congrArg Prod.fst (Rc ab ab ab ab ab ab)) | exact rfl | exact (afc hn) | exact (agL hn ab) | exact (agw ab hn ab) | exact (K_ ab) | (dsimp only [dS]; omega) | (refine bT ?_ ?_ <;> dsimp only [dS] <;> omega) | (rw [List.length_take,List.length_drop]; omega))); all_goals try first | refine ⟨‹Nat› + 1,?_⟩ | refine ⟨0,?_⟩)
noncomputable def wq:Kn:=aK (ae (kC (aX 0 0)) (ae (kT (.nm .record)) ao)) (aC (dG 64 (ax cI (ax cI (ax cI (ax (eV 1) dC))))) (aC (eW 52 (.nm .entry)) aw)) fun (_,r,_) ((fl,tm,vo,_,_),lg,_)=>⟨[],[.c (.bool (.atom (((dK (Stable.mk fl tm vo lg) r).isSome))))],some ([.box 64 ([.int ((((dK (Stable.mk fl tm vo lg) r).getD (Stable.mk fl tm vo lg)).floor)),.int ((((dK (Stable.mk fl tm vo lg) r).getD (Stable.mk fl tm vo lg)).term)),.int ((((dK (Stable.mk fl tm vo lg) r).getD (Stable.mk fl tm vo lg)).vote)),.own 1]),.row 52 (.nm .entry) ((((dK (Stable.mk fl tm vo lg) r).getD (Stable.mk fl tm vo lg)).log))]),false⟩
theorem Hh:CK 214 wq:=ag fun (_,r,_) ((fl,tm,vo,_,_),lg,_) _=>by
 refine br gN [] Tryz.func214 (?_:(fun q0=>dR r ((r.a<fl->false=(dK q0 r).isSome/\dV q0 ((dK q0 r).getD q0))/\(fl<=r.a->true=(dK q0 r).isSome/\dV (Stable.mk r.a tm vo lg) ((dK q0 r).getD q0)))) (Stable.mk fl tm vo lg));(repeat' with_reducible first|apply aZ|refine aY ?_|intro)
 all_goals first | exact bt | (simp only [dK]; grind) | (simp only [List.length_cons,List.length_nil]; omega)
noncomputable def AG:Kn:=aK (ae (kC (aX 0 0)) (ae (kT (.nm .record)) ao)) (aC (dG 64 (ax cI (ax cI (ax cI (ax (eV 1) dC))))) (aC (eW 52 (.nm .entry)) aw)) fun (_,r,_) ((fl,tm,vo,_,_),lg,_)=>⟨[],[.c (.bool (.atom (((fo (Stable.mk fl tm vo lg) r).isSome))))],some ([.box 64 ([.int ((((fo (Stable.mk fl tm vo lg) r).getD (Stable.mk fl tm vo lg)).floor)),.int ((((fo (Stable.mk fl tm vo lg) r).getD (Stable.mk fl tm vo lg)).term)),.int ((((fo (Stable.mk fl tm vo lg) r).getD (Stable.mk fl tm vo lg)).vote)),.own 1]),.row 52 (.nm .entry) ((((fo (Stable.mk fl tm vo lg) r).getD (Stable.mk fl tm vo lg)).log))]),false⟩
theorem Ni:CK 215 AG:=ag fun (_,r,_) ((fl,tm,vo,_,_),lg,_) _=>by
 refine br gN [] Tryz.func215 (?_:(fun q0=>dR r ((r.a<tm\/(r.a=tm/\¬vo=0)/\¬vo=r.b->false=(fo q0 r).isSome/\dV q0 ((fo q0 r).getD q0))/\(tm<=r.a/\((¬r.a=tm\/vo=0)\/vo=r.b)->true=(fo q0 r).isSome/\dV (Stable.mk fl r.a r.b lg) ((fo q0 r).getD q0)))) (Stable.mk fl tm vo lg));(repeat' with_reducible first|apply aZ|refine aY ?_|intro)
 all_goals first | exact bt | (simp only [fo]; grind) | (simp only [List.length_cons,List.length_nil]; omega)
noncomputable def ET:Kn:=aK (ae (kC (aX 0 0)) (ae (kT (.nm .record)) ao)) (aC (dG 64 (ax cI (ax cI (ax cI (ax (eV 1) dC))))) (aC (eW 52 (.nm .entry)) aw)) fun (_,r,_) ((fl,tm,vo,_,_),lg,_)=>⟨[1<=r.a/\r.a<=64],[.c (.bool (.atom (((fL (Stable.mk fl tm vo lg) r).isSome))))],some ([.box 64 ([.int ((((fL (Stable.mk fl tm vo lg) r).getD (Stable.mk fl tm vo lg)).floor)),.int ((((fL (Stable.mk fl tm vo lg) r).getD (Stable.mk fl tm vo lg)).term)),.int ((((fL (Stable.mk fl tm vo lg) r).getD (Stable.mk fl tm vo lg)).vote)),.own 1]),.row 52 (.nm .entry) ((((fL (Stable.mk fl tm vo lg) r).getD (Stable.mk fl tm vo lg)).log))]),false⟩
theorem Sg:CK 217 ET:=ag fun (_,r,_) ((fl,tm,vo,_,_),lg,_) hp=>by
 have h0:=cc hp;refine br (xo gN) [] Tryz.func217 (?_:(fun q1=>(fun q0=>dR r (((↑lg.length:Int)<r.a->false=(fL q0 r).isSome/\dV q0 ((fL q0 r).getD q0))/\(r.a<=(↑lg.length:Int)->I64 q1/\(0<=q1/\q1<=(↑lg.length:Int))/\true=(fL q0 r).isSome/\dV (Stable.mk fl tm vo (List.take q1.toNat lg)) ((fL q0 r).getD q0)))) (Stable.mk fl tm vo lg)) (r.a - 1));(repeat' with_reducible first|apply aZ|refine aY ?_|intro)
 all_goals first | exact bt | (simp only [fL]; grind) | (simp only [List.length_cons,List.length_nil]; omega)
noncomputable def vU:Kn:=aK (ae (kC (aX 0 0)) (ae (kT (.nm .record)) ao)) (aC (dG 64 (ax cI (ax cI (ax cI (ax (eV 1) dC))))) (aC (eW 52 (.nm .entry)) aw)) fun (_,r,_) ((fl,tm,vo,_,_),lg,_)=>⟨[lg.length<=1000000,r.x.length<=200],[.c (.bool (.atom (((dx (Stable.mk fl tm vo lg) r).isSome))))],some ([.box 64 ([.int ((((dx (Stable.mk fl tm vo lg) r).getD (Stable.mk fl tm vo lg)).floor)),.int ((((dx (Stable.mk fl tm vo lg) r).getD (Stable.mk fl tm vo lg)).term)),.int ((((dx (Stable.mk fl tm vo lg) r).getD (Stable.mk fl tm vo lg)).vote)),.own 1]),.row 52 (.nm .entry) ((((dx (Stable.mk fl tm vo lg) r).getD (Stable.mk fl tm vo lg)).log))]),false⟩
theorem Il:CK 216 vU:=ag fun (_,r,_) ((fl,tm,vo,_,_),lg,_) hp=>by
 have h0:=cc hp;have h1:=cc (eT hp);refine br gN [] Tryz.func216 (?_:(fun q2=>(fun q1=>(fun q0=>dR r (I64 q1/\(¬r.a=q1->false=(dx q0 r).isSome/\dV q0 ((dx q0 r).getD q0))/\(r.a=q1->(q2->(lg.length+[Entry.mk r.b r.x].length)*32<=140737488355328)/\(q2->true=(dx q0 r).isSome/\dV (Stable.mk fl tm vo (lg++[Entry.mk r.b r.x])) ((dx q0 r).getD q0))))) (Stable.mk fl tm vo lg)) ((↑lg.length:Int)+1)) (r.x.length*1<=140737488355328));(repeat' with_reducible first|apply aZ|refine aY ?_|intro)
 all_goals first | exact bt | (simp only [dx]; grind) | (simp only [List.length_cons,List.length_nil]; omega)
theorem Sv :Sat Tryz.prog (al tyT) 148 [] [] ⟨[],[.c (.xx (.km bL) [])],none,false⟩:=GQ
noncomputable def GA:Kn:=aK ao aw fun _ _=>⟨[],[.c (.xx (.km bL) [])],none,false⟩
theorem Ua:CK 148 GA:=ag fun _ _ _=>Sv
noncomputable def FJ:Kn:=aK (ae (kC (aX 0 0)) (ae (kC (aX 1 0)) (ae (kC (aX 2 0)) ao))) (aC (ye 40 (.nm .letter)) (aC (ye 64 (.nm .stable)) (aC (dG 3 (ax cI dC)) aw))) fun _ (x,s,(who,_),_)=>⟨[],[.c (.bool (.atom ((decide (s.term<x.term) || decide (s.vote=0) || decide (s.vote=who)))))],none,false⟩
theorem Ux:CK 169 FJ:=ag fun _ (x,s,(who,_),_) _=>by
 refine av gN [] Tryz.func169 (?_:(fun q0=>q0=q0) (decide (s.term<x.term) || decide (s.vote=0) || decide (s.vote=who)));(repeat' with_reducible first|apply aZ|refine aY ?_|intro)
 all_goals first | exact bt | rfl
noncomputable def Au:Kn:=aK (ae (kT (.nm .stable)) (ae (kC cI) ao)) aw fun (s,t,_) _=>⟨[s.term<=1048576],[.c (.fz (.nm .record) (((aT s t).1))),.c (.int (((aT s t).2)))],none,false⟩
theorem LX:CK 48 Au:=ag fun (s,t,_) _ hp=>by
 have h0:=cc hp;refine av gN [] Tryz.func48 (?_:cf s (I64 t->(t<0\/5<=t->(aT s t).fst=[]/\1=(aT s t).snd)/\(0<=t/\t<5->(1048576<=s.term->(aT s t).fst=[]/\4=(aT s t).snd)/\(s.term<1048576->I64 (s.term+1)/\I64 (t+1)/\[Record.mk 2 (s.term+1) (t+1) []]=(aT s t).fst/\0=(aT s t).snd))));(repeat' with_reducible first|apply aZ|refine aY ?_|intro)
 all_goals first | exact bt | (simp only [aT]; grind) | (have q:=(by with_reducible assumption:I64 s.term); exact bT (by have:=q.1; omega) (by have:=q.2; omega)) | (simp only [List.length_cons,List.length_nil]; omega)
noncomputable def Ea:Kn:=aK (ae (kT (.nm .stable)) (ae (kT (.nm .route)) ao)) aw fun (s,r,_) _=>⟨[],[.agg (cellsOf (.nm .letter) ((gm s r).1)),.c (.int (((gm s r).2)))],none,false⟩
theorem RI:CK 120 Ea:=ag fun (s,r,_) _ _=>by
 refine av gN [] Tryz.func120 (?_:(fun q5=>(fun q4=>(fun q3=>(fun q2=>(fun q1=>(fun q0=>cf s (UI r ((q5<=r.next->I64 q4)/\(r.next<q5\/q4<r.next->q2=q1.kind/\q2=q1.frm/\q2=q1.to/\q2=q1.term/\q2=q1.a/\q2=q1.b/\q2=q1.c/\q2=q1.bin/\false=q1.ok/\q1.l=[]/\q5=(gm s r).snd)/\(q5<=r.next/\r.next<=q4->I64 q3/\(I64 (cK s.log q3)->(fI s.log q3 4).length*32<=140737488355328->I64 (mayL q0)->(¬mayL q0=q2->q2=q1.kind/\q2=q1.frm/\q2=q1.to/\q2=q1.term/\q2=q1.a/\q2=q1.b/\q2=q1.c/\q2=q1.bin/\false=q1.ok/\q1.l=[]/\mayL q0=(gm s r).snd)/\(mayL q0=q2->ic q0 q1 (q2=(gm s r).snd))))))) (Letter.mk 3 r.frm r.to s.term q3 (cK s.log q3) r.commit r.bin false (fI s.log q3 4))) (gm s r).fst) (0:Int)) (r.next - q5)) ((↑s.log.length:Int)+q5)) (1:Int));(repeat' with_reducible first|apply aZ|refine aY ?_|intro)
 all_goals (first | exact bt | exact (congrArg (fun q=>q.2) (qp ab)).symm | exact (congrArg (fun q=>q.1.kind) (qp ab)).symm | exact (congrArg (fun q=>q.1.frm) (qp ab)).symm | exact (congrArg (fun q=>q.1.to) (qp ab)).symm | exact (congrArg (fun q=>q.1.term) (qp ab)).symm | exact (congrArg (fun q=>q.1.a) (qp ab)).symm | exact (congrArg (fun q=>q.1.b) (qp ab)).symm | exact (congrArg (fun q=>q.1.c) (qp ab)).symm | exact (congrArg (fun q=>q.1.bin) (qp ab)).symm | exact (congrArg (fun q=>q.1.ok) (qp ab)).symm | exact (congrArg (fun q=>q.1.l) (qp ab)).symm | exact (congrArg (fun q=>q.2) (qy ab ab ab)).symm | exact (congrArg (fun q=>q.1.kind) (qy ab ab ab)).symm | exact (congrArg (fun q=>q.1.frm) (qy ab ab ab)).symm | exact (congrArg (fun q=>q.1.to) (qy ab ab ab)).symm | exact (congrArg (fun q=>q.1.term) (qy ab ab ab)).symm | exact (congrArg (fun q=>q.1.a) (qy ab ab ab)).symm | exact (congrArg (fun q=>q.1.b) (qy ab ab ab)).symm | exact (congrArg (fun q=>q.1.c) (qy ab ab ab)).symm | exact (congrArg (fun q=>q.1.bin) (qy ab ab ab)).symm | exact (congrArg (fun q=>q.1.ok) (qy ab ab ab)).symm | exact (congrArg (fun q=>q.1.l) (qy ab ab ab)).symm | exact (congrArg (fun q=>q.2) (th ab ab ab)).symm | exact (congrArg (fun q=>q.1.kind) (th ab ab ab)).symm | exact (congrArg (fun q=>q.1.frm) (th ab ab ab)).symm | exact (congrArg (fun q=>q.1.to) (th ab ab ab)).symm | exact (congrArg (fun q=>q.1.term) (th ab ab ab)).symm | exact (congrArg (fun q=>q.1.a) (th ab ab ab)).symm | exact (congrArg (fun q=>q.1.b) (th ab ab ab)).symm | exact (congrArg (fun q=>q.1.c) (th ab ab ab)).symm | exact (congrArg (fun q=>q.1.bin) (th ab ab ab)).symm | exact (congrArg (fun q=>q.1.ok) (th ab ab ab)).symm | exact (congrArg (fun q=>q.1.l) (th ab ab ab)).symm | exact (congrArg (fun q=>q.1.l) (qp ab)) | exact (congrArg (fun q=>q.1.l) (qy ab ab ab)))
noncomputable def abW:bN:=(aO 120 Ea (aO 48 Au (aO 169 FJ (aO 148 GA (aO 216 vU (aO 217 ET (aO 215 AG (aO 214 wq (aO 83 Ft ace)))))))))
theorem oa:ay Tryz.prog (al tyT) abW:=(ah RI (ah LX (ah Ux (ah Ua (ah Il (ah Sg (ah Ni (ah Hh (ah TU gN)))))))))
variable {r:Record}
theorem TZ (h:((((((dM bL r.kind).isSome=false\/r.a<(((dM bL r.kind).getD kz).getD 0 KC.nf).int)\/(((dM bL r.kind).getD kz).getD 1 KC.nf).int<r.a)\/r.b<0)\/(((dM bL r.kind).getD kz).getD 3 KC.nf).int<r.b)\/(((dM bL r.kind).getD kz).getD 4 KC.nf).int<(r.x.length:Int))):aI r=([],1):=by
 rw [aI,if_neg];intro e;simp only [recOk,Bool.and_eq_true,decide_eq_true_eq] at e;obtain ⟨⟨⟨⟨⟨h0,h1⟩,h2⟩,h3⟩,h4⟩,h5⟩:=e;unfold VU at h1 h2 h4 h5;rcases h with ((((h | h) | h) | h) | h) | h
 ·rw [h0] at h; cases h
 all_goals omega
theorem BU (h1:(dM bL r.kind).isSome=true) (h2:(((dM bL r.kind).getD kz).getD 0 KC.nf).int<=r.a) (h3:r.a<=(((dM bL r.kind).getD kz).getD 1 KC.nf).int) (h4:0<=r.b) (h5:r.b<=(((dM bL r.kind).getD kz).getD 3 KC.nf).int) (h6:(r.x.length:Int)<=(((dM bL r.kind).getD kz).getD 4 KC.nf).int):recOk r=true:=by
 simp only [recOk,Bool.and_eq_true,decide_eq_true_eq];exact ⟨⟨⟨⟨⟨h1,h2⟩,h3⟩,h4⟩,h5⟩,h6⟩
theorem jj (h:recOk r=true):1<=r.kind/\r.kind<=4/\0<=r.a/\r.a<=1048576/\0<=r.b/\r.b<=1048576/\r.x.length<=200/\(cT r.a.toNat).length<=10/\(cT r.b.toNat).length<=10:=by
 have h1:=cV (n:=r.a.toNat) (by rcases bQ.1 h with h | h | h | h <;> omega);have h2:=cV (n:=r.b.toNat) (by rcases bQ.1 h with h | h | h | h <;> omega);have h3:r.x.length<=200:=by rcases bQ.1 h with h | h | h | h <;> first | omega | simp [h]
 rcases bQ.1 h with h | h | h | h <;> omega
theorem CH (h:recOk r=true):aI r=(dB r,0):=by rw [aI,if_pos h]
theorem afy (h:recOk r=true) (h2:(((dM bL r.kind).getD kz).getD 2 KC.nf).bool=true):[UInt8.ofNat r.kind.toNat]++cT r.a.toNat++cT r.b.toNat++r.x=(aI r).1:=by
 rw [CH h,dB,if_pos (show uv r.kind=true from h2)]
theorem ahH (h:recOk r=true) (h2:(((dM bL r.kind).getD kz).getD 2 KC.nf).bool=false):[UInt8.ofNat r.kind.toNat]++cT r.a.toNat++r.x=(aI r).1:=by
 rw [CH h,dB,if_neg (by rw [show uv r.kind=false from h2]; decide),acq]
theorem acS (b:List UInt8):(((aj b).2.1:Nat):Int)<=(b.length:Nat):=by
 have:=(nk (l:=b) (k:=0) (n:=0) (by omega)).2;show (((bS 0 0 b).2.1:Nat):Int)<=_;omega
theorem YV (hx:b[0]? = some x):(b.getD 0 (au .u8):UInt8)=x:=by
 rw [List.getD_eq_getElem?_getD,hx]; rfl
theorem S_ (hx:b[0]? = some x):¬ b.length=0:=by
 have:=(aaA.1 hx).1; omega
theorem ug (h:(b.length:Int)=0):bE b=(ub,false):=if_pos (by omega)
theorem uc (hx:b[0]? = some x) (h1:¬ (aj (b.drop 1)).2.2=0):bE b=(ub,false):=by
 rw [bE,if_neg (S_ hx),if_pos h1]
theorem um (hx:b[0]? = some x) (h1:(aj (b.drop 1)).2.2=0) (h2:(((dM bL (x.toNat:Int)).getD kz).getD 2 KC.nf).bool=true) (h3:¬ (aj ((b.drop 1).drop (aj (b.drop 1)).2.1)).2.2=0):bE b=(ub,false):=by
 rw [bE,if_neg (S_ hx),if_neg (abc.2 h1),YV hx,if_pos (show uv (x.toNat:Int)=true from h2),if_pos h3]
theorem ud (hx:b[0]? = some x) (h1:(aj (b.drop 1)).2.2=0) (h2:(((dM bL (x.toNat:Int)).getD kz).getD 2 KC.nf).bool=true) (h3:(aj ((b.drop 1).drop (aj (b.drop 1)).2.1)).2.2=0):bE b=(⟨(x.toNat:Int),eU (aj (b.drop 1)).1,eU (aj ((b.drop 1).drop (aj (b.drop 1)).2.1)).1,((b.drop 1).drop (aj (b.drop 1)).2.1).drop (aj ((b.drop 1).drop (aj (b.drop 1)).2.1)).2.1⟩,true):=by
 rw [bE,if_neg (S_ hx),if_neg (abc.2 h1),YV hx,if_pos (show uv (x.toNat:Int)=true from h2),if_neg (abc.2 h3)]
theorem ua (hx:b[0]? = some x) (h1:(aj (b.drop 1)).2.2=0) (h2:(((dM bL (x.toNat:Int)).getD kz).getD 2 KC.nf).bool=false):bE b=(⟨(x.toNat:Int),eU (aj (b.drop 1)).1,0,(b.drop 1).drop (aj (b.drop 1)).2.1⟩,true):=by
 rw [bE,if_neg (S_ hx),if_neg (abc.2 h1),YV hx,if_neg (by rw [show uv (x.toNat:Int)=false from h2]; decide)]
variable {x:Letter}
theorem Ib {s:Stable} (h:¬ mayL x=0\/¬ x.kind=1):aH s x=([],false,1):=if_pos h
theorem IM {s:Stable} (h0:mayL x=0) (h1:x.kind=1) (h:(x.term<s.term\/(decide (s.term<x.term) || decide (s.vote=0) || decide (s.vote=x.frm+1))=false)\/jy s.log x.a x.b=false):aH s x=(aA s x.term,false,0):=by
 rw [aH,if_neg (by omega)]; exact if_pos h
theorem aeb {s:Stable} (h0:mayL x=0) (h1:x.kind=1) (h2:s.term<=x.term) (h3:(decide (s.term<x.term) || decide (s.vote=0) || decide (s.vote=x.frm+1))=true) (h4:jy s.log x.a x.b=true):aH s x=if x.term=s.term/\s.vote=x.frm+1 then ([],true,0) else ([⟨2,x.term,x.frm+1,[]⟩],true,0):=by
 rw [aH,if_neg (by omega),if_neg];rintro ((h | h) | h)
 ·omega
 ·rw [show GK s x=true from h3] at h; cases h
 rw [h4] at h; cases h
theorem Ja {s:Stable} (h0:mayL x=0) (h1:x.kind=1) (h2:s.term<=x.term) (h3:(decide (s.term<x.term) || decide (s.vote=0) || decide (s.vote=x.frm+1))=true) (h4:jy s.log x.a x.b=true) (h5:x.term=s.term) (h6:s.vote=x.frm+1):aH s x=([],true,0):=by
 rw [aeb h0 h1 h2 h3 h4,if_pos ⟨h5,h6⟩]
theorem IF {s:Stable} (h0:mayL x=0) (h1:x.kind=1) (h2:s.term<=x.term) (h3:(decide (s.term<x.term) || decide (s.vote=0) || decide (s.vote=x.frm+1))=true) (h4:jy s.log x.a x.b=true) (h5:¬ x.term=s.term\/¬ s.vote=x.frm+1):aH s x=([⟨2,x.term,x.frm+1,[]⟩],true,0):=by
 rw [aeb h0 h1 h2 h3 h4,if_neg (by omega)]
def ef (s:Stable) (x:Letter) (k:Nat):List Record:=aA s x.term++(if (bd s.log x.a x.l).1=0 then [] else [⟨4,(bd s.log x.a x.l).1,0,[]⟩])++fb (x.a+x.l.length - (bd s.log x.a x.l).2.length+1) ((bd s.log x.a x.l).2.take k)
theorem tQ:∀ {n:Int} {l:List Entry} {y:Entry},fb n (l++[y])=fb n l++[⟨3,n+l.length,y.term,y.b⟩]
 | n,[],y=>by simp [fb]
 | n,z :: l,y=>by
  rw [List.cons_append,fb,tQ,fb,List.cons_append,List.length_cons];simp; omega
theorem uN:∀ {n:Int} {l:List Entry},(fb n l).length=l.length
 | _,[]=>rfl
 | n,_ :: l=>by rw [fb,List.length_cons,List.length_cons,uN]
theorem af7 {s:Stable} (h:¬ (bd s.log x.a x.l).1=0):aA s x.term++[Record.mk 4 (bd s.log x.a x.l).1 0 []]=ef s x 0:=by
 rw [ef,if_neg h,ai5,fb,acq]
theorem aeV {s:Stable} (h:(bd s.log x.a x.l).1=0):aA s x.term=ef s x 0:=by
 rw [ef,if_pos h,ai5,fb,acq,acq]
theorem aim {s:Stable} {y:Entry} (h:(bd s.log x.a x.l).2[k]? = some y):ef s x k++[Record.mk 3 (x.a+x.l.length - (bd s.log x.a x.l).2.length+k+1) y.term y.b]=ef s x (k+1):=by
 have hk:=(aaA.1 h).1;rw [ef,ef,ai h,tQ,List.append_assoc,List.length_take,aew (by omega)];congr 4; omega
theorem AM {s:Stable} (h:(¬ mayL x=0\/¬ x.kind=3)\/64<x.a+x.l.length):aB s x=([],false,0,1):=if_pos h
theorem BV {s:Stable} (h0:mayL x=0) (h1:x.kind=3) (h2:x.a+x.l.length<=64) (h3:x.term<s.term):aB s x=([],false,0,0):=by
 rw [aB,if_neg (by omega),if_pos h3]
theorem yj {s:Stable} (h0:mayL x=0) (h1:x.kind=3) (h2:x.a+x.l.length<=64) (h3:s.term<=x.term) (h4:decide (cK s.log x.a=x.b)=false):aB s x=(aA s x.term,false,0,0):=by
 rw [aB,if_neg (by omega),if_neg (by omega),if_neg (agI h4)]
theorem yN {s:Stable} (h0:mayL x=0) (h1:x.kind=3) (h2:x.a+x.l.length<=64) (h3:s.term<=x.term) (h4:decide (cK s.log x.a=x.b)=true) (h5:((bd s.log x.a x.l).2.length:Int)<=k):aB s x=(ef s x k,true,x.a+x.l.length,0):=by
 rw [aB,if_neg (by omega),if_neg (by omega),if_pos (of_decide_eq_true h4),ef,List.take_of_length_le (by omega)]; rfl
theorem wh {k:Int}:(bd l k m).2.length<=m.length/\0<=(bd l k m).1/\(bd l k m).1<=l.length+1:=by
 have:=lK (h:=l.drop k.toNat) (a:=m);unfold bd;split
 ·simp; omega
 split
 ·simp; omega
 split
 ·simp; omega
 rw [List.length_drop] at *;refine ⟨by simp,by dsimp only; omega,by dsimp only; omega⟩
theorem Xj {s:Stable}:(ef s x k).length<=2+x.l.length:=by
 have:=(wh (l:=s.log) (m:=x.l) (k:=x.a)).1;simp only [ef,List.length_append,uN,List.length_take];have h1:(aA s x.term).length<=1:=by unfold aA; split <;> simp
 split <;> simp <;> omega
theorem adN {s:Stable} (h:mayL x=0):((ef s x k).length+[r].length)*48<=140737488355328:=by
 have:=fH h;have:=Xj (s:=s) (x:=x) (k:=k);simp only [List.length_cons,List.length_nil]; omega
theorem acX {s:Stable}:((aA s n).length+[r].length)*48<=140737488355328:=by
 have h1:(aA s n).length<=1:=by unfold aA; split <;> simp
 simp only [List.length_cons,List.length_nil]; omega
def aaG (s:Stable) (x:Letter):List (Nat × LI):=[(13,{ σ:=Nat,F:=fun k=>([(4,one (.own 0)),(6,one (.int (x.a+x.l.length))),(9,one (.fz (.nm .entry) (bd s.log x.a x.l).2)),(70,one (.fz (.nm .entry) (bd s.log x.a x.l).2)),(71,one (.int (bd s.log x.a x.l).2.length)),(72,one (.int k))],[.row 108 (.nm .record) ((ef s x k))]),J:=fun k=>k<=(bd s.log x.a x.l).2.length,μ:=fun k=>(bd s.log x.a x.l).2.length - k })]
noncomputable def EA:Kn:=aK (ae (kT (.nm .record)) ao) aw fun (r,_) _=>⟨[],[.c (.fz .u8 (((aI r).1))),.c (.int (((aI r).2)))],none,false⟩
theorem Gi:CK 145 EA:=ag fun (r,_) _ _=>by
 refine av oa [] Tryz.func145 (?_:(fun q3=>(fun q2=>(fun q1=>(fun q0=>dR r (((((((dM bL r.kind).isSome=false\/r.a<(q0.getD 0 KC.nf).int)\/(q0.getD q3 KC.nf).int<r.a)\/r.b<q2)\/(q0.getD 3 KC.nf).int<r.b)\/(q0.getD 4 KC.nf).int<(↑r.x.length:Int)->(aI r).fst=[]/\1=(aI r).snd)/\((((((dM bL r.kind).isSome=true/\(q0.getD 0 KC.nf).int<=r.a)/\r.a<=(q0.getD q3 KC.nf).int)/\q2<=r.b)/\r.b<=(q0.getD 3 KC.nf).int)/\(↑r.x.length:Int)<=(q0.getD 4 KC.nf).int->q2<=r.kind/\q2<=r.a/\([UInt8.ofNat r.kind.toNat].length+(cT r.a.toNat).length)*q3<=140737488355328/\((q0.getD 2 KC.nf).bool=true->q2<=r.b/\(q1.length+(cT r.b.toNat).length)*q3<=140737488355328/\((q1++cT r.b.toNat).length+r.x.length)*q3<=140737488355328/\q1++cT r.b.toNat++r.x=(aI r).fst/\q2=(aI r).snd)/\((q0.getD 2 KC.nf).bool=false->(q1.length+r.x.length)*q3<=140737488355328/\q1++r.x=(aI r).fst/\q2=(aI r).snd)))) ((dM bL r.kind).getD [KC.i q2,KC.i q2,KC.b false,KC.i q2,KC.i q2,KC.nf])) ([UInt8.ofNat r.kind.toNat]++cT r.a.toNat)) (0:Int)) (1:Nat));(repeat' with_reducible first|apply aZ|refine aY ?_|intro)
 all_goals (first | exact bt | exact (congrArg (fun q=>q.1) (TZ ab)) | exact (congrArg (fun q=>q.1) (TZ ab)).symm | exact (congrArg (fun q=>q.2) (TZ ab)) | exact (congrArg (fun q=>q.2) (TZ ab)).symm | exact (congrArg (fun q=>q.1) (CH (BU ab ab ab ab ab ab))) | exact (congrArg (fun q=>q.1) (CH (BU ab ab ab ab ab ab))).symm | exact (congrArg (fun q=>q.2) (CH (BU ab ab ab ab ab ab))) | exact (congrArg (fun q=>q.2) (CH (BU ab ab ab ab ab ab))).symm | exact (afy (BU ab ab ab ab ab ab) ab) | exact (ahH (BU ab ab ab ab ab ab) ab) | (have hr:=jj (BU ab ab ab ab ab ab); omega) | (have hr:=jj (BU ab ab ab ab ab ab); simp only [List.length_append,List.length_cons,List.length_nil]; omega))
theorem QM (r:Record):Sat Tryz.prog (al tyT) 145 [.agg (cellsOf (.nm .record) r)] [] ⟨[],[.c (.fz .u8 (((aI r).1))),.c (.int (((aI r).2)))],none,false⟩:=Gi _ _ _ rfl (by simp)
noncomputable def vL:Kn:=aK (ae (kC (cL .u8)) ao) aw fun (b,_) _=>⟨[],[.agg (cellsOf (.nm .record) ((bE b).1)),.c (.bool (.atom (((bE b).2))))],none,false⟩
theorem HS:CK 144 vL:=ag fun (b,_) _ _=>by
 refine av oa [] Tryz.func144 (?_:(fun q6=>(fun q5=>(fun q4=>(fun q3=>(fun q7=>(fun q2=>(fun q1=>(fun q0=>(fun q8=>b.length*q5<=140737488355328->(q6=q3->q1)/\(¬q6=q3->q3<=q3/\q3<q6/\∀ (x:UInt8),(fun q9=>b[(0:Nat)]? = some x->q3<=1/\1<=q6/\(q2.fst<18446744073709551616->I64 (↑q2.snd.fst:Int)->I64 q2.snd.snd->(¬q2.snd.snd=q3->q1)/\(q2.snd.snd=q3->(q3<=(↑q2.snd.fst:Int)/\(↑q2.snd.fst:Int)<=(↑(List.drop q5 b).length:Int))/\(q9=true->(aj q0).fst<18446744073709551616->I64 (↑q8.fst:Int)->I64 q8.snd->(¬q8.snd=q3->q1)/\(q8.snd=q3->(q3<=(↑q8.fst:Int)/\(↑q8.fst:Int)<=(↑q0.length:Int))/\((List.drop q8.fst q0).length*q5<=140737488355328->rW (Record.mk (↑x.toNat:Int) (eU q2.fst) (eU (aj q0).fst) (List.drop q8.fst q0)) q4 (true=(bE b).snd))))/\(q9=false->q0.length*q5<=140737488355328->rW (Record.mk (↑x.toNat:Int) (eU q2.fst) q3 q0) q4 (true=(bE b).snd))))) (((dM bL (↑x.toNat:Int)).getD q7).getD 2 KC.nf).bool)) (aj q0).snd) (List.drop q2.snd.fst (List.drop q5 b))) (q3=q4.kind/\q3=q4.a/\q3=q4.b/\q4.x=[]/\false=(bE b).snd)) (aj (List.drop q5 b))) [KC.i q3,KC.i q3,KC.b false,KC.i q3,KC.i q3,KC.nf]) (0:Int)) (bE b).fst) (1:Nat)) (↑b.length:Int));(repeat' with_reducible first|apply aZ|refine aY ?_|intro)
 all_goals (first | exact bt | exact (congrArg (fun q=>q.2) (ug ab)) | exact (congrArg (fun q=>q.2) (ug ab)).symm | exact (congrArg (fun q=>q.1.kind) (ug ab)) | exact (congrArg (fun q=>q.1.kind) (ug ab)).symm | exact (congrArg (fun q=>q.1.a) (ug ab)) | exact (congrArg (fun q=>q.1.a) (ug ab)).symm | exact (congrArg (fun q=>q.1.b) (ug ab)) | exact (congrArg (fun q=>q.1.b) (ug ab)).symm | exact (congrArg (fun q=>q.1.x) (ug ab)) | exact (congrArg (fun q=>q.1.x) (ug ab)).symm | exact (congrArg (fun q=>q.2) (uc ab ab)) | exact (congrArg (fun q=>q.2) (uc ab ab)).symm | exact (congrArg (fun q=>q.1.kind) (uc ab ab)) | exact (congrArg (fun q=>q.1.kind) (uc ab ab)).symm | exact (congrArg (fun q=>q.1.a) (uc ab ab)) | exact (congrArg (fun q=>q.1.a) (uc ab ab)).symm | exact (congrArg (fun q=>q.1.b) (uc ab ab)) | exact (congrArg (fun q=>q.1.b) (uc ab ab)).symm | exact (congrArg (fun q=>q.1.x) (uc ab ab)) | exact (congrArg (fun q=>q.1.x) (uc ab ab)).symm | exact (congrArg (fun q=>q.2) (um ab ab ab ab)) | exact (congrArg (fun q=>q.2) (um ab ab ab ab)).symm | exact (congrArg (fun q=>q.1.kind) (um ab ab ab ab)) | exact (congrArg (fun q=>q.1.kind) (um ab ab ab ab)).symm | exact (congrArg (fun q=>q.1.a) (um ab ab ab ab)) | exact (congrArg (fun q=>q.1.a) (um ab ab ab ab)).symm | exact (congrArg (fun q=>q.1.b) (um ab ab ab ab)) | exact (congrArg (fun q=>q.1.b) (um ab ab ab ab)).symm | exact (congrArg (fun q=>q.1.x) (um ab ab ab ab)) | exact (congrArg (fun q=>q.1.x) (um ab ab ab ab)).symm | exact (congrArg (fun q=>q.2) (ud ab ab ab ab)) | exact (congrArg (fun q=>q.2) (ud ab ab ab ab)).symm | exact (congrArg (fun q=>q.1.kind) (ud ab ab ab ab)) | exact (congrArg (fun q=>q.1.kind) (ud ab ab ab ab)).symm | exact (congrArg (fun q=>q.1.a) (ud ab ab ab ab)) | exact (congrArg (fun q=>q.1.a) (ud ab ab ab ab)).symm | exact (congrArg (fun q=>q.1.b) (ud ab ab ab ab)) | exact (congrArg (fun q=>q.1.b) (ud ab ab ab ab)).symm | exact (congrArg (fun q=>q.1.x) (ud ab ab ab ab)) | exact (congrArg (fun q=>q.1.x) (ud ab ab ab ab)).symm | exact (congrArg (fun q=>q.2) (ua ab ab ab)) | exact (congrArg (fun q=>q.2) (ua ab ab ab)).symm | exact (congrArg (fun q=>q.1.kind) (ua ab ab ab)) | exact (congrArg (fun q=>q.1.kind) (ua ab ab ab)).symm | exact (congrArg (fun q=>q.1.a) (ua ab ab ab)) | exact (congrArg (fun q=>q.1.a) (ua ab ab ab)).symm | exact (congrArg (fun q=>q.1.b) (ua ab ab ab)) | exact (congrArg (fun q=>q.1.b) (ua ab ab ab)).symm | exact (congrArg (fun q=>q.1.x) (ua ab ab ab)) | exact (congrArg (fun q=>q.1.x) (ua ab ab ab)).symm | exact (acS _))
noncomputable def uQ:Kn:=aK (ae (kT (.nm .stable)) (ae (kT (.nm .letter)) ao)) aw fun (s,x,_) _=>⟨[],[.c (.fz (.nm .record) (((aH s x).1))),.c (.bool (.atom (((aH s x).2.1)))),.c (.int (((aH s x).2.2)))],none,false⟩
theorem Ik:CK 98 uQ:=ag fun (s,x,_) _ _=>by
 refine av oa [] Tryz.func98 (?_:(fun q4=>(fun q3=>(fun q2=>(fun q1=>(fun q5=>(fun q0=>cf s (aJ x (I64 (mayL x)->(¬mayL x=q3\/¬x.kind=1->q4=[]/\false=q1.fst/\1=q1.snd)/\(mayL x=q3/\x.kind=1->I64 q2/\((x.term<s.term\/q0=false)\/jy s.log x.a x.b=false->aA s x.term=q4/\false=q1.fst/\q3=q1.snd)/\((s.term<=x.term/\q0=true)/\jy s.log x.a x.b=true->(x.term=s.term/\s.vote=q2->q4=[]/\q5)/\(¬x.term=s.term\/¬s.vote=q2->[Record.mk 2 x.term q2 []]=q4/\q5)))))) (decide (s.term<x.term) || decide (s.vote=q3) || decide (s.vote=q2))) (true=q1.fst/\q3=q1.snd)) (aH s x).snd) (x.frm+1)) (0:Int)) (aH s x).fst);(repeat' with_reducible first|apply aZ|refine aY ?_|intro)
 all_goals (first | exact bt | exact (congrArg (fun q=>q.1) (Ib ab)) | exact (congrArg (fun q=>q.1) (Ib ab)).symm | exact (congrArg (fun q=>q.2.1) (Ib ab)) | exact (congrArg (fun q=>q.2.1) (Ib ab)).symm | exact (congrArg (fun q=>q.2.2) (Ib ab)) | exact (congrArg (fun q=>q.2.2) (Ib ab)).symm | exact (congrArg (fun q=>q.1) (IM ab ab ab)) | exact (congrArg (fun q=>q.1) (IM ab ab ab)).symm | exact (congrArg (fun q=>q.2.1) (IM ab ab ab)) | exact (congrArg (fun q=>q.2.1) (IM ab ab ab)).symm | exact (congrArg (fun q=>q.2.2) (IM ab ab ab)) | exact (congrArg (fun q=>q.2.2) (IM ab ab ab)).symm | exact (congrArg (fun q=>q.1) (Ja ab ab ab ab ab ab ab)) | exact (congrArg (fun q=>q.1) (Ja ab ab ab ab ab ab ab)).symm | exact (congrArg (fun q=>q.2.1) (Ja ab ab ab ab ab ab ab)) | exact (congrArg (fun q=>q.2.1) (Ja ab ab ab ab ab ab ab)).symm | exact (congrArg (fun q=>q.2.2) (Ja ab ab ab ab ab ab ab)) | exact (congrArg (fun q=>q.2.2) (Ja ab ab ab ab ab ab ab)).symm | exact (congrArg (fun q=>q.1) (IF ab ab ab ab ab ab)) | exact (congrArg (fun q=>q.1) (IF ab ab ab ab ab ab)).symm | exact (congrArg (fun q=>q.2.1) (IF ab ab ab ab ab ab)) | exact (congrArg (fun q=>q.2.1) (IF ab ab ab ab ab ab)).symm | exact (congrArg (fun q=>q.2.2) (IF ab ab ab ab ab ab)) | exact (congrArg (fun q=>q.2.2) (IF ab ab ab ab ab ab)).symm | (have:=fH ab; exact bT aL aL))
noncomputable def ES:Kn:=aK (ae (kT (.nm .stable)) (ae (kT (.nm .letter)) ao)) aw fun (s,x,_) _=>⟨[],[.c (.fz (.nm .record) (((aB s x).1))),.c (.bool (.atom (((aB s x).2.1)))),.c (.int (((aB s x).2.2.1))),.c (.int (((aB s x).2.2.2)))],none,false⟩
set_option maxHeartbeats 1600000 in
set_option maxRecDepth 8000 in
theorem SX:CK 95 ES:=ag fun (s,x,_) _ _=>by
 refine av oa (aaG s x) Tryz.func95 (?_:(fun (q10:List Record)=>(fun (q9:Nat)=>(fun (q8:List Record)=>(fun (q7:Int)=>(fun (q6:Int)=>(fun (q5:Int)=>(fun (q4:Int)=>(fun (q3:Int)=>(fun (q2:Bool × Int × Int)=>(fun (q11:Prop)=>(fun (q1:Int)=>(fun (q12:Prop)=>(fun (q0:List Entry)=>(fun (q16:Prop)=>(fun (q15:Int)=>(fun (q14:Nat)=>(fun (q17:Int)=>(fun (q13:Int)=>cf s (aJ x (I64 (mayL x)->(mayL x=q4/\x.kind=q7->I64 q3)/\((¬mayL x=q4\/¬x.kind=q7)\/64<q3->q8=[]/\false=q2.fst/\q4=q2.snd.fst/\q6=q2.snd.snd)/\((mayL x=q4/\x.kind=q7)/\q3<=64->(x.term<s.term->q8=[]/\q11)/\(s.term<=x.term->(decide (cK s.log x.a=x.b)=false->q10=q8/\q11)/\(decide (cK s.log x.a=x.b)=true->I64 q3/\(I64 q5->q0.length*32<=q9->(¬q5=q4->(q10.length+[Record.mk 4 q5 q4 []].length)*48<=q9/\∃ (s0:Nat),(q3=q1/\q16/\q16/\q15=q17/\q4=(↑s0:Int)/\q10++[Record.mk 4 q5 q4 []]=ef s x s0)/\s0<=q14/\∀ (s_1:Nat),(fun (q18:Int)=>s_1<=q14->((↑s_1:Int)<q17->q4<=(↑s_1:Int)/\(↑s_1:Int)<q15/\∀ (x_1:Entry),q0[s_1]? = some x_1->I64 x_1.term->x_1.b.length*1<=q9->I64 q13/\I64 (q13+(↑s_1:Int))/\I64 q18/\((ef s x s_1).length+[Record.mk q7 q18 x_1.term x_1.b].length)*48<=q9/\I64 ((↑s_1:Int)+q6)/\∃ (s':Nat),(q1=q1/\q16/\q16/\q17=q17/\(↑s_1:Int)+q6=(↑s':Int)/\ef s x s_1++[Record.mk q7 q18 x_1.term x_1.b]=ef s x s')/\s' <= q14/\q14 - s' < q14 - s_1)/\(q17<=(↑s_1:Int)->ef s x s_1=q8/\q12)) (q13+(↑s_1:Int)+q6))/\(q5=q4->∃ (s0:Nat),(q3=q1/\q16/\q16/\q15=q17/\q4=(↑s0:Int)/\q10=ef s x s0)/\s0<=q14/\∀ (s_1:Nat),(fun (q19:Int)=>s_1<=q14->((↑s_1:Int)<q17->q4<=(↑s_1:Int)/\(↑s_1:Int)<q15/\∀ (x_1:Entry),q0[s_1]? = some x_1->I64 x_1.term->x_1.b.length*1<=q9->I64 q13/\I64 (q13+(↑s_1:Int))/\I64 q19/\((ef s x s_1).length+[Record.mk q7 q19 x_1.term x_1.b].length)*48<=q9/\I64 ((↑s_1:Int)+q6)/\∃ (s':Nat),(q1=q1/\q16/\q16/\q17=q17/\(↑s_1:Int)+q6=(↑s':Int)/\ef s x s_1++[Record.mk q7 q19 x_1.term x_1.b]=ef s x s')/\s' <= q14/\q14 - s' < q14 - s_1)/\(q17<=(↑s_1:Int)->ef s x s_1=q8/\q12)) (q13+(↑s_1:Int)+q6))))))))) (q1 - q15)) (↑q14:Int)) q0.length) (↑q0.length:Int)) (q0=q0)) (bd s.log x.a x.l).snd) (true=q2.fst/\q1=q2.snd.fst/\q4=q2.snd.snd)) (x.a+(↑x.l.length:Int))) (false=q2.fst/\q4=q2.snd.fst/\q4=q2.snd.snd)) (aB s x).snd) (x.a+(↑x.l.length:Int))) 0) (bd s.log x.a x.l).fst) 1) 3) (aB s x).fst) 140737488355328) (aA s x.term));iterate 3 ((all_goals (repeat' with_reducible first|apply aZ|refine aY ?_|intro)); (all_goals try (first | exact bt | (with_reducible exact af7 ab) | (with_reducible exact aeV ab) | (with_reducible exact aim ab) | (with_reducible exact adN ab) | (with_reducible exact acX) | (with_reducible exact (congrArg (fun q=>q.1) (AM ab))) | (with_reducible exact (congrArg (fun q=>q.1) (AM ab)).symm) | (with_reducible exact (congrArg (fun q=>q.2.1) (AM ab))) | (with_reducible exact (congrArg (fun q=>q.2.1) (AM ab)).symm) | (with_reducible exact (congrArg (fun q=>q.2.2.1) (AM ab))) | (with_reducible exact (congrArg (fun q=>q.2.2.1) (AM ab)).symm) | (with_reducible exact (congrArg (fun q=>q.2.2.2) (AM ab))) | (with_reducible exact (congrArg (fun q=>q.2.2.2) (AM ab)).symm) | (with_reducible exact (congrArg (fun q=>q.1) (BV ab ab ab ab))) | (with_reducible exact (congrArg (fun q=>q.1) (BV ab ab ab ab)).symm) | (with_reducible exact (congrArg (fun q=>q.2.1) (BV ab ab ab ab))) | (with_reducible exact (congrArg (fun q=>q.2.1) (BV ab ab ab ab)).symm) | (with_reducible exact (congrArg (fun q=>q.2.2.1) (BV ab ab ab ab))) | (with_reducible exact (congrArg (fun q=>q.2.2.1) (BV ab ab ab ab)).symm) | (with_reducible exact (congrArg (fun q=>q.2.2.2) (BV ab ab ab ab))) | (with_reducible exact (congrArg (fun q=>q.2.2.2) (BV ab ab ab ab)).symm) | (with_reducible exact (congrArg (fun q=>q.1) (yj ab ab ab ab ab))) | (with_reducible exact (congrArg (fun q=>q.1) (yj ab ab ab ab ab)).symm) | (with_reducible exact (congrArg (fun q=>q.2.1) (yj ab ab ab ab ab))) | (with_reducible exact (congrArg (fun q=>q.2.1) (yj ab ab ab ab ab)).symm) | (with_reducible exact (congrArg (fun q=>q.2.2.1) (yj ab ab ab ab ab))) | (with_reducible exact (congrArg (fun q=>q.2.2.1) (yj ab ab ab ab ab)).symm) | (with_reducible exact (congrArg (fun q=>q.2.2.2) (yj ab ab ab ab ab))) | (with_reducible exact (congrArg (fun q=>q.2.2.2) (yj ab ab ab ab ab)).symm) | (with_reducible exact (congrArg (fun q=>q.1) (yN ab ab ab ab ab ab))) | (with_reducible exact (congrArg (fun q=>q.1) (yN ab ab ab ab ab ab)).symm) | (with_reducible exact (congrArg (fun q=>q.2.1) (yN ab ab ab ab ab ab))) | (with_reducible exact (congrArg (fun q=>q.2.1) (yN ab ab ab ab ab ab)).symm) | (with_reducible exact (congrArg (fun q=>q.2.2.1) (yN ab ab ab ab ab ab))) | (with_reducible exact (congrArg (fun q=>q.2.2.1) (yN ab ab ab ab ab ab)).symm) | (with_reducible exact (congrArg (fun q=>q.2.2.2) (yN ab ab ab ab ab ab))) | (with_reducible exact (congrArg (fun q=>q.2.2.2) (yN ab ab ab ab ab ab)).symm) | (have h:=fH ab; have hm:=wh (l:=s.log) (m:=x.l) (k:=x.a); refine bT ?_ ?_ <;> omega))); all_goals try first | refine ⟨‹Nat› + 1,?_⟩ | refine ⟨0,?_⟩)
noncomputable def CZ:bN:=(aO 95 ES (aO 98 uQ (aO 144 vL (aO 145 EA abW))))
theorem jD:ay Tryz.prog (al tyT) CZ:=(ah SX (ah Ik (ah HS (ah Gi oa))))
theorem Oz (r:Record) (h0:recOk r=false):Sat Tryz.prog (al tyT) 145 [.agg (cellsOf (.nm .record) r)] [] ⟨[recOk r=false],[.c (.fz .u8 (([]))),.c (.int ((1)))],none,false⟩:=by
 have e:aI r=([],1):=by rw [aI,if_neg (by rw [h0]; decide)]
 have h:=QM r;rw [e] at h; exact ⟨h.1,h.2⟩
noncomputable def Ab:Kn:=aK (ae (kT (.nm .record)) ao) aw fun (r,_) _=>⟨[recOk r=false],[.c (.fz .u8 (([]))),.c (.int ((1)))],none,false⟩
theorem NX:CK 145 Ab:=ag fun (r,_) _ hp=>Oz r (cc hp)
theorem Mg  (h0:False):Sat Tryz.prog (al tyT) 148 [] [] ⟨[False],[.c (.xx (.km []) [])],none,false⟩:=h0.elim
noncomputable def yi:Kn:=aK ao aw fun _ _=>⟨[False],[.c (.xx (.km []) [])],none,false⟩
theorem Kr:CK 148 yi:=ag fun _ _ hp=>Mg  (cc hp)
noncomputable def VH:bN:=(aO 148 yi (aO 145 Ab CZ))
theorem Nn:ay Tryz.prog (al tyT) VH:=(ah Kr (ah NX jD))
theorem mA (h:(bE b).2=false):bV b=(ub,3):=if_pos h
theorem mz (h:(bE b).2=true) (h2:¬ (aI (bE b).1).2=0\/decide ((aI (bE b).1).1=b)=false):bV b=(ub,3):=by
 rw [bV,if_neg (by rw [h]; decide),if_pos];exact h2.imp id agI
theorem mm (h:(bE b).2=true) (h2:(aI (bE b).1).2=0) (h3:decide ((aI (bE b).1).1=b)=true):bV b=((bE b).1,0):=by
 rw [bV,if_neg (by rw [h]; decide),if_neg];rintro (k | k)
 ·exact k h2
 exact k (of_decide_eq_true h3)
theorem dw:(aI r).2=0↔recOk r=true:=by
 unfold aI;split
 ·rename_i h; simp [h]
 rename_i h; simp [h]
theorem om (h:¬ (aI r).2=0):(aI r).2=1/\recOk r=false:=by
 unfold aI at h ⊢;split at h
 ·exact absurd rfl h
 rename_i h2; rw [if_neg h2]; exact ⟨rfl,by simpa using h2⟩
theorem Rw (s:Stable) (a b:Int) (x:List UInt8) (r0:Stable) (r1:Int):UL tyT CZ [] Tryz.f85 [.agg (cellsOf (.nm .stable) s),.agg [.int 1,.int a,.int b,.fz .u8 x]] [] [.agg (cellsOf (.nm .stable) r0),.c (.int r1)]=((fun q0=>(fun q1=>cf s (I64 1->I64 a->I64 b->x.length*1<=140737488355328->(aI q0).fst.length*1<=140737488355328->I64 q1->(¬q1=0->I64 s.floor->I64 s.term->I64 s.vote->aE s r0 (q1=r1))/\(q1=0->I64 s.floor->I64 s.term->I64 s.vote->((dK s q0).isSome=false->I64 s.floor->I64 s.term->I64 s.vote->aE s r0 (5=r1))/\((dK s q0).isSome=true->aE ((dK s q0).getD s) r0 (0=r1))))) (aI q0).snd) (Record.mk 1 a b x)):=bG
theorem Sd (s:Stable) (a b:Int) (x:List UInt8) (r0:Stable) (r1:Int):UL tyT CZ [] Tryz.f85 [.agg (cellsOf (.nm .stable) s),.agg [.int 2,.int a,.int b,.fz .u8 x]] [] [.agg (cellsOf (.nm .stable) r0),.c (.int r1)]=((fun q0=>(fun q1=>cf s (I64 2->I64 a->I64 b->x.length*1<=140737488355328->(aI q0).fst.length*1<=140737488355328->I64 q1->(¬q1=0->I64 s.floor->I64 s.term->I64 s.vote->aE s r0 (q1=r1))/\(q1=0->I64 s.floor->I64 s.term->I64 s.vote->((fo s q0).isSome=false->I64 s.floor->I64 s.term->I64 s.vote->aE s r0 (5=r1))/\((fo s q0).isSome=true->aE ((fo s q0).getD s) r0 (0=r1))))) (aI q0).snd) (Record.mk 2 a b x)):=bG
theorem Uy (s:Stable) (a b:Int) (x:List UInt8) (r0:Stable) (r1:Int):UL tyT CZ [] Tryz.f85 [.agg (cellsOf (.nm .stable) s),.agg [.int 3,.int a,.int b,.fz .u8 x]] [] [.agg (cellsOf (.nm .stable) r0),.c (.int r1)]=((fun q0=>(fun q1=>cf s (I64 3->I64 a->I64 b->x.length*1<=140737488355328->(aI q0).fst.length*1<=140737488355328->I64 q1->(¬q1=0->I64 s.floor->I64 s.term->I64 s.vote->aE s r0 (q1=r1))/\(q1=0->I64 s.floor->I64 s.term->I64 s.vote->s.log.length<=1000000/\x.length<=200/\((dx s q0).isSome=false->I64 s.floor->I64 s.term->I64 s.vote->aE s r0 (5=r1))/\((dx s q0).isSome=true->aE ((dx s q0).getD s) r0 (0=r1))))) (aI q0).snd) (Record.mk 3 a b x)):=bG
theorem Tg (s:Stable) (a b:Int) (x:List UInt8) (r0:Stable) (r1:Int):UL tyT CZ [] Tryz.f85 [.agg (cellsOf (.nm .stable) s),.agg [.int 4,.int a,.int b,.fz .u8 x]] [] [.agg (cellsOf (.nm .stable) r0),.c (.int r1)]=((fun q0=>(fun q1=>cf s (I64 4->I64 a->I64 b->x.length*1<=140737488355328->(aI q0).fst.length*1<=140737488355328->I64 q1->(¬q1=0->I64 s.floor->I64 s.term->I64 s.vote->aE s r0 (q1=r1))/\(q1=0->I64 s.floor->I64 s.term->I64 s.vote->(1<=a/\a<=64)/\((fL s q0).isSome=false->I64 s.floor->I64 s.term->I64 s.vote->aE s r0 (5=r1))/\((fL s q0).isSome=true->aE ((fL s q0).getD s) r0 (0=r1))))) (aI q0).snd) (Record.mk 4 a b x)):=bG
theorem Ru (s:Stable) (r:Record) (r0:Stable) (r1:Int):UL tyT VH [] Tryz.f85 [.agg (cellsOf (.nm .stable) s),.agg (cellsOf (.nm .record) r)] [] [.agg (cellsOf (.nm .stable) r0),.c (.int r1)]=(cf s (dR r (recOk r=false/\((0:Nat)*(1:Nat)<=(140737488355328:Nat)->I64 (1:Int)->(¬(1:Int)=(0:Int)->I64 s.floor->I64 s.term->I64 s.vote->aE s r0 ((1:Int)=r1))/\((1:Int)=(0:Int)->I64 s.floor->I64 s.term->I64 s.vote->False/\False))))):=bG
theorem Ae {s:Stable} (h:recOk r=false):aM s r=(s,1):=if_pos h
theorem dH {s:Stable} (h:¬ (aI r).2=0):aM s r=(s,(aI r).2):=by
 rw [Ae (om h).2,(om h).1]
variable {o:Option Stable}
theorem dE {s:Stable} (e:eM s r=o) (h:(aI r).2=0) (h2:o.isSome=false):aM s r=(s,5):=by
 rw [aM,if_neg (by rw [dw.1 h]; decide),e];cases o with
 | none=>rfl
 | some t=>cases h2
theorem dF {s:Stable} (e:eM s r=o) (h:(aI r).2=0) (h2:o.isSome=true):aM s r=(o.getD s,0):=by
 rw [aM,if_neg (by rw [dw.1 h]; decide),e];cases o with
 | none=>cases h2
 | some t=>rfl
set_option maxRecDepth 8000 in
theorem WV (s:Stable) (a b:Int) (x:List UInt8) (h0:s.log.length<=1000000):Sat Tryz.prog (al tyT) 85 [.agg (cellsOf (.nm .stable) s),.agg (cellsOf (.nm .record) (⟨1,a,b,x⟩:Record))] [] ⟨[s.log.length<=1000000],[.agg (cellsOf (.nm .stable) (aM s (⟨1,a,b,x⟩:Record)).1),.c (.int (aM s (⟨1,a,b,x⟩:Record)).2)],none,false⟩:=by
 have he:eM s (⟨1,a,b,x⟩:Record)=dK s (⟨1,a,b,x⟩:Record):=rfl;refine av jD [] Tryz.func85 ?_ (Rw s a b x (aM s (⟨1,a,b,x⟩:Record)).1 (aM s (⟨1,a,b,x⟩:Record)).2).symm;(repeat' with_reducible first|apply aZ|refine aY ?_|intro)
 all_goals (first | exact bt | exact (congrArg (fun q=>q.2) (dH ab)) | exact (congrArg (fun q=>q.2) (dH ab)).symm | exact (congrArg (fun q=>q.1.floor) (dH ab)) | exact (congrArg (fun q=>q.1.floor) (dH ab)).symm | exact (congrArg (fun q=>q.1.term) (dH ab)) | exact (congrArg (fun q=>q.1.term) (dH ab)).symm | exact (congrArg (fun q=>q.1.vote) (dH ab)) | exact (congrArg (fun q=>q.1.vote) (dH ab)).symm | exact (congrArg (fun q=>q.1.log) (dH ab)) | exact (congrArg (fun q=>q.1.log) (dH ab)).symm | exact (congrArg (fun q=>q.2) (dE he ab ab)) | exact (congrArg (fun q=>q.2) (dE he ab ab)).symm | exact (congrArg (fun q=>q.1.floor) (dE he ab ab)) | exact (congrArg (fun q=>q.1.floor) (dE he ab ab)).symm | exact (congrArg (fun q=>q.1.term) (dE he ab ab)) | exact (congrArg (fun q=>q.1.term) (dE he ab ab)).symm | exact (congrArg (fun q=>q.1.vote) (dE he ab ab)) | exact (congrArg (fun q=>q.1.vote) (dE he ab ab)).symm | exact (congrArg (fun q=>q.1.log) (dE he ab ab)) | exact (congrArg (fun q=>q.1.log) (dE he ab ab)).symm | exact (congrArg (fun q=>q.2) (dF he ab ab)) | exact (congrArg (fun q=>q.2) (dF he ab ab)).symm | exact (congrArg (fun q=>q.1.floor) (dF he ab ab)) | exact (congrArg (fun q=>q.1.floor) (dF he ab ab)).symm | exact (congrArg (fun q=>q.1.term) (dF he ab ab)) | exact (congrArg (fun q=>q.1.term) (dF he ab ab)).symm | exact (congrArg (fun q=>q.1.vote) (dF he ab ab)) | exact (congrArg (fun q=>q.1.vote) (dF he ab ab)).symm | exact (congrArg (fun q=>q.1.log) (dF he ab ab)) | exact (congrArg (fun q=>q.1.log) (dF he ab ab)).symm | (have:=jj (dw.1 ab); dsimp only at this; omega) | (have h:=bQ.1 (dw.1 ab); dsimp only at h; omega))
set_option maxRecDepth 8000 in
theorem Zp (s:Stable) (a b:Int) (x:List UInt8) (h0:s.log.length<=1000000):Sat Tryz.prog (al tyT) 85 [.agg (cellsOf (.nm .stable) s),.agg (cellsOf (.nm .record) (⟨2,a,b,x⟩:Record))] [] ⟨[s.log.length<=1000000],[.agg (cellsOf (.nm .stable) (aM s (⟨2,a,b,x⟩:Record)).1),.c (.int (aM s (⟨2,a,b,x⟩:Record)).2)],none,false⟩:=by
 have he:eM s (⟨2,a,b,x⟩:Record)=fo s (⟨2,a,b,x⟩:Record):=rfl;refine av jD [] Tryz.func85 ?_ (Sd s a b x (aM s (⟨2,a,b,x⟩:Record)).1 (aM s (⟨2,a,b,x⟩:Record)).2).symm;(repeat' with_reducible first|apply aZ|refine aY ?_|intro)
 all_goals (first | exact bt | exact (congrArg (fun q=>q.2) (dH ab)) | exact (congrArg (fun q=>q.2) (dH ab)).symm | exact (congrArg (fun q=>q.1.floor) (dH ab)) | exact (congrArg (fun q=>q.1.floor) (dH ab)).symm | exact (congrArg (fun q=>q.1.term) (dH ab)) | exact (congrArg (fun q=>q.1.term) (dH ab)).symm | exact (congrArg (fun q=>q.1.vote) (dH ab)) | exact (congrArg (fun q=>q.1.vote) (dH ab)).symm | exact (congrArg (fun q=>q.1.log) (dH ab)) | exact (congrArg (fun q=>q.1.log) (dH ab)).symm | exact (congrArg (fun q=>q.2) (dE he ab ab)) | exact (congrArg (fun q=>q.2) (dE he ab ab)).symm | exact (congrArg (fun q=>q.1.floor) (dE he ab ab)) | exact (congrArg (fun q=>q.1.floor) (dE he ab ab)).symm | exact (congrArg (fun q=>q.1.term) (dE he ab ab)) | exact (congrArg (fun q=>q.1.term) (dE he ab ab)).symm | exact (congrArg (fun q=>q.1.vote) (dE he ab ab)) | exact (congrArg (fun q=>q.1.vote) (dE he ab ab)).symm | exact (congrArg (fun q=>q.1.log) (dE he ab ab)) | exact (congrArg (fun q=>q.1.log) (dE he ab ab)).symm | exact (congrArg (fun q=>q.2) (dF he ab ab)) | exact (congrArg (fun q=>q.2) (dF he ab ab)).symm | exact (congrArg (fun q=>q.1.floor) (dF he ab ab)) | exact (congrArg (fun q=>q.1.floor) (dF he ab ab)).symm | exact (congrArg (fun q=>q.1.term) (dF he ab ab)) | exact (congrArg (fun q=>q.1.term) (dF he ab ab)).symm | exact (congrArg (fun q=>q.1.vote) (dF he ab ab)) | exact (congrArg (fun q=>q.1.vote) (dF he ab ab)).symm | exact (congrArg (fun q=>q.1.log) (dF he ab ab)) | exact (congrArg (fun q=>q.1.log) (dF he ab ab)).symm | (have:=jj (dw.1 ab); dsimp only at this; omega) | (have h:=bQ.1 (dw.1 ab); dsimp only at h; omega))
set_option maxRecDepth 8000 in
theorem Xi (s:Stable) (a b:Int) (x:List UInt8) (h0:s.log.length<=1000000):Sat Tryz.prog (al tyT) 85 [.agg (cellsOf (.nm .stable) s),.agg (cellsOf (.nm .record) (⟨3,a,b,x⟩:Record))] [] ⟨[s.log.length<=1000000],[.agg (cellsOf (.nm .stable) (aM s (⟨3,a,b,x⟩:Record)).1),.c (.int (aM s (⟨3,a,b,x⟩:Record)).2)],none,false⟩:=by
 have he:eM s (⟨3,a,b,x⟩:Record)=dx s (⟨3,a,b,x⟩:Record):=rfl;refine av jD [] Tryz.func85 ?_ (Uy s a b x (aM s (⟨3,a,b,x⟩:Record)).1 (aM s (⟨3,a,b,x⟩:Record)).2).symm;(repeat' with_reducible first|apply aZ|refine aY ?_|intro)
 all_goals (first | exact bt | exact (congrArg (fun q=>q.2) (dH ab)) | exact (congrArg (fun q=>q.2) (dH ab)).symm | exact (congrArg (fun q=>q.1.floor) (dH ab)) | exact (congrArg (fun q=>q.1.floor) (dH ab)).symm | exact (congrArg (fun q=>q.1.term) (dH ab)) | exact (congrArg (fun q=>q.1.term) (dH ab)).symm | exact (congrArg (fun q=>q.1.vote) (dH ab)) | exact (congrArg (fun q=>q.1.vote) (dH ab)).symm | exact (congrArg (fun q=>q.1.log) (dH ab)) | exact (congrArg (fun q=>q.1.log) (dH ab)).symm | exact (congrArg (fun q=>q.2) (dE he ab ab)) | exact (congrArg (fun q=>q.2) (dE he ab ab)).symm | exact (congrArg (fun q=>q.1.floor) (dE he ab ab)) | exact (congrArg (fun q=>q.1.floor) (dE he ab ab)).symm | exact (congrArg (fun q=>q.1.term) (dE he ab ab)) | exact (congrArg (fun q=>q.1.term) (dE he ab ab)).symm | exact (congrArg (fun q=>q.1.vote) (dE he ab ab)) | exact (congrArg (fun q=>q.1.vote) (dE he ab ab)).symm | exact (congrArg (fun q=>q.1.log) (dE he ab ab)) | exact (congrArg (fun q=>q.1.log) (dE he ab ab)).symm | exact (congrArg (fun q=>q.2) (dF he ab ab)) | exact (congrArg (fun q=>q.2) (dF he ab ab)).symm | exact (congrArg (fun q=>q.1.floor) (dF he ab ab)) | exact (congrArg (fun q=>q.1.floor) (dF he ab ab)).symm | exact (congrArg (fun q=>q.1.term) (dF he ab ab)) | exact (congrArg (fun q=>q.1.term) (dF he ab ab)).symm | exact (congrArg (fun q=>q.1.vote) (dF he ab ab)) | exact (congrArg (fun q=>q.1.vote) (dF he ab ab)).symm | exact (congrArg (fun q=>q.1.log) (dF he ab ab)) | exact (congrArg (fun q=>q.1.log) (dF he ab ab)).symm | (have:=jj (dw.1 ab); dsimp only at this; omega) | (have h:=bQ.1 (dw.1 ab); dsimp only at h; omega))
set_option maxRecDepth 8000 in
theorem Xe (s:Stable) (a b:Int) (x:List UInt8) (h0:s.log.length<=1000000):Sat Tryz.prog (al tyT) 85 [.agg (cellsOf (.nm .stable) s),.agg (cellsOf (.nm .record) (⟨4,a,b,x⟩:Record))] [] ⟨[s.log.length<=1000000],[.agg (cellsOf (.nm .stable) (aM s (⟨4,a,b,x⟩:Record)).1),.c (.int (aM s (⟨4,a,b,x⟩:Record)).2)],none,false⟩:=by
 have he:eM s (⟨4,a,b,x⟩:Record)=fL s (⟨4,a,b,x⟩:Record):=rfl;refine av jD [] Tryz.func85 ?_ (Tg s a b x (aM s (⟨4,a,b,x⟩:Record)).1 (aM s (⟨4,a,b,x⟩:Record)).2).symm;(repeat' with_reducible first|apply aZ|refine aY ?_|intro)
 all_goals (first | exact bt | exact (congrArg (fun q=>q.2) (dH ab)) | exact (congrArg (fun q=>q.2) (dH ab)).symm | exact (congrArg (fun q=>q.1.floor) (dH ab)) | exact (congrArg (fun q=>q.1.floor) (dH ab)).symm | exact (congrArg (fun q=>q.1.term) (dH ab)) | exact (congrArg (fun q=>q.1.term) (dH ab)).symm | exact (congrArg (fun q=>q.1.vote) (dH ab)) | exact (congrArg (fun q=>q.1.vote) (dH ab)).symm | exact (congrArg (fun q=>q.1.log) (dH ab)) | exact (congrArg (fun q=>q.1.log) (dH ab)).symm | exact (congrArg (fun q=>q.2) (dE he ab ab)) | exact (congrArg (fun q=>q.2) (dE he ab ab)).symm | exact (congrArg (fun q=>q.1.floor) (dE he ab ab)) | exact (congrArg (fun q=>q.1.floor) (dE he ab ab)).symm | exact (congrArg (fun q=>q.1.term) (dE he ab ab)) | exact (congrArg (fun q=>q.1.term) (dE he ab ab)).symm | exact (congrArg (fun q=>q.1.vote) (dE he ab ab)) | exact (congrArg (fun q=>q.1.vote) (dE he ab ab)).symm | exact (congrArg (fun q=>q.1.log) (dE he ab ab)) | exact (congrArg (fun q=>q.1.log) (dE he ab ab)).symm | exact (congrArg (fun q=>q.2) (dF he ab ab)) | exact (congrArg (fun q=>q.2) (dF he ab ab)).symm | exact (congrArg (fun q=>q.1.floor) (dF he ab ab)) | exact (congrArg (fun q=>q.1.floor) (dF he ab ab)).symm | exact (congrArg (fun q=>q.1.term) (dF he ab ab)) | exact (congrArg (fun q=>q.1.term) (dF he ab ab)).symm | exact (congrArg (fun q=>q.1.vote) (dF he ab ab)) | exact (congrArg (fun q=>q.1.vote) (dF he ab ab)).symm | exact (congrArg (fun q=>q.1.log) (dF he ab ab)) | exact (congrArg (fun q=>q.1.log) (dF he ab ab)).symm | (have:=jj (dw.1 ab); dsimp only at this; omega) | (have h:=bQ.1 (dw.1 ab); dsimp only at h; omega))
theorem OV (s:Stable) (r:Record) (h0:s.log.length<=1000000):Sat Tryz.prog (al tyT) 85 [.agg (cellsOf (.nm .stable) s),.agg (cellsOf (.nm .record) r)] [] ⟨[s.log.length<=1000000],[.agg (cellsOf (.nm .stable) (aM s r).1),.c (.int (aM s r).2)],none,false⟩:=by
 cases hr:recOk r
 ·refine av Nn [] Tryz.func85 ?_ (Ru s r (aM s r).1 (aM s r).2).symm;rw [Ae hr];(repeat' with_reducible first|apply aZ|refine aY ?_|intro)
  all_goals first | (first | with_reducible rfl | with_reducible assumption | omega | (refine bT ?_ ?_ <;> omega)) | rfl
 obtain ⟨k,a,b,x⟩:=r;rcases bQ.1 hr with h | h | h | h <;> (have hk:=h.1; dsimp only at hk; subst hk)
 ·exact WV s a b x h0
 ·exact Zp s a b x h0
 ·exact Xi s a b x h0
 exact Xe s a b x h0
noncomputable def yp:Kn:=aK (ae (kC (cL .u8)) ao) aw fun (b,_) _=>⟨[],[.agg (cellsOf (.nm .record) ((bV b).1)),.c (.int (((bV b).2)))],none,false⟩
theorem NG:CK 84 yp:=ag fun (b,_) _ _=>by
 refine av jD [] Tryz.func84 (?_:(fun q3=>(fun q2=>(fun q1=>(fun q0=>b.length*1<=140737488355328->dR (bE b).fst (((bE b).snd=false->q0)/\((bE b).snd=true->q1.fst.length*1<=140737488355328->I64 q1.snd->(¬q1.snd=q3\/decide (q1.fst=b)=false->q0)/\(q1.snd=q3/\decide (q1.fst=b)=true->rW (bE b).fst q2 (q3=(bV b).snd))))) (q3=q2.kind/\q3=q2.a/\q3=q2.b/\q2.x=[]/\3=(bV b).snd)) (aI (bE b).fst)) (bV b).fst) (0:Int));(repeat' with_reducible first|apply aZ|refine aY ?_|intro)
 all_goals (first | exact bt | exact (congrArg (fun q=>q.2) (mA ab)) | exact (congrArg (fun q=>q.2) (mA ab)).symm | exact (congrArg (fun q=>q.1.kind) (mA ab)) | exact (congrArg (fun q=>q.1.kind) (mA ab)).symm | exact (congrArg (fun q=>q.1.a) (mA ab)) | exact (congrArg (fun q=>q.1.a) (mA ab)).symm | exact (congrArg (fun q=>q.1.b) (mA ab)) | exact (congrArg (fun q=>q.1.b) (mA ab)).symm | exact (congrArg (fun q=>q.1.x) (mA ab)) | exact (congrArg (fun q=>q.1.x) (mA ab)).symm | exact (congrArg (fun q=>q.2) (mz ab ab)) | exact (congrArg (fun q=>q.2) (mz ab ab)).symm | exact (congrArg (fun q=>q.1.kind) (mz ab ab)) | exact (congrArg (fun q=>q.1.kind) (mz ab ab)).symm | exact (congrArg (fun q=>q.1.a) (mz ab ab)) | exact (congrArg (fun q=>q.1.a) (mz ab ab)).symm | exact (congrArg (fun q=>q.1.b) (mz ab ab)) | exact (congrArg (fun q=>q.1.b) (mz ab ab)).symm | exact (congrArg (fun q=>q.1.x) (mz ab ab)) | exact (congrArg (fun q=>q.1.x) (mz ab ab)).symm | exact (congrArg (fun q=>q.2) (mm ab ab ab)) | exact (congrArg (fun q=>q.2) (mm ab ab ab)).symm | exact (congrArg (fun q=>q.1.kind) (mm ab ab ab)) | exact (congrArg (fun q=>q.1.kind) (mm ab ab ab)).symm | exact (congrArg (fun q=>q.1.a) (mm ab ab ab)) | exact (congrArg (fun q=>q.1.a) (mm ab ab ab)).symm | exact (congrArg (fun q=>q.1.b) (mm ab ab ab)) | exact (congrArg (fun q=>q.1.b) (mm ab ab ab)).symm | exact (congrArg (fun q=>q.1.x) (mm ab ab ab)) | exact (congrArg (fun q=>q.1.x) (mm ab ab ab)).symm)
theorem Lk (s:Stable) (r:Record) (h0:s.log.length<=1000000):Sat Tryz.prog (al tyT) 85 [.agg (cellsOf (.nm .stable) s),.agg (cellsOf (.nm .record) r)] [] ⟨[s.log.length<=1000000],[.agg (cellsOf (.nm .stable) ((aM s r).1)),.c (.int (((aM s r).2)))],none,false⟩:=OV s r h0
noncomputable def AK:Kn:=aK (ae (kT (.nm .stable)) (ae (kT (.nm .record)) ao)) aw fun (s,r,_) _=>⟨[s.log.length<=1000000],[.agg (cellsOf (.nm .stable) ((aM s r).1)),.c (.int (((aM s r).2)))],none,false⟩
theorem Ka:CK 85 AK:=ag fun (s,r,_) _ hp=>Lk s r (cc hp)
noncomputable def ad3:bN:=(aO 85 AK (aO 84 yp CZ))
theorem Em:ay Tryz.prog (al tyT) ad3:=(ah Ka (ah NG jD))
structure RJ (b:List UInt8) (s:Stable) (u:Int):Prop where
 le:0<=u/\u<=b.length
 log:(s.log.length:Int)<=u
 eq:replayF b=((playB (b.length+1) s (b.drop u.toNat)).1,u+(playB (b.length+1) s (b.drop u.toNat)).2)
theorem afD:RJ b sta0 0:=⟨by omega,by simp,by simp [replayF]⟩
section
variable {b:List UInt8} {s:Stable} {u:Int}
theorem ux (h:RJ b s u) (h1:¬ (bh (b.drop u.toNat)).2.2=0):replayF b=(s,u):=by
 rw [h.eq,mF h1,Int.add_zero]
theorem uk (h:RJ b s u) (h1:(bh (b.drop u.toNat)).2.2=0) (h2:¬ (bV (bh (b.drop u.toNat)).1).2=0):replayF b=(s,u):=by
 rw [h.eq,playB,if_neg (abc.2 h1),if_pos h2,Int.add_zero]
theorem ui (h:RJ b s u) (h1:(bh (b.drop u.toNat)).2.2=0) (h2:(bV (bh (b.drop u.toNat)).1).2=0) (h3:¬ (aM s (bV (bh (b.drop u.toNat)).1).1).2=0):replayF b=(s,u):=by
 rw [h.eq,playB,if_neg (abc.2 h1),if_neg (abc.2 h2),if_pos h3,Int.add_zero]
theorem GP {s t:Stable} (h:eM s r=some t):t.log.length<=s.log.length+1:=by
 unfold eM dK fo dx fL at h;split at h
 ·split at h <;> cases h; simp
 split at h
 ·split at h <;> cases h; simp
 split at h
 ·split at h <;> cases h; simp
 split at h <;> cases h; simp; omega
theorem we {s:Stable}:(aM s r).1.log.length<=s.log.length+1:=by
 unfold aM;split
 ·simp
 split
 ·rename_i t h; exact GP h
 simp
theorem afm (h:RJ b s u) (h1:(bh (b.drop u.toNat)).2.2=0) (h2:(bV (bh (b.drop u.toNat)).1).2=0) (h3:(aM s (bV (bh (b.drop u.toNat)).1).1).2=0):RJ b (aM s (bV (bh (b.drop u.toNat)).1).1).1 (u+(bh (b.drop u.toNat)).2.1):=by
 have hs:=gZ h1;have hl:=h.le;rw [List.length_drop] at hs;have h4:=we (s:=s) (r:=(bV (bh (b.drop u.toNat)).1).1);have h5:=h.log;refine ⟨by omega,by omega,?_⟩;rw [h.eq,playB,if_neg (abc.2 h1),if_neg (abc.2 h2),if_neg (abc.2 h3),afp,show u.toNat+(bh (b.drop u.toNat)).2.1.toNat=(u+(bh (b.drop u.toNat)).2.1).toNat by omega];rw [mX (n:=b.length) (m:=b.length+1) (by rw [List.length_drop]; omega) (by rw [List.length_drop]; omega)];refine Prod.ext rfl ?_;dsimp only; omega
theorem ahz (h:RJ b s u):0<=u:=h.le.1
theorem afn (h:RJ b s u):u<=(b.length:Int):=h.le.2
theorem ahD (h:RJ b s u) (hb:b.length<=1000000):s.log.length<=1000000:=by
 have:=h.log; have:=h.le; omega
theorem ahO (h:RJ b s u) (h1:(bh (b.drop u.toNat)).2.2=0) (hb:b.length<=1000000):I64 (u+(bh (b.drop u.toNat)).2.1):=by
 have:=gZ h1; have:=h.le;rw [List.length_drop] at *;exact bT aL aL
theorem agl (h:RJ b s u) (h1:(bh (b.drop u.toNat)).2.2=0):((b.length:Int) - (u+(bh (b.drop u.toNat)).2.1)).toNat<((b.length:Int) - u).toNat:=by
 have:=gZ h1; have:=h.le;rw [List.length_drop] at *;omega
end
variable {l:List Record}
theorem zD {s:Stable} (h:(stepsF s (l.take k)).2=0) (hr:l[k]? = some r):stepsF s (l.take (k+1))=stepsF (stepsF s (l.take k)).1 [r]:=by
 rw [ai hr,dq h]
theorem uh {s:Stable} (h:(stepsF s (l.take k)).2=0) (hr:l[k]? = some r) (h2:(aM (stepsF s (l.take k)).1 r).2=0):(stepsF s (l.take (k+1))).2=0/\(stepsF s (l.take (k+1))).1=(aM (stepsF s (l.take k)).1 r).1:=by
 rw [zD h hr,stepsF,if_pos h2,stepsF]; exact ⟨rfl,rfl⟩
theorem agE {s:Stable} (h:(stepsF s (l.take k)).2=0) (hr:l[k]? = some r) (h2:¬ (aM (stepsF s (l.take k)).1 r).2=0):(stepsF s l).2=(aM (stepsF s (l.take k)).1 r).2:=by
 have hk:=(aaA.1 hr);have e:l=l.take k++r :: l.drop (k+1):=by
  rw [<- hk.2,List.getElem_cons_drop,List.take_append_drop]
 rw [show stepsF s l=stepsF s (l.take k++r :: l.drop (k+1)) from congrArg (stepsF s) e,dq h,stepsF,if_neg h2]
theorem rh:∀ {l:List Record} {s:Stable},(stepsF s l).1.log.length<=s.log.length+l.length
 | [],s=>Nat.le_refl _
 | r :: l,s=>by
  rw [stepsF];split
  ·have:=rh (l:=l) (s:=(aM s r).1);have:=we (s:=s) (r:=r);rw [List.length_cons]; omega
  dsimp only; omega
theorem adH (h:(l.take k).all recOk=true) (hr:l[k]? = some r) (h2:recOk r=true):(l.take (k+1)).all recOk=true:=by
 rw [ai hr,agr,h]; simp [h2]
theorem abX (hr:l[k]? = some r) (h2:recOk r=false):l.all recOk=false:=by
 cases h:l.all recOk
 ·rfl
 have:=aeD.1 h r (aiL.2 ⟨k,hr⟩);rw [h2] at this; cases this
theorem Yg (hr:l[k]? = some r):encL (l.take k)++eD (dB r)=encL (l.take (k+1)):=by
 rw [ai hr,rK]; simp [encL,jX]
theorem Dj {d:Dsk} {x:List UInt8} (h:d.OK):(d.app x).OK:=by
 obtain ⟨h1,h2,h3⟩:=h;unfold Dsk.app;split
 ·exact ⟨h1,h2,h3⟩
 refine ⟨h1,?_,?_⟩ <;> dsimp only <;> rw [List.length_append] <;> omega
def IT (b:List UInt8):List (Nat × LI):=[(3,{ σ:=Stable × Int,F:=fun q=>([(0,one (.fz .u8 (b))),(2,one (.ptr 1 0)),(4,one (.ptr 0 0)),(5,one (.int q.2))],[.box 64 (cellsOf (.nm .stable) (q.1)),.box 64 (cellsOf (.nm .stable) (sta0))]),J:=fun q=>RJ b q.1 q.2,μ:=fun q=>(b.length - q.2).toNat })]
noncomputable def tC:Kn:=aK (ae (kC (cL .u8)) ao) aw fun (b,_) _=>⟨[b.length<=1000000],[.agg (cellsOf (.nm .stable) ((replayF b).1)),.c (.int (((replayF b).2)))],none,false⟩
theorem Dd:CK 41 tC:=ag fun (b,_) _ hp=>by
 have h0:=cc hp;refine av Em (IT b) Tryz.func41 (?_:(fun (q0:Int)=>b.length*1<=140737488355328->∃ (s0:Stable × Int),(b=b/\q0=s0.snd/\q0=s0.fst.floor/\q0=s0.fst.term/\q0=s0.fst.vote/\s0.fst.log=[]/\q0=sta0.floor/\q0=sta0.term/\q0=sta0.vote/\sta0.log=[])/\RJ b s0.fst s0.snd/\∀ (s:Stable × Int),(fun (q2:Prop)=>(fun (q1:List UInt8 × Int × Int)=>(fun (q4:Record × Int)=>(fun (q3:Stable × Int)=>RJ b s.fst s.snd->q0<=s.snd/\s.snd<=(↑b.length:Int)/\(q1.fst.length*1<=140737488355328->I64 q1.snd.fst->I64 q1.snd.snd->(¬q1.snd.snd=q0->q2)/\(q1.snd.snd=q0->dR q4.fst (I64 q4.snd->(¬q4.snd=q0->q2)/\(q4.snd=q0->s.fst.log.length<=1000000/\cf q3.fst (I64 q3.snd->(¬q3.snd=q0->q2)/\(q3.snd=q0->I64 (s.snd+q1.snd.fst)/\∃ (s':Stable × Int),(b=b/\s.snd+q1.snd.fst=s'.snd/\aE q3.fst s'.fst (dV sta0 sta0))/\RJ b s'.fst s'.snd/\((↑b.length:Int) - s'.snd).toNat<((↑b.length:Int) - s.snd).toNat))))))) (aM s.fst q4.fst)) (bV q1.fst)) (bh (List.drop s.snd.toNat b))) (aE s.fst (replayF b).fst (s.snd=(replayF b).snd))) 0);iterate 3 ((all_goals (repeat' with_reducible first|apply aZ|refine aY ?_|intro)); (all_goals try (first | exact bt | (with_reducible exact afD) | (with_reducible exact ahz ab) | (with_reducible exact afn ab) | (with_reducible exact ahD ab h0) | (with_reducible exact ahO ab ab h0) | (with_reducible exact agl ab ab) | (with_reducible exact afm ab ab ab ab) | exact (congrArg (fun q=>q.2) (ux ab ab)) | exact (congrArg (fun q=>q.2) (ux ab ab)).symm | exact (congrArg (fun q=>q.1.floor) (ux ab ab)) | exact (congrArg (fun q=>q.1.floor) (ux ab ab)).symm | exact (congrArg (fun q=>q.1.term) (ux ab ab)) | exact (congrArg (fun q=>q.1.term) (ux ab ab)).symm | exact (congrArg (fun q=>q.1.vote) (ux ab ab)) | exact (congrArg (fun q=>q.1.vote) (ux ab ab)).symm | exact (congrArg (fun q=>q.1.log) (ux ab ab)) | exact (congrArg (fun q=>q.1.log) (ux ab ab)).symm | exact (congrArg (fun q=>q.2) (uk ab ab ab)) | exact (congrArg (fun q=>q.2) (uk ab ab ab)).symm | exact (congrArg (fun q=>q.1.floor) (uk ab ab ab)) | exact (congrArg (fun q=>q.1.floor) (uk ab ab ab)).symm | exact (congrArg (fun q=>q.1.term) (uk ab ab ab)) | exact (congrArg (fun q=>q.1.term) (uk ab ab ab)).symm | exact (congrArg (fun q=>q.1.vote) (uk ab ab ab)) | exact (congrArg (fun q=>q.1.vote) (uk ab ab ab)).symm | exact (congrArg (fun q=>q.1.log) (uk ab ab ab)) | exact (congrArg (fun q=>q.1.log) (uk ab ab ab)).symm | exact (congrArg (fun q=>q.2) (ui ab ab ab ab)) | exact (congrArg (fun q=>q.2) (ui ab ab ab ab)).symm | exact (congrArg (fun q=>q.1.floor) (ui ab ab ab ab)) | exact (congrArg (fun q=>q.1.floor) (ui ab ab ab ab)).symm | exact (congrArg (fun q=>q.1.term) (ui ab ab ab ab)) | exact (congrArg (fun q=>q.1.term) (ui ab ab ab ab)).symm | exact (congrArg (fun q=>q.1.vote) (ui ab ab ab ab)) | exact (congrArg (fun q=>q.1.vote) (ui ab ab ab ab)).symm | exact (congrArg (fun q=>q.1.log) (ui ab ab ab ab)) | exact (congrArg (fun q=>q.1.log) (ui ab ab ab ab)).symm)); all_goals try first | refine ⟨((aM (‹Stable × Int›).1 (bV (bh (b.drop (‹Stable × Int›).2.toNat)).1).1).1,(‹Stable × Int›).2+(bh (b.drop (‹Stable × Int›).2.toNat)).2.1),?_⟩ | refine ⟨(sta0,0),?_⟩)
noncomputable def adY:bN:=(aO 41 tC ad3)
theorem Eg:ay Tryz.prog (al tyT) adY:=(ah Dd Em)
section
variable {d:Dsk} {s:Stable} {l:List Record} {k:Nat} {r:Record}
theorem acE (hr:l[k]? = some r) (h:¬ (aI r).2=0):saveF d s l=(d,s,(aI r).2):=by
 rw [saveF,if_pos (abX hr (om h).2),(om h).1]
theorem ZY (h:(aI r).2=0):pn (aI r).1=(eD (dB r),0):=by
 have hr:=dw.1 h;have:=jr hr;rw [CH hr,pn,if_neg (by dsimp only; omega)]
theorem ac5 {p:Prop} (h:(aI r).2=0) (h2:¬ (pn (aI r).1).2=0):p:=absurd (by rw [ZY h]) h2
theorem ac1 (hr:l[k]? = some r) (h:(aI r).2=0):encL (l.take k)++(pn (aI r).1).1=encL (l.take (k+1)):=by
 rw [ZY h]; exact Yg hr
theorem Vg (h:l.length<=1000) (h2:(l.take k).all recOk=true) (h3:(aI r).2=0):((encL (l.take k)).length+(pn (aI r).1).1.length)*1<=140737488355328:=by
 have h4:=sO h2;have h5:=jr (dw.1 h3);have h6:(l.take k).length<=l.length:=by rw [List.length_take]; omega
 rw [ZY h3]; dsimp only; rw [kg]; omega
theorem ab6 (hk:(l.length:Int)<=k) (h:(l.take k).all recOk=true):l.all recOk=true:=by rwa [List.take_of_length_le (by omega)] at h
theorem abD (hk:(l.length:Int)<=k):encL (l.take k)=encL l:=by rw [List.take_of_length_le (by omega)]
theorem ab0 (h1:s.log.length<=10000) (h2:l.length<=1000):(stepsF s (l.take k)).1.log.length<=1000000:=by
 have:=rh (s:=s) (l:=l.take k);have h6:(l.take k).length<=l.length:=by rw [List.length_take]; omega
 omega
theorem adU (ha:l.all recOk=true) (h:(stepsF s (l.take k)).2=0) (hr:l[k]? = some r) (h2:¬ (aM (stepsF s (l.take k)).1 r).2=0):saveF d s l=(d,s,(aM (stepsF s (l.take k)).1 r).2):=by
 have e:=agE h hr h2;rw [saveF,if_neg (by rw [ha]; decide),if_pos (by rw [e]; exact h2),e]
theorem acv (hl:(l.length:Int)=0):saveF d s l=(d,(stepsF s (l.take k)).1,0):=by
 rw [aa7 (l:=l) (by omega),List.take_nil]; rfl
theorem XY (hk:(l.length:Int)<=k) (ha:l.all recOk=true) (h:(stepsF s (l.take k)).2=0) (hl:¬ (l.length:Int)=0):saveF d s l=if d.jW (encL l)≠0 then (d,s,d.jW (encL l)) else if (d.app (encL l)).fw≠0 then ((d.app (encL l)).sync,s,(d.app (encL l)).fw) else ((d.app (encL l)).sync,(stepsF s (l.take k)).1,0):=by
 rw [List.take_of_length_le (by omega)] at h ⊢;rw [saveF,if_neg (by rw [ha]; decide),if_neg (by rw [h]; decide),if_neg (by omega)]
theorem ael (hk:(l.length:Int)<=k) (ha:l.all recOk=true) (h:(stepsF s (l.take k)).2=0) (hl:¬ (l.length:Int)=0) (h1:¬ d.jW (encL l)=0):saveF d s l=(d.app (encL l),s,d.jW (encL l)):=by
 have e:d.app (encL l)=d:=by
  unfold Dsk.app Dsk.jW at *;split
  ·rfl
  rename_i h3;rw [not_or] at h3;rw [if_neg h3.1,if_neg h3.2] at h1;exact absurd rfl h1
 rw [XY hk ha h hl,if_pos h1,e]
theorem acI (hk:(l.length:Int)<=k) (ha:l.all recOk=true) (h:(stepsF s (l.take k)).2=0) (hl:¬ (l.length:Int)=0) (h1:d.jW (encL l)=0) (h2:¬ (d.app (encL l)).fw=0):saveF d s l=((d.app (encL l)).sync,s,(d.app (encL l)).fw):=by
 rw [XY hk ha h hl,if_neg (abc.2 h1),if_pos h2]
theorem abS (hk:(l.length:Int)<=k) (ha:l.all recOk=true) (h:(stepsF s (l.take k)).2=0) (hl:¬ (l.length:Int)=0) (h1:d.jW (encL l)=0) (h2:(d.app (encL l)).fw=0):saveF d s l=((d.app (encL l)).sync,(stepsF s (l.take k)).1,0):=by
 rw [XY hk ha h hl,if_neg (abc.2 h1),if_neg (abc.2 h2)]
variable {x:List UInt8}
theorem app_1 (h:d.OK):0<=(d.app x).synced:=(Dj h).1
theorem UP (h:d.OK):(d.app x).synced<=((d.app x).b.length:Int):=(Dj h).2.1
theorem Wy (h:d.OK):(d.app x).b.length<=65536:=(Dj h).2.2
theorem Oe (h:(l.take k).all recOk=true) (hr:l[k]? = some r) (h2:(aI r).2=0):(l.take (k+1)).all recOk=true:=adH h hr (dw.1 h2)
end
def Rk (s:Stable) (l:List Record) (sy:Int) (dn:Bool) (dm:Bool) (kp:Int) (bs:List UInt8):List (Nat × LI):=[(3,{ σ:=Nat,F:=fun k=>([(0,one (.ptr 0 0)),(2,one (.fz (.nm .record) (l))),(4,one (.ptr 2 0)),(6,one (.ptr 3 0)),(8,one (.own 4)),(20,one (.fz (.nm .record) (l))),(21,one (.int (l).length)),(22,one (.int k))],[.box 147 ([.own 1,.int ((sy)),.bool (.atom ((dn))),.bool (.atom ((dm))),.int ((kp))]),.row 5 .u8 ((bs)),.box 64 (cellsOf (.nm .stable) (s)),.box 64 (cellsOf (.nm .stable) (sta0)),.row 5 .u8 ((encL (l.take k)))]),J:=fun k=>k<=l.length/\(l.take k).all recOk=true,μ:=fun k=>(l).length - k }),(15,{ σ:=Nat,F:=fun k=>([(0,one (.ptr 0 0)),(2,one (.fz (.nm .record) (l))),(4,one (.ptr 2 0)),(6,one (.ptr 3 0)),(8,one (.own 4)),(14,one (.ptr 5 0)),(52,one (.fz (.nm .record) (l))),(53,one (.int (l).length)),(54,one (.int k))],[.box 147 ([.own 1,.int ((sy)),.bool (.atom ((dn))),.bool (.atom ((dm))),.int ((kp))]),.row 5 .u8 ((bs)),.box 64 (cellsOf (.nm .stable) (s)),.box 64 (cellsOf (.nm .stable) (sta0)),.row 5 .u8 ((encL l)),.box 64 (cellsOf (.nm .stable) ((stepsF s (l.take k)).1))]),J:=fun k=>k<=l.length/\l.all recOk=true/\(stepsF s (l.take k)).2=0,μ:=fun k=>(l).length - k })]
noncomputable def Am:Kn:=aK (ae (kC (aX 0 0)) (ae (kT (.nm .stable)) (ae (kC (cL (.nm .record))) ao))) (aC (dG 147 (ax (eV 1) (ax cI (ax cB (ax cB (ax cI dC)))))) (aC (eW 5 .u8) aw)) fun (_,s,l,_) ((_,sy,dn,dm,kp,_),bs,_)=>⟨[(Dsk.mk bs sy dn dm kp).OK,s.log.length<=10000,l.length<=1000],[.agg (cellsOf (.nm .stable) ((saveF (Dsk.mk bs sy dn dm kp) s l).2.1)),.c (.int (((saveF (Dsk.mk bs sy dn dm kp) s l).2.2)))],some ([.box 147 ([.own 1,.int (((saveF (Dsk.mk bs sy dn dm kp) s l).1.synced)),.bool (.atom (((saveF (Dsk.mk bs sy dn dm kp) s l).1.down))),.bool (.atom (((saveF (Dsk.mk bs sy dn dm kp) s l).1.doomed))),.int (((saveF (Dsk.mk bs sy dn dm kp) s l).1.keep))]),.row 5 .u8 (((saveF (Dsk.mk bs sy dn dm kp) s l).1.b))]),false⟩
set_option maxHeartbeats 1600000 in
set_option maxRecDepth 8000 in
theorem PA:CK 87 Am:=ag fun (_,s,l,_) ((_,sy,dn,dm,kp,_),bs,_) hp=>by
 have h0:=cc hp;have h1:=cc (eT hp);have h2:=cc (eT (eT hp));refine br Eg (Rk s l sy dn dm kp bs) Tryz.func87 (?_:(fun (q11:Dsk)=>(fun (q10:Prop)=>(fun (q9:Prop)=>(fun (q8:Prop)=>(fun (q7:Prop)=>(fun (q6:Prop)=>(fun (q5:Int)=>(fun (q4:Int)=>(fun (q3:Nat)=>(fun (q12:Int)=>(fun (q2:Int)=>(fun (q1:Dsk)=>(fun (q13:Dsk)=>(fun (q0:Dsk × Stable × Int)=>(fun (q18:Stable)=>(fun (q17:Int)=>(fun (q16:Dsk)=>(fun (q15:Prop)=>(fun (q14:Prop)=>cf s (l.length*48<=140737488355328->∃ (s0:Nat),(q10/\q10/\q5=q12/\q2=(↑s0:Int)/\sy=sy/\dn=dn/\dm=dm/\kp=kp/\bs=bs/\aE s s (q2=sta0.floor/\q2=sta0.term/\q2=sta0.vote/\sta0.log=[]/\encL (List.take s0 l)=[]))/\(s0<=q3/\(List.take s0 l).all recOk=true)/\∀ (s_1:Nat),s_1<=q3/\(List.take s_1 l).all recOk=true->((↑s_1:Int)<q12->q2<=(↑s_1:Int)/\(↑s_1:Int)<q5/\∀ (x:Record),(fun (q20:Int)=>(fun (q19:List UInt8 × Int)=>l[s_1]? = some x->dR x ((aI x).fst.length*1<=140737488355328->I64 q20->(¬q20=q2->q6->q7->q8->aE s q18 (q20=q17/\q14))/\(q20=q2->q19.fst.length*1<=140737488355328->I64 q19.snd->(¬q19.snd=q2->q6->q7->q8->aE s q18 (q19.snd=q17/\q14))/\(q19.snd=q2->((encL (List.take s_1 l)).length+q19.fst.length)*1<=140737488355328/\I64 ((↑s_1:Int)+1)/\∃ (s':Nat),(q10/\q10/\q12=q12/\(↑s_1:Int)+1=(↑s':Int)/\sy=sy/\dn=dn/\dm=dm/\kp=kp/\bs=bs/\aE s s (aE sta0 sta0 (encL (List.take s_1 l)++q19.fst=encL (List.take s' l))))/\(s' <= q3/\(List.take s' l).all recOk=true)/\q3 - s' < q3 - s_1)))) (pn (aI x).fst)) (aI x).snd)/\(q12<=(↑s_1:Int)->q6->q7->q8->∃ (s0:Nat),(q10/\q10/\q5=q12/\q2=(↑s0:Int)/\sy=sy/\dn=dn/\dm=dm/\kp=kp/\bs=bs/\aE s s (aE sta0 sta0 (encL (List.take s_1 l)=encL l/\dV s (stepsF s (List.take s0 l)).fst)))/\(s0<=q3/\q9/\(stepsF s (List.take s0 l)).snd=q2)/\∀ (s_2:Nat),(fun (q21:Stable)=>s_2<=q3/\q9/\(stepsF s (List.take s_2 l)).snd=q2->((↑s_2:Int)<q12->q2<=(↑s_2:Int)/\(↑s_2:Int)<q5/\∀ (x:Record),(fun (q22:Int)=>l[s_2]? = some x->dR x (q21.log.length<=1000000/\cf (aM q21 x).fst (I64 q22->(¬q22=q2->q6->q7->q8->aE s q18 (q22=q17/\q14))/\(q22=q2->I64 ((↑s_2:Int)+1)/\∃ (s':Nat),(q10/\q10/\q12=q12/\(↑s_2:Int)+1=(↑s':Int)/\sy=sy/\dn=dn/\dm=dm/\kp=kp/\bs=bs/\aE s s (aE sta0 sta0 (encL l=encL l/\dV (aM q21 x).fst (stepsF s (List.take s' l)).fst)))/\(s' <= q3/\q9/\(stepsF s (List.take s' l)).snd=q2)/\q3 - s' < q3 - s_2)))) (aM q21 x).snd)/\(q12<=(↑s_2:Int)->(q5=q2->aE q21 q18 (q2=q17/\q14))/\(¬q5=q2->(q2<=sy/\sy<=(↑bs.length:Int)/\bs.length<=65536)/\(I64 q4->(¬q4=q2->q6->q7->q8->aE s q18 (q4=q17/\q1.synced=q16.synced/\q1.down=q16.down/\q1.doomed=q16.doomed/\q1.keep=q16.keep/\q1.b=q16.b))/\(q4=q2->(q2<=q1.synced/\q1.synced<=(↑q1.b.length:Int)/\q1.b.length<=65536)/\(I64 q1.fw->(¬q1.fw=q2->q6->q7->q8->aE s q18 (q1.fw=q17/\q15))/\(q1.fw=q2->aE q21 q18 (q2=q17/\q15)))))))) (stepsF s (List.take s_2 l)).fst))) (sy=q16.synced/\dn=q16.down/\dm=q16.doomed/\kp=q16.keep/\bs=q16.b)) (q13.synced=q16.synced/\q13.down=q16.down/\q13.doomed=q16.doomed/\q13.keep=q16.keep/\q13.b=q16.b)) q0.fst) q0.snd.snd) q0.snd.fst) (saveF q11 s l)) q1.sync) (q11.app (encL l))) 0) (↑q3:Int)) l.length) (q11.jW (encL l))) (↑l.length:Int)) (I64 s.floor)) (I64 s.term)) (I64 s.vote)) (l.all recOk=true)) (l=l)) (Dsk.mk bs sy dn dm kp))
 have hO:=h0;obtain ⟨o1,o2,o3⟩:=h0;dsimp only at o1 o2 o3;(repeat' with_reducible first|apply aZ|refine aY ?_|intro)
 all_goals try (refine ⟨0,?_⟩; (repeat' with_reducible first|apply aZ|refine aY ?_|intro))
 all_goals try (first | (refine ⟨‹Nat› + 1,?_⟩; (repeat' with_reducible first|apply aZ|refine aY ?_|intro) <;> (first | exact bt | (with_reducible exact ac1 ab ab) | (with_reducible exact Oe ab ab ab) | (with_reducible exact Vg h2 ab ab) | (with_reducible exact ab6 ab ab) | (with_reducible exact abD ab) | (with_reducible exact ab0 h1 h2) | (with_reducible exact ac5 ab ab) | (with_reducible exact (uh ab ab ab).1) | (with_reducible exact app_1 hO) | (with_reducible exact UP hO) | (with_reducible exact Wy hO) | (with_reducible exact (congrArg Stable.floor (uh ab ab ab).2).symm) | (with_reducible exact (congrArg Stable.term (uh ab ab ab).2).symm) | (with_reducible exact (congrArg Stable.vote (uh ab ab ab).2).symm) | (with_reducible exact (congrArg Stable.log (uh ab ab ab).2).symm) | (rw [acE (d:=Dsk.mk bs sy dn dm kp) ab ab] <;> rfl) | (rw [adU (d:=Dsk.mk bs sy dn dm kp) ab ab ab ab] <;> rfl) | (rw [ael (d:=Dsk.mk bs sy dn dm kp) ab ab ab ab ab] <;> rfl) | (rw [acI (d:=Dsk.mk bs sy dn dm kp) ab ab ab ab ab ab] <;> rfl) | (rw [abS (d:=Dsk.mk bs sy dn dm kp) ab ab ab ab ab ab] <;> rfl) | (rw [acv (d:=Dsk.mk bs sy dn dm kp) (k:=‹Nat›) ab] <;> rfl) | exact rfl); done) | (refine ⟨0,?_⟩; (repeat' with_reducible first|apply aZ|refine aY ?_|intro)))
 all_goals try (refine ⟨‹Nat› + 1,?_⟩; (repeat' with_reducible first|apply aZ|refine aY ?_|intro))
 all_goals (first | exact bt | (with_reducible exact ac1 ab ab) | (with_reducible exact Oe ab ab ab) | (with_reducible exact Vg h2 ab ab) | (with_reducible exact ab6 ab ab) | (with_reducible exact abD ab) | (with_reducible exact ab0 h1 h2) | (with_reducible exact ac5 ab ab) | (with_reducible exact (uh ab ab ab).1) | (with_reducible exact app_1 hO) | (with_reducible exact UP hO) | (with_reducible exact Wy hO) | (with_reducible exact (congrArg Stable.floor (uh ab ab ab).2).symm) | (with_reducible exact (congrArg Stable.term (uh ab ab ab).2).symm) | (with_reducible exact (congrArg Stable.vote (uh ab ab ab).2).symm) | (with_reducible exact (congrArg Stable.log (uh ab ab ab).2).symm) | (rw [acE (d:=Dsk.mk bs sy dn dm kp) ab ab] <;> rfl) | (rw [adU (d:=Dsk.mk bs sy dn dm kp) ab ab ab ab] <;> rfl) | (rw [ael (d:=Dsk.mk bs sy dn dm kp) ab ab ab ab ab] <;> rfl) | (rw [acI (d:=Dsk.mk bs sy dn dm kp) ab ab ab ab ab ab] <;> rfl) | (rw [abS (d:=Dsk.mk bs sy dn dm kp) ab ab ab ab ab ab] <;> rfl) | (rw [acv (d:=Dsk.mk bs sy dn dm kp) (k:=‹Nat›) ab] <;> rfl) | exact rfl)
noncomputable def ac9:bN:=(aO 87 Am adY)
theorem lF:ay Tryz.prog (al tyT) ac9:=(ah PA Eg)
variable {l:List Entry}
theorem ab7 {x:Entry} (h:l[k]? = some x):l.take k++[x]=l.take (k+1):=(ai h).symm
theorem ab3 (h:(l.length:Int)<=k):l.take k=l:=List.take_of_length_le (by omega)
def Hb (l:List Entry):List (Nat × LI):=[(3,{ σ:=Nat,F:=fun k=>([(3,one (.own 0)),(6,one (.fz (.nm .entry) (l))),(7,one (.int (l).length)),(8,one (.int k))],[.row 52 (.nm .entry) ((l.take k))]),J:=fun k=>k<=l.length,μ:=fun k=>(l).length - k })]
noncomputable def zd:Kn:=aK ao aw fun _ _=>⟨[],[.agg (cellsOf (.nm .state) (State.mk 1 1 0 0 [] [] []))],none,false⟩
theorem Ox:CK 46 zd:=ag fun _ _ _=>by
 refine av lF [] Tryz.func46 (?_:(1:Int)=1/\(1:Int)=1/\(0:Int)=0/\(0:Int)=0 /\ @Eq (List (den (Sh.nm NT.sess))) [] [] /\ @Eq (List (den (Sh.nm NT.opn))) [] [] /\ @Eq (List (den (Sh.nm NT.snap))) [] []);exact ⟨rfl,rfl,rfl,rfl,rfl,rfl,rfl⟩
noncomputable def wv:Kn:=aK (ae (kC (aX 0 0)) (ae (kC cI) (ae (kC cI) ao))) tZ fun (_,kd,to,_) n=>⟨[],[.agg (cellsOf (.nm .letter) (qD n.c kd to))],none,false⟩
theorem HV:CK 51 wv:=ag fun (_,kd,to,_) n _=>by
 refine av lF [] Tryz.func51 (?_:(fun q0=>I64 kd->I64 to->kd=q0.kind/\n.c.me=q0.frm/\to=q0.to/\n.c.st.term=q0.term/\0=q0.a/\0=q0.b/\0=q0.c/\n.c.bin=q0.bin/\false=q0.ok/\q0.l=[]) (qD n.c kd to));(repeat' with_reducible first|apply aZ|refine aY ?_|intro)
 all_goals first | exact bt | rfl
noncomputable def rA:Kn:=aK (ae (kC (cL (.nm .entry))) ao) aw fun (l,_) _=>⟨[],[.c (.fz (.nm .entry) ((l)))],none,false⟩
theorem Cy:CK 60 rA:=ag fun (l,_) _ _=>by
 refine av lF (Hb l) Tryz.func60 (?_:(fun (q0:Nat)=>l.length*32<=140737488355328->∃ (s0:Nat),(l=l/\(↑l.length:Int)=(↑q0:Int)/\0=(↑s0:Int)/\List.take s0 l=[])/\s0<=q0/\∀ (s:Nat),s<=q0->((↑s:Int)<(↑q0:Int)->0<=(↑s:Int)/\(↑s:Int)<(↑l.length:Int)/\∀ (x:Entry),(fun (q1:Prop)=>l[s]? = some x->I64 x.term->q1->(q1->((List.take s l).length+[x].length)*32<=140737488355328)/\(q1->I64 ((↑s:Int)+1)/\∃ (s':Nat),(l=l/\(↑q0:Int)=(↑q0:Int)/\(↑s:Int)+1=(↑s':Int)/\List.take s l++[x]=List.take s' l)/\s' <= q0/\q0 - s' < q0 - s)) (x.b.length*1<=140737488355328))/\((↑q0:Int)<=(↑s:Int)->List.take s l=l)) l.length);iterate 3 ((all_goals (repeat' with_reducible first|apply aZ|refine aY ?_|intro)); (all_goals try (first | exact bt | exact rfl | exact (ab7 ab) | exact (ab3 ab) | (simp only [List.length_take,List.length_cons,List.length_nil]; omega))); all_goals try first | refine ⟨‹Nat› + 1,?_⟩ | refine ⟨0,?_⟩)
noncomputable def Gf:Kn:=aK (ae (kC (aX 0 0)) (ae (kC cI) ao)) tZ fun (_,k,_) n=>⟨[],[],some ((kV ({ n with d:=⟨n.d.b,n.d.synced,n.d.down,true,k⟩ }))),false⟩
theorem Sr:CK 62 Gf:=ag fun (_,k,_) n _=>by
 refine br lF [] Tryz.func62 (?_:I64 k->n.c.me=n.c.me/\n.c.many=n.c.many/\n.c.bin=n.c.bin/\aE n.c.st n.c.st (n.c.role=n.c.role/\n.c.commit=n.c.commit/\n.c.applied=n.c.applied/\bI n.c.s n.c.s (n.d.synced=n.d.synced/\n.d.down=n.d.down/\true=true/\k=k/\n.d.b=n.d.b/\n.rp=n.rp/\n.vs=n.vs/\n.bn=n.bn/\n.nx=n.nx/\n.mt=n.mt)));(repeat' with_reducible first|apply aZ|refine aY ?_|intro)
 all_goals first | exact bt | rfl
noncomputable def AB:Kn:=aK (ae (kC (aX 0 0)) (ae (kC cI) ao)) tZ fun (_,k,_) n=>⟨[n.d.OK],[],some ((kV ({ n with d:=n.d.cD k }))),false⟩
theorem Oy:CK 30 AB:=ag fun (_,k,_) n hp=>by
 have h0:=cc hp;refine br lF [] Tryz.func30 (?_:(fun q0=>I64 k->(0<=n.d.synced/\n.d.synced<=(↑n.d.b.length:Int)/\n.d.b.length<=65536)/\n.c.me=n.c.me/\n.c.many=n.c.many/\n.c.bin=n.c.bin/\aE n.c.st n.c.st (n.c.role=n.c.role/\n.c.commit=n.c.commit/\n.c.applied=n.c.applied/\bI n.c.s n.c.s (q0.synced=q0.synced/\q0.down=q0.down/\q0.doomed=q0.doomed/\q0.keep=q0.keep/\q0.b=q0.b/\n.rp=n.rp/\n.vs=n.vs/\n.bn=n.bn/\n.nx=n.nx/\n.mt=n.mt))) (n.d.cD k));obtain ⟨o1,o2,o3⟩:=id h0;(repeat' with_reducible first|apply aZ|refine aY ?_|intro)
 all_goals first | exact bt | rfl
noncomputable def Wk:bN:=(aO 30 AB (aO 62 Gf (aO 60 rA (aO 51 wv (aO 46 zd ac9)))))
theorem nF:ay Tryz.prog (al tyT) Wk:=(ah Oy (ah Sr (ah Cy (ah HV (ah Ox lF)))))
variable {n:NdC}
theorem ab1 (h:¬ (k:Int)=n.me):jZ n k++[(k:Int)]=jZ n (k+1):=by
 simp [jZ,List.range_succ,h]
theorem abM (h:(k:Int)=n.me):jZ n k=jZ n (k+1):=by
 simp [jZ,List.range_succ,h]
theorem adS (h1:k<=n.many.toNat) (h:n.many<=k):jZ n k=cJ n:=by
 unfold cJ; congr 1; omega
theorem lW:(jZ n k).length<=k:=by
 unfold jZ;refine Nat.le_trans (List.length_filter_le _ _) ?_;simp
def Mo (n:Nd):List (Nat × LI):=[(3,{ σ:=Nat,F:=fun k=>([(0,one (.ptr 0 0)),(3,one (.own 8)),(8,one (.int n.c.many)),(9,one (.int k))],(kV (n)++[.row 3 .int ((jZ n.c k))])),J:=fun k=>k<=n.c.many.toNat,μ:=fun k=>n.c.many.toNat - k })]
noncomputable def vG:Kn:=aK (ae (kC (cL .int)) ao) aw fun (l,_) _=>⟨[],[.c (.own 0)],some ([.row 3 .int ((l))]),true⟩
theorem uT:CK 75 vG:=ag fun (l,_) _ _=>by
 refine dD nF [] Tryz.func75 (?_:(fun q0=>q0->∀ (b:Bool),(b=true->l=[])->(b=true->l=[])/\(b=false->q0/\l=l)) (l.length*8<=140737488355328));exact fun h b hb=>⟨hb,fun _=>⟨h,rfl⟩⟩
theorem IU (l:List Int):Sat Tryz.prog (al tyT) 75 [.c (.fz .int (l))] [] ⟨[],[.c (.own 0)],some ([.row 3 .int ((l))]),true⟩:=uT _ _ _ rfl (by simp)
noncomputable def MA:Kn:=aK (ae (kT (.nm .letter)) ao) aw fun (x,_) _=>⟨[],[.agg (cellsOf (.nm .letter) (x))],none,false⟩
theorem Xd:CK 59 MA:=ag fun (x,_) _ _=>by
 refine av nF [] Tryz.func59 (?_:aJ x (x.l.length*32<=140737488355328->oC x x));(repeat' with_reducible first|apply aZ|refine aY ?_|intro)
 all_goals first | exact bt | rfl
noncomputable def uS:Kn:=aK (ae (kC (aX 0 0)) ao) tZ fun _ n=>⟨[n.c.many<=5],[.c (.fz .int ((cJ n.c)))],none,false⟩
theorem HQ:CK 50 uS:=ag fun _ n hp=>by
 have h0:=cc hp;refine av nF (Mo n) Tryz.func50 (?_:(fun (q0:Int)=>(fun (q1:Nat)=>∃ (s0:Nat),(q0=q0/\0=(↑s0:Int)/\qq n n (jZ n.c s0=[]))/\s0<=q1/\∀ (s:Nat),(fun (q2:Int)=>s<=q1->((↑s:Int)<q0->(¬(↑s:Int)=n.c.me->((jZ n.c s).length+[(↑s:Int)].length)*8<=140737488355328/\I64 q2/\∃ (s':Nat),(q0=q0/\q2=(↑s':Int)/\qq n n (jZ n.c s++[(↑s:Int)]=jZ n.c s'))/\s' <= q1/\q1 - s' < q1 - s)/\((↑s:Int)=n.c.me->I64 q2/\∃ (s':Nat),(q0=q0/\q2=(↑s':Int)/\qq n n (jZ n.c s=jZ n.c s'))/\s' <= q1/\q1 - s' < q1 - s))/\(q0<=(↑s:Int)->jZ n.c s=cJ n.c)) ((↑s:Int)+1)) q0.toNat) n.c.many);iterate 3 ((all_goals (repeat' with_reducible first|apply aZ|refine aY ?_|intro)); (all_goals try (first | exact bt | exact rfl | exact (ab1 ab) | exact (abM ab) | exact (adS ab ab) | (have:=lW (n:=n.c) (k:=‹Nat›); simp only [List.length_cons,List.length_nil]; omega))); all_goals try first | refine ⟨‹Nat› + 1,?_⟩ | refine ⟨0,?_⟩)
noncomputable def WM:bN:=(aO 50 uS (aO 59 MA (aO 75 vG Wk)))
theorem NY:ay Tryz.prog (al tyT) WM:=(ah HQ (ah Xd (ah uT nF)))
end Go.Proofs.YticbaadnibdbkaaGreat
namespace Go.Proofs.YticbaadnibdbkaaGreat
open Go.RowKit Go.Proofs Go.Shelf Go.Sort
def xZ (w w1:World) (l:List Int) (g:Nat) (sp:List Value):Prop:=Kp [] w w1/\w.heap.size<=g/\w1.heap[g]? = some (.cells (List.toArray (l.map (Value.int .i64)++sp)) 3 (0,0))
variable {l:List Int} {w:World}
theorem Cw {G:Gl} {ρ:List RE} {v:Value} (hG:G.shp=al tyT) (hR:Rep G ρ [] w) (h1:Rd (cx G ρ w) ρ (.fz .int l) v) (hl:l.length≠0) :
  jU Tryz.prog 75 #[v] w fun r w1=>∃ g cap sp,r = .slice (some ⟨g,0,none⟩) l.length cap/\xZ w w1 l g sp:=by
 have hρ:ρ=[]:=aa7 hR.obj.length.symm;subst hρ;refine ((IU l).2 G [] w [v] hG hR (.cons h1 .nil)).mono fun r w1 ⟨us,e,ρ',hR',hx,hblk,hus,hk⟩=>?_;have hH:getO [AO.row 3 .int l] 0 = .row 3 .int l:=rfl;cases hus with | cons a b=>?_
 cases b;rcases bA hR' hH with ⟨_,h5⟩ | ⟨g,cap,cells,sp,h5,h6,h7,h8,h9,h10⟩
 ·rw [h5] at hl; exact absurd rfl hl
 rcases a with ⟨_,_,_,_,h3,rfl⟩ | ⟨h3,_⟩;case inr=>rw [h5] at h3; cases h3
 rw [h5] at h3; cases h3;obtain ⟨rfl,hI⟩:=mD h7;refine ⟨g,cap,sp,e,(hk rfl).1,?_,h6⟩;rcases Nat.lt_or_ge g w.heap.size with h | h
 ·exact absurd ⟨0,_,h5,rfl⟩ (hx.old g h (fun ⟨i,r,h,_⟩=>by simp at h)).1
 exact h
variable {sp:List Value} {w1:World}
theorem Dg {g cap:Nat} (h:xZ w w1 l g sp) (h0:l.length<=12) :
  Calls Tryz.prog 265 #[.slice (some ⟨g,0,none⟩) l.length cap,.func (.func 266) #[] #[]] w1 fun e w2=>e = .returned (.tuple #[])/\xZ w w2 (nt l) g sp:=by
 obtain ⟨hk,hg,h6⟩:=h;refine (Oi h0 h6).mono fun e w2 ⟨he,hk2,h7⟩=>⟨he,⟨hk2.os.trans hk.os,hk2.tape.trans hk.tape,hk2.output.trans hk.output,Nat.le_trans hk.size hk2.size,fun b hb hn=>?_⟩,hg,h7⟩;exact (hk2.block b (aa9 hb hk.size) (by simp; omega)).trans (hk.block b hb hn)
theorem CL {g i:Nat} (h:xZ w w1 l g sp) (hi:i<l.length):w1.cell? ⟨g,i,none⟩=some (.int .i64 (l.getD i 0)):=by
 rw [Lib.cell_of_heap h.2.2,List.getElem?_toArray,List.getElem?_append_left (by simpa using hi),List.getElem?_map,List.getElem?_eq_getElem hi,List.getD_eq_getElem?_getD,List.getElem?_eq_getElem hi]; rfl
set_option maxHeartbeats 1000000 in
theorem Hu (l:List Int) (h0:l.length<=12):Sat Tryz.prog (al tyT) 228 [.c (.fz .int l)] [] ⟨[l.length<=12],[.c (.int (gD l))],none,false⟩:=by
 refine ⟨⟨_,Tryz.func228,by decide,by kernel_rfl⟩,fun G ρ w vs hG hR hvs=>?_⟩;cases hvs with | cons h1 hvs=>?_
 cases hvs;have hc:=Cw (l:=l) hG hR h1;replace h1:Pd (cx G ρ w) (.fz .int l) _:=h1;cases h1 with | fz k1 k2 k3 k4 k5=>?_
 rename_i a k cells;have hI:=(mD k4).2;by_cases hl:l.length=0
 ·clear hc;go_enter Tryz.func228,Tryz.ntmps228
  have hl':(l.length:Int)=0:=by omega
  go_wp2
  go_ret
  refine ⟨_,rfl,[_],rfl,?_,?_⟩
  ·exact Kp.refl w
  refine .cons ?_ .nil;have e:gD l=0:=if_pos hl;show Pd (cx G ρ w) (.int (gD l)) (.int .i64 0);rw [e]; exact .int ⟨by decide,by decide⟩
 replace hc:=hc hl;go_enter Tryz.func228,Tryz.ntmps228
 have hl':¬ (l.length:Int)=0:=by omega
 have h4:(l.length:Int).tdiv 2=((l.length / 2:Nat):Int):=by rw [aiN (by omega)]; omega
 have h5:0<=(l.length:Int).tdiv 2:=by omega
 have h6:(l.length:Int).tdiv 2<(l.length:Int):=by omega
 have h7:I64 ((l.length:Int).tdiv 2):=bT (by omega) (by omega);go_wp2_with (first | (go_at_call 75; refine aiY hc ?_; rintro e w1 ⟨_,rfl,g,cap,sp,rfl,hw1⟩) | (go_at_call 265; refine aiY (Dg hw1 h0) ?_; rintro e w2 ⟨rfl,hw2⟩; have hcl:=CL (i:=l.length / 2) hw2 (by rw [oV]; omega)))
 go_ret
 refine ⟨_,rfl,[_],rfl,hw2.1,.cons ?_ .nil⟩;have e:gD l=(nt l).getD (l.length / 2) 0:=if_neg hl;show Pd (cx G ρ w2) (.int (gD l)) (.int .i64 ((nt l).getD (l.length / 2) 0));rw [e];refine .int (hI _ ((List.mergeSort_perm l (fun a b=>decide (b<=a))).mem_iff.1 (show _ ∈ nt l from ?_)));have hlt:l.length / 2<(nt l).length:=by rw [oV]; omega
 rw [List.getD_eq_getElem?_getD,List.getElem?_eq_getElem hlt];exact aeE hlt
end Go.Proofs.YticbaadnibdbkaaGreat
namespace Go.Proofs.YticbaadnibdbkaaGreat
open Go.RowKit
theorem Qe (l:List Int) (h0:l.length<=12):Sat Tryz.prog (al tyT) 228 [.c (.fz .int (l))] [] ⟨[l.length<=12],[.c (.int ((gD l)))],none,false⟩:=Hu l h0
noncomputable def Az:Kn:=aK (ae (kC (cL .int)) ao) aw fun (l,_) _=>⟨[l.length<=12],[.c (.int ((gD l)))],none,false⟩
theorem Qa:CK 228 Az:=ag fun (l,_) _ hp=>Qe l (cc hp)
noncomputable def Wz:bN:=(aO 228 Az WM)
theorem tf:ay Tryz.prog (al tyT) Wz:=(ah Qa NY)
theorem gA {d:Dsk} {s:Stable} {l:List Record} (h:¬ (saveF d s l).2.2=0):(saveF d s l).2.1=s:=by
 revert h;unfold saveF;repeat' split
 all_goals first | (intro _; rfl) | (intro h; exact absurd rfl h)
noncomputable def vI:Kn:=aK (ae (kT (.nm .stable)) (ae (kC (cL .int)) (ae (kC cI) ao))) aw fun (s,l,k,_) _=>⟨[l.length<=12],[.c (.int ((mh s l k)))],none,false⟩
theorem I_:CK 173 vI:=ag fun (s,l,k,_) _ hp=>by
 have h0:=cc hp;refine av tf [] Tryz.func173 (?_:(fun q0=>cf s (l.length*8<=140737488355328->I64 k->l.length<=12/\(I64 (gD l)->(k<q0->I64 (cK s.log q0))->(k<q0/\cK s.log q0=s.term->q0=mh s l k)/\(q0<=k\/¬cK s.log q0=s.term->k=mh s l k)))) (min (gD l) (↑s.log.length:Int)));(repeat' with_reducible first|apply aZ|refine aY ?_|intro)
 all_goals (first | exact bt | (rw [mh,if_pos ⟨ab,ab⟩]) | (rw [mh,if_neg aL]))
noncomputable def GL:Kn:=aK (ae (kC (aX 0 0)) (ae (kC (cL (.nm .record))) ao)) tZ fun (_,l,_) n=>⟨[n.d.OK,n.c.st.log.length<=10000,l.length<=1000],[.c (.int ((n.aN l)))],some ((kV ((n.save l)))),false⟩
theorem Uk:CK 47 GL:=ag fun (_,l,_) n hp=>by
 have h0:=cc hp;have h1:=cc (eT hp);have h2:=cc (eT (eT hp));refine br tf [] Tryz.func47 (?_:(fun q0=>l.length*48<=140737488355328->((0<=n.d.synced/\n.d.synced<=(↑n.d.b.length:Int)/\n.d.b.length<=65536)/\n.c.st.log.length<=10000/\l.length<=1000)/\cf q0.snd.fst (I64 q0.snd.snd->(¬q0.snd.snd=0->q0.snd.snd=n.aN l/\bX (Nd.mk n.c q0.fst n.rp n.vs n.bn n.nx n.mt) (n.save l))/\(q0.snd.snd=0->0=n.aN l/\bX (Nd.mk (NdC.mk n.c.me n.c.many n.c.bin q0.snd.fst n.c.role n.c.commit n.c.applied n.c.s) q0.fst n.rp n.vs n.bn n.nx n.mt) (n.save l)))) (saveF n.d n.c.st l));obtain ⟨o1,o2,o3⟩:=id h0;(repeat' with_reducible first|apply aZ|refine aY ?_|intro)
 all_goals (first | exact bt | exact rfl | exact (Eq.symm ab) | exact (congrArg Stable.floor (gA ab)).symm | exact (congrArg Stable.term (gA ab)).symm | exact (congrArg Stable.vote (gA ab)).symm | exact (congrArg Stable.log (gA ab)).symm)
noncomputable def Vu:bN:=(aO 47 GL (aO 173 vI Wz))
theorem nb:ay Tryz.prog (al tyT) Vu:=(ah Uk (ah I_ tf))
structure AJ (n q:Nd):Prop where
 eq:n.apply=q.apply
 le:0<=q.c.applied/\q.c.commit<=(q.c.st.log.length:Int)/\(q.rp.length:Int)<=q.c.applied/\q.c.st.log.length<=10000
noncomputable def Nd.ap1 (q:Nd):Nd:={ q with c:={ q.c with s:=plS q.c.bin q.c.s ((q.c.st.log.drop q.c.applied.toNat).take ((q.c.applied+1).toNat - q.c.applied.toNat)),applied:=q.c.applied+1 },rp:=q.rp++plR q.c.bin q.c.s ((q.c.st.log.drop q.c.applied.toNat).take ((q.c.applied+1).toNat - q.c.applied.toNat)) }
section
variable {n q:Nd}
theorem afJ (h:(0<=n.c.applied/\n.c.commit<=(n.c.st.log.length:Int))/\(n.rp.length:Int)<=n.c.applied/\n.c.st.log.length<=10000):AJ n n:=⟨rfl,by omega⟩
theorem RT (h:AJ n q):(q.c.applied+1).toNat - q.c.applied.toNat=1:=by have:=h.le; omega
theorem KR (h:AJ n q):(plR q.c.bin q.c.s ((q.c.st.log.drop q.c.applied.toNat).take ((q.c.applied+1).toNat - q.c.applied.toNat))).length<=1:=by
 rw [RT h,plR,De,List.length_take,List.length_take]; omega
theorem afC (h:AJ n q) (h1:q.c.applied<q.c.commit) (h2:pE q.c.bin ((q.c.st.log.drop q.c.applied.toNat).take ((q.c.applied+1).toNat - q.c.applied.toNat))=0):AJ n q.ap1:=by
 have hl:=h.le;have hk:=KR h;refine ⟨?_,?_,hl.2.1,?_,hl.2.2.2⟩
 ·rw [h.eq,Nd.apply,show (q.c.commit - q.c.applied).toNat=(q.c.commit - (q.c.applied+1)).toNat+1 by omega,Nd.df,if_pos h1];rw [RT h] at h2;rw [if_pos h2,Nd.apply,Nd.ap1,RT h]
 ·show 0<=q.c.applied+1;omega
 show (((q.rp++_).length:Nat):Int)<=q.c.applied+1;rw [List.length_append]; omega
theorem af0 (h1:q.c.applied<q.c.commit):(q.c.commit - (q.c.applied+1)).toNat<(q.c.commit - q.c.applied).toNat:=by omega
theorem agN (h:AJ n q) (h1:q.c.applied<q.c.commit) (h2:¬ pE q.c.bin ((q.c.st.log.drop q.c.applied.toNat).take ((q.c.applied+1).toNat - q.c.applied.toNat))=0):n.apply=q:=by
 rw [RT h] at h2;rw [h.eq,Nd.apply,show (q.c.commit - q.c.applied).toNat=(q.c.commit - (q.c.applied+1)).toNat+1 by omega,Nd.df,if_pos h1,if_neg h2]
theorem af3 (h:AJ n q) (h1:q.c.commit<=q.c.applied):n.apply=q:=by
 rw [h.eq,Nd.apply,show (q.c.commit - q.c.applied).toNat=0 by omega,Nd.df]
theorem aeT (h:AJ n q):0<=q.c.applied:=h.le.1
theorem afH (h:AJ n q) (h1:q.c.applied<q.c.commit):q.c.applied+1<=(q.c.st.log.length:Int):=by have:=h.le; omega
theorem agX (h:AJ n q) (h1:q.c.applied<q.c.commit):I64 (q.c.applied+1):=by have:=h.le; exact bT (by omega) (by omega)
theorem ae8 (h:AJ n q) (h1:q.c.applied<q.c.commit):(q.rp.length+(plR q.c.bin q.c.s ((q.c.st.log.drop q.c.applied.toNat).take ((q.c.applied+1).toNat - q.c.applied.toNat))).length)*16<=140737488355328:=by
 have:=h.le; have:=KR h; omega
end
def lh (n:Nd):Site:=if n.d.down=true then ⟨false,0,0,0,0,0,0,0,[],⟨0,0,0,0,[],[],[]⟩⟩ else ⟨true,n.c.role,n.c.bin,n.c.st.floor,n.c.st.term,n.c.st.vote,n.c.commit,n.c.applied,n.c.st.log,n.c.s⟩
variable {n:Nd}
theorem Zr (h:n.d.down=true):lh n=⟨false,0,0,0,0,0,0,0,[],⟨0,0,0,0,[],[],[]⟩⟩:=if_pos h
theorem YQ (h:n.d.down=false):lh n=⟨true,n.c.role,n.c.bin,n.c.st.floor,n.c.st.term,n.c.st.vote,n.c.commit,n.c.applied,n.c.st.log,n.c.s⟩:=if_neg (by rw [h]; decide)
theorem kE {s:Stable} {r:Route} (h:¬ (gm s r).2=0):(gm s r).1=cC:=by
 revert h;unfold gm;repeat' split
 all_goals first | (intro _; rfl) | (intro h; exact absurd rfl h)
section
variable {n:Nd} {k t:Int}
end
def To (n:Nd):List (Nat × LI):=[(0,{ σ:=Nd,F:=fun q=>([(0,one (.ptr 0 0))],(kV (q))),J:=fun q=>AJ n q,μ:=fun q=>(q.c.commit - q.c.applied).toNat })]
noncomputable def vT:Kn:=aK (ae (kC (aX 0 0)) (ae (kC cI) ao)) tZ fun (_,k,_) n=>⟨[0<=k/\k<(n.nx.length:Int)],[.agg (cellsOf (.nm .letter) ((jh n k).1)),.c (.int (((jh n k).2)))],none,false⟩
theorem He:CK 71 vT:=ag fun (_,k,_) n hp=>by
 have h0:=cc hp;refine av nb [] Tryz.func71 (?_:(fun q2=>(fun q1=>(fun q0=>I64 k->(q2<=k/\k<(↑n.nx.length:Int))/\(I64 (n.nx.getD k.toNat (au Sh.int))->aJ q0.fst (I64 q0.snd->(¬q0.snd=q2->q2=q1.kind/\q2=q1.frm/\q2=q1.to/\q2=q1.term/\q2=q1.a/\q2=q1.b/\q2=q1.c/\q2=q1.bin/\false=q1.ok/\q1.l=[]/\q0.snd=(jh n k).snd)/\(q0.snd=q2->aJ q0.fst (ic q0.fst q1 (q2=(jh n k).snd)))))) (gm n.c.st (Route.mk n.c.me k (n.nx.getD k.toNat (au Sh.int)) n.c.commit n.c.bin))) (jh n k).fst) (0:Int));(repeat' with_reducible first|apply aZ|refine aY ?_|intro)
 all_goals (first | exact bt | exact rfl | exact (congrArg Letter.kind (kE (by assumption))).symm | exact (congrArg Letter.frm (kE (by assumption))).symm | exact (congrArg Letter.to (kE (by assumption))).symm | exact (congrArg Letter.term (kE (by assumption))).symm | exact (congrArg Letter.a (kE (by assumption))).symm | exact (congrArg Letter.b (kE (by assumption))).symm | exact (congrArg Letter.c (kE (by assumption))).symm | exact (congrArg Letter.bin (kE (by assumption))).symm | exact (congrArg Letter.ok (kE (by assumption))).symm | exact (congrArg Letter.l (kE (by assumption))).symm | exact (Eq.symm (by assumption)) | exact (congrArg Letter.l (kE (by assumption))))
noncomputable def EI:Kn:=aK (ae (kC (aX 0 0)) ao) tZ fun _ n=>⟨[],[.agg (cellsOf (.nm .site) (lh n))],none,false⟩
theorem Tz:CK 17 EI:=ag fun _ n _=>by
 refine av nb [] Tryz.func17 (?_:(fun q1=>(fun q0=>(fun q2=>(n.d.down=true->false=q0.up/\q1=q0.role/\q1=q0.binary/\q1=q0.floor/\q1=q0.term/\q1=q0.vote/\q1=q0.commit/\q1=q0.applied/\q0.log=[]/\q1=q2.version/\q1=q2.next/\q1=q2.keep/\q1=q2.quota/\q2.sess=[]/\q2.opens=[]/\q2.snaps=[])/\(n.d.down=false->n.c.st.log.length*32<=140737488355328->I64 n.c.s.version->I64 n.c.s.next->I64 n.c.s.keep->I64 n.c.s.quota->XM (Site.mk true n.c.role n.c.bin n.c.st.floor n.c.st.term n.c.st.vote n.c.commit n.c.applied n.c.st.log n.c.s) q0)) q0.state) (lh n)) (0:Int));(repeat' with_reducible first|apply aZ|refine aY ?_|intro)
 all_goals (first | exact bt | (rw [Zr (n:=n) ab] <;> rfl) | (rw [YQ (n:=n) ab] <;> rfl))
noncomputable def Ay:Kn:=aK (ae (kC (aX 0 0)) ao) tZ fun _ n=>⟨[(0<=n.c.applied/\n.c.commit<=(n.c.st.log.length:Int))/\(n.rp.length:Int)<=n.c.applied/\n.c.st.log.length<=10000],[],some ((kV ((n.apply)))),false⟩
theorem Ml:CK 99 Ay:=ag fun _ n hp=>by
 have h0:=cc hp;refine br nb (To n) Tryz.func99 (?_:(fun q0=>∃ s0,bX n s0/\AJ n s0/\∀ (s:Nd),(fun q4=>(fun q3=>(fun q2=>(fun q5=>(fun q1=>(fun q6=>AJ n s->(q2<q4.commit->I64 q5/\(0<=q2/\q2<=q5/\q5<=(↑q4.st.log.length:Int))/\(I64 q6.version->I64 q6.next->I64 q6.keep->I64 q6.quota->I64 (pE q3 q1)->(¬pE q3 q1=0->bX s n.apply)/\(pE q3 q1=0->(s.rp.length+(plR q3 q4.s q1).length)*16<=140737488355328/\I64 q5/\∃ s',bX (Nd.mk (NdC.mk q4.me q4.many q3 q4.st q4.role q4.commit q5 q6) s.d (s.rp++plR q3 q4.s q1) s.vs s.bn s.nx s.mt) s' /\ AJ n s' /\ (s'.c.commit - s'.c.applied).toNat<(q4.commit - q2).toNat)))/\(q4.commit<=q2->bX s n.apply)) (plS q3 q4.s q1)) (List.take (q5.toNat - q2.toNat) (List.drop q2.toNat q4.st.log))) (q2+q0)) q4.applied) q4.bin) s.c) (1:Int));obtain ⟨hp0,hp1⟩:=id h0;(repeat' with_reducible first|apply aZ|refine aY ?_|intro)
 all_goals try ( refine ⟨n,?_⟩; (repeat' with_reducible first|apply aZ|refine aY ?_|intro))
 all_goals try ( refine ⟨(‹Nd›).ap1,?_⟩; (repeat' with_reducible first|apply aZ|refine aY ?_|intro))
 all_goals (first | exact bt | exact rfl | exact (afJ (n:=n) h0) | exact aeT ab | exact (afH ab ab) | exact (agX ab ab) | exact (ae8 ab ab) | exact (af0 ab) | exact (afC ab ab ab) | (rw [agN ab ab ab] <;> rfl) | (rw [af3 ab ab] <;> rfl))
noncomputable def Wj:bN:=(aO 99 Ay (aO 17 EI (aO 71 vT Vu)))
theorem oq:ay Tryz.prog (al tyT) Wj:=(ah Ml (ah Tz (ah He nb)))
section
variable {n:Nd} {l:List Int} {x:Int} {k:Nat}
theorem ZX:∀ {l:List Int},(ck n l).2=0->ck n (l++[x])=if (jh n x).2=0 then ((ck n l).1++[(jh n x).1],0) else ([],(jh n x).2)
 | [],_=>by
  rw [aid];by_cases h:(jh n x).2=0
  ·rw [if_pos h]; simp [ck,h]
  rw [if_neg h]; simp [ck,h]
 | t :: l,h=>by
  unfold ck at h;split at h
  ·rename_i h1;split at h
   ·rename_i h2;rw [List.cons_append,ck,if_pos h1,ZX h2];by_cases h3:(jh n x).2=0
    ·rw [if_pos h3,if_pos h3,if_pos rfl,ck,if_pos h1,if_pos h2]; rfl
    rw [if_neg h3,if_neg h3,if_neg h3]
   rename_i h2; exact absurd h h2
  rename_i h1; exact absurd h h1
theorem adq:∀ {l m:List Int},¬ (ck n l).2=0->ck n (l++m)=([],(ck n l).2)
 | [],_,h=>absurd rfl h
 | t :: l,m,h=>by
  unfold ck at h ⊢;rw [List.cons_append];dsimp only;split at h
  ·rename_i h1;rw [if_pos h1];split at h
   ·exact absurd rfl h
   rename_i h2;rw [if_neg h2,adq h2,if_neg h2,if_pos h1]
  rename_i h1;rw [if_neg h1,if_neg h1]
theorem CI:∀ {l:List Int},(ck n l).1.length<=l.length
 | []=>Nat.le_refl _
 | t :: l=>by
  have:=CI (l:=l);unfold ck;split
  ·split <;> simp <;> omega
  simp
theorem ag3 (h:n.d.down=true):bJ n=([],30):=if_pos h
theorem aft (h:n.d.down=false) (h1:¬ n.c.role=2):bJ n=([],33):=by
 rw [bJ,if_neg (by rw [h]; decide),if_neg h1]
theorem abi (h:n.d.down=false) (h1:n.c.role=2):bJ n=ck n (cJ n.c):=by
 rw [bJ,if_neg (by rw [h]; decide),if_pos h1]
theorem ahP (h:n.d.down=false) (h1:n.c.role=2) (hk:(ck n ((cJ n.c).take k)).2=0) (hx:(cJ n.c)[k]? = some x) (he:¬ (jh n x).2=0):bJ n=([],(jh n x).2):=by
 have e:cJ n.c=(cJ n.c).take k++[x]++(cJ n.c).drop (k+1):=by
  rw [<- ai hx,List.take_append_drop]
 have e2:=ZX (x:=x) hk;rw [if_neg he] at e2;rw [abi h h1,e,adq (by rw [e2]; exact he),e2]
theorem agR (h:n.d.down=false) (h1:n.c.role=2) (hk:(ck n ((cJ n.c).take k)).2=0) (hl:((cJ n.c).length:Int)<=k):bJ n=((ck n ((cJ n.c).take k)).1,0):=by
 rw [abi h h1,List.take_of_length_le (by omega)] at *;exact Prod.ext rfl hk
theorem acK (hk:(ck n ((cJ n.c).take k)).2=0) (hx:(cJ n.c)[k]? = some x) (he:(jh n x).2=0):(ck n ((cJ n.c).take k)).1++[(jh n x).1]=(ck n ((cJ n.c).take (k+1))).1/\(ck n ((cJ n.c).take (k+1))).2=0:=by
 rw [ai hx,ZX hk,if_pos he]; exact ⟨rfl,rfl⟩
theorem ahB {y:Letter} (hm:n.c.many<=5):((ck n ((cJ n.c).take k)).1.length+[y].length)*96<=140737488355328:=by
 have h1:=CI (n:=n) (l:=(cJ n.c).take k);have h2:(cJ n.c).length<=n.c.many.toNat:=lW;rw [List.length_take] at h1;simp only [List.length_cons,List.length_nil]; omega
theorem UQ {n:NdC} (hx:(cJ n)[k]? = some x):x≠n.me/\0<=x/\x<n.many:=xL (aiL.2 ⟨k,hx⟩)
theorem afI (h:n.c.role=0\/(n.nx.length:Int)=n.c.many) (h1:n.c.role=2) (hx:(cJ n.c)[k]? = some x):x<(n.nx.length:Int):=by
 have:=UQ hx; omega
end
section
variable {n:Nd} {c:Command}
theorem mf {b:Bool} (h:b=false):¬ b=true:=by rw [h]; decide
theorem afO (h:n.d.down=true):cY n c=⟨n,0,0,30⟩:=if_pos h
theorem ahV (h:n.d.down=false) (h1:¬ n.c.role=2):cY n c=⟨n,0,0,33⟩:=by rw [cY,if_neg (mf h),if_pos h1]
theorem afM (h:n.d.down=false) (h1:n.c.role=2) (h2:¬ bF c n.c.s.version=0):cY n c=⟨n,0,0,bF c n.c.s.version⟩:=by rw [cY,if_neg (mf h),if_neg (by omega),if_pos h2]
variable (h:n.d.down=false) (h1:n.c.role=2) (h2:bF c n.c.s.version=0)
include h h1 h2
theorem aif (h3:c.kind=8) (h4:¬ c.n=n.c.s.version+1):cY n c=⟨n,0,0,1⟩:=by rw [cY,if_neg (mf h),if_neg (by omega),if_neg (by omega),if_pos ⟨h3,h4⟩]
theorem ahN (h3:¬ c.kind=8\/c.n=n.c.s.version+1) (h4:c.kind=8) (h5:kB n.c.s.version n.bn=false):cY n c=⟨n,0,0,34⟩:=by rw [cY,if_neg (mf h),if_neg (by omega),if_neg (by omega),if_neg (by omega),if_pos ⟨h4,h5⟩]
variable (h3:¬ c.kind=8\/c.n=n.c.s.version+1) (h4:¬ c.kind=8\/kB n.c.s.version n.bn=true)
include h3 h4
theorem SE:cY n c=if 64<(n.c.st.log.length:Int)+1 then ⟨n,0,0,20⟩ else if ¬ (ei c n.c.st.term n.c.s.version).2=0 then ⟨n,0,0,(ei c n.c.st.term n.c.s.version).2⟩
 else let l:=[⟨3,(n.c.st.log.length:Int)+1,(ei c n.c.st.term n.c.s.version).1.term,(ei c n.c.st.term n.c.s.version).1.b⟩]
  if n.aN l=0 then ⟨n.save l,(n.c.st.log.length:Int)+1,n.c.st.term,0⟩ else ⟨n.save l,0,0,n.aN l⟩:=by
 rw [cY,if_neg (mf h),if_neg (by omega),if_neg (by omega),if_neg (by omega),if_neg];rintro ⟨k1,k2⟩;rcases h4 with k3 | k3
 ·exact k3 k1
 rw [k3] at k2; cases k2
theorem ahc (h5:64<(n.c.st.log.length:Int)+1):cY n c=⟨n,0,0,20⟩:=by rw [SE h h1 h2 h3 h4,if_pos h5]
variable (h5:(n.c.st.log.length:Int)+1<=64)
include h5
theorem afQ (h6:¬ (ei c n.c.st.term n.c.s.version).2=0):cY n c=⟨n,0,0,(ei c n.c.st.term n.c.s.version).2⟩:=by rw [SE h h1 h2 h3 h4,if_neg (by omega),if_pos h6]
theorem ag4 (h6:(ei c n.c.st.term n.c.s.version).2=0) (h7:¬ n.aN [⟨3,(n.c.st.log.length:Int)+1,(ei c n.c.st.term n.c.s.version).1.term,(ei c n.c.st.term n.c.s.version).1.b⟩]=0):cY n c=⟨n.save [⟨3,(n.c.st.log.length:Int)+1,(ei c n.c.st.term n.c.s.version).1.term,(ei c n.c.st.term n.c.s.version).1.b⟩],0,0,n.aN [⟨3,(n.c.st.log.length:Int)+1,(ei c n.c.st.term n.c.s.version).1.term,(ei c n.c.st.term n.c.s.version).1.b⟩]⟩:=by rw [SE h h1 h2 h3 h4,if_neg (by omega),if_neg (by omega)]; exact if_neg h7
theorem ahj (h6:(ei c n.c.st.term n.c.s.version).2=0) (h7:n.aN [⟨3,(n.c.st.log.length:Int)+1,(ei c n.c.st.term n.c.s.version).1.term,(ei c n.c.st.term n.c.s.version).1.b⟩]=0):cY n c=⟨n.save [⟨3,(n.c.st.log.length:Int)+1,(ei c n.c.st.term n.c.s.version).1.term,(ei c n.c.st.term n.c.s.version).1.b⟩],(n.c.st.log.length:Int)+1,n.c.st.term,0⟩:=by rw [SE h h1 h2 h3 h4,if_neg (by omega),if_neg (by omega)]; exact if_pos h7
end
section
variable {n:Nd} {x:Letter}
theorem ae9 (h:¬ (aH n.c.st x).2.2=0):cF n x=⟨n,[],(aH n.c.st x).2.2⟩:=if_pos h
theorem ahW (h:(aH n.c.st x).2.2=0) (h1:¬ n.aN (aH n.c.st x).1=0):cF n x=⟨n.save (aH n.c.st x).1,[],n.aN (aH n.c.st x).1⟩:=by rw [cF,if_neg (by omega),if_pos h1]
theorem agv (h:(aH n.c.st x).2.2=0) (h1:n.aN (aH n.c.st x).1=0):cF n x=⟨n.save (aH n.c.st x).1,[{ qD (n.save (aH n.c.st x).1).c 2 x.frm with ok:=(aH n.c.st x).2.1 }],0⟩:=by rw [cF,if_neg (by omega),if_neg (by omega)]
theorem SO {s:Stable}:(aH s x).1.length<=1000:=by
 have h:=gb (s:=s) (t:=x.term);unfold aH;repeat' split
 all_goals first | (simp; done) | (dsimp only; omega)
end
def ZI (n:Nd):List (Nat × LI):=[(7,{ σ:=Nat,F:=fun k=>([(0,one (.ptr 0 0)),(4,one (.own 8)),(21,one (.fz .int (cJ n.c))),(22,one (.int (cJ n.c).length)),(23,one (.int k))],(kV (n)++[.row 40 (.nm .letter) (((ck n ((cJ n.c).take k)).1))])),J:=fun k=>k<=(cJ n.c).length/\(ck n ((cJ n.c).take k)).2=0,μ:=fun k=>(cJ n.c).length - k })]
noncomputable def Ev:Kn:=aK (ae (kC (aX 0 0)) ao) tZ fun _ n=>⟨[n.c.many<=5,n.c.role=0\/(n.nx.length:Int)=n.c.many],[.c (.fz (.nm .letter) (((bJ n).1))),.c (.int (((bJ n).2)))],none,false⟩
theorem Td:CK 31 Ev:=ag fun _ n hp=>by
 have h0:=cc hp;have h1:=cc (eT hp);refine av oq (ZI n) Tryz.func31 (?_:(fun (q2:Prop)=>(fun (q1:Int)=>(fun (q0:List Int)=>(fun (q3:Nat)=>(n.d.down=true->q2/\30=(bJ n).snd)/\(n.d.down=false->(¬n.c.role=2->q2/\33=(bJ n).snd)/\(n.c.role=2->n.c.many<=5/\(q0.length*8<=140737488355328->∃ (s0:Nat),(q0=q0/\(↑q0.length:Int)=(↑q3:Int)/\q1=(↑s0:Int)/\qq n n ((ck n (List.take s0 q0)).fst=[]))/\(s0<=q3/\(ck n (List.take s0 q0)).snd=q1)/\∀ (s:Nat),(fun (q4:List Letter)=>s<=q3/\(ck n (List.take s q0)).snd=q1->((↑s:Int)<(↑q3:Int)->q1<=(↑s:Int)/\(↑s:Int)<(↑q0.length:Int)/\∀ (x:Int),(fun (q5:Int)=>q0[s]? = some x->I64 x->(q1<=x/\x<(↑n.nx.length:Int))/\aJ (jh n x).fst (I64 q5->(¬q5=q1->q2/\q5=(bJ n).snd)/\(q5=q1->(q4.length+[(jh n x).fst].length)*96<=140737488355328/\I64 ((↑s:Int)+1)/\∃ (s':Nat),(q0=q0/\(↑q3:Int)=(↑q3:Int)/\(↑s:Int)+1=(↑s':Int)/\qq n n (q4++[(jh n x).fst]=(ck n (List.take s' q0)).fst))/\(s' <= q3/\(ck n (List.take s' q0)).snd=q1)/\q3 - s' < q3 - s))) (jh n x).snd)/\((↑q3:Int)<=(↑s:Int)->q4=(bJ n).fst/\q1=(bJ n).snd)) (ck n (List.take s q0)).fst)))) q0.length) (cJ n.c)) 0) ((bJ n).fst=[]));iterate 3 ((all_goals (repeat' with_reducible first|apply aZ|refine aY ?_|intro)); (all_goals try (first | exact bt | exact rfl | exact (acK ab ab ab).1 | exact (acK ab ab ab).2 | exact (ahB h0) | exact (UQ ab).2.1 | exact (afI h1 ab ab) | (rw [ag3 (n:=n) ab] <;> rfl) | (rw [aft (n:=n) ab ab] <;> rfl) | (rw [ahP (n:=n) ab ab ab ab ab] <;> rfl) | (rw [agR (n:=n) ab ab ab ab] <;> rfl))); all_goals try first | refine ⟨‹Nat› + 1,?_⟩ | refine ⟨0,?_⟩)
noncomputable def Fz:Kn:=aK (ae (kC (aX 0 0)) (ae (kT (.nm .command)) ao)) tZ fun (_,c,_) n=>⟨[NdOK n],[.c (.int (((cY n c).a))),.c (.int (((cY n c).b))),.c (.int (((cY n c).e)))],some ((kV ((cY n c).n))),false⟩
theorem Qm:CK 15 Fz:=ag fun (_,c,_) n hp=>by
 have h0:=cc hp;refine br oq [] Tryz.func15 (?_:(fun q6=>(fun q5=>(fun q7=>(fun q4=>(fun q3=>(fun q2=>(fun q1=>(fun q10=>(fun q9=>(fun q8=>(fun q0=>bB c ((n.d.down=true->q8/\q9/\30=q1.e/\q10)/\(n.d.down=false->(¬n.c.role=2->q8/\q9/\33=q1.e/\q10)/\(n.c.role=2->I64 (bF c q5)->(¬bF c q5=q3->q8/\q9/\bF c q5=q1.e/\q10)/\(bF c q5=q3->(q6->I64 q7)/\(q6/\¬c.n=q7->q8/\q9/\1=q1.e/\q10)/\(¬q6\/c.n=q7->(q6/\kB q5 n.bn=false->q8/\q9/\34=q1.e/\q10)/\(¬q6\/kB q5 n.bn=true->I64 q4/\(64<q4->q8/\q9/\20=q1.e/\q10)/\(q4<=64->I64 q2.fst.term->q2.fst.b.length*1<=140737488355328->I64 q2.snd->(¬q2.snd=q3->q8/\q9/\q2.snd=q1.e/\q10)/\(q2.snd=q3->(q3<=n.d.synced/\n.d.synced<=(↑n.d.b.length:Int)/\n.d.b.length<=65536)/\n.c.st.log.length<=10000/\q0.length<=1000/\(I64 (n.aN q0)->(¬n.aN q0=q3->q8/\q9/\n.aN q0=q1.e/\bX (n.save q0) q1.n)/\(n.aN q0=q3->q4=q1.a/\n.c.st.term=q1.b/\q3=q1.e/\bX (n.save q0) q1.n))))))))))) [Record.mk 3 q4 q2.fst.term q2.fst.b]) (q3=q1.a)) (q3=q1.b)) (bX n q1.n)) (cY n c)) (ei c n.c.st.term q5)) (0:Int)) ((↑n.c.st.log.length:Int)+1)) (q5+1)) n.c.s.version) (c.kind=8));obtain ⟨o1,o2,o3⟩:=id h0.d;have o4:=h0.log;(repeat' with_reducible first|apply aZ|refine aY ?_|intro)
 all_goals (first | exact bt | (simp only [List.length_cons,List.length_nil]; omega) | (have q2:=(Tp (by with_reducible assumption:bF c n.c.s.version=0)).1; exact bT aL aL) | (rw [afO (n:=n) ab] <;> rfl) | (rw [ahV (n:=n) ab ab] <;> rfl) | (rw [afM (n:=n) ab ab ab] <;> rfl) | (rw [aif (n:=n) ab ab ab ab ab] <;> rfl) | (rw [ahN (n:=n) ab ab ab ab ab ab] <;> rfl) | (rw [ahc (n:=n) ab ab ab ab ab ab] <;> rfl) | (rw [afQ (n:=n) ab ab ab ab ab ab ab] <;> rfl) | (rw [ag4 (n:=n) ab ab ab ab ab ab ab ab] <;> rfl) | (rw [ahj (n:=n) ab ab ab ab ab ab ab ab] <;> rfl))
noncomputable def AT:Kn:=aK (ae (kC (aX 0 0)) (ae (kT (.nm .letter)) ao)) tZ fun (_,x,_) n=>⟨[NdOK n],[.c (.fz (.nm .letter) (((cF n x).l))),.c (.int (((cF n x).e)))],some ((kV ((cF n x).n))),false⟩
theorem Qb:CK 56 AT:=ag fun (_,x,_) n hp=>by
 have h0:=cc hp;refine br oq [] Tryz.func56 (?_:(fun q3=>(fun q2=>(fun q1=>(fun q4=>(fun q0=>aJ x (q1.fst.length*48<=140737488355328->I64 q1.snd.snd->(¬q1.snd.snd=q3->q2.l=[]/\q1.snd.snd=q2.e/\bX n q2.n)/\(q1.snd.snd=q3->(q3<=n.d.synced/\n.d.synced<=(↑n.d.b.length:Int)/\n.d.b.length<=65536)/\n.c.st.log.length<=10000/\q1.fst.length<=1000/\(I64 q4->(¬q4=q3->q2.l=[]/\q4=q2.e/\bX (n.save q1.fst) q2.n)/\(q4=q3->aJ q0 ([Letter.mk q0.kind q0.frm q0.to q0.term q0.a q0.b q0.c q0.bin q1.snd.fst q0.l]=q2.l/\q3=q2.e/\bX (n.save q1.fst) q2.n)))))) (qD (n.save q1.fst).c 2 x.frm)) (n.aN q1.fst)) (aH n.c.st x)) (cF n x)) (0:Int));obtain ⟨o1,o2,o3⟩:=id h0.d;have o4:=h0.log;(repeat' with_reducible first|apply aZ|refine aY ?_|intro)
 all_goals (first | exact bt | exact SO | (rw [ae9 (n:=n) ab] <;> rfl) | (rw [ahW (n:=n) ab ab] <;> rfl) | (rw [agv (n:=n) ab ab] <;> rfl))
noncomputable def UW:bN:=(aO 56 AT (aO 15 Fz (aO 31 Ev Wj)))
theorem sd:ay Tryz.prog (al tyT) UW:=(ah Qb (ah Qm (ah Td oq)))
section
variable {n:Nd} {k:Nat} {y:Int}
theorem HU {s:Stable} {m:Int}:(aT s m).1.length<=1000:=by
 unfold aT;repeat' split
 all_goals simp
theorem ago (h:n.d.down=true):bj n=⟨n,[],30⟩:=if_pos h
variable (h:n.d.down=false)
include h
theorem agk (h1:n.c.role=2):bj n=⟨n,[],0⟩:=by rw [bj,if_neg (mf h),if_pos h1]
variable (h1:¬ n.c.role=2)
include h1
theorem afZ (h2:¬ (aT n.c.st n.c.me).2=0):bj n=⟨n,[],(aT n.c.st n.c.me).2⟩:=by rw [bj,if_neg (mf h),if_neg h1,if_pos h2]
variable (h2:(aT n.c.st n.c.me).2=0)
include h2
theorem ae_ (h3:¬ n.aN (aT n.c.st n.c.me).1=0):bj n=⟨n.save (aT n.c.st n.c.me).1,[],n.aN (aT n.c.st n.c.me).1⟩:=by rw [bj,if_neg (mf h),if_neg h1,if_neg (by omega),if_pos h3]
variable (h3:n.aN (aT n.c.st n.c.me).1=0)
include h3
theorem adb:bj n=⟨(n.save (aT n.c.st n.c.me).1).ej,fp (n.save (aT n.c.st n.c.me).1).ej.c,0⟩:=by rw [bj,if_neg (mf h),if_neg h1,if_neg (by omega),if_neg (by omega)]
theorem afG (hl:((cJ (n.save (aT n.c.st n.c.me).1).ej.c).length:Int)<=k):(fp (n.save (aT n.c.st n.c.me).1).ej.c).take k=(bj n).l:=by
 rw [adb h h1 h2 h3];exact List.take_of_length_le (by unfold fp; rw [List.length_map]; omega)
end
section
variable {c:NdC} {k:Nat} {y:Int} {z:Letter}
theorem agj (hm:c.many<=5):(((fp c).take k).length+[z].length)*96<=140737488355328:=by
 have h2:(cJ c).length<=c.many.toNat:=lW;rw [List.length_take,fp,List.length_map];simp only [List.length_cons,List.length_nil]; omega
theorem aij (hk:(k:Int)<((cJ c).length:Nat)) (hm:c.many<=5):I64 ((k:Int)+1):=by
 have h2:(cJ c).length<=c.many.toNat:=lW;exact bT aL aL
theorem aih (hx:(cJ c)[k]? = some y):(fp c).take k++[Letter.mk (qD c 1 y).kind (qD c 1 y).frm (qD c 1 y).to (qD c 1 y).term c.st.log.length (ig c.st.log) (qD c 1 y).c (qD c 1 y).bin (qD c 1 y).ok (qD c 1 y).l]=(fp c).take (k+1):=by
 have:(fp c)[k]? = some { qD c 1 y with a:=c.st.log.length,b:=ig c.st.log }:=by
  unfold fp; rw [List.getElem?_map,hx]; rfl
 rw [ai this]
end
section
variable {n:Nd} {x:Letter}
theorem ah8 (h:¬ (aB n.c.st x).2.2.2=0):bO n x=⟨n,[],(aB n.c.st x).2.2.2⟩:=if_pos h
variable (h:(aB n.c.st x).2.2.2=0)
include h
theorem aiu (h1:¬ n.aN (aB n.c.st x).1=0):bO n x=⟨n.save (aB n.c.st x).1,[],n.aN (aB n.c.st x).1⟩:=by rw [bO,if_neg (by omega),if_pos h1]
variable (h1:n.aN (aB n.c.st x).1=0)
include h1
theorem ah9 (h2:x.term=(n.save (aB n.c.st x).1).c.st.term) (h3:(aB n.c.st x).2.1=true):bO n x=⟨({ (n.save (aB n.c.st x).1) with c:={ (n.save (aB n.c.st x).1).c with role:=0,commit:=max (n.save (aB n.c.st x).1).c.commit (min x.c (aB n.c.st x).2.2.1) } }:Nd).apply,[{ qD { (n.save (aB n.c.st x).1).c with role:=0 } 4 x.frm with ok:=(aB n.c.st x).2.1,a:=(aB n.c.st x).2.2.1 }],0⟩:=by
 rw [bO,if_neg (by omega),if_neg (by omega),h3];dsimp only;rw [if_pos h2]; rfl
theorem aii (h2:¬ x.term=(n.save (aB n.c.st x).1).c.st.term) (h3:(aB n.c.st x).2.1=true):bO n x=⟨({ (n.save (aB n.c.st x).1) with c:={ (n.save (aB n.c.st x).1).c with commit:=max (n.save (aB n.c.st x).1).c.commit (min x.c (aB n.c.st x).2.2.1) } }:Nd).apply,[{ qD (n.save (aB n.c.st x).1).c 4 x.frm with ok:=(aB n.c.st x).2.1,a:=(aB n.c.st x).2.2.1 }],0⟩:=by
 rw [bO,if_neg (by omega),if_neg (by omega),h3];dsimp only;rw [if_neg h2]; rfl
theorem aeW (h2:x.term=(n.save (aB n.c.st x).1).c.st.term) (h3:(aB n.c.st x).2.1=false):bO n x=⟨(n.save (aB n.c.st x).1).follow,[{ qD { (n.save (aB n.c.st x).1).c with role:=0 } 4 x.frm with ok:=(aB n.c.st x).2.1,a:=min 64 ((n.save (aB n.c.st x).1).c.st.log.length:Int) }],0⟩:=by
 rw [bO,if_neg (by omega),if_neg (by omega),h3];dsimp only;rw [if_pos h2,if_neg (by decide)];split
 ·rfl
 rename_i q; exact absurd h2 q
theorem ail (h2:¬ x.term=(n.save (aB n.c.st x).1).c.st.term) (h3:(aB n.c.st x).2.1=false):bO n x=⟨n.save (aB n.c.st x).1,[{ qD (n.save (aB n.c.st x).1).c 4 x.frm with ok:=(aB n.c.st x).2.1 }],0⟩:=by
 rw [bO,if_neg (by omega),if_neg (by omega),h3];dsimp only;rw [if_neg h2,if_neg (by decide)];split
 ·rename_i q; exact absurd q h2
 rfl
end
theorem Hx {s:Stable} {x:Letter}:(aB s x).1.length<=1000:=by
 by_cases h:(aB s x).2.2.2=0
 ·obtain ⟨⟨hm,_⟩,hc⟩:=fZ h;rcases hc with ⟨_,e⟩ | ⟨_,_,e⟩ | ⟨_,_,e⟩ <;> rw [e]
  ·simp
  ·have:=vV (s:=s) hm; dsimp only; omega
  have:=gb (s:=s) (t:=x.term); dsimp only; omega
 have e:aB s x=([],false,0,1):=by
  unfold aB at h ⊢;split at h
  ·rename_i h1; rw [if_pos h1]
  repeat' split at h
  all_goals exact absurd rfl h
 rw [e]; simp
def Ij (n:Nd):List (Nat × LI):=[(17,{ σ:=Nat,F:=fun k=>([(0,one (.ptr 0 0)),(7,one (.int (n.save (aT n.c.st n.c.me).1).c.st.log.length)),(8,one (.int (ig (n.save (aT n.c.st n.c.me).1).c.st.log))),(9,one (.own 12)),(113,one (.fz .int (cJ (n.save (aT n.c.st n.c.me).1).ej.c))),(114,one (.int (cJ (n.save (aT n.c.st n.c.me).1).ej.c).length)),(115,one (.int k))],[.box 103 (Xx 0 (((n.save (aT n.c.st n.c.me).1).ej.c))++[.own 3,.own 8,.own 9,.own 10,.own 11]),.box 147 ([.own 2,.int (((n.save (aT n.c.st n.c.me).1).ej.d.synced)),.bool (.atom (((n.save (aT n.c.st n.c.me).1).ej.d.down))),.bool (.atom (((n.save (aT n.c.st n.c.me).1).ej.d.doomed))),.int (((n.save (aT n.c.st n.c.me).1).ej.d.keep))]),.row 5 .u8 (((n.save (aT n.c.st n.c.me).1).ej.d.b)),.row 78 (.nm .reply) ((n.rp)),.row 4 .bool ((n.vs)),.row 3 .int ((n.bn)),.row 3 .int ((n.nx)),.row 3 .int ((n.mt)),.row 4 .bool (((n.save (aT n.c.st n.c.me).1).ej.vs)),.row 3 .int (((n.save (aT n.c.st n.c.me).1).ej.bn)),.row 3 .int (((n.save (aT n.c.st n.c.me).1).ej.nx)),.row 3 .int (((n.save (aT n.c.st n.c.me).1).ej.mt)),.row 40 (.nm .letter) (((fp (n.save (aT n.c.st n.c.me).1).ej.c).take k))]),J:=fun k=>k<=(cJ (n.save (aT n.c.st n.c.me).1).ej.c).length,μ:=fun k=>(cJ (n.save (aT n.c.st n.c.me).1).ej.c).length - k })]
noncomputable def rk:Kn:=aK (ae (kC (aX 0 0)) ao) tZ fun _ n=>⟨[NdOK n],[.c (.fz (.nm .letter) (((bj n).l))),.c (.int (((bj n).e)))],some ((kV ((bj n).n))),false⟩
theorem CP:CK 14 rk:=ag fun _ n hp=>by
 have h0:=cc hp;refine br sd (Ij n) Tryz.func14 (?_:(fun (q4:Int)=>(fun (q3:NdR)=>(fun (q2:Int)=>(fun (q1:List Record × Int)=>(fun (q5:Int)=>(fun (q0:Nd)=>(fun (q9:NdC)=>(fun (q10:Int)=>(fun (q8:List Entry)=>(fun (q12:Int)=>(fun (q11:Int)=>(fun (q7:Int)=>(fun (q15:List (den Sh.int))=>(fun (q14:List Int)=>(fun (q13:Prop)=>(fun (q6:Nd)=>(fun (q17:Dsk)=>(fun (q16:NdC)=>(fun (q18:Nat)=>(n.d.down=true->q3.l=[]/\(30:Int)=q3.e/\bX n q3.n)/\(n.d.down=false->(n.c.role=(2:Int)->q3.l=[]/\q4=q3.e/\bX n q3.n)/\(¬n.c.role=(2:Int)->n.c.st.term<=(1048576:Int)/\(q1.fst.length*(48:Nat)<=(140737488355328:Nat)->I64 q1.snd->(¬q1.snd=q4->q3.l=[]/\q1.snd=q3.e/\bX n q3.n)/\(q1.snd=q4->(q4<=n.d.synced/\n.d.synced<=(↑n.d.b.length:Int)/\n.d.b.length<=(65536:Nat))/\n.c.st.log.length<=(10000:Nat)/\q1.fst.length<=(1000:Nat)/\(I64 q5->(¬q5=q4->q3.l=[]/\q5=q3.e/\bX q0 q3.n)/\(q5=q4->(q4<=q7/\q7*(↑(1:Nat):Int)<=(140737488355328:Int)/\q7=q7)/\q13/\q13/\q13/\q4<=q10/\q10<(↑(List.replicate q7.toNat (au Sh.bool)).length:Int)/\q4<=q10/\q10<(↑q15.length:Int)/\(I64 (q15.getD q10.toNat (au Sh.int))->I64 (↑q8.length:Int)->I64 q12->q7<=(5:Int)/\(q14.length*(8:Nat)<=(140737488355328:Nat)->∃ (s0:Nat),((↑q8.length:Int)=q11/\q12=q12/\q14=cJ q16/\(↑q14.length:Int)=(↑q18:Int)/\q4=(↑s0:Int)/\q10=q16.me/\q7=q16.many/\q9.bin=q16.bin/\aE q9.st q16.st (q2=q16.role/\q9.commit=q16.commit/\q9.applied=q16.applied/\bI q9.s q16.s (q0.d.synced=q17.synced/\q0.d.down=q17.down/\q0.d.doomed=q17.doomed/\q0.d.keep=q17.keep/\q0.d.b=q17.b/\q0.rp=n.rp/\q0.vs=n.vs/\q0.bn=n.bn/\q0.nx=n.nx/\q0.mt=n.mt/\(List.replicate q7.toNat (au Sh.bool)).set q10.toNat true=q6.vs/\q15.set q10.toNat q9.bin=q6.bn/\q15=q6.nx/\q15=q6.mt/\List.take s0 (fp q16)=[])))/\s0<=q18/\∀ (s:Nat),s<=q18->((↑s:Int)<(↑q18:Int)->q4<=(↑s:Int)/\(↑s:Int)<(↑(cJ q16).length:Int)/\∀ (x:Int),(fun (q19:Letter)=>(fun (q20:Letter)=>(cJ q16)[s]? = some x->I64 x->aJ q19 (((List.take s (fp q16)).length+[q20].length)*(96:Nat)<=(140737488355328:Nat)/\I64 ((↑s:Int)+q2)/\∃ (s':Nat),(q11=q11/\q12=q12/\cJ q16=cJ q16/\(↑q18:Int)=(↑q18:Int)/\(↑s:Int)+q2=(↑s':Int)/\q16.me=q16.me/\q16.many=q16.many/\q16.bin=q16.bin/\aE q16.st q16.st (q16.role=q16.role/\q16.commit=q16.commit/\q16.applied=q16.applied/\bI q16.s q16.s (q17.synced=q17.synced/\q17.down=q17.down/\q17.doomed=q17.doomed/\q17.keep=q17.keep/\q17.b=q17.b/\n.rp=n.rp/\n.vs=n.vs/\n.bn=n.bn/\n.nx=n.nx/\n.mt=n.mt/\q6.vs=q6.vs/\q6.bn=q6.bn/\q6.nx=q6.nx/\q6.mt=q6.mt/\List.take s (fp q16)++[q20]=List.take s' (fp q16))))/\s' <= q18/\q18 - s' < q18 - s)) (Letter.mk q19.kind q19.frm q19.to q19.term q11 q12 q19.c q19.bin q19.ok q19.l)) (qD q16 q2 x))/\((↑q18:Int)<=(↑s:Int)->List.take s (fp q16)=q3.l/\q4=q3.e/\bX (Nd.mk q16 q17 n.rp q6.vs q6.bn q6.nx q6.mt) q3.n)))))))))) (cJ q16).length) q6.c) q6.d) q0.ej) (q4<=q7/\q7*(↑(8:Nat):Int)<=(140737488355328:Int)/\q7=q7)) (cJ (NdC.mk q10 q7 q9.bin q9.st q2 q9.commit q9.applied q9.s))) (List.replicate q7.toNat (au Sh.int))) q9.many) (↑q8.length:Int)) (ig q8)) q9.st.log) q9.me) q0.c) (n.save q1.fst)) (n.aN q1.fst)) (aT n.c.st n.c.me)) (1:Int)) (bj n)) (0:Int))
 obtain ⟨o1,o2,o3⟩:=id h0.d;have o4:=h0.log;have o5:=h0.many;have o6:=h0.me;have o7:=h0.com;have o8:=h0.term;have o9:=h0.rp;iterate 3 ((all_goals (repeat' with_reducible first|apply aZ|refine aY ?_|intro)); (all_goals try (first | exact bt | exact rfl | exact HU | exact (afG ab ab ab ab ab) | exact (aih ab) | exact (agj o5.2) | exact (aij (c:=(n.save (aT n.c.st n.c.me).1).ej.c) ab o5.2) | (dsimp only [Nd.save]; omega) | (rw [aeA]; dsimp only [Nd.save]; omega) | (rw [ago (n:=n) ab] <;> rfl) | (rw [agk (n:=n) ab ab] <;> rfl) | (rw [afZ (n:=n) ab ab ab] <;> rfl) | (rw [ae_ (n:=n) ab ab ab ab] <;> rfl) | (rw [adb (n:=n) ab ab ab ab] <;> rfl))); all_goals try first | refine ⟨‹Nat› + 1,?_⟩ | refine ⟨0,?_⟩)
noncomputable def vC:Kn:=aK (ae (kC (aX 0 0)) (ae (kT (.nm .letter)) ao)) tZ fun (_,x,_) n=>⟨[NdOK n,db n.c x=true,x.kind=3],[.c (.fz (.nm .letter) (((bO n x).l))),.c (.int (((bO n x).e)))],some ((kV ((bO n x).n))),false⟩
theorem Jc:CK 57 vC:=ag fun (_,x,_) n hp=>by
 have h0:=cc hp;have h1:=cc (eT hp);have h2:=cc (eT (eT hp));refine br sd [] Tryz.func57 (?_:(fun q6=>(fun q5=>(fun q4=>(fun q3=>(fun q7=>(fun q2=>(fun q9=>(fun q8=>(fun q1=>(fun q0=>(fun q15=>(fun q18=>(fun q17=>(fun q16=>(fun q14=>(fun q13=>(fun q12=>(fun q19=>(fun q11=>(fun q10=>aJ x (q6.length*48<=140737488355328->I64 q2.snd.fst->I64 q2.snd.snd->(¬q2.snd.snd=q3->q4.l=[]/\q2.snd.snd=q4.e/\bX n q4.n)/\(q2.snd.snd=q3->(q3<=n.d.synced/\n.d.synced<=(↑n.d.b.length:Int)/\n.d.b.length<=65536)/\n.c.st.log.length<=10000/\q6.length<=1000/\(I64 (n.aN q6)->(¬n.aN q6=q3->q4.l=[]/\n.aN q6=q4.e/\bX q0 q4.n)/\(n.aN q6=q3->(q14->aJ q10 ((q9=true->q13/\[Letter.mk q10.kind q10.frm q10.to q10.term q2.snd.fst q10.b q10.c q10.bin q9 q10.l]=q4.l/\q7/\bX (Nd.mk (NdC.mk q15.me q15.many q15.bin q15.st q3 q18 q17 q15.s) q0.d q0.rp q0.vs q0.bn q0.nx q0.mt).apply q4.n)/\(q9=false->(q14->[Letter.mk q10.kind q10.frm q10.to q10.term q16 q10.b q10.c q10.bin q9 q10.l]=q4.l/\q19)/\(¬q14->[Letter.mk q10.kind q10.frm q10.to q10.term q10.a q10.b q10.c q10.bin q9 q10.l]=q4.l/\q19))))/\(¬q14->aJ q11 ((q9=true->q13/\[Letter.mk q11.kind q11.frm q11.to q11.term q2.snd.fst q11.b q11.c q11.bin q9 q11.l]=q4.l/\q7/\bX (Nd.mk (NdC.mk q15.me q15.many q15.bin q15.st q15.role q18 q17 q15.s) q0.d q0.rp q0.vs q0.bn q0.nx q0.mt).apply q4.n)/\(q9=false->(q14->[Letter.mk q11.kind q11.frm q11.to q11.term q16 q11.b q11.c q11.bin q9 q11.l]=q4.l/\q7/\bX q0 q4.n)/\(¬q14->[Letter.mk q11.kind q11.frm q11.to q11.term q11.a q11.b q11.c q11.bin q9 q11.l]=q4.l/\q7/\bX q0 q4.n))))))))) (qD q12 q1 q5)) (qD q15 q1 q5)) (q7/\bX (Nd.mk q12 q0.d q0.rp q0.vs q0.bn q0.nx q0.mt) q4.n)) (NdC.mk q15.me q15.many q15.bin q15.st q3 q15.commit q17 q15.s)) ((q3<=q17/\q18<=(↑q15.st.log.length:Int))/\(↑q0.rp.length:Int)<=q17/\q15.st.log.length<=10000)) (x.term=q15.st.term)) (min 64 (↑q15.st.log.length:Int))) q15.applied) (max q15.commit q8)) q0.c) (n.save q6)) (4:Int)) (min x.c q2.snd.fst)) q2.fst) (aB n.c.st x).snd) (q3=q4.e)) (0:Int)) (bO n x)) x.frm) (aB n.c.st x).fst);obtain ⟨o1,o2,o3⟩:=id h0.d;have o4:=h0.log;(repeat' with_reducible first|apply aZ|refine aY ?_|intro)
 all_goals (first | exact bt | exact Hx | exact (FV h0 h1 h2 ab ab).1.1 | exact (FV h0 h1 h2 ab ab).1.2 | exact (FV h0 h1 h2 ab ab).2.1 | exact (FV h0 h1 h2 ab ab).2.2 | (rw [ah8 (n:=n) ab] <;> rfl) | (rw [aiu (n:=n) ab ab] <;> rfl) | (rw [ah9 (n:=n) ab ab ab ab] <;> rfl) | (rw [aii (n:=n) ab ab ab ab] <;> rfl) | (rw [aeW (n:=n) ab ab ab ab] <;> rfl) | (rw [ail (n:=n) ab ab ab ab] <;> rfl))
noncomputable def UX:bN:=(aO 57 vC (aO 14 rk UW))
theorem sP:ay Tryz.prog (al tyT) UX:=(ah Jc (ah CP sd))
theorem Sat.agp {P:Program} {shp:TypeId->Option Sh} {f:Nat} {args rs:List TV1} {H1 H2:AH} {pre:List Prop} (hc:gP H1 [0,1,2] [0,1,2]=true) (ho:oE (posOf · [0,1,2]) (kL H1 [0,1,2])=H2) (hrs:∀ (c c':Cx) (ρ ρ':List RE) us,All2 (cZ c ρ) rs us->All2 (cZ c' ρ') rs us) (h:Sat P shp f args (kV n) ⟨pre,rs,some H1,false⟩):Sat P shp f args (kV n) ⟨pre,rs,some H2,false⟩:=by
 refine ⟨h.1,fun G ρ w vs hg hR hv=>(h.2 G ρ w vs hg hR hv).mono ?_⟩;rintro v w' ⟨us,e1,ρ',k1,k2,k3,k4,k5⟩;obtain ⟨m1,m2⟩:=k1.sub (σ:=[0,1,2]) (Z':=G.Z) rfl hc k1.z (fun _ h _=>h) (fun b hl=>by
  obtain ⟨i,r,h1,h2⟩:=gB hl;exact (k1.bnd i r b h1 h2).2.2)
 rw [ho] at m1;refine ⟨us,e1,dh ρ' [0,1,2],m1,⟨k2.os,k2.tape,k2.output,k2.size,fun b hb hl=>⟨fun h=>(k2.old b hb hl).1 (gB h),(k2.old b hb hl).2⟩⟩,fun i g h=>?_,hrs _ _ _ _ _ k4,fun h=>by cases h⟩;have hi:∀ (j:Nat) (t:TypeId) (s:Sh) (xs:List (den s)),(kV n)[j]? = some (.row t s xs)->i≠j:=fun j t s xs hj e=>by
  subst e;obtain ⟨r,hr,h1⟩:=hR.at_ hj;rw [h] at hr; cases hr;obtain ⟨_,_,h1 | ⟨_,_,_,_,h1,_⟩⟩:=h1
  ·exact absurd h1.1 (by simp)
  cases h1
 have hlt:i<8:=by
  have h1:=(aaA.1 h).1;have h2:(kV n).length=8:=rfl;have h3:=hR.obj.length;omega
 have h3:=hi 3 _ _ _ rfl;have h4:=hi 4 _ _ _ rfl;have h5:=hi 5 _ _ _ rfl;have h6:=hi 6 _ _ _ rfl;have h7:=hi 7 _ _ _ rfl;have hk:=k3 i g h;have:i=0\/i=1\/i=2:=by omega
 rcases this with rfl | rfl | rfl
 ·exact (mZ (j:=0) (i:=0) rfl).trans (congrArg some (getD_some hk))
 ·exact (mZ (j:=1) (i:=1) rfl).trans (congrArg some (getD_some hk))
 exact (mZ (j:=2) (i:=2) rfl).trans (congrArg some (getD_some hk))
theorem YD {e:Int} (c c':Cx) (ρ ρ':List RE) (us:List Value) (h:All2 (cZ c ρ) [.c (.int e)] us):All2 (cZ c' ρ') [.c (.int e)] us:=by
 cases h with | cons h1 h2=>?_
 cases h2;replace h1:Pd c (.int e) _:=h1;cases h1 with | int hi=>exact .cons (show Pd c' (.int e) _ from .int hi) .nil
def gW (me many:Int):Nd:=⟨⟨me,many,0,sta0,0,0,0,⟨0,0,0,0,[],[],[]⟩⟩,⟨[],0,true,false,0⟩,[],[],[],[],[]⟩
theorem T_:(Dsk.mk [] 0 false false 0).cD 0=⟨[],0,true,false,0⟩:=by decide
noncomputable def Fy:Kn:=aK (ae (kC cI) (ae (kC cI) ao)) aw fun (me,many,_) _=>⟨[3<=many/\many<=5/\0<=me/\me<many],[.c (.ptr 0 0),.c (.int ((0)))],some ([.box 103 (Xx 0 (((gW me many).c))++[.em true,.em true,.em true,.em true,.em true]),.box 147 ([.own 2,.int (((gW me many).d.synced)),.bool (.atom (((gW me many).d.down))),.bool (.atom (((gW me many).d.doomed))),.int (((gW me many).d.keep))]),.row 5 .u8 (((gW me many).d.b))]),true⟩
theorem DP:CK 12 Fy:=ag fun (me,many,_) _ hp=>by
 have h0:=cc hp;refine dD sP [] Tryz.func12 (?_:(fun (q1:Int)=>(fun (q2:Dsk)=>(fun (q0:Nd)=>(fun (q3:NdC)=>I64 me->I64 many->(((many<(3:Int)\/(5:Int)<many)\/me<q1)\/many<=me->False/\(1:Int)=q1/\False/\False/\q0.d.b=[])/\((((3:Int)<=many/\many<=(5:Int))/\q1<=me)/\me<many->(q1<=q1/\q1<=(↑(0:Nat):Int)/\(0:Nat)<=(65536:Nat))/\q1=q1/\me=q3.me/\many=q3.many/\q1=q3.bin/\q1=q3.st.floor/\q1=q3.st.term/\q1=q3.st.vote/\q3.st.log=[]/\q1=q3.role/\q1=q3.commit/\q1=q3.applied/\q1=q3.s.version/\q1=q3.s.next/\q1=q3.s.keep/\q1=q3.s.quota/\q3.s.sess=[]/\q3.s.opens=[]/\q3.s.snaps=[]/\q2.synced=q0.d.synced/\q2.down=q0.d.down/\q2.doomed=q0.d.doomed/\q2.keep=q0.d.keep/\q2.b=q0.d.b)) q0.c) (gW me many)) ((Dsk.mk [] q1 false false q1).cD q1)) (0:Int));(repeat' with_reducible first|apply aZ|refine aY ?_|intro)
 all_goals (first | exact bt | exact rfl | (rw [T_] <;> rfl) | (exfalso; omega))
theorem UE (me:Int) (many:Int) (h0:3<=many/\many<=5/\0<=me/\me<many):Sat Tryz.prog (al tyT) 12 [.c (.int (me)),.c (.int (many))] [] ⟨[3<=many/\many<=5/\0<=me/\me<many],[.c (.ptr 0 0),.c (.int ((0)))],some ([.box 103 (Xx 0 (((gW me many).c))++[.em true,.em true,.em true,.em true,.em true]),.box 147 ([.own 2,.int (((gW me many).d.synced)),.bool (.atom (((gW me many).d.down))),.bool (.atom (((gW me many).d.doomed))),.int (((gW me many).d.keep))]),.row 5 .u8 (((gW me many).d.b))]),true⟩:=DP _ _ _ rfl (by intro p hp; simp only [aa8,ahl,or_false] at hp; subst hp; exact h0)
theorem YX (me:Int) (many:Int) (h0:3<=many/\many<=5/\0<=me/\me<many):Sat Tryz.prog (al tyT) 12 [.c (.int (me)),.c (.int (many))] [] ⟨[3<=many/\many<=5/\0<=me/\me<many],[.c (.ptr 0 0),.c (.int ((0)))],some ((kV ((gW me many)))),true⟩:=Sat.Lt 0 22 3 .int bG rfl rfl (Sat.Lt 0 21 3 .int bG rfl rfl (Sat.Lt 0 20 3 .int bG rfl rfl (Sat.Lt 0 19 4 .bool bG rfl rfl (Sat.Lt 0 18 78 (.nm .reply) bG rfl rfl (UE me many h0) rfl) rfl) rfl) rfl) rfl
noncomputable def JS:Kn:=aK (ae (kC cI) (ae (kC cI) ao)) aw fun (me,many,_) _=>⟨[3<=many/\many<=5/\0<=me/\me<many],[.c (.ptr 0 0),.c (.int ((0)))],some ((kV ((gW me many)))),true⟩
theorem aaI:CK 12 JS:=ag fun (me,many,_) _ hp=>YX me many (cc hp)
noncomputable def Bu:Kn:=aK (ae (kC (aX 0 0)) (ae (kC (cL (.nm .record))) ao)) (aC (dG 103 (lNd 0 (ax (Yc true) (ax (Yc true) (ax (Yc true) (ax (Yc true) (ax (Yc true) dC))))))) (aC (dG 147 (ax (eV 2) (ax cI (ax cB (ax cB (ax cI dC)))))) (aC (eW 5 .u8) aw))) fun (_,l,_) ((nd,_,_,_,_,_,_),(_,sy,dn,dm,kp,_),bs,_)=>⟨[(Dsk.mk bs sy dn dm kp).OK,nd.st.log.length<=10000,l.length<=1000],[.c (.int (((Nd.mk nd ⟨bs,sy,dn,dm,kp⟩ [] [] [] [] []).aN l)))],some ([.box 103 (Xx 0 ((((Nd.mk nd ⟨bs,sy,dn,dm,kp⟩ [] [] [] [] []).save l).c))++[.em true,.em true,.em true,.em true,.em true]),.box 147 ([.own 2,.int ((((Nd.mk nd ⟨bs,sy,dn,dm,kp⟩ [] [] [] [] []).save l).d.synced)),.bool (.atom ((((Nd.mk nd ⟨bs,sy,dn,dm,kp⟩ [] [] [] [] []).save l).d.down))),.bool (.atom ((((Nd.mk nd ⟨bs,sy,dn,dm,kp⟩ [] [] [] [] []).save l).d.doomed))),.int ((((Nd.mk nd ⟨bs,sy,dn,dm,kp⟩ [] [] [] [] []).save l).d.keep))]),.row 5 .u8 ((((Nd.mk nd ⟨bs,sy,dn,dm,kp⟩ [] [] [] [] []).save l).d.b))]),false⟩
theorem Jy:CK 47 Bu:=ag fun (_,l,_) ((nd,_,_,_,_,_,_),(_,sy,dn,dm,kp,_),bs,_) hp=>by
 have h0:=cc hp;have h1:=cc (eT hp);have h2:=cc (eT (eT hp));refine br sP [] Tryz.func47 (?_:(fun q2=>(fun q1=>(fun q3=>(fun q0=>(fun q4=>l.length*48<=140737488355328->((0<=sy/\sy<=(↑bs.length:Int)/\bs.length<=65536)/\nd.st.log.length<=10000/\l.length<=1000)/\cf q1.snd.fst (I64 q1.snd.snd->(¬q1.snd.snd=0->q1.snd.snd=q2.aN l/\nd.me=q0.c.me/\nd.many=q0.c.many/\nd.bin=q0.c.bin/\aE nd.st q0.c.st q4)/\(q1.snd.snd=0->0=q2.aN l/\nd.me=q0.c.me/\nd.many=q0.c.many/\nd.bin=q0.c.bin/\aE q1.snd.fst q0.c.st q4))) (nd.role=q0.c.role/\nd.commit=q0.c.commit/\nd.applied=q0.c.applied/\bI nd.s q0.c.s (q3.synced=q0.d.synced/\q3.down=q0.d.down/\q3.doomed=q0.d.doomed/\q3.keep=q0.d.keep/\q3.b=q0.d.b))) (q2.save l)) q1.fst) (saveF (Dsk.mk bs sy dn dm kp) nd.st l)) (Nd.mk nd (Dsk.mk bs sy dn dm kp) [] [] [] [] []));obtain ⟨o1,o2,o3⟩:=id h0;(repeat' with_reducible first|apply aZ|refine aY ?_|intro)
 all_goals (first | exact bt | exact rfl | exact (Eq.symm ab) | exact (congrArg Stable.floor (gA ab)).symm | exact (congrArg Stable.term (gA ab)).symm | exact (congrArg Stable.vote (gA ab)).symm | exact (congrArg Stable.log (gA ab)).symm)
noncomputable def Vm:bN:=(aO 47 Bu (aO 12 JS (aO 12 Fy UX)))
theorem rS:ay Tryz.prog (al tyT) Vm:=(ah Jy (ah aaI (ah DP sP)))
end Go.Proofs.YticbaadnibdbkaaGreat
