/- What leads to the law, part 7. Conditions: each lemma's own. -/
import Derived.Test.YticbaadnibdbkaaGreatNVM6
set_option linter.unusedVariables false
set_option linter.unusedSimpArgs false
set_option maxHeartbeats 2000000
set_option linter.defProp false
namespace Go.Proofs.YticbaadnibdbkaaGreat
open Go.RowKit
def ahn:=@Bool.false_and
def aiN:=@List.mem_iff_getElem?
theorem TX (n:Nat):Yv (n:Int)=UInt8.ofNat n:=by
 apply UInt8.toNat_inj.1;rw [Yv,ofNat_toNat,ofNat_toNat]; omega
variable {m k:Int} {l:List Entry}
theorem Jp (h:(k<0\/(l.length:Int)<k)\/m<1):fJ l k m=[]:=if_pos h
theorem LZ (h1:0<=k) (h2:k<=(l.length:Int)) (h3:1<=m):(l.drop k.toNat).take (min m ((l.drop k.toNat).length:Int)).toNat=fJ l k m:=by
 rw [fJ,if_neg (by omega)]
variable {m:List Entry}
theorem aaG (h:k<0\/(l.length:Int)<k):bd l k m=(0,[]):=if_pos h
variable {j:Nat}
theorem Wz (h4:j<=gQ (l.drop k.toNat) m) (h1:0<=k) (h2:k<=(l.length:Int)) (h3:j<m.length) (h5:(((l.drop k.toNat).length:Nat):Int)<=j):bd l k m=(0,m.drop j):=by
 have:=lT (h:=l.drop k.toNat) (a:=m);have e:gQ (l.drop k.toNat) m=j:=by omega
 rw [bd,if_neg (by omega),e,if_neg (by omega),if_pos (by omega)]
theorem Wc {y:Entry} (h4:j<=gQ (l.drop k.toNat) m) (h1:0<=k) (h2:k<=(l.length:Int)) (h5:(j:Int)<((l.drop k.toNat).length:Nat)) (hy:m[j]? = some y) (hn:¬ ((l.drop k.toNat).getD j (au (Sh.nm NT.entry))).term=y.term):bd l k m=(k+j+1,m.drop j):=by
 have hx:(l.drop k.toNat)[j]? = some ((l.drop k.toNat).getD j (au (Sh.nm NT.entry))):=by
  rw [List.getD_eq_getElem?_getD,List.getElem?_eq_getElem (by omega)]; rfl
 have:=o_ h4 hx hy;have hm:=(aaj.1 hy).1;have e:gQ (l.drop k.toNat) m=j:=by
  rcases Nat.lt_or_ge j (gQ (l.drop k.toNat) m) with h | h
  ·exact absurd (this.2 h) hn
  omega
 rw [bd,if_neg (by omega),e,if_neg (by omega),if_neg (by omega)]
theorem abT {y:Entry} (h4:j<=gQ (l.drop k.toNat) m) (h5:(j:Int)<((l.drop k.toNat).length:Nat)) (hy:m[j]? = some y) (hn:((l.drop k.toNat).getD j (au (Sh.nm NT.entry))).term=y.term):j+1<=gQ (l.drop k.toNat) m:=by
 have hx:(l.drop k.toNat)[j]? = some ((l.drop k.toNat).getD j (au (Sh.nm NT.entry))):=by
  rw [List.getD_eq_getElem?_getD,List.getElem?_eq_getElem (by omega)]; rfl
 exact (o_ h4 hx hy).1 hn
theorem XE (h4:j<=gQ (l.drop k.toNat) m) (h1:0<=k) (h2:k<=(l.length:Int)) (h5:(m.length:Int)<=j):bd l k m=(0,[]):=by
 rw [bd,if_neg (by omega),if_pos (by omega)]
variable {x:Letter}
theorem Zb (h:((((((((((((¬x.kind=1/\¬x.kind=2)/\¬x.kind=3)/\¬x.kind=4)\/cj x.frm 0 4=false)\/cj x.to 0 4=false)\/x.frm=x.to)\/cj x.term 1 1048576=false)\/cj x.bin 1 3=false)\/dS x.a 64 (decide (x.kind=1) || decide (x.kind=3) || decide (x.kind=4))=false)\/dS x.b 1048576 (decide (x.kind=1) || decide (x.kind=3))=false)\/dS x.c 64 (decide (x.kind=3))=false)\/(x.ok=true/\¬x.kind=2)/\¬x.kind=4)\/dS (x.l.length:Int) 4 (decide (x.kind=3))=false):nK x=false:=by
 unfold nK;rcases h with (((((((((h | h) | h) | h) | h) | h) | h) | h) | h) | h) | h
 ·obtain ⟨⟨⟨h1,h2⟩,h3⟩,h4⟩:=h;rw [aeH h1,aeH h2,aeH h3,aeH h4]; rfl
 ·rw [h]; simp only [Bool.and_false,ahn]
 ·rw [h]; simp only [Bool.and_false,ahn]
 ·rw [decide_eq_true h]; simp only [Bool.not_true,Bool.and_false,ahn]
 ·rw [h]; simp only [Bool.and_false,ahn]
 ·rw [h]; simp only [Bool.and_false,ahn]
 ·rw [h]; simp only [Bool.and_false,ahn]
 ·rw [h]; simp only [Bool.and_false,ahn]
 ·rw [h]; simp only [Bool.and_false,ahn]
 ·obtain ⟨⟨h1,h2⟩,h3⟩:=h;have e:(!x.ok || decide (x.kind=2) || decide (x.kind=4))=false:=by rw [h1,aeH h2,aeH h3]; rfl
  rw [e]; simp only [Bool.and_false,ahn]
 rw [h]; simp only [Bool.and_false]
theorem YL (h0:((x.kind=1\/x.kind=2)\/x.kind=3)\/x.kind=4) (h1:cj x.frm 0 4=true) (h2:cj x.to 0 4=true) (h3:¬x.frm=x.to) (h4:cj x.term 1 1048576=true) (h5:cj x.bin 1 3=true) (h6:dS x.a 64 (decide (x.kind=1) || decide (x.kind=3) || decide (x.kind=4))=true) (h7:dS x.b 1048576 (decide (x.kind=1) || decide (x.kind=3))=true) (h8:dS x.c 64 (decide (x.kind=3))=true) (h9:(x.ok=false\/x.kind=2)\/x.kind=4) (h10:dS (x.l.length:Int) 4 (decide (x.kind=3))=true):nK x=true:=by
 unfold nK;have e0:(decide (x.kind=1) || decide (x.kind=2) || decide (x.kind=3) || decide (x.kind=4))=true:=by
  simp only [Bool.or_eq_true,decide_eq_true_eq]; exact h0
 have e9:(!x.ok || decide (x.kind=2) || decide (x.kind=4))=true:=by
  simp only [Bool.or_eq_true,aew,decide_eq_true_eq]; exact h9
 rw [e0,h1,h2,aeH h3,h4,h5,h6,h7,h8,e9,h10]; rfl
theorem R_ {y:Entry} (h:cj y.term 1 1048576=false\/200<(y.b.length:Int)):eN y=false:=by
 unfold eN;rcases h with h | h
 ·rw [h]; rfl
 rw [aeH (by omega),Bool.and_false]
theorem Sa {y:Entry} (h:cj y.term 1 1048576=true) (h2:(y.b.length:Int)<=200):eN y=true:=by
 unfold eN; rw [h,decide_eq_true h2]; rfl
variable {k:Nat}
theorem aee (h:nK x=true) (h2:(x.l.length:Int)<=k) (h3:(x.l.take k).all eN=true):0=mayL x:=by
 rw [List.take_of_length_le (by omega)] at h3;rw [mayL,if_pos ⟨h,h3⟩]
theorem ZS {y:Entry} (hy:x.l[k]? = some y) (h:eN y=false):1=mayL x:=by
 rw [mayL,if_neg];rintro ⟨_,h2⟩;have:=aeF.1 h2 y (aiN.2 ⟨k,hy⟩);rw [h] at this; cases this
theorem abJ {y:Entry} (hy:x.l[k]? = some y) (h:eN y=true) (h3:(x.l.take k).all eN=true):(x.l.take (k+1)).all eN=true:=by
 rw [ai hy,agZ,h3]; simp [h]
theorem aeO:(x.l.take 0).all eN=true:=rfl
theorem acr (h:nK x=false):1=mayL x:=by
 rw [mayL,if_neg (by rintro ⟨h1,_⟩; rw [h] at h1; cases h1)]
def aaF (x:Letter):List (Nat × LI):=[(7,{ σ:=Nat,F:=fun k=>([(112,one (.fz (.nm .entry) x.l)),(113,one (.int x.l.length)),(114,one (.int k))],[]),J:=fun k=>k<=x.l.length/\nK x=true/\(x.l.take k).all eN=true,μ:=fun k=>x.l.length - k })]
def Uw (l:List Entry) (k:Int) (m:List Entry):List (Nat × LI):=[(5,{ σ:=Nat,F:=fun j=>([(1,one (.int (k))),(2,one (.fz (.nm .entry) (m))),(8,one (.fz (.nm .entry) (l.drop k.toNat))),(22,one (.fz (.nm .entry) (m))),(23,one (.int (m).length)),(24,one (.int j))],[]),J:=fun j=>j<=m.length/\j<=gQ (l.drop k.toNat) m,μ:=fun j=>(m).length - j })]
noncomputable def EE:Kn:=aK (ae (kC (cL .u8)) (ae (kC cW) ao)) aw fun (b,s,_) _=>⟨[],[.c (.bool (.atom ((decide (dU 1 b=s)))))],none,false⟩
theorem RO:CK 143 EE:=ag fun (b,s,_) _ _=>by
 refine av iQ [] Tryz.func143 (?_:b.length*1<=140737488355328->decide ((↑(dU 1 b):Int)=(↑s:Int))=decide (dU 1 b=s));(repeat' with_reducible first|apply aZ|refine aY ?_|intro) <;> first | (first | with_reducible rfl | with_reducible assumption | omega | (refine bR ?_ ?_ <;> omega)) | (simp only [decide_eq_decide]; omega)
noncomputable def Ml:Kn:=aK (ae (kC (cL .u8)) ao) aw fun (x,_) _=>⟨[],[.c (.fz .u8 (((py x).1))),.c (.int (((py x).2)))],none,false⟩
theorem XC:CK 149 Ml:=ag fun (x,_) _ _=>by
 refine av (RG iQ) [] Tryz.func149 (?_:(fun (q4:Nat)=>(fun (q3:Nat)=>(fun (q2:Int)=>(fun (q5:Int)=>(fun (q1:List (den Sh.u8))=>(fun (q0:List (den Sh.u8))=>(fun (q6:List (den Sh.u8))=>x.length*q3<=(140737488355328:Nat)->(q2=(0:Int)\/(4096:Int)<q2->(py x).fst=[]/\(4:Int)=(py x).snd)/\(¬q2=(0:Int)/\q2<=(4096:Int)->I64 ((2:Int)+q2)/\I64 q5/\(0:Int)<=q5/\q5*(↑q3:Int)<=(140737488355328:Int)/\(0:Int)<=q2/\(8:Nat)<(64:Nat)/\((0:Nat)+q1.length)*q3<=(140737488355328:Nat)/\(([]++q1).length+x.length)*q3<=(140737488355328:Nat)/\(24:Nat)<(32:Nat)/\(16:Nat)<(32:Nat)/\(8:Nat)<(32:Nat)/\(q0.length+q6.length)*q3<=(140737488355328:Nat)/\q0++q6=(py x).fst/\(0:Int)=(py x).snd)) [UInt8.ofNat (dU q3 q0 / (2:Nat) ^ (24:Nat)),UInt8.ofNat (dU q3 q0 / (2:Nat) ^ (16:Nat)),UInt8.ofNat (dU q3 q0 / q4),UInt8.ofNat (dU q3 q0)]) ([]++q1++x)) [Yv (↑(x.length / q4):Int),Yv q2]) ((2:Int)+q2+(4:Int))) (↑x.length:Int)) (1:Nat)) ((2:Nat) ^ (8:Nat)));(repeat' with_reducible first|apply aZ|refine aY ?_|intro)
 all_goals first | exact bt | (simp only [py,eu,jd,wK,TX,aiD] at *; grind)
noncomputable def wx:Kn:=aK (ae (kC (cL (.nm .entry))) (ae (kC cI) (ae (kC cI) ao))) aw fun (l,k,m,_) _=>⟨[],[.c (.fz (.nm .entry) ((fJ l k m)))],none,false⟩
theorem HP:CK 194 wx:=ag fun (l,k,m,_) _ _=>by
 refine av iQ [] Tryz.func194 (?_:(fun q0=>l.length*32<=140737488355328->I64 k->I64 m->((k<0\/(↑l.length:Int)<k)\/m<1->fJ l k m=[])/\((0<=k/\k<=(↑l.length:Int))/\1<=m->0<=k/\k<=(↑l.length:Int)/\0<=min m q0/\min m q0<=q0/\List.take (min m q0).toNat (List.drop k.toNat l)=fJ l k m)) (↑(List.drop k.toNat l).length:Int));(repeat' with_reducible first|apply aZ|refine aY ?_|intro)
 all_goals (first | exact bt | exact (Jp ab) | exact (LZ ab ab ab))
noncomputable def Gq:Kn:=aK (ae (kT (.nm .stable)) ao) aw fun (s,_) _=>⟨[],[.agg ([.int ((s.floor)),.int ((s.term)),.int ((s.vote)),.own 0])],some ([.row 52 (.nm .entry) ((s.log))]),true⟩
theorem Re:CK 147 Gq:=ag fun (s,_) _ _=>by
 refine dD iQ [] Tryz.func147 (?_:cf s (dV s s));(repeat' with_reducible first|apply aZ|refine aY ?_|intro)
 all_goals (first | exact bt | exact rfl)
noncomputable def BC:Kn:=aK (ae (kT (.nm .stable)) (ae (kC cI) ao)) aw fun (s,t,_) _=>⟨[],[.c (.own 0)],some ([.row 108 (.nm .record) ((aA s t))]),true⟩
theorem PB:CK 100 BC:=ag fun (s,t,_) _ _=>by
 refine dD iQ [] Tryz.func100 (?_:cf s (I64 t->(t<=s.term->aA s t=[])/\(s.term<t->[Record.mk 2 t 0 []]=aA s t)));(repeat' with_reducible first|apply aZ|refine aY ?_|intro)
 all_goals (first | exact bt | (rw [aA,if_pos ab]) | (rw [aA,if_neg aL]) | (simp; done))
noncomputable def Gx:Kn:=aK (ae (kT (.nm .letter)) ao) aw fun (x,_) _=>⟨[],[.c (.int ((mayL x)))],none,false⟩
theorem Rw:CK 94 Gx:=ag fun (x,_) _ _=>by
 refine av iQ (aaF x) Tryz.func94 (?_:(fun (q7:Int)=>(fun (q6:Int)=>(fun (q5:Int)=>(fun (q4:Int)=>(fun (q3:Nat)=>(fun (q2:Int)=>(fun (q8:Prop)=>(fun (q1:Int)=>(fun (q9:Bool)=>(fun (q0:Bool)=>(fun (q10:Bool)=>aJ x (((((((((((((¬q2=q1/\¬q8)/\¬q2=3)/\¬q2=q4\/cj x.frm q6 q4=false)\/cj x.to q6 q4=false)\/x.frm=x.to)\/cj x.term q1 q7=false)\/cj x.bin q1 3=false)\/q10=false)\/dS x.b q7 (q9 || q0)=false)\/dS x.c 64 q0=false)\/(x.ok=true/\¬q8)/\¬q2=q4)\/dS q5 q4 q0=false->q1=mayL x)/\(((((((((((((q2=q1\/q8)\/q2=3)\/q2=q4)/\cj x.frm q6 q4=true)/\cj x.to q6 q4=true)/\¬x.frm=x.to)/\cj x.term q1 q7=true)/\cj x.bin q1 3=true)/\q10=true)/\dS x.b q7 (q9 || q0)=true)/\dS x.c 64 q0=true)/\((x.ok=false\/q8)\/q2=q4))/\dS q5 q4 q0=true->∃ (s0:Nat),(x.l=x.l/\q5=(↑q3:Int)/\q6=(↑s0:Int))/\(s0<=q3/\nK x=true/\(List.take s0 x.l).all eN=true)/\∀ (s:Nat),s<=q3/\nK x=true/\(List.take s x.l).all eN=true->((↑s:Int)<(↑q3:Int)->q6<=(↑s:Int)/\(↑s:Int)<q5/\∀ (x_1:Entry),x.l[s]? = some x_1->I64 x_1.term->x_1.b.length*1<=140737488355328->(cj x_1.term q1 q7=false\/200<(↑x_1.b.length:Int)->q1=mayL x)/\(cj x_1.term q1 q7=true/\(↑x_1.b.length:Int)<=200->I64 ((↑s:Int)+q1)/\∃ (s':Nat),(x.l=x.l/\(↑q3:Int)=(↑q3:Int)/\(↑s:Int)+q1=(↑s':Int))/\(s' <= q3/\nK x=true/\(List.take s' x.l).all eN=true)/\q3 - s' < q3 - s))/\((↑q3:Int)<=(↑s:Int)->q6=mayL x)))) (dS x.a 64 (q9 || q0 || decide (q2=q4)))) (decide (q2=3))) (decide (q2=q1))) 1) (q2=2)) x.kind) x.l.length) 4) (↑x.l.length:Int)) 0) 1048576);iterate 3 ((all_goals (repeat' with_reducible first|apply aZ|refine aY ?_|intro)); (all_goals try (first | exact bt | exact aeO | exact (aee ab ab ab) | exact (acr (Zb ab)) | exact (YL ab ab ab ab ab ab ab ab ab ab ab) | exact (abJ ab (Sa ab ab) ab) | exact (ZS ab (R_ ab)))); all_goals try first | refine ⟨‹Nat› + 1,?_⟩ | refine ⟨0,?_⟩)
noncomputable def Bj:Kn:=aK (ae (kC (cL (.nm .entry))) (ae (kC cI) (ae (kC (cL (.nm .entry))) ao))) aw fun (l,k,m,_) _=>⟨[],[.c (.int (((bd l k m).1))),.c (.fz (.nm .entry) (((bd l k m).2)))],none,false⟩
theorem KW:CK 167 Bj:=ag fun (l,k,m,_) _ _=>by
 refine av iQ (Uw l k m) Tryz.func167 (?_:(fun (q5:Int)=>(fun (q4:Nat)=>(fun (q3:Nat)=>(fun (q2:Int × List Entry)=>(fun (q1:Int)=>(fun (q0:List (den (Sh.nm NT.entry)))=>l.length*32<=140737488355328->I64 k->m.length*32<=140737488355328->(k<q1\/(↑l.length:Int)<k->q1=q2.fst/\q2.snd=[])/\(q1<=k/\k<=(↑l.length:Int)->q1<=k/\k<=(↑l.length:Int)/\∃ (s0:Nat),(k=k/\m=m/\q0=q0/\m=m/\q5=(↑q3:Int)/\q1=(↑s0:Int))/\(s0<=q3/\s0<=q4)/\∀ (s:Nat),(fun (q7:den (Sh.nm NT.entry))=>(fun (q6:Int)=>s<=q3/\s<=q4->(q6<(↑q3:Int)->q1<=q6/\q6<q5/\∀ (x:Entry),m[s]? = some x->I64 x.term->x.b.length*1<=140737488355328->((↑q0.length:Int)<=q6->q1<=q6/\q6<=q5/\q1=q2.fst/\List.drop s m=q2.snd)/\(q6<(↑q0.length:Int)->q1<=q6/\q6<(↑q0.length:Int)/\(I64 q7.term->q7.b.length*1<=140737488355328->(¬q7.term=x.term->I64 (k+q6)/\I64 (k+q6+1)/\q1<=q6/\q6<=q5/\k+q6+1=q2.fst/\List.drop s m=q2.snd)/\(q7.term=x.term->I64 (q6+1)/\∃ (s':Nat),(k=k/\m=m/\q0=q0/\m=m/\(↑q3:Int)=(↑q3:Int)/\q6+1=(↑s':Int))/\(s' <= q3/\s' <= q4)/\q3 - s' < q3 - s))))/\((↑q3:Int)<=q6->q1=q2.fst/\q2.snd=[])) (↑s:Int)) (q0.getD s (au (Sh.nm NT.entry))))) (List.drop k.toNat l)) 0) (bd l k m)) m.length) (gQ (List.drop k.toNat l) m)) (↑m.length:Int));iterate 3 ((all_goals (repeat' with_reducible first|apply aZ|refine aY ?_|intro)); (all_goals try (first | exact bt | exact (congrArg Prod.fst (aaG ab)).symm | exact (congrArg Prod.fst (Wz ab ab ab aL ab)).symm | exact (congrArg Prod.fst (Wc ab ab ab ab ab ab)).symm | exact (congrArg Prod.fst (XE ab ab ab ab)).symm | exact (congrArg Prod.snd (aaG ab)).symm | exact (congrArg Prod.snd (Wz ab ab ab aL ab)).symm | exact (congrArg Prod.snd (Wc ab ab ab ab ab ab)).symm | exact (congrArg Prod.snd (XE ab ab ab ab)).symm | exact (congrArg Prod.snd (aaG ab)) | exact (congrArg Prod.snd (XE ab ab ab ab)) | exact (abT ab ab ab ab))); all_goals try first | refine ⟨‹Nat› + 1,?_⟩ | refine ⟨0,?_⟩)
noncomputable def adS:bN:=(aO 167 Bj (aO 94 Gx (aO 100 BC (aO 147 Gq (aO 194 wx (aO 149 Ml (aO 143 EE ad2)))))))
theorem gL:ay Tryz.prog (al tyT) adS:=(ah KW (ah Rw (ah PB (ah Re (ah HP (ah XC (ah RO iQ)))))))
variable {r:Route}
theorem qq {s:Stable} (h:r.next<1\/(s.log.length:Int)+1<r.next):gp s r=(cF,1):=if_pos h
theorem qv {s:Stable} (h1:1<=r.next) (h2:r.next<=(s.log.length:Int)+1) (h:¬ mayL (Letter.mk 3 r.frm r.to s.term (r.next - 1) (cJ s.log (r.next - 1)) r.commit r.bin false (fJ s.log (r.next - 1) 4))=0):gp s r=(cF,mayL (pY s r)):=by
 rw [gp,if_neg (by omega),if_pos (show ¬ mayL (pY s r)=0 from h)]
theorem tV {s:Stable} (h1:1<=r.next) (h2:r.next<=(s.log.length:Int)+1) (h:mayL (Letter.mk 3 r.frm r.to s.term (r.next - 1) (cJ s.log (r.next - 1)) r.commit r.bin false (fJ s.log (r.next - 1) 4))=0):gp s r=(pY s r,0):=by
 rw [gp,if_neg (by omega),if_neg (acs.2 (show mayL (pY s r)=0 from h))]
variable {b:List UInt8}
theorem TP (h:(b.length:Int)<2):bh b=([],0,2):=if_pos (by omega)
theorem SL (h:2<=(b.length:Int)) (h2:dT b=0\/4096<dT b):bh b=([],0,3):=by rw [bh,if_neg (by omega),if_pos h2]
theorem RN (h:2<=(b.length:Int)) (h2:¬ dT b=0) (h3:dT b<=4096) (h4:(b.length:Int)<2+dT b+4):bh b=([],0,2):=by rw [bh,if_neg (by omega),if_neg (by omega),if_pos h4]
variable {x:UInt8}
theorem KR {l:List UInt8} (h:l[k]? = some x):(Fz (l.take k)*2 ^ 8) % 4294967296 ||| x.toNat=Fz (l.take (k+1)):=by
 rw [ai h]; simp only [Fz,List.foldl_append]; rfl
variable {n:Int}
theorem ah9 (h0:0<=n):(b.drop (2+n).toNat).take ((2+n+4).toNat - (2+n).toNat)=(b.drop (2+n).toNat).take 4:=by
 congr 1; omega
theorem ae4 (h0:0<=n) (h:2+n+4<=(b.length:Int)):(((b.drop (2+n).toNat).take ((2+n+4).toNat - (2+n).toNat)).length:Int)=4:=by
 rw [List.length_take,List.length_drop]; omega
theorem ahl (hk:(k:Int)<4) (h0:0<=n) (h:2+n+4<=(b.length:Int)):(k:Int)<(((b.drop (2+n).toNat).take 4).length:Nat):=by
 rw [List.length_take,List.length_drop]; omega
theorem Qp (h6:decide (dU 1 ((b.drop 0).take ((2+dT b).toNat - 0))=Fz (((b.drop (2+dT b).toNat).take 4).take k))=false) (h4:(4:Int)<=k) (h:2<=(b.length:Int)) (h2:¬ dT b=0) (h3:dT b<=4096) (h5:2+dT b+4<=(b.length:Int)):bh b=([],0,3):=by
 have h6:=ag4 h6;rw [ai6,Nat.sub_zero,aiG,aiH (by omega)] at h6;rw [bh,if_neg (by omega),if_neg (by omega),if_neg (by omega),if_neg h6]
theorem Zi (h6:decide (dU 1 ((b.drop 0).take ((2+dT b).toNat - 0))=Fz (((b.drop (2+dT b).toNat).take 4).take k))=true) (h4:(4:Int)<=k) (h:2<=(b.length:Int)) (h2:¬ dT b=0) (h3:dT b<=4096) (h5:2+dT b+4<=(b.length:Int)):bh b=((b.drop 2).take ((2+dT b).toNat - 2),2+dT b+4,0):=by
 have h6:=of_decide_eq_true h6;rw [ai6,Nat.sub_zero,aiG,aiH (by omega)] at h6;rw [bh,if_neg (by omega),if_neg (by omega),if_neg (by omega),if_pos h6]
def Yg (b:List UInt8):List (Nat × LI):=[(11,{ σ:=Nat,F:=fun k=>([(0,one (.fz .u8 (b))),(6,one (.int (2+dT b))),(7,one (.xx (.w (Fz (((b.drop (2+dT b).toNat).take 4).take k))) [])),(40,one (.fz .u8 ((b.drop (2+dT b).toNat).take 4))),(41,one (.int 4)),(42,one (.int k))],[]),J:=fun k=>k<=4,μ:=fun k=>4 - k })]
noncomputable def Gw:Kn:=aK (ae (kC (cL .u8)) ao) aw fun (b,_) _=>⟨[],[.c (.fz .u8 (((bh b).1))),.c (.int (((bh b).2.1))),.c (.int (((bh b).2.2)))],none,false⟩
theorem QP:CK 83 Gw:=ag fun (b,_) _ _=>by
 refine av gL (Yg b) Tryz.func83 (?_:(fun q12=>(fun q11=>(fun q10=>(fun q9=>(fun q8=>(fun q7=>(fun q6=>(fun q5=>(fun q4=>(fun q3=>(fun q13=>(fun q2=>(fun q15=>(fun q14=>(fun q1=>(fun q18=>(fun q17=>(fun q16=>(fun q19=>(fun q0=>(fun q20=>(fun q21=>(fun q22=>b.length*1<=140737488355328->(q6<q2->q14)/\(q2<=q6->q3<=q3/\q3<q6/\q12<64/\I64 q15/\q3<=1/\1<q6/\q3<=q15/\q3<=q10/\(q0=q3\/4096<q0->q13)/\(¬q0=q3/\q0<=4096->I64 q20/\I64 q21/\(q6<q21->q14)/\(q21<=q6->I64 q21/\q3<=q20/\q20<=q21/\q21<=q6/\∃ s0,(b=b/\q20=q1/\q11=Fz (List.take s0 q19)/\q22=List.take q5 q16/\(↑q22.length:Int)=q4/\q3=(↑s0:Int))/\s0<=q5/\∀ (s:Nat),s<=q5->((↑s:Int)<q4->q3<=(↑s:Int)/\(↑s:Int)<(↑(List.take q5 q16).length:Int)/\∀ (x:UInt8),(List.take q5 q16)[s]? = some x->q12<32/\I64 ((↑s:Int)+1)/\∃ s',(b=b/\q1=q1/\Fz (List.take s q19)*2 ^ q12 % 4294967296 ||| x.toNat=Fz (List.take s' q19)/\List.take q5 q16=List.take q5 q16/\q4=q4/\(↑s:Int)+1=(↑s':Int))/\s' <= q5/\q5 - s' < q5 - s)/\(q4<=(↑s:Int)->q3<=q3/\q3<=q1/\q1<=q1/\q1<=q6/\(decide (q17=Fz (List.take s q19))=false->q13)/\(decide (q17=Fz (List.take s q19))=true->q3<=q2/\q2<=q1/\q1<=q1/\q1<=q6/\(q18.length*1<=140737488355328->I64 (q1+q4)/\q18=(bh b).fst/\q1+q4=q7.fst/\q3=q7.snd))))))) (List.take (q21.toNat - q20.toNat) (List.drop q20.toNat b))) (q20+q4)) (q2+q0)) (Wn q15 q10)) (List.take q5 q16)) (List.drop q1.toNat b)) (dU 1 (List.take (q1.toNat - q11) (List.drop q11 b)))) (List.take (q1.toNat - 2) (List.drop 2 b))) (q2+dT b)) (q9/\q3=q7.fst/\q2=q7.snd)) (q8*q2 ^ q12)) (2:Int)) (q9/\q3=q7.fst/\3=q7.snd)) (0:Int)) (4:Int)) (4:Nat)) (↑b.length:Int)) (bh b).snd) (↑(UInt8.toNat (b.getD q11 (au Sh.u8))):Int)) ((bh b).fst=[])) (↑(UInt8.toNat (b.getD 1 (au Sh.u8))):Int)) (0:Nat)) (8:Nat));have hn:=QO b;have hb0:=(b.getD 0 (au .u8):UInt8).toNat_lt;have hb1:=(b.getD 1 (au .u8):UInt8).toNat_lt;dsimp only [dT] at hn;iterate 3 ((all_goals (repeat' with_reducible first|apply aZ|refine aY ?_|intro)); (all_goals try (first | exact bt | exact (congrArg Prod.fst (TP ab)).symm | exact (congrArg (fun q=>q.2.1) (TP ab)).symm | exact (congrArg (fun q=>q.2.2) (TP ab)).symm | exact (congrArg Prod.fst (SL ab ab)).symm | exact (congrArg (fun q=>q.2.1) (SL ab ab)).symm | exact (congrArg (fun q=>q.2.2) (SL ab ab)).symm | exact (congrArg Prod.fst (RN ab ab ab ab)).symm | exact (congrArg (fun q=>q.2.1) (RN ab ab ab ab)).symm | exact (congrArg (fun q=>q.2.2) (RN ab ab ab ab)).symm | exact (congrArg Prod.fst (Qp ab ab ab ab ab ab)).symm | exact (congrArg (fun q=>q.2.1) (Qp ab ab ab ab ab ab)).symm | exact (congrArg (fun q=>q.2.2) (Qp ab ab ab ab ab ab)).symm | exact (congrArg Prod.fst (Zi ab ab ab ab ab ab)).symm | exact (congrArg (fun q=>q.2.1) (Zi ab ab ab ab ab ab)).symm | exact (congrArg (fun q=>q.2.2) (Zi ab ab ab ab ab ab)).symm | exact (congrArg Prod.fst (TP ab)) | exact (congrArg Prod.fst (SL ab ab)) | exact (congrArg Prod.fst (RN ab ab ab ab)) | exact (congrArg Prod.fst (Qp ab ab ab ab ab ab)) | exact rfl | exact (ah9 hn) | exact (ae4 hn ab) | exact (ahl ab hn ab) | exact (KR ab) | (dsimp only [dT]; omega) | (refine bR ?_ ?_ <;> dsimp only [dT] <;> omega) | (rw [List.length_take,List.length_drop]; omega))); all_goals try first | refine ⟨‹Nat› + 1,?_⟩ | refine ⟨0,?_⟩)
noncomputable def vV:Kn:=aK (ae (kC (aX 0 0)) (ae (kT (.nm .record)) ao)) (aC (dH 64 (ax cI (ax cI (ax cI (ax (eO 1) dv))))) (aC (eW 52 (.nm .entry)) aw)) fun (_,r,_) ((fl,tm,vo,_,_),lg,_)=>⟨[],[.c (.bool (.atom (((dP (Stable.mk fl tm vo lg) r).isSome))))],some ([.box 64 ([.int ((((dP (Stable.mk fl tm vo lg) r).getD (Stable.mk fl tm vo lg)).floor)),.int ((((dP (Stable.mk fl tm vo lg) r).getD (Stable.mk fl tm vo lg)).term)),.int ((((dP (Stable.mk fl tm vo lg) r).getD (Stable.mk fl tm vo lg)).vote)),.own 1]),.row 52 (.nm .entry) ((((dP (Stable.mk fl tm vo lg) r).getD (Stable.mk fl tm vo lg)).log))]),false⟩
theorem HY:CK 214 vV:=ag fun (_,r,_) ((fl,tm,vo,_,_),lg,_) _=>by
 refine br gL [] Tryz.func214 (?_:(fun q0=>dR r ((r.a<fl->false=(dP q0 r).isSome/\dV q0 ((dP q0 r).getD q0))/\(fl<=r.a->true=(dP q0 r).isSome/\dV (Stable.mk r.a tm vo lg) ((dP q0 r).getD q0)))) (Stable.mk fl tm vo lg));(repeat' with_reducible first|apply aZ|refine aY ?_|intro)
 all_goals first | exact bt | (simp only [dP]; grind) | (simp only [List.length_cons,List.length_nil]; omega)
noncomputable def Bh:Kn:=aK (ae (kC (aX 0 0)) (ae (kT (.nm .record)) ao)) (aC (dH 64 (ax cI (ax cI (ax cI (ax (eO 1) dv))))) (aC (eW 52 (.nm .entry)) aw)) fun (_,r,_) ((fl,tm,vo,_,_),lg,_)=>⟨[],[.c (.bool (.atom (((fy (Stable.mk fl tm vo lg) r).isSome))))],some ([.box 64 ([.int ((((fy (Stable.mk fl tm vo lg) r).getD (Stable.mk fl tm vo lg)).floor)),.int ((((fy (Stable.mk fl tm vo lg) r).getD (Stable.mk fl tm vo lg)).term)),.int ((((fy (Stable.mk fl tm vo lg) r).getD (Stable.mk fl tm vo lg)).vote)),.own 1]),.row 52 (.nm .entry) ((((fy (Stable.mk fl tm vo lg) r).getD (Stable.mk fl tm vo lg)).log))]),false⟩
theorem MW:CK 215 Bh:=ag fun (_,r,_) ((fl,tm,vo,_,_),lg,_) _=>by
 refine br gL [] Tryz.func215 (?_:(fun q0=>dR r ((r.a<tm\/(r.a=tm/\¬vo=0)/\¬vo=r.b->false=(fy q0 r).isSome/\dV q0 ((fy q0 r).getD q0))/\(tm<=r.a/\((¬r.a=tm\/vo=0)\/vo=r.b)->true=(fy q0 r).isSome/\dV (Stable.mk fl r.a r.b lg) ((fy q0 r).getD q0)))) (Stable.mk fl tm vo lg));(repeat' with_reducible first|apply aZ|refine aY ?_|intro)
 all_goals first | exact bt | (simp only [fy]; grind) | (simp only [List.length_cons,List.length_nil]; omega)
noncomputable def Gb:Kn:=aK (ae (kC (aX 0 0)) (ae (kT (.nm .record)) ao)) (aC (dH 64 (ax cI (ax cI (ax cI (ax (eO 1) dv))))) (aC (eW 52 (.nm .entry)) aw)) fun (_,r,_) ((fl,tm,vo,_,_),lg,_)=>⟨[1<=r.a/\r.a<=64],[.c (.bool (.atom (((fM (Stable.mk fl tm vo lg) r).isSome))))],some ([.box 64 ([.int ((((fM (Stable.mk fl tm vo lg) r).getD (Stable.mk fl tm vo lg)).floor)),.int ((((fM (Stable.mk fl tm vo lg) r).getD (Stable.mk fl tm vo lg)).term)),.int ((((fM (Stable.mk fl tm vo lg) r).getD (Stable.mk fl tm vo lg)).vote)),.own 1]),.row 52 (.nm .entry) ((((fM (Stable.mk fl tm vo lg) r).getD (Stable.mk fl tm vo lg)).log))]),false⟩
theorem Rf:CK 217 Gb:=ag fun (_,r,_) ((fl,tm,vo,_,_),lg,_) hp=>by
 have h0:=cc hp;refine br (xE gL) [] Tryz.func217 (?_:(fun q1=>(fun q0=>dR r (((↑lg.length:Int)<r.a->false=(fM q0 r).isSome/\dV q0 ((fM q0 r).getD q0))/\(r.a<=(↑lg.length:Int)->I64 q1/\(0<=q1/\q1<=(↑lg.length:Int))/\true=(fM q0 r).isSome/\dV (Stable.mk fl tm vo (List.take q1.toNat lg)) ((fM q0 r).getD q0)))) (Stable.mk fl tm vo lg)) (r.a - 1));(repeat' with_reducible first|apply aZ|refine aY ?_|intro)
 all_goals first | exact bt | (simp only [fM]; grind) | (simp only [List.length_cons,List.length_nil]; omega)
noncomputable def vu:Kn:=aK (ae (kC (aX 0 0)) (ae (kT (.nm .record)) ao)) (aC (dH 64 (ax cI (ax cI (ax cI (ax (eO 1) dv))))) (aC (eW 52 (.nm .entry)) aw)) fun (_,r,_) ((fl,tm,vo,_,_),lg,_)=>⟨[lg.length<=1000000,r.x.length<=200],[.c (.bool (.atom (((dC (Stable.mk fl tm vo lg) r).isSome))))],some ([.box 64 ([.int ((((dC (Stable.mk fl tm vo lg) r).getD (Stable.mk fl tm vo lg)).floor)),.int ((((dC (Stable.mk fl tm vo lg) r).getD (Stable.mk fl tm vo lg)).term)),.int ((((dC (Stable.mk fl tm vo lg) r).getD (Stable.mk fl tm vo lg)).vote)),.own 1]),.row 52 (.nm .entry) ((((dC (Stable.mk fl tm vo lg) r).getD (Stable.mk fl tm vo lg)).log))]),false⟩
theorem IB:CK 216 vu:=ag fun (_,r,_) ((fl,tm,vo,_,_),lg,_) hp=>by
 have h0:=cc hp;have h1:=cc (eQ hp);refine br gL [] Tryz.func216 (?_:(fun q2=>(fun q1=>(fun q0=>dR r (I64 q1/\(¬r.a=q1->false=(dC q0 r).isSome/\dV q0 ((dC q0 r).getD q0))/\(r.a=q1->(q2->(lg.length+[Entry.mk r.b r.x].length)*32<=140737488355328)/\(q2->true=(dC q0 r).isSome/\dV (Stable.mk fl tm vo (lg++[Entry.mk r.b r.x])) ((dC q0 r).getD q0))))) (Stable.mk fl tm vo lg)) ((↑lg.length:Int)+1)) (r.x.length*1<=140737488355328));(repeat' with_reducible first|apply aZ|refine aY ?_|intro)
 all_goals first | exact bt | (simp only [dC]; grind) | (simp only [List.length_cons,List.length_nil]; omega)
theorem RT :Sat Tryz.prog (al tyT) 148 [] [] ⟨[],[.c (.xx (.km bM) [])],none,false⟩:=HU
noncomputable def EO:Kn:=aK ao aw fun _ _=>⟨[],[.c (.xx (.km bM) [])],none,false⟩
theorem Qq:CK 148 EO:=ag fun _ _ _=>RT
noncomputable def Fc:Kn:=aK (ae (kC (aX 0 0)) (ae (kC (aX 1 0)) (ae (kC (aX 2 0)) ao))) (aC (yf 40 (.nm .letter)) (aC (yf 64 (.nm .stable)) (aC (dH 3 (ax cI dv)) aw))) fun _ (x,s,(who,_),_)=>⟨[],[.c (.bool (.atom ((decide (s.term<x.term) || decide (s.vote=0) || decide (s.vote=who)))))],none,false⟩
theorem SN:CK 169 Fc:=ag fun _ (x,s,(who,_),_) _=>by
 refine av gL [] Tryz.func169 (?_:(fun q0=>q0=q0) (decide (s.term<x.term) || decide (s.vote=0) || decide (s.vote=who)));(repeat' with_reducible first|apply aZ|refine aY ?_|intro)
 all_goals first | exact bt | rfl
noncomputable def AG:Kn:=aK (ae (kT (.nm .stable)) (ae (kC cI) ao)) aw fun (s,t,_) _=>⟨[s.term<=1048576],[.c (.fz (.nm .record) (((aT s t).1))),.c (.int (((aT s t).2)))],none,false⟩
theorem Lx:CK 48 AG:=ag fun (s,t,_) _ hp=>by
 have h0:=cc hp;refine av gL [] Tryz.func48 (?_:cf s (I64 t->(t<0\/5<=t->(aT s t).fst=[]/\1=(aT s t).snd)/\(0<=t/\t<5->(1048576<=s.term->(aT s t).fst=[]/\4=(aT s t).snd)/\(s.term<1048576->I64 (s.term+1)/\I64 (t+1)/\[Record.mk 2 (s.term+1) (t+1) []]=(aT s t).fst/\0=(aT s t).snd))));(repeat' with_reducible first|apply aZ|refine aY ?_|intro)
 all_goals first | exact bt | (simp only [aT]; grind) | (have q:=(by with_reducible assumption:I64 s.term); exact bR (by have:=q.1; omega) (by have:=q.2; omega)) | (simp only [List.length_cons,List.length_nil]; omega)
noncomputable def Fw:Kn:=aK (ae (kT (.nm .stable)) (ae (kT (.nm .route)) ao)) aw fun (s,r,_) _=>⟨[],[.agg (cellsOf (.nm .letter) ((gp s r).1)),.c (.int (((gp s r).2)))],none,false⟩
theorem QH:CK 120 Fw:=ag fun (s,r,_) _ _=>by
 refine av gL [] Tryz.func120 (?_:(fun q5=>(fun q4=>(fun q3=>(fun q2=>(fun q1=>(fun q0=>cf s (Td r ((q5<=r.next->I64 q4)/\(r.next<q5\/q4<r.next->q2=q1.kind/\q2=q1.frm/\q2=q1.to/\q2=q1.term/\q2=q1.a/\q2=q1.b/\q2=q1.c/\q2=q1.bin/\false=q1.ok/\q1.l=[]/\q5=(gp s r).snd)/\(q5<=r.next/\r.next<=q4->I64 q3/\(I64 (cJ s.log q3)->(fJ s.log q3 4).length*32<=140737488355328->I64 (mayL q0)->(¬mayL q0=q2->q2=q1.kind/\q2=q1.frm/\q2=q1.to/\q2=q1.term/\q2=q1.a/\q2=q1.b/\q2=q1.c/\q2=q1.bin/\false=q1.ok/\q1.l=[]/\mayL q0=(gp s r).snd)/\(mayL q0=q2->gV q0 q1 (q2=(gp s r).snd))))))) (Letter.mk 3 r.frm r.to s.term q3 (cJ s.log q3) r.commit r.bin false (fJ s.log q3 4))) (gp s r).fst) (0:Int)) (r.next - q5)) ((↑s.log.length:Int)+q5)) (1:Int));(repeat' with_reducible first|apply aZ|refine aY ?_|intro)
 all_goals (first | exact bt | exact (congrArg (fun q=>q.2) (qq ab)).symm | exact (congrArg (fun q=>q.1.kind) (qq ab)).symm | exact (congrArg (fun q=>q.1.frm) (qq ab)).symm | exact (congrArg (fun q=>q.1.to) (qq ab)).symm | exact (congrArg (fun q=>q.1.term) (qq ab)).symm | exact (congrArg (fun q=>q.1.a) (qq ab)).symm | exact (congrArg (fun q=>q.1.b) (qq ab)).symm | exact (congrArg (fun q=>q.1.c) (qq ab)).symm | exact (congrArg (fun q=>q.1.bin) (qq ab)).symm | exact (congrArg (fun q=>q.1.ok) (qq ab)).symm | exact (congrArg (fun q=>q.1.l) (qq ab)).symm | exact (congrArg (fun q=>q.2) (qv ab ab ab)).symm | exact (congrArg (fun q=>q.1.kind) (qv ab ab ab)).symm | exact (congrArg (fun q=>q.1.frm) (qv ab ab ab)).symm | exact (congrArg (fun q=>q.1.to) (qv ab ab ab)).symm | exact (congrArg (fun q=>q.1.term) (qv ab ab ab)).symm | exact (congrArg (fun q=>q.1.a) (qv ab ab ab)).symm | exact (congrArg (fun q=>q.1.b) (qv ab ab ab)).symm | exact (congrArg (fun q=>q.1.c) (qv ab ab ab)).symm | exact (congrArg (fun q=>q.1.bin) (qv ab ab ab)).symm | exact (congrArg (fun q=>q.1.ok) (qv ab ab ab)).symm | exact (congrArg (fun q=>q.1.l) (qv ab ab ab)).symm | exact (congrArg (fun q=>q.2) (tV ab ab ab)).symm | exact (congrArg (fun q=>q.1.kind) (tV ab ab ab)).symm | exact (congrArg (fun q=>q.1.frm) (tV ab ab ab)).symm | exact (congrArg (fun q=>q.1.to) (tV ab ab ab)).symm | exact (congrArg (fun q=>q.1.term) (tV ab ab ab)).symm | exact (congrArg (fun q=>q.1.a) (tV ab ab ab)).symm | exact (congrArg (fun q=>q.1.b) (tV ab ab ab)).symm | exact (congrArg (fun q=>q.1.c) (tV ab ab ab)).symm | exact (congrArg (fun q=>q.1.bin) (tV ab ab ab)).symm | exact (congrArg (fun q=>q.1.ok) (tV ab ab ab)).symm | exact (congrArg (fun q=>q.1.l) (tV ab ab ab)).symm | exact (congrArg (fun q=>q.1.l) (qq ab)) | exact (congrArg (fun q=>q.1.l) (qv ab ab ab)))
noncomputable def ab2:bN:=(aO 120 Fw (aO 48 AG (aO 169 Fc (aO 148 EO (aO 216 vu (aO 217 Gb (aO 215 Bh (aO 214 vV (aO 83 Gw adS)))))))))
theorem oy:ay Tryz.prog (al tyT) ab2:=(ah QH (ah Lx (ah SN (ah Qq (ah IB (ah Rf (ah MW (ah HY (ah QP gL)))))))))
variable {r:Record}
theorem QS (h:((((((dK bM r.kind).isSome=false\/r.a<(((dK bM r.kind).getD kz).getD 0 KC.nf).int)\/(((dK bM r.kind).getD kz).getD 1 KC.nf).int<r.a)\/r.b<0)\/(((dK bM r.kind).getD kz).getD 3 KC.nf).int<r.b)\/(((dK bM r.kind).getD kz).getD 4 KC.nf).int<(r.x.length:Int))):aI r=([],1):=by
 rw [aI,if_neg];intro e;simp only [recOk,Bool.and_eq_true,decide_eq_true_eq] at e;obtain ⟨⟨⟨⟨⟨h0,h1⟩,h2⟩,h3⟩,h4⟩,h5⟩:=e;unfold UU at h1 h2 h4 h5;rcases h with ((((h | h) | h) | h) | h) | h
 ·rw [h0] at h; cases h
 all_goals omega
theorem zf (h1:(dK bM r.kind).isSome=true) (h2:(((dK bM r.kind).getD kz).getD 0 KC.nf).int<=r.a) (h3:r.a<=(((dK bM r.kind).getD kz).getD 1 KC.nf).int) (h4:0<=r.b) (h5:r.b<=(((dK bM r.kind).getD kz).getD 3 KC.nf).int) (h6:(r.x.length:Int)<=(((dK bM r.kind).getD kz).getD 4 KC.nf).int):recOk r=true:=by
 simp only [recOk,Bool.and_eq_true,decide_eq_true_eq];exact ⟨⟨⟨⟨⟨h1,h2⟩,h3⟩,h4⟩,h5⟩,h6⟩
theorem jw (h:recOk r=true):1<=r.kind/\r.kind<=4/\0<=r.a/\r.a<=1048576/\0<=r.b/\r.b<=1048576/\r.x.length<=200/\(cY r.a.toNat).length<=10/\(cY r.b.toNat).length<=10:=by
 have h1:=cS (n:=r.a.toNat) (by rcases bP.1 h with h | h | h | h <;> omega);have h2:=cS (n:=r.b.toNat) (by rcases bP.1 h with h | h | h | h <;> omega);have h3:r.x.length<=200:=by rcases bP.1 h with h | h | h | h <;> first | omega | simp [h]
 rcases bP.1 h with h | h | h | h <;> omega
theorem Du (h:recOk r=true):aI r=(dz r,0):=by rw [aI,if_pos h]
theorem ahj (h:recOk r=true) (h2:(((dK bM r.kind).getD kz).getD 2 KC.nf).bool=true):[UInt8.ofNat r.kind.toNat]++cY r.a.toNat++cY r.b.toNat++r.x=(aI r).1:=by
 rw [Du h,dz,if_pos (show uf r.kind=true from h2)]
theorem ahz (h:recOk r=true) (h2:(((dK bM r.kind).getD kz).getD 2 KC.nf).bool=false):[UInt8.ofNat r.kind.toNat]++cY r.a.toNat++r.x=(aI r).1:=by
 rw [Du h,dz,if_neg (by rw [show uf r.kind=false from h2]; decide),adI]
theorem ad1 (b:List UInt8):(((aj b).2.1:Nat):Int)<=(b.length:Nat):=by
 have:=(m_ (l:=b) (k:=0) (n:=0) (by omega)).2;show (((bT 0 0 b).2.1:Nat):Int)<=_;omega
theorem YZ (hx:b[0]? = some x):(b.getD 0 (au .u8):UInt8)=x:=by
 rw [List.getD_eq_getElem?_getD,hx]; rfl
theorem Q_ (hx:b[0]? = some x):¬ b.length=0:=by
 have:=(aaj.1 hx).1; omega
theorem um (h:(b.length:Int)=0):bH b=(uw,false):=if_pos (by omega)
theorem ur (hx:b[0]? = some x) (h1:¬ (aj (b.drop 1)).2.2=0):bH b=(uw,false):=by
 rw [bH,if_neg (Q_ hx),if_pos h1]
theorem ub (hx:b[0]? = some x) (h1:(aj (b.drop 1)).2.2=0) (h2:(((dK bM (x.toNat:Int)).getD kz).getD 2 KC.nf).bool=true) (h3:¬ (aj ((b.drop 1).drop (aj (b.drop 1)).2.1)).2.2=0):bH b=(uw,false):=by
 rw [bH,if_neg (Q_ hx),if_neg (acs.2 h1),YZ hx,if_pos (show uf (x.toNat:Int)=true from h2),if_pos h3]
theorem ud (hx:b[0]? = some x) (h1:(aj (b.drop 1)).2.2=0) (h2:(((dK bM (x.toNat:Int)).getD kz).getD 2 KC.nf).bool=true) (h3:(aj ((b.drop 1).drop (aj (b.drop 1)).2.1)).2.2=0):bH b=(⟨(x.toNat:Int),eX (aj (b.drop 1)).1,eX (aj ((b.drop 1).drop (aj (b.drop 1)).2.1)).1,((b.drop 1).drop (aj (b.drop 1)).2.1).drop (aj ((b.drop 1).drop (aj (b.drop 1)).2.1)).2.1⟩,true):=by
 rw [bH,if_neg (Q_ hx),if_neg (acs.2 h1),YZ hx,if_pos (show uf (x.toNat:Int)=true from h2),if_neg (acs.2 h3)]
theorem uk (hx:b[0]? = some x) (h1:(aj (b.drop 1)).2.2=0) (h2:(((dK bM (x.toNat:Int)).getD kz).getD 2 KC.nf).bool=false):bH b=(⟨(x.toNat:Int),eX (aj (b.drop 1)).1,0,(b.drop 1).drop (aj (b.drop 1)).2.1⟩,true):=by
 rw [bH,if_neg (Q_ hx),if_neg (acs.2 h1),YZ hx,if_neg (by rw [show uf (x.toNat:Int)=false from h2]; decide)]
variable {x:Letter}
theorem HE {s:Stable} (h:¬ mayL x=0\/¬ x.kind=1):aH s x=([],false,1):=if_pos h
theorem Ig {s:Stable} (h0:mayL x=0) (h1:x.kind=1) (h:(x.term<s.term\/(decide (s.term<x.term) || decide (s.vote=0) || decide (s.vote=x.frm+1))=false)\/ke s.log x.a x.b=false):aH s x=(aA s x.term,false,0):=by
 rw [aH,if_neg (by omega)]; exact if_pos h
theorem abn {s:Stable} (h0:mayL x=0) (h1:x.kind=1) (h2:s.term<=x.term) (h3:(decide (s.term<x.term) || decide (s.vote=0) || decide (s.vote=x.frm+1))=true) (h4:ke s.log x.a x.b=true):aH s x=if x.term=s.term/\s.vote=x.frm+1 then ([],true,0) else ([⟨2,x.term,x.frm+1,[]⟩],true,0):=by
 rw [aH,if_neg (by omega),if_neg];rintro ((h | h) | h)
 ·omega
 ·rw [show EH s x=true from h3] at h; cases h
 rw [h4] at h; cases h
theorem Ih {s:Stable} (h0:mayL x=0) (h1:x.kind=1) (h2:s.term<=x.term) (h3:(decide (s.term<x.term) || decide (s.vote=0) || decide (s.vote=x.frm+1))=true) (h4:ke s.log x.a x.b=true) (h5:x.term=s.term) (h6:s.vote=x.frm+1):aH s x=([],true,0):=by
 rw [abn h0 h1 h2 h3 h4,if_pos ⟨h5,h6⟩]
theorem Hu {s:Stable} (h0:mayL x=0) (h1:x.kind=1) (h2:s.term<=x.term) (h3:(decide (s.term<x.term) || decide (s.vote=0) || decide (s.vote=x.frm+1))=true) (h4:ke s.log x.a x.b=true) (h5:¬ x.term=s.term\/¬ s.vote=x.frm+1):aH s x=([⟨2,x.term,x.frm+1,[]⟩],true,0):=by
 rw [abn h0 h1 h2 h3 h4,if_neg (by omega)]
def ef (s:Stable) (x:Letter) (k:Nat):List Record:=aA s x.term++(if (bd s.log x.a x.l).1=0 then [] else [⟨4,(bd s.log x.a x.l).1,0,[]⟩])++fa (x.a+x.l.length - (bd s.log x.a x.l).2.length+1) ((bd s.log x.a x.l).2.take k)
theorem sT:∀ {n:Int} {l:List Entry} {y:Entry},fa n (l++[y])=fa n l++[⟨3,n+l.length,y.term,y.b⟩]
 | n,[],y=>by simp [fa]
 | n,z :: l,y=>by
  rw [List.cons_append,fa,sT,fa,List.cons_append,List.length_cons];simp; omega
theorem vr:∀ {n:Int} {l:List Entry},(fa n l).length=l.length
 | _,[]=>rfl
 | n,_ :: l=>by rw [fa,List.length_cons,List.length_cons,vr]
theorem af8 {s:Stable} (h:¬ (bd s.log x.a x.l).1=0):aA s x.term++[Record.mk 4 (bd s.log x.a x.l).1 0 []]=ef s x 0:=by
 rw [ef,if_neg h,ai7,fa,adI]
theorem ag5 {s:Stable} (h:(bd s.log x.a x.l).1=0):aA s x.term=ef s x 0:=by
 rw [ef,if_pos h,ai7,fa,adI,adI]
theorem aiw {s:Stable} {y:Entry} (h:(bd s.log x.a x.l).2[k]? = some y):ef s x k++[Record.mk 3 (x.a+x.l.length - (bd s.log x.a x.l).2.length+k+1) y.term y.b]=ef s x (k+1):=by
 have hk:=(aaj.1 h).1;rw [ef,ef,ai h,sT,List.append_assoc,List.length_take,aey (by omega)];congr 4; omega
theorem AD {s:Stable} (h:(¬ mayL x=0\/¬ x.kind=3)\/64<x.a+x.l.length):aB s x=([],false,0,1):=if_pos h
theorem zF {s:Stable} (h0:mayL x=0) (h1:x.kind=3) (h2:x.a+x.l.length<=64) (h3:x.term<s.term):aB s x=([],false,0,0):=by
 rw [aB,if_neg (by omega),if_pos h3]
theorem At {s:Stable} (h0:mayL x=0) (h1:x.kind=3) (h2:x.a+x.l.length<=64) (h3:s.term<=x.term) (h4:decide (cJ s.log x.a=x.b)=false):aB s x=(aA s x.term,false,0,0):=by
 rw [aB,if_neg (by omega),if_neg (by omega),if_neg (ag4 h4)]
theorem zp {s:Stable} (h0:mayL x=0) (h1:x.kind=3) (h2:x.a+x.l.length<=64) (h3:s.term<=x.term) (h4:decide (cJ s.log x.a=x.b)=true) (h5:((bd s.log x.a x.l).2.length:Int)<=k):aB s x=(ef s x k,true,x.a+x.l.length,0):=by
 rw [aB,if_neg (by omega),if_neg (by omega),if_pos (of_decide_eq_true h4),ef,List.take_of_length_le (by omega)]; rfl
theorem uJ {k:Int}:(bd l k m).2.length<=m.length/\0<=(bd l k m).1/\(bd l k m).1<=l.length+1:=by
 have:=lT (h:=l.drop k.toNat) (a:=m);unfold bd;split
 ·simp; omega
 split
 ·simp; omega
 split
 ·simp; omega
 rw [List.length_drop] at *;refine ⟨by simp,by dsimp only; omega,by dsimp only; omega⟩
theorem XP {s:Stable}:(ef s x k).length<=2+x.l.length:=by
 have:=(uJ (l:=s.log) (m:=x.l) (k:=x.a)).1;simp only [ef,List.length_append,vr,List.length_take];have h1:(aA s x.term).length<=1:=by unfold aA; split <;> simp
 split <;> simp <;> omega
theorem adY {s:Stable} (h:mayL x=0):((ef s x k).length+[r].length)*48<=140737488355328:=by
 have:=fI h;have:=XP (s:=s) (x:=x) (k:=k);simp only [List.length_cons,List.length_nil]; omega
theorem ach {s:Stable}:((aA s n).length+[r].length)*48<=140737488355328:=by
 have h1:(aA s n).length<=1:=by unfold aA; split <;> simp
 simp only [List.length_cons,List.length_nil]; omega
def Yn (s:Stable) (x:Letter):List (Nat × LI):=[(13,{ σ:=Nat,F:=fun k=>([(4,one (.own 0)),(6,one (.int (x.a+x.l.length))),(9,one (.fz (.nm .entry) (bd s.log x.a x.l).2)),(70,one (.fz (.nm .entry) (bd s.log x.a x.l).2)),(71,one (.int (bd s.log x.a x.l).2.length)),(72,one (.int k))],[.row 108 (.nm .record) ((ef s x k))]),J:=fun k=>k<=(bd s.log x.a x.l).2.length,μ:=fun k=>(bd s.log x.a x.l).2.length - k })]
noncomputable def Gc:Kn:=aK (ae (kT (.nm .record)) ao) aw fun (r,_) _=>⟨[],[.c (.fz .u8 (((aI r).1))),.c (.int (((aI r).2)))],none,false⟩
theorem Ec:CK 145 Gc:=ag fun (r,_) _ _=>by
 refine av oy [] Tryz.func145 (?_:(fun q3=>(fun q2=>(fun q1=>(fun q0=>dR r (((((((dK bM r.kind).isSome=false\/r.a<(q0.getD 0 KC.nf).int)\/(q0.getD q3 KC.nf).int<r.a)\/r.b<q2)\/(q0.getD 3 KC.nf).int<r.b)\/(q0.getD 4 KC.nf).int<(↑r.x.length:Int)->(aI r).fst=[]/\1=(aI r).snd)/\((((((dK bM r.kind).isSome=true/\(q0.getD 0 KC.nf).int<=r.a)/\r.a<=(q0.getD q3 KC.nf).int)/\q2<=r.b)/\r.b<=(q0.getD 3 KC.nf).int)/\(↑r.x.length:Int)<=(q0.getD 4 KC.nf).int->q2<=r.kind/\q2<=r.a/\([UInt8.ofNat r.kind.toNat].length+(cY r.a.toNat).length)*q3<=140737488355328/\((q0.getD 2 KC.nf).bool=true->q2<=r.b/\(q1.length+(cY r.b.toNat).length)*q3<=140737488355328/\((q1++cY r.b.toNat).length+r.x.length)*q3<=140737488355328/\q1++cY r.b.toNat++r.x=(aI r).fst/\q2=(aI r).snd)/\((q0.getD 2 KC.nf).bool=false->(q1.length+r.x.length)*q3<=140737488355328/\q1++r.x=(aI r).fst/\q2=(aI r).snd)))) ((dK bM r.kind).getD [KC.i q2,KC.i q2,KC.b false,KC.i q2,KC.i q2,KC.nf])) ([UInt8.ofNat r.kind.toNat]++cY r.a.toNat)) (0:Int)) (1:Nat));(repeat' with_reducible first|apply aZ|refine aY ?_|intro)
 all_goals (first | exact bt | exact (congrArg (fun q=>q.1) (QS ab)) | exact (congrArg (fun q=>q.1) (QS ab)).symm | exact (congrArg (fun q=>q.2) (QS ab)) | exact (congrArg (fun q=>q.2) (QS ab)).symm | exact (congrArg (fun q=>q.1) (Du (zf ab ab ab ab ab ab))) | exact (congrArg (fun q=>q.1) (Du (zf ab ab ab ab ab ab))).symm | exact (congrArg (fun q=>q.2) (Du (zf ab ab ab ab ab ab))) | exact (congrArg (fun q=>q.2) (Du (zf ab ab ab ab ab ab))).symm | exact (ahj (zf ab ab ab ab ab ab) ab) | exact (ahz (zf ab ab ab ab ab ab) ab) | (have hr:=jw (zf ab ab ab ab ab ab); omega) | (have hr:=jw (zf ab ab ab ab ab ab); simp only [List.length_append,List.length_cons,List.length_nil]; omega))
theorem Um (r:Record):Sat Tryz.prog (al tyT) 145 [.agg (cellsOf (.nm .record) r)] [] ⟨[],[.c (.fz .u8 (((aI r).1))),.c (.int (((aI r).2)))],none,false⟩:=Ec _ _ _ rfl (by simp)
noncomputable def vk:Kn:=aK (ae (kC (cL .u8)) ao) aw fun (b,_) _=>⟨[],[.agg (cellsOf (.nm .record) ((bH b).1)),.c (.bool (.atom (((bH b).2))))],none,false⟩
theorem Ia:CK 144 vk:=ag fun (b,_) _ _=>by
 refine av oy [] Tryz.func144 (?_:(fun q6=>(fun q5=>(fun q4=>(fun q3=>(fun q7=>(fun q2=>(fun q1=>(fun q0=>(fun q8=>b.length*q5<=140737488355328->(q6=q3->q1)/\(¬q6=q3->q3<=q3/\q3<q6/\∀ (x:UInt8),(fun q9=>b[(0:Nat)]? = some x->q3<=1/\1<=q6/\(q2.fst<18446744073709551616->I64 (↑q2.snd.fst:Int)->I64 q2.snd.snd->(¬q2.snd.snd=q3->q1)/\(q2.snd.snd=q3->(q3<=(↑q2.snd.fst:Int)/\(↑q2.snd.fst:Int)<=(↑(List.drop q5 b).length:Int))/\(q9=true->(aj q0).fst<18446744073709551616->I64 (↑q8.fst:Int)->I64 q8.snd->(¬q8.snd=q3->q1)/\(q8.snd=q3->(q3<=(↑q8.fst:Int)/\(↑q8.fst:Int)<=(↑q0.length:Int))/\((List.drop q8.fst q0).length*q5<=140737488355328->rL (Record.mk (↑x.toNat:Int) (eX q2.fst) (eX (aj q0).fst) (List.drop q8.fst q0)) q4 (true=(bH b).snd))))/\(q9=false->q0.length*q5<=140737488355328->rL (Record.mk (↑x.toNat:Int) (eX q2.fst) q3 q0) q4 (true=(bH b).snd))))) (((dK bM (↑x.toNat:Int)).getD q7).getD 2 KC.nf).bool)) (aj q0).snd) (List.drop q2.snd.fst (List.drop q5 b))) (q3=q4.kind/\q3=q4.a/\q3=q4.b/\q4.x=[]/\false=(bH b).snd)) (aj (List.drop q5 b))) [KC.i q3,KC.i q3,KC.b false,KC.i q3,KC.i q3,KC.nf]) (0:Int)) (bH b).fst) (1:Nat)) (↑b.length:Int));(repeat' with_reducible first|apply aZ|refine aY ?_|intro)
 all_goals (first | exact bt | exact (congrArg (fun q=>q.2) (um ab)) | exact (congrArg (fun q=>q.2) (um ab)).symm | exact (congrArg (fun q=>q.1.kind) (um ab)) | exact (congrArg (fun q=>q.1.kind) (um ab)).symm | exact (congrArg (fun q=>q.1.a) (um ab)) | exact (congrArg (fun q=>q.1.a) (um ab)).symm | exact (congrArg (fun q=>q.1.b) (um ab)) | exact (congrArg (fun q=>q.1.b) (um ab)).symm | exact (congrArg (fun q=>q.1.x) (um ab)) | exact (congrArg (fun q=>q.1.x) (um ab)).symm | exact (congrArg (fun q=>q.2) (ur ab ab)) | exact (congrArg (fun q=>q.2) (ur ab ab)).symm | exact (congrArg (fun q=>q.1.kind) (ur ab ab)) | exact (congrArg (fun q=>q.1.kind) (ur ab ab)).symm | exact (congrArg (fun q=>q.1.a) (ur ab ab)) | exact (congrArg (fun q=>q.1.a) (ur ab ab)).symm | exact (congrArg (fun q=>q.1.b) (ur ab ab)) | exact (congrArg (fun q=>q.1.b) (ur ab ab)).symm | exact (congrArg (fun q=>q.1.x) (ur ab ab)) | exact (congrArg (fun q=>q.1.x) (ur ab ab)).symm | exact (congrArg (fun q=>q.2) (ub ab ab ab ab)) | exact (congrArg (fun q=>q.2) (ub ab ab ab ab)).symm | exact (congrArg (fun q=>q.1.kind) (ub ab ab ab ab)) | exact (congrArg (fun q=>q.1.kind) (ub ab ab ab ab)).symm | exact (congrArg (fun q=>q.1.a) (ub ab ab ab ab)) | exact (congrArg (fun q=>q.1.a) (ub ab ab ab ab)).symm | exact (congrArg (fun q=>q.1.b) (ub ab ab ab ab)) | exact (congrArg (fun q=>q.1.b) (ub ab ab ab ab)).symm | exact (congrArg (fun q=>q.1.x) (ub ab ab ab ab)) | exact (congrArg (fun q=>q.1.x) (ub ab ab ab ab)).symm | exact (congrArg (fun q=>q.2) (ud ab ab ab ab)) | exact (congrArg (fun q=>q.2) (ud ab ab ab ab)).symm | exact (congrArg (fun q=>q.1.kind) (ud ab ab ab ab)) | exact (congrArg (fun q=>q.1.kind) (ud ab ab ab ab)).symm | exact (congrArg (fun q=>q.1.a) (ud ab ab ab ab)) | exact (congrArg (fun q=>q.1.a) (ud ab ab ab ab)).symm | exact (congrArg (fun q=>q.1.b) (ud ab ab ab ab)) | exact (congrArg (fun q=>q.1.b) (ud ab ab ab ab)).symm | exact (congrArg (fun q=>q.1.x) (ud ab ab ab ab)) | exact (congrArg (fun q=>q.1.x) (ud ab ab ab ab)).symm | exact (congrArg (fun q=>q.2) (uk ab ab ab)) | exact (congrArg (fun q=>q.2) (uk ab ab ab)).symm | exact (congrArg (fun q=>q.1.kind) (uk ab ab ab)) | exact (congrArg (fun q=>q.1.kind) (uk ab ab ab)).symm | exact (congrArg (fun q=>q.1.a) (uk ab ab ab)) | exact (congrArg (fun q=>q.1.a) (uk ab ab ab)).symm | exact (congrArg (fun q=>q.1.b) (uk ab ab ab)) | exact (congrArg (fun q=>q.1.b) (uk ab ab ab)).symm | exact (congrArg (fun q=>q.1.x) (uk ab ab ab)) | exact (congrArg (fun q=>q.1.x) (uk ab ab ab)).symm | exact (ad1 _))
noncomputable def uY:Kn:=aK (ae (kT (.nm .stable)) (ae (kT (.nm .letter)) ao)) aw fun (s,x,_) _=>⟨[],[.c (.fz (.nm .record) (((aH s x).1))),.c (.bool (.atom (((aH s x).2.1)))),.c (.int (((aH s x).2.2)))],none,false⟩
theorem Hi:CK 98 uY:=ag fun (s,x,_) _ _=>by
 refine av oy [] Tryz.func98 (?_:(fun q4=>(fun q3=>(fun q2=>(fun q1=>(fun q5=>(fun q0=>cf s (aJ x (I64 (mayL x)->(¬mayL x=q3\/¬x.kind=1->q4=[]/\false=q1.fst/\1=q1.snd)/\(mayL x=q3/\x.kind=1->I64 q2/\((x.term<s.term\/q0=false)\/ke s.log x.a x.b=false->aA s x.term=q4/\false=q1.fst/\q3=q1.snd)/\((s.term<=x.term/\q0=true)/\ke s.log x.a x.b=true->(x.term=s.term/\s.vote=q2->q4=[]/\q5)/\(¬x.term=s.term\/¬s.vote=q2->[Record.mk 2 x.term q2 []]=q4/\q5)))))) (decide (s.term<x.term) || decide (s.vote=q3) || decide (s.vote=q2))) (true=q1.fst/\q3=q1.snd)) (aH s x).snd) (x.frm+1)) (0:Int)) (aH s x).fst);(repeat' with_reducible first|apply aZ|refine aY ?_|intro)
 all_goals (first | exact bt | exact (congrArg (fun q=>q.1) (HE ab)) | exact (congrArg (fun q=>q.1) (HE ab)).symm | exact (congrArg (fun q=>q.2.1) (HE ab)) | exact (congrArg (fun q=>q.2.1) (HE ab)).symm | exact (congrArg (fun q=>q.2.2) (HE ab)) | exact (congrArg (fun q=>q.2.2) (HE ab)).symm | exact (congrArg (fun q=>q.1) (Ig ab ab ab)) | exact (congrArg (fun q=>q.1) (Ig ab ab ab)).symm | exact (congrArg (fun q=>q.2.1) (Ig ab ab ab)) | exact (congrArg (fun q=>q.2.1) (Ig ab ab ab)).symm | exact (congrArg (fun q=>q.2.2) (Ig ab ab ab)) | exact (congrArg (fun q=>q.2.2) (Ig ab ab ab)).symm | exact (congrArg (fun q=>q.1) (Ih ab ab ab ab ab ab ab)) | exact (congrArg (fun q=>q.1) (Ih ab ab ab ab ab ab ab)).symm | exact (congrArg (fun q=>q.2.1) (Ih ab ab ab ab ab ab ab)) | exact (congrArg (fun q=>q.2.1) (Ih ab ab ab ab ab ab ab)).symm | exact (congrArg (fun q=>q.2.2) (Ih ab ab ab ab ab ab ab)) | exact (congrArg (fun q=>q.2.2) (Ih ab ab ab ab ab ab ab)).symm | exact (congrArg (fun q=>q.1) (Hu ab ab ab ab ab ab)) | exact (congrArg (fun q=>q.1) (Hu ab ab ab ab ab ab)).symm | exact (congrArg (fun q=>q.2.1) (Hu ab ab ab ab ab ab)) | exact (congrArg (fun q=>q.2.1) (Hu ab ab ab ab ab ab)).symm | exact (congrArg (fun q=>q.2.2) (Hu ab ab ab ab ab ab)) | exact (congrArg (fun q=>q.2.2) (Hu ab ab ab ab ab ab)).symm | (have:=fI ab; exact bR aL aL))
noncomputable def FW:Kn:=aK (ae (kT (.nm .stable)) (ae (kT (.nm .letter)) ao)) aw fun (s,x,_) _=>⟨[],[.c (.fz (.nm .record) (((aB s x).1))),.c (.bool (.atom (((aB s x).2.1)))),.c (.int (((aB s x).2.2.1))),.c (.int (((aB s x).2.2.2)))],none,false⟩
set_option maxRecDepth 8000 in
theorem RR:CK 95 FW:=ag fun (s,x,_) _ _=>by
 refine av oy (Yn s x) Tryz.func95 (?_:(fun (q10:List Record)=>(fun (q9:Nat)=>(fun (q8:List Record)=>(fun (q7:Int)=>(fun (q6:Int)=>(fun (q5:Int)=>(fun (q4:Int)=>(fun (q3:Int)=>(fun (q2:Bool × Int × Int)=>(fun (q11:Prop)=>(fun (q1:Int)=>(fun (q12:Prop)=>(fun (q0:List Entry)=>(fun (q16:Prop)=>(fun (q15:Int)=>(fun (q14:Nat)=>(fun (q17:Int)=>(fun (q13:Int)=>cf s (aJ x (I64 (mayL x)->(mayL x=q4/\x.kind=q7->I64 q3)/\((¬mayL x=q4\/¬x.kind=q7)\/64<q3->q8=[]/\false=q2.fst/\q4=q2.snd.fst/\q6=q2.snd.snd)/\((mayL x=q4/\x.kind=q7)/\q3<=64->(x.term<s.term->q8=[]/\q11)/\(s.term<=x.term->(decide (cJ s.log x.a=x.b)=false->q10=q8/\q11)/\(decide (cJ s.log x.a=x.b)=true->I64 q3/\(I64 q5->q0.length*32<=q9->(¬q5=q4->(q10.length+[Record.mk 4 q5 q4 []].length)*48<=q9/\∃ (s0:Nat),(q3=q1/\q16/\q16/\q15=q17/\q4=(↑s0:Int)/\q10++[Record.mk 4 q5 q4 []]=ef s x s0)/\s0<=q14/\∀ (s_1:Nat),(fun (q18:Int)=>s_1<=q14->((↑s_1:Int)<q17->q4<=(↑s_1:Int)/\(↑s_1:Int)<q15/\∀ (x_1:Entry),q0[s_1]? = some x_1->I64 x_1.term->x_1.b.length*1<=q9->I64 q13/\I64 (q13+(↑s_1:Int))/\I64 q18/\((ef s x s_1).length+[Record.mk q7 q18 x_1.term x_1.b].length)*48<=q9/\I64 ((↑s_1:Int)+q6)/\∃ (s':Nat),(q1=q1/\q16/\q16/\q17=q17/\(↑s_1:Int)+q6=(↑s':Int)/\ef s x s_1++[Record.mk q7 q18 x_1.term x_1.b]=ef s x s')/\s' <= q14/\q14 - s' < q14 - s_1)/\(q17<=(↑s_1:Int)->ef s x s_1=q8/\q12)) (q13+(↑s_1:Int)+q6))/\(q5=q4->∃ (s0:Nat),(q3=q1/\q16/\q16/\q15=q17/\q4=(↑s0:Int)/\q10=ef s x s0)/\s0<=q14/\∀ (s_1:Nat),(fun (q19:Int)=>s_1<=q14->((↑s_1:Int)<q17->q4<=(↑s_1:Int)/\(↑s_1:Int)<q15/\∀ (x_1:Entry),q0[s_1]? = some x_1->I64 x_1.term->x_1.b.length*1<=q9->I64 q13/\I64 (q13+(↑s_1:Int))/\I64 q19/\((ef s x s_1).length+[Record.mk q7 q19 x_1.term x_1.b].length)*48<=q9/\I64 ((↑s_1:Int)+q6)/\∃ (s':Nat),(q1=q1/\q16/\q16/\q17=q17/\(↑s_1:Int)+q6=(↑s':Int)/\ef s x s_1++[Record.mk q7 q19 x_1.term x_1.b]=ef s x s')/\s' <= q14/\q14 - s' < q14 - s_1)/\(q17<=(↑s_1:Int)->ef s x s_1=q8/\q12)) (q13+(↑s_1:Int)+q6))))))))) (q1 - q15)) (↑q14:Int)) q0.length) (↑q0.length:Int)) (q0=q0)) (bd s.log x.a x.l).snd) (true=q2.fst/\q1=q2.snd.fst/\q4=q2.snd.snd)) (x.a+(↑x.l.length:Int))) (false=q2.fst/\q4=q2.snd.fst/\q4=q2.snd.snd)) (aB s x).snd) (x.a+(↑x.l.length:Int))) 0) (bd s.log x.a x.l).fst) 1) 3) (aB s x).fst) 140737488355328) (aA s x.term));iterate 3 ((all_goals (repeat' with_reducible first|apply aZ|refine aY ?_|intro)); (all_goals try (first | exact bt | (with_reducible exact af8 ab) | (with_reducible exact ag5 ab) | (with_reducible exact aiw ab) | (with_reducible exact adY ab) | (with_reducible exact ach) | (with_reducible exact (congrArg (fun q=>q.1) (AD ab))) | (with_reducible exact (congrArg (fun q=>q.1) (AD ab)).symm) | (with_reducible exact (congrArg (fun q=>q.2.1) (AD ab))) | (with_reducible exact (congrArg (fun q=>q.2.1) (AD ab)).symm) | (with_reducible exact (congrArg (fun q=>q.2.2.1) (AD ab))) | (with_reducible exact (congrArg (fun q=>q.2.2.1) (AD ab)).symm) | (with_reducible exact (congrArg (fun q=>q.2.2.2) (AD ab))) | (with_reducible exact (congrArg (fun q=>q.2.2.2) (AD ab)).symm) | (with_reducible exact (congrArg (fun q=>q.1) (zF ab ab ab ab))) | (with_reducible exact (congrArg (fun q=>q.1) (zF ab ab ab ab)).symm) | (with_reducible exact (congrArg (fun q=>q.2.1) (zF ab ab ab ab))) | (with_reducible exact (congrArg (fun q=>q.2.1) (zF ab ab ab ab)).symm) | (with_reducible exact (congrArg (fun q=>q.2.2.1) (zF ab ab ab ab))) | (with_reducible exact (congrArg (fun q=>q.2.2.1) (zF ab ab ab ab)).symm) | (with_reducible exact (congrArg (fun q=>q.2.2.2) (zF ab ab ab ab))) | (with_reducible exact (congrArg (fun q=>q.2.2.2) (zF ab ab ab ab)).symm) | (with_reducible exact (congrArg (fun q=>q.1) (At ab ab ab ab ab))) | (with_reducible exact (congrArg (fun q=>q.1) (At ab ab ab ab ab)).symm) | (with_reducible exact (congrArg (fun q=>q.2.1) (At ab ab ab ab ab))) | (with_reducible exact (congrArg (fun q=>q.2.1) (At ab ab ab ab ab)).symm) | (with_reducible exact (congrArg (fun q=>q.2.2.1) (At ab ab ab ab ab))) | (with_reducible exact (congrArg (fun q=>q.2.2.1) (At ab ab ab ab ab)).symm) | (with_reducible exact (congrArg (fun q=>q.2.2.2) (At ab ab ab ab ab))) | (with_reducible exact (congrArg (fun q=>q.2.2.2) (At ab ab ab ab ab)).symm) | (with_reducible exact (congrArg (fun q=>q.1) (zp ab ab ab ab ab ab))) | (with_reducible exact (congrArg (fun q=>q.1) (zp ab ab ab ab ab ab)).symm) | (with_reducible exact (congrArg (fun q=>q.2.1) (zp ab ab ab ab ab ab))) | (with_reducible exact (congrArg (fun q=>q.2.1) (zp ab ab ab ab ab ab)).symm) | (with_reducible exact (congrArg (fun q=>q.2.2.1) (zp ab ab ab ab ab ab))) | (with_reducible exact (congrArg (fun q=>q.2.2.1) (zp ab ab ab ab ab ab)).symm) | (with_reducible exact (congrArg (fun q=>q.2.2.2) (zp ab ab ab ab ab ab))) | (with_reducible exact (congrArg (fun q=>q.2.2.2) (zp ab ab ab ab ab ab)).symm) | (have h:=fI ab; have hm:=uJ (l:=s.log) (m:=x.l) (k:=x.a); refine bR ?_ ?_ <;> omega))); all_goals try first | refine ⟨‹Nat› + 1,?_⟩ | refine ⟨0,?_⟩)
noncomputable def Ca:bN:=(aO 95 FW (aO 98 uY (aO 144 vk (aO 145 Gc ab2))))
theorem jH:ay Tryz.prog (al tyT) Ca:=(ah RR (ah Hi (ah Ia (ah Ec oy))))
theorem Jo (r:Record) (h0:recOk r=false):Sat Tryz.prog (al tyT) 145 [.agg (cellsOf (.nm .record) r)] [] ⟨[recOk r=false],[.c (.fz .u8 (([]))),.c (.int ((1)))],none,false⟩:=by
 have e:aI r=([],1):=by rw [aI,if_neg (by rw [h0]; decide)]
 have h:=Um r;rw [e] at h; exact ⟨h.1,h.2⟩
noncomputable def yP:Kn:=aK (ae (kT (.nm .record)) ao) aw fun (r,_) _=>⟨[recOk r=false],[.c (.fz .u8 (([]))),.c (.int ((1)))],none,false⟩
theorem Mj:CK 145 yP:=ag fun (r,_) _ hp=>Jo r (cc hp)
theorem NU  (h0:False):Sat Tryz.prog (al tyT) 148 [] [] ⟨[False],[.c (.xx (.km []) [])],none,false⟩:=h0.elim
noncomputable def yy:Kn:=aK ao aw fun _ _=>⟨[False],[.c (.xx (.km []) [])],none,false⟩
theorem JN:CK 148 yy:=ag fun _ _ hp=>NU  (cc hp)
noncomputable def WA:bN:=(aO 148 yy (aO 145 yP Ca))
theorem JB:ay Tryz.prog (al tyT) WA:=(ah JN (ah Mj jH))
theorem mB (h:(bH b).2=false):bV b=(uw,3):=if_pos h
theorem mo (h:(bH b).2=true) (h2:¬ (aI (bH b).1).2=0\/decide ((aI (bH b).1).1=b)=false):bV b=(uw,3):=by
 rw [bV,if_neg (by rw [h]; decide),if_pos];exact h2.imp id ag4
theorem mz (h:(bH b).2=true) (h2:(aI (bH b).1).2=0) (h3:decide ((aI (bH b).1).1=b)=true):bV b=((bH b).1,0):=by
 rw [bV,if_neg (by rw [h]; decide),if_neg];rintro (k | k)
 ·exact k h2
 exact k (of_decide_eq_true h3)
theorem dy:(aI r).2=0↔recOk r=true:=by
 unfold aI;split
 ·rename_i h; simp [h]
 rename_i h; simp [h]
theorem nC (h:¬ (aI r).2=0):(aI r).2=1/\recOk r=false:=by
 unfold aI at h ⊢;split at h
 ·exact absurd rfl h
 rename_i h2; rw [if_neg h2]; exact ⟨rfl,by simpa using h2⟩
theorem UH (s:Stable) (a b:Int) (x:List UInt8) (r0:Stable) (r1:Int):Vn tyT Ca [] Tryz.f85 [.agg (cellsOf (.nm .stable) s),.agg [.int 1,.int a,.int b,.fz .u8 x]] [] [.agg (cellsOf (.nm .stable) r0),.c (.int r1)]=((fun q0=>(fun q1=>cf s (I64 1->I64 a->I64 b->x.length*1<=140737488355328->(aI q0).fst.length*1<=140737488355328->I64 q1->(¬q1=0->I64 s.floor->I64 s.term->I64 s.vote->aE s r0 (q1=r1))/\(q1=0->I64 s.floor->I64 s.term->I64 s.vote->((dP s q0).isSome=false->I64 s.floor->I64 s.term->I64 s.vote->aE s r0 (5=r1))/\((dP s q0).isSome=true->aE ((dP s q0).getD s) r0 (0=r1))))) (aI q0).snd) (Record.mk 1 a b x)):=bE
theorem Tq (s:Stable) (a b:Int) (x:List UInt8) (r0:Stable) (r1:Int):Vn tyT Ca [] Tryz.f85 [.agg (cellsOf (.nm .stable) s),.agg [.int 2,.int a,.int b,.fz .u8 x]] [] [.agg (cellsOf (.nm .stable) r0),.c (.int r1)]=((fun q0=>(fun q1=>cf s (I64 2->I64 a->I64 b->x.length*1<=140737488355328->(aI q0).fst.length*1<=140737488355328->I64 q1->(¬q1=0->I64 s.floor->I64 s.term->I64 s.vote->aE s r0 (q1=r1))/\(q1=0->I64 s.floor->I64 s.term->I64 s.vote->((fy s q0).isSome=false->I64 s.floor->I64 s.term->I64 s.vote->aE s r0 (5=r1))/\((fy s q0).isSome=true->aE ((fy s q0).getD s) r0 (0=r1))))) (aI q0).snd) (Record.mk 2 a b x)):=bE
theorem SA (s:Stable) (a b:Int) (x:List UInt8) (r0:Stable) (r1:Int):Vn tyT Ca [] Tryz.f85 [.agg (cellsOf (.nm .stable) s),.agg [.int 3,.int a,.int b,.fz .u8 x]] [] [.agg (cellsOf (.nm .stable) r0),.c (.int r1)]=((fun q0=>(fun q1=>cf s (I64 3->I64 a->I64 b->x.length*1<=140737488355328->(aI q0).fst.length*1<=140737488355328->I64 q1->(¬q1=0->I64 s.floor->I64 s.term->I64 s.vote->aE s r0 (q1=r1))/\(q1=0->I64 s.floor->I64 s.term->I64 s.vote->s.log.length<=1000000/\x.length<=200/\((dC s q0).isSome=false->I64 s.floor->I64 s.term->I64 s.vote->aE s r0 (5=r1))/\((dC s q0).isSome=true->aE ((dC s q0).getD s) r0 (0=r1))))) (aI q0).snd) (Record.mk 3 a b x)):=bE
theorem TC (s:Stable) (a b:Int) (x:List UInt8) (r0:Stable) (r1:Int):Vn tyT Ca [] Tryz.f85 [.agg (cellsOf (.nm .stable) s),.agg [.int 4,.int a,.int b,.fz .u8 x]] [] [.agg (cellsOf (.nm .stable) r0),.c (.int r1)]=((fun q0=>(fun q1=>cf s (I64 4->I64 a->I64 b->x.length*1<=140737488355328->(aI q0).fst.length*1<=140737488355328->I64 q1->(¬q1=0->I64 s.floor->I64 s.term->I64 s.vote->aE s r0 (q1=r1))/\(q1=0->I64 s.floor->I64 s.term->I64 s.vote->(1<=a/\a<=64)/\((fM s q0).isSome=false->I64 s.floor->I64 s.term->I64 s.vote->aE s r0 (5=r1))/\((fM s q0).isSome=true->aE ((fM s q0).getD s) r0 (0=r1))))) (aI q0).snd) (Record.mk 4 a b x)):=bE
theorem Rn (s:Stable) (r:Record) (r0:Stable) (r1:Int):Vn tyT WA [] Tryz.f85 [.agg (cellsOf (.nm .stable) s),.agg (cellsOf (.nm .record) r)] [] [.agg (cellsOf (.nm .stable) r0),.c (.int r1)]=(cf s (dR r (recOk r=false/\((0:Nat)*(1:Nat)<=(140737488355328:Nat)->I64 (1:Int)->(¬(1:Int)=(0:Int)->I64 s.floor->I64 s.term->I64 s.vote->aE s r0 ((1:Int)=r1))/\((1:Int)=(0:Int)->I64 s.floor->I64 s.term->I64 s.vote->False/\False))))):=bE
theorem Bx {s:Stable} (h:recOk r=false):aM s r=(s,1):=if_pos h
theorem dG {s:Stable} (h:¬ (aI r).2=0):aM s r=(s,(aI r).2):=by
 rw [Bx (nC h).2,(nC h).1]
variable {o:Option Stable}
theorem dE {s:Stable} (e:eL s r=o) (h:(aI r).2=0) (h2:o.isSome=false):aM s r=(s,5):=by
 rw [aM,if_neg (by rw [dy.1 h]; decide),e];cases o with
 | none=>rfl
 | some t=>cases h2
theorem dF {s:Stable} (e:eL s r=o) (h:(aI r).2=0) (h2:o.isSome=true):aM s r=(o.getD s,0):=by
 rw [aM,if_neg (by rw [dy.1 h]; decide),e];cases o with
 | none=>cases h2
 | some t=>rfl
set_option maxRecDepth 8000 in
theorem Xg (s:Stable) (a b:Int) (x:List UInt8) (h0:s.log.length<=1000000):Sat Tryz.prog (al tyT) 85 [.agg (cellsOf (.nm .stable) s),.agg (cellsOf (.nm .record) (⟨1,a,b,x⟩:Record))] [] ⟨[s.log.length<=1000000],[.agg (cellsOf (.nm .stable) (aM s (⟨1,a,b,x⟩:Record)).1),.c (.int (aM s (⟨1,a,b,x⟩:Record)).2)],none,false⟩:=by
 have he:eL s (⟨1,a,b,x⟩:Record)=dP s (⟨1,a,b,x⟩:Record):=rfl;refine av jH [] Tryz.func85 ?_ (UH s a b x (aM s (⟨1,a,b,x⟩:Record)).1 (aM s (⟨1,a,b,x⟩:Record)).2).symm;(repeat' with_reducible first|apply aZ|refine aY ?_|intro)
 all_goals (first | exact bt | exact (congrArg (fun q=>q.2) (dG ab)) | exact (congrArg (fun q=>q.2) (dG ab)).symm | exact (congrArg (fun q=>q.1.floor) (dG ab)) | exact (congrArg (fun q=>q.1.floor) (dG ab)).symm | exact (congrArg (fun q=>q.1.term) (dG ab)) | exact (congrArg (fun q=>q.1.term) (dG ab)).symm | exact (congrArg (fun q=>q.1.vote) (dG ab)) | exact (congrArg (fun q=>q.1.vote) (dG ab)).symm | exact (congrArg (fun q=>q.1.log) (dG ab)) | exact (congrArg (fun q=>q.1.log) (dG ab)).symm | exact (congrArg (fun q=>q.2) (dE he ab ab)) | exact (congrArg (fun q=>q.2) (dE he ab ab)).symm | exact (congrArg (fun q=>q.1.floor) (dE he ab ab)) | exact (congrArg (fun q=>q.1.floor) (dE he ab ab)).symm | exact (congrArg (fun q=>q.1.term) (dE he ab ab)) | exact (congrArg (fun q=>q.1.term) (dE he ab ab)).symm | exact (congrArg (fun q=>q.1.vote) (dE he ab ab)) | exact (congrArg (fun q=>q.1.vote) (dE he ab ab)).symm | exact (congrArg (fun q=>q.1.log) (dE he ab ab)) | exact (congrArg (fun q=>q.1.log) (dE he ab ab)).symm | exact (congrArg (fun q=>q.2) (dF he ab ab)) | exact (congrArg (fun q=>q.2) (dF he ab ab)).symm | exact (congrArg (fun q=>q.1.floor) (dF he ab ab)) | exact (congrArg (fun q=>q.1.floor) (dF he ab ab)).symm | exact (congrArg (fun q=>q.1.term) (dF he ab ab)) | exact (congrArg (fun q=>q.1.term) (dF he ab ab)).symm | exact (congrArg (fun q=>q.1.vote) (dF he ab ab)) | exact (congrArg (fun q=>q.1.vote) (dF he ab ab)).symm | exact (congrArg (fun q=>q.1.log) (dF he ab ab)) | exact (congrArg (fun q=>q.1.log) (dF he ab ab)).symm | (have:=jw (dy.1 ab); dsimp only at this; omega) | (have h:=bP.1 (dy.1 ab); dsimp only at h; omega))
set_option maxRecDepth 8000 in
theorem YO (s:Stable) (a b:Int) (x:List UInt8) (h0:s.log.length<=1000000):Sat Tryz.prog (al tyT) 85 [.agg (cellsOf (.nm .stable) s),.agg (cellsOf (.nm .record) (⟨2,a,b,x⟩:Record))] [] ⟨[s.log.length<=1000000],[.agg (cellsOf (.nm .stable) (aM s (⟨2,a,b,x⟩:Record)).1),.c (.int (aM s (⟨2,a,b,x⟩:Record)).2)],none,false⟩:=by
 have he:eL s (⟨2,a,b,x⟩:Record)=fy s (⟨2,a,b,x⟩:Record):=rfl;refine av jH [] Tryz.func85 ?_ (Tq s a b x (aM s (⟨2,a,b,x⟩:Record)).1 (aM s (⟨2,a,b,x⟩:Record)).2).symm;(repeat' with_reducible first|apply aZ|refine aY ?_|intro)
 all_goals (first | exact bt | exact (congrArg (fun q=>q.2) (dG ab)) | exact (congrArg (fun q=>q.2) (dG ab)).symm | exact (congrArg (fun q=>q.1.floor) (dG ab)) | exact (congrArg (fun q=>q.1.floor) (dG ab)).symm | exact (congrArg (fun q=>q.1.term) (dG ab)) | exact (congrArg (fun q=>q.1.term) (dG ab)).symm | exact (congrArg (fun q=>q.1.vote) (dG ab)) | exact (congrArg (fun q=>q.1.vote) (dG ab)).symm | exact (congrArg (fun q=>q.1.log) (dG ab)) | exact (congrArg (fun q=>q.1.log) (dG ab)).symm | exact (congrArg (fun q=>q.2) (dE he ab ab)) | exact (congrArg (fun q=>q.2) (dE he ab ab)).symm | exact (congrArg (fun q=>q.1.floor) (dE he ab ab)) | exact (congrArg (fun q=>q.1.floor) (dE he ab ab)).symm | exact (congrArg (fun q=>q.1.term) (dE he ab ab)) | exact (congrArg (fun q=>q.1.term) (dE he ab ab)).symm | exact (congrArg (fun q=>q.1.vote) (dE he ab ab)) | exact (congrArg (fun q=>q.1.vote) (dE he ab ab)).symm | exact (congrArg (fun q=>q.1.log) (dE he ab ab)) | exact (congrArg (fun q=>q.1.log) (dE he ab ab)).symm | exact (congrArg (fun q=>q.2) (dF he ab ab)) | exact (congrArg (fun q=>q.2) (dF he ab ab)).symm | exact (congrArg (fun q=>q.1.floor) (dF he ab ab)) | exact (congrArg (fun q=>q.1.floor) (dF he ab ab)).symm | exact (congrArg (fun q=>q.1.term) (dF he ab ab)) | exact (congrArg (fun q=>q.1.term) (dF he ab ab)).symm | exact (congrArg (fun q=>q.1.vote) (dF he ab ab)) | exact (congrArg (fun q=>q.1.vote) (dF he ab ab)).symm | exact (congrArg (fun q=>q.1.log) (dF he ab ab)) | exact (congrArg (fun q=>q.1.log) (dF he ab ab)).symm | (have:=jw (dy.1 ab); dsimp only at this; omega) | (have h:=bP.1 (dy.1 ab); dsimp only at h; omega))
set_option maxRecDepth 8000 in
theorem YQ (s:Stable) (a b:Int) (x:List UInt8) (h0:s.log.length<=1000000):Sat Tryz.prog (al tyT) 85 [.agg (cellsOf (.nm .stable) s),.agg (cellsOf (.nm .record) (⟨3,a,b,x⟩:Record))] [] ⟨[s.log.length<=1000000],[.agg (cellsOf (.nm .stable) (aM s (⟨3,a,b,x⟩:Record)).1),.c (.int (aM s (⟨3,a,b,x⟩:Record)).2)],none,false⟩:=by
 have he:eL s (⟨3,a,b,x⟩:Record)=dC s (⟨3,a,b,x⟩:Record):=rfl;refine av jH [] Tryz.func85 ?_ (SA s a b x (aM s (⟨3,a,b,x⟩:Record)).1 (aM s (⟨3,a,b,x⟩:Record)).2).symm;(repeat' with_reducible first|apply aZ|refine aY ?_|intro)
 all_goals (first | exact bt | exact (congrArg (fun q=>q.2) (dG ab)) | exact (congrArg (fun q=>q.2) (dG ab)).symm | exact (congrArg (fun q=>q.1.floor) (dG ab)) | exact (congrArg (fun q=>q.1.floor) (dG ab)).symm | exact (congrArg (fun q=>q.1.term) (dG ab)) | exact (congrArg (fun q=>q.1.term) (dG ab)).symm | exact (congrArg (fun q=>q.1.vote) (dG ab)) | exact (congrArg (fun q=>q.1.vote) (dG ab)).symm | exact (congrArg (fun q=>q.1.log) (dG ab)) | exact (congrArg (fun q=>q.1.log) (dG ab)).symm | exact (congrArg (fun q=>q.2) (dE he ab ab)) | exact (congrArg (fun q=>q.2) (dE he ab ab)).symm | exact (congrArg (fun q=>q.1.floor) (dE he ab ab)) | exact (congrArg (fun q=>q.1.floor) (dE he ab ab)).symm | exact (congrArg (fun q=>q.1.term) (dE he ab ab)) | exact (congrArg (fun q=>q.1.term) (dE he ab ab)).symm | exact (congrArg (fun q=>q.1.vote) (dE he ab ab)) | exact (congrArg (fun q=>q.1.vote) (dE he ab ab)).symm | exact (congrArg (fun q=>q.1.log) (dE he ab ab)) | exact (congrArg (fun q=>q.1.log) (dE he ab ab)).symm | exact (congrArg (fun q=>q.2) (dF he ab ab)) | exact (congrArg (fun q=>q.2) (dF he ab ab)).symm | exact (congrArg (fun q=>q.1.floor) (dF he ab ab)) | exact (congrArg (fun q=>q.1.floor) (dF he ab ab)).symm | exact (congrArg (fun q=>q.1.term) (dF he ab ab)) | exact (congrArg (fun q=>q.1.term) (dF he ab ab)).symm | exact (congrArg (fun q=>q.1.vote) (dF he ab ab)) | exact (congrArg (fun q=>q.1.vote) (dF he ab ab)).symm | exact (congrArg (fun q=>q.1.log) (dF he ab ab)) | exact (congrArg (fun q=>q.1.log) (dF he ab ab)).symm | (have:=jw (dy.1 ab); dsimp only at this; omega) | (have h:=bP.1 (dy.1 ab); dsimp only at h; omega))
set_option maxRecDepth 8000 in
theorem Ya (s:Stable) (a b:Int) (x:List UInt8) (h0:s.log.length<=1000000):Sat Tryz.prog (al tyT) 85 [.agg (cellsOf (.nm .stable) s),.agg (cellsOf (.nm .record) (⟨4,a,b,x⟩:Record))] [] ⟨[s.log.length<=1000000],[.agg (cellsOf (.nm .stable) (aM s (⟨4,a,b,x⟩:Record)).1),.c (.int (aM s (⟨4,a,b,x⟩:Record)).2)],none,false⟩:=by
 have he:eL s (⟨4,a,b,x⟩:Record)=fM s (⟨4,a,b,x⟩:Record):=rfl;refine av jH [] Tryz.func85 ?_ (TC s a b x (aM s (⟨4,a,b,x⟩:Record)).1 (aM s (⟨4,a,b,x⟩:Record)).2).symm;(repeat' with_reducible first|apply aZ|refine aY ?_|intro)
 all_goals (first | exact bt | exact (congrArg (fun q=>q.2) (dG ab)) | exact (congrArg (fun q=>q.2) (dG ab)).symm | exact (congrArg (fun q=>q.1.floor) (dG ab)) | exact (congrArg (fun q=>q.1.floor) (dG ab)).symm | exact (congrArg (fun q=>q.1.term) (dG ab)) | exact (congrArg (fun q=>q.1.term) (dG ab)).symm | exact (congrArg (fun q=>q.1.vote) (dG ab)) | exact (congrArg (fun q=>q.1.vote) (dG ab)).symm | exact (congrArg (fun q=>q.1.log) (dG ab)) | exact (congrArg (fun q=>q.1.log) (dG ab)).symm | exact (congrArg (fun q=>q.2) (dE he ab ab)) | exact (congrArg (fun q=>q.2) (dE he ab ab)).symm | exact (congrArg (fun q=>q.1.floor) (dE he ab ab)) | exact (congrArg (fun q=>q.1.floor) (dE he ab ab)).symm | exact (congrArg (fun q=>q.1.term) (dE he ab ab)) | exact (congrArg (fun q=>q.1.term) (dE he ab ab)).symm | exact (congrArg (fun q=>q.1.vote) (dE he ab ab)) | exact (congrArg (fun q=>q.1.vote) (dE he ab ab)).symm | exact (congrArg (fun q=>q.1.log) (dE he ab ab)) | exact (congrArg (fun q=>q.1.log) (dE he ab ab)).symm | exact (congrArg (fun q=>q.2) (dF he ab ab)) | exact (congrArg (fun q=>q.2) (dF he ab ab)).symm | exact (congrArg (fun q=>q.1.floor) (dF he ab ab)) | exact (congrArg (fun q=>q.1.floor) (dF he ab ab)).symm | exact (congrArg (fun q=>q.1.term) (dF he ab ab)) | exact (congrArg (fun q=>q.1.term) (dF he ab ab)).symm | exact (congrArg (fun q=>q.1.vote) (dF he ab ab)) | exact (congrArg (fun q=>q.1.vote) (dF he ab ab)).symm | exact (congrArg (fun q=>q.1.log) (dF he ab ab)) | exact (congrArg (fun q=>q.1.log) (dF he ab ab)).symm | (have:=jw (dy.1 ab); dsimp only at this; omega) | (have h:=bP.1 (dy.1 ab); dsimp only at h; omega))
theorem PD (s:Stable) (r:Record) (h0:s.log.length<=1000000):Sat Tryz.prog (al tyT) 85 [.agg (cellsOf (.nm .stable) s),.agg (cellsOf (.nm .record) r)] [] ⟨[s.log.length<=1000000],[.agg (cellsOf (.nm .stable) (aM s r).1),.c (.int (aM s r).2)],none,false⟩:=by
 cases hr:recOk r
 ·refine av JB [] Tryz.func85 ?_ (Rn s r (aM s r).1 (aM s r).2).symm;rw [Bx hr];(repeat' with_reducible first|apply aZ|refine aY ?_|intro)
  all_goals first | (first | with_reducible rfl | with_reducible assumption | omega | (refine bR ?_ ?_ <;> omega)) | rfl
 obtain ⟨k,a,b,x⟩:=r;rcases bP.1 hr with h | h | h | h <;> (have hk:=h.1; dsimp only at hk; subst hk)
 ·exact Xg s a b x h0
 ·exact YO s a b x h0
 ·exact YQ s a b x h0
 exact Ya s a b x h0
noncomputable def yt:Kn:=aK (ae (kC (cL .u8)) ao) aw fun (b,_) _=>⟨[],[.agg (cellsOf (.nm .record) ((bV b).1)),.c (.int (((bV b).2)))],none,false⟩
theorem Nu:CK 84 yt:=ag fun (b,_) _ _=>by
 refine av jH [] Tryz.func84 (?_:(fun q3=>(fun q2=>(fun q1=>(fun q0=>b.length*1<=140737488355328->dR (bH b).fst (((bH b).snd=false->q0)/\((bH b).snd=true->q1.fst.length*1<=140737488355328->I64 q1.snd->(¬q1.snd=q3\/decide (q1.fst=b)=false->q0)/\(q1.snd=q3/\decide (q1.fst=b)=true->rL (bH b).fst q2 (q3=(bV b).snd))))) (q3=q2.kind/\q3=q2.a/\q3=q2.b/\q2.x=[]/\3=(bV b).snd)) (aI (bH b).fst)) (bV b).fst) (0:Int));(repeat' with_reducible first|apply aZ|refine aY ?_|intro)
 all_goals (first | exact bt | exact (congrArg (fun q=>q.2) (mB ab)) | exact (congrArg (fun q=>q.2) (mB ab)).symm | exact (congrArg (fun q=>q.1.kind) (mB ab)) | exact (congrArg (fun q=>q.1.kind) (mB ab)).symm | exact (congrArg (fun q=>q.1.a) (mB ab)) | exact (congrArg (fun q=>q.1.a) (mB ab)).symm | exact (congrArg (fun q=>q.1.b) (mB ab)) | exact (congrArg (fun q=>q.1.b) (mB ab)).symm | exact (congrArg (fun q=>q.1.x) (mB ab)) | exact (congrArg (fun q=>q.1.x) (mB ab)).symm | exact (congrArg (fun q=>q.2) (mo ab ab)) | exact (congrArg (fun q=>q.2) (mo ab ab)).symm | exact (congrArg (fun q=>q.1.kind) (mo ab ab)) | exact (congrArg (fun q=>q.1.kind) (mo ab ab)).symm | exact (congrArg (fun q=>q.1.a) (mo ab ab)) | exact (congrArg (fun q=>q.1.a) (mo ab ab)).symm | exact (congrArg (fun q=>q.1.b) (mo ab ab)) | exact (congrArg (fun q=>q.1.b) (mo ab ab)).symm | exact (congrArg (fun q=>q.1.x) (mo ab ab)) | exact (congrArg (fun q=>q.1.x) (mo ab ab)).symm | exact (congrArg (fun q=>q.2) (mz ab ab ab)) | exact (congrArg (fun q=>q.2) (mz ab ab ab)).symm | exact (congrArg (fun q=>q.1.kind) (mz ab ab ab)) | exact (congrArg (fun q=>q.1.kind) (mz ab ab ab)).symm | exact (congrArg (fun q=>q.1.a) (mz ab ab ab)) | exact (congrArg (fun q=>q.1.a) (mz ab ab ab)).symm | exact (congrArg (fun q=>q.1.b) (mz ab ab ab)) | exact (congrArg (fun q=>q.1.b) (mz ab ab ab)).symm | exact (congrArg (fun q=>q.1.x) (mz ab ab ab)) | exact (congrArg (fun q=>q.1.x) (mz ab ab ab)).symm)
theorem Mp (s:Stable) (r:Record) (h0:s.log.length<=1000000):Sat Tryz.prog (al tyT) 85 [.agg (cellsOf (.nm .stable) s),.agg (cellsOf (.nm .record) r)] [] ⟨[s.log.length<=1000000],[.agg (cellsOf (.nm .stable) ((aM s r).1)),.c (.int (((aM s r).2)))],none,false⟩:=PD s r h0
noncomputable def yA:Kn:=aK (ae (kT (.nm .stable)) (ae (kT (.nm .record)) ao)) aw fun (s,r,_) _=>⟨[s.log.length<=1000000],[.agg (cellsOf (.nm .stable) ((aM s r).1)),.c (.int (((aM s r).2)))],none,false⟩
theorem LP:CK 85 yA:=ag fun (s,r,_) _ hp=>Mp s r (cc hp)
noncomputable def abU:bN:=(aO 85 yA (aO 84 yt Ca))
theorem DF:ay Tryz.prog (al tyT) abU:=(ah LP (ah Nu jH))
structure RJ (b:List UInt8) (s:Stable) (u:Int):Prop where
 le:0<=u/\u<=b.length
 log:(s.log.length:Int)<=u
 eq:replayF b=((playB (b.length+1) s (b.drop u.toNat)).1,u+(playB (b.length+1) s (b.drop u.toNat)).2)
theorem aiu:RJ b sta0 0:=⟨by omega,by simp,by simp [replayF]⟩
section
variable {b:List UInt8} {s:Stable} {u:Int}
theorem uu (h:RJ b s u) (h1:¬ (bh (b.drop u.toNat)).2.2=0):replayF b=(s,u):=by
 rw [h.eq,mI h1,Int.add_zero]
theorem uq (h:RJ b s u) (h1:(bh (b.drop u.toNat)).2.2=0) (h2:¬ (bV (bh (b.drop u.toNat)).1).2=0):replayF b=(s,u):=by
 rw [h.eq,playB,if_neg (acs.2 h1),if_pos h2,Int.add_zero]
theorem ui (h:RJ b s u) (h1:(bh (b.drop u.toNat)).2.2=0) (h2:(bV (bh (b.drop u.toNat)).1).2=0) (h3:¬ (aM s (bV (bh (b.drop u.toNat)).1).1).2=0):replayF b=(s,u):=by
 rw [h.eq,playB,if_neg (acs.2 h1),if_neg (acs.2 h2),if_pos h3,Int.add_zero]
theorem HD {s t:Stable} (h:eL s r=some t):t.log.length<=s.log.length+1:=by
 unfold eL dP fy dC fM at h;split at h
 ·split at h <;> cases h; simp
 split at h
 ·split at h <;> cases h; simp
 split at h
 ·split at h <;> cases h; simp
 split at h <;> cases h; simp; omega
theorem vE {s:Stable}:(aM s r).1.log.length<=s.log.length+1:=by
 unfold aM;split
 ·simp
 split
 ·rename_i t h; exact HD h
 simp
theorem af3 (h:RJ b s u) (h1:(bh (b.drop u.toNat)).2.2=0) (h2:(bV (bh (b.drop u.toNat)).1).2=0) (h3:(aM s (bV (bh (b.drop u.toNat)).1).1).2=0):RJ b (aM s (bV (bh (b.drop u.toNat)).1).1).1 (u+(bh (b.drop u.toNat)).2.1):=by
 have hs:=il h1;have hl:=h.le;rw [List.length_drop] at hs;have h4:=vE (s:=s) (r:=(bV (bh (b.drop u.toNat)).1).1);have h5:=h.log;refine ⟨by omega,by omega,?_⟩;rw [h.eq,playB,if_neg (acs.2 h1),if_neg (acs.2 h2),if_neg (acs.2 h3),afB,show u.toNat+(bh (b.drop u.toNat)).2.1.toNat=(u+(bh (b.drop u.toNat)).2.1).toNat by omega];rw [mD (n:=b.length) (m:=b.length+1) (by rw [List.length_drop]; omega) (by rw [List.length_drop]; omega)];refine Prod.ext rfl ?_;dsimp only; omega
theorem aeN (h:RJ b s u):0<=u:=h.le.1
theorem agy (h:RJ b s u):u<=(b.length:Int):=h.le.2
theorem agw (h:RJ b s u) (hb:b.length<=1000000):s.log.length<=1000000:=by
 have:=h.log; have:=h.le; omega
theorem ail (h:RJ b s u) (h1:(bh (b.drop u.toNat)).2.2=0) (hb:b.length<=1000000):I64 (u+(bh (b.drop u.toNat)).2.1):=by
 have:=il h1; have:=h.le;rw [List.length_drop] at *;exact bR aL aL
theorem agP (h:RJ b s u) (h1:(bh (b.drop u.toNat)).2.2=0):((b.length:Int) - (u+(bh (b.drop u.toNat)).2.1)).toNat<((b.length:Int) - u).toNat:=by
 have:=il h1; have:=h.le;rw [List.length_drop] at *;omega
end
variable {l:List Record}
theorem zS {s:Stable} (h:(stepsF s (l.take k)).2=0) (hr:l[k]? = some r):stepsF s (l.take (k+1))=stepsF (stepsF s (l.take k)).1 [r]:=by
 rw [ai hr,dr h]
theorem uc {s:Stable} (h:(stepsF s (l.take k)).2=0) (hr:l[k]? = some r) (h2:(aM (stepsF s (l.take k)).1 r).2=0):(stepsF s (l.take (k+1))).2=0/\(stepsF s (l.take (k+1))).1=(aM (stepsF s (l.take k)).1 r).1:=by
 rw [zS h hr,stepsF,if_pos h2,stepsF]; exact ⟨rfl,rfl⟩
theorem aeK {s:Stable} (h:(stepsF s (l.take k)).2=0) (hr:l[k]? = some r) (h2:¬ (aM (stepsF s (l.take k)).1 r).2=0):(stepsF s l).2=(aM (stepsF s (l.take k)).1 r).2:=by
 have hk:=(aaj.1 hr);have e:l=l.take k++r :: l.drop (k+1):=by
  rw [<- hk.2,List.getElem_cons_drop,List.take_append_drop]
 rw [show stepsF s l=stepsF s (l.take k++r :: l.drop (k+1)) from congrArg (stepsF s) e,dr h,stepsF,if_neg h2]
theorem rC:∀ {l:List Record} {s:Stable},(stepsF s l).1.log.length<=s.log.length+l.length
 | [],s=>Nat.le_refl _
 | r :: l,s=>by
  rw [stepsF];split
  ·have:=rC (l:=l) (s:=(aM s r).1);have:=vE (s:=s) (r:=r);rw [List.length_cons]; omega
  dsimp only; omega
theorem adW (h:(l.take k).all recOk=true) (hr:l[k]? = some r) (h2:recOk r=true):(l.take (k+1)).all recOk=true:=by
 rw [ai hr,agZ,h]; simp [h2]
theorem adm (hr:l[k]? = some r) (h2:recOk r=false):l.all recOk=false:=by
 cases h:l.all recOk
 ·rfl
 have:=aeF.1 h r (aiN.2 ⟨k,hr⟩);rw [h2] at this; cases this
theorem YA (hr:l[k]? = some r):encL (l.take k)++eu (dz r)=encL (l.take (k+1)):=by
 rw [ai hr,rQ]; simp [encL,jA]
theorem Dk {d:Dsk} {x:List UInt8} (h:d.OK):(d.app x).OK:=by
 obtain ⟨h1,h2,h3⟩:=h;unfold Dsk.app;split
 ·exact ⟨h1,h2,h3⟩
 refine ⟨h1,?_,?_⟩ <;> dsimp only <;> rw [List.length_append] <;> omega
def HF (b:List UInt8):List (Nat × LI):=[(3,{ σ:=Stable × Int,F:=fun q=>([(0,one (.fz .u8 (b))),(2,one (.ptr 1 0)),(4,one (.ptr 0 0)),(5,one (.int q.2))],[.box 64 (cellsOf (.nm .stable) (q.1)),.box 64 (cellsOf (.nm .stable) (sta0))]),J:=fun q=>RJ b q.1 q.2,μ:=fun q=>(b.length - q.2).toNat })]
noncomputable def rB:Kn:=aK (ae (kC (cL .u8)) ao) aw fun (b,_) _=>⟨[b.length<=1000000],[.agg (cellsOf (.nm .stable) ((replayF b).1)),.c (.int (((replayF b).2)))],none,false⟩
theorem Dc:CK 41 rB:=ag fun (b,_) _ hp=>by
 have h0:=cc hp;refine av DF (HF b) Tryz.func41 (?_:(fun (q0:Int)=>b.length*1<=140737488355328->∃ (s0:Stable × Int),(b=b/\q0=s0.snd/\q0=s0.fst.floor/\q0=s0.fst.term/\q0=s0.fst.vote/\s0.fst.log=[]/\q0=sta0.floor/\q0=sta0.term/\q0=sta0.vote/\sta0.log=[])/\RJ b s0.fst s0.snd/\∀ (s:Stable × Int),(fun (q2:Prop)=>(fun (q1:List UInt8 × Int × Int)=>(fun (q4:Record × Int)=>(fun (q3:Stable × Int)=>RJ b s.fst s.snd->q0<=s.snd/\s.snd<=(↑b.length:Int)/\(q1.fst.length*1<=140737488355328->I64 q1.snd.fst->I64 q1.snd.snd->(¬q1.snd.snd=q0->q2)/\(q1.snd.snd=q0->dR q4.fst (I64 q4.snd->(¬q4.snd=q0->q2)/\(q4.snd=q0->s.fst.log.length<=1000000/\cf q3.fst (I64 q3.snd->(¬q3.snd=q0->q2)/\(q3.snd=q0->I64 (s.snd+q1.snd.fst)/\∃ (s':Stable × Int),(b=b/\s.snd+q1.snd.fst=s'.snd/\aE q3.fst s'.fst (dV sta0 sta0))/\RJ b s'.fst s'.snd/\((↑b.length:Int) - s'.snd).toNat<((↑b.length:Int) - s.snd).toNat))))))) (aM s.fst q4.fst)) (bV q1.fst)) (bh (List.drop s.snd.toNat b))) (aE s.fst (replayF b).fst (s.snd=(replayF b).snd))) 0);iterate 3 ((all_goals (repeat' with_reducible first|apply aZ|refine aY ?_|intro)); (all_goals try (first | exact bt | (with_reducible exact aiu) | (with_reducible exact aeN ab) | (with_reducible exact agy ab) | (with_reducible exact agw ab h0) | (with_reducible exact ail ab ab h0) | (with_reducible exact agP ab ab) | (with_reducible exact af3 ab ab ab ab) | exact (congrArg (fun q=>q.2) (uu ab ab)) | exact (congrArg (fun q=>q.2) (uu ab ab)).symm | exact (congrArg (fun q=>q.1.floor) (uu ab ab)) | exact (congrArg (fun q=>q.1.floor) (uu ab ab)).symm | exact (congrArg (fun q=>q.1.term) (uu ab ab)) | exact (congrArg (fun q=>q.1.term) (uu ab ab)).symm | exact (congrArg (fun q=>q.1.vote) (uu ab ab)) | exact (congrArg (fun q=>q.1.vote) (uu ab ab)).symm | exact (congrArg (fun q=>q.1.log) (uu ab ab)) | exact (congrArg (fun q=>q.1.log) (uu ab ab)).symm | exact (congrArg (fun q=>q.2) (uq ab ab ab)) | exact (congrArg (fun q=>q.2) (uq ab ab ab)).symm | exact (congrArg (fun q=>q.1.floor) (uq ab ab ab)) | exact (congrArg (fun q=>q.1.floor) (uq ab ab ab)).symm | exact (congrArg (fun q=>q.1.term) (uq ab ab ab)) | exact (congrArg (fun q=>q.1.term) (uq ab ab ab)).symm | exact (congrArg (fun q=>q.1.vote) (uq ab ab ab)) | exact (congrArg (fun q=>q.1.vote) (uq ab ab ab)).symm | exact (congrArg (fun q=>q.1.log) (uq ab ab ab)) | exact (congrArg (fun q=>q.1.log) (uq ab ab ab)).symm | exact (congrArg (fun q=>q.2) (ui ab ab ab ab)) | exact (congrArg (fun q=>q.2) (ui ab ab ab ab)).symm | exact (congrArg (fun q=>q.1.floor) (ui ab ab ab ab)) | exact (congrArg (fun q=>q.1.floor) (ui ab ab ab ab)).symm | exact (congrArg (fun q=>q.1.term) (ui ab ab ab ab)) | exact (congrArg (fun q=>q.1.term) (ui ab ab ab ab)).symm | exact (congrArg (fun q=>q.1.vote) (ui ab ab ab ab)) | exact (congrArg (fun q=>q.1.vote) (ui ab ab ab ab)).symm | exact (congrArg (fun q=>q.1.log) (ui ab ab ab ab)) | exact (congrArg (fun q=>q.1.log) (ui ab ab ab ab)).symm)); all_goals try first | refine ⟨((aM (‹Stable × Int›).1 (bV (bh (b.drop (‹Stable × Int›).2.toNat)).1).1).1,(‹Stable × Int›).2+(bh (b.drop (‹Stable × Int›).2.toNat)).2.1),?_⟩ | refine ⟨(sta0,0),?_⟩)
noncomputable def abq:bN:=(aO 41 rB abU)
theorem DX:ay Tryz.prog (al tyT) abq:=(ah Dc DF)
section
variable {d:Dsk} {s:Stable} {l:List Record} {k:Nat} {r:Record}
theorem abA (hr:l[k]? = some r) (h:¬ (aI r).2=0):saveF d s l=(d,s,(aI r).2):=by
 rw [saveF,if_pos (adm hr (nC h).2),(nC h).1]
theorem Zv (h:(aI r).2=0):py (aI r).1=(eu (dz r),0):=by
 have hr:=dy.1 h;have:=ji hr;rw [Du hr,py,if_neg (by dsimp only; omega)]
theorem ab5 {p:Prop} (h:(aI r).2=0) (h2:¬ (py (aI r).1).2=0):p:=absurd (by rw [Zv h]) h2
theorem acq (hr:l[k]? = some r) (h:(aI r).2=0):encL (l.take k)++(py (aI r).1).1=encL (l.take (k+1)):=by
 rw [Zv h]; exact YA hr
theorem VB (h:l.length<=1000) (h2:(l.take k).all recOk=true) (h3:(aI r).2=0):((encL (l.take k)).length+(py (aI r).1).1.length)*1<=140737488355328:=by
 have h4:=tQ h2;have h5:=ji (dy.1 h3);have h6:(l.take k).length<=l.length:=by rw [List.length_take]; omega
 rw [Zv h3]; dsimp only; rw [jU]; omega
theorem abf (hk:(l.length:Int)<=k) (h:(l.take k).all recOk=true):l.all recOk=true:=by rwa [List.take_of_length_le (by omega)] at h
theorem acT (hk:(l.length:Int)<=k):encL (l.take k)=encL l:=by rw [List.take_of_length_le (by omega)]
theorem adV (h1:s.log.length<=10000) (h2:l.length<=1000):(stepsF s (l.take k)).1.log.length<=1000000:=by
 have:=rC (s:=s) (l:=l.take k);have h6:(l.take k).length<=l.length:=by rw [List.length_take]; omega
 omega
theorem abw (ha:l.all recOk=true) (h:(stepsF s (l.take k)).2=0) (hr:l[k]? = some r) (h2:¬ (aM (stepsF s (l.take k)).1 r).2=0):saveF d s l=(d,s,(aM (stepsF s (l.take k)).1 r).2):=by
 have e:=aeK h hr h2;rw [saveF,if_neg (by rw [ha]; decide),if_pos (by rw [e]; exact h2),e]
theorem abM (hl:(l.length:Int)=0):saveF d s l=(d,(stepsF s (l.take k)).1,0):=by
 rw [aa9 (l:=l) (by omega),List.take_nil]; rfl
theorem aac (hk:(l.length:Int)<=k) (ha:l.all recOk=true) (h:(stepsF s (l.take k)).2=0) (hl:¬ (l.length:Int)=0):saveF d s l=if d.jW (encL l)≠0 then (d,s,d.jW (encL l)) else if (d.app (encL l)).ft≠0 then ((d.app (encL l)).sync,s,(d.app (encL l)).ft) else ((d.app (encL l)).sync,(stepsF s (l.take k)).1,0):=by
 rw [List.take_of_length_le (by omega)] at h ⊢;rw [saveF,if_neg (by rw [ha]; decide),if_neg (by rw [h]; decide),if_neg (by omega)]
theorem acb (hk:(l.length:Int)<=k) (ha:l.all recOk=true) (h:(stepsF s (l.take k)).2=0) (hl:¬ (l.length:Int)=0) (h1:¬ d.jW (encL l)=0):saveF d s l=(d.app (encL l),s,d.jW (encL l)):=by
 have e:d.app (encL l)=d:=by
  unfold Dsk.app Dsk.jW at *;split
  ·rfl
  rename_i h3;rw [not_or] at h3;rw [if_neg h3.1,if_neg h3.2] at h1;exact absurd rfl h1
 rw [aac hk ha h hl,if_pos h1,e]
theorem abd (hk:(l.length:Int)<=k) (ha:l.all recOk=true) (h:(stepsF s (l.take k)).2=0) (hl:¬ (l.length:Int)=0) (h1:d.jW (encL l)=0) (h2:¬ (d.app (encL l)).ft=0):saveF d s l=((d.app (encL l)).sync,s,(d.app (encL l)).ft):=by
 rw [aac hk ha h hl,if_neg (acs.2 h1),if_pos h2]
theorem aeo (hk:(l.length:Int)<=k) (ha:l.all recOk=true) (h:(stepsF s (l.take k)).2=0) (hl:¬ (l.length:Int)=0) (h1:d.jW (encL l)=0) (h2:(d.app (encL l)).ft=0):saveF d s l=((d.app (encL l)).sync,(stepsF s (l.take k)).1,0):=by
 rw [aac hk ha h hl,if_neg (acs.2 h1),if_neg (acs.2 h2)]
variable {x:List UInt8}
theorem app_1 (h:d.OK):0<=(d.app x).synced:=(Dk h).1
theorem WM (h:d.OK):(d.app x).synced<=((d.app x).b.length:Int):=(Dk h).2.1
theorem WD (h:d.OK):(d.app x).b.length<=65536:=(Dk h).2.2
theorem MV (h:(l.take k).all recOk=true) (hr:l[k]? = some r) (h2:(aI r).2=0):(l.take (k+1)).all recOk=true:=adW h hr (dy.1 h2)
end
def TB (s:Stable) (l:List Record) (sy:Int) (dn:Bool) (dm:Bool) (kp:Int) (bs:List UInt8):List (Nat × LI):=[(3,{ σ:=Nat,F:=fun k=>([(0,one (.ptr 0 0)),(2,one (.fz (.nm .record) (l))),(4,one (.ptr 2 0)),(6,one (.ptr 3 0)),(8,one (.own 4)),(20,one (.fz (.nm .record) (l))),(21,one (.int (l).length)),(22,one (.int k))],[.box 147 ([.own 1,.int ((sy)),.bool (.atom ((dn))),.bool (.atom ((dm))),.int ((kp))]),.row 5 .u8 ((bs)),.box 64 (cellsOf (.nm .stable) (s)),.box 64 (cellsOf (.nm .stable) (sta0)),.row 5 .u8 ((encL (l.take k)))]),J:=fun k=>k<=l.length/\(l.take k).all recOk=true,μ:=fun k=>(l).length - k }),(15,{ σ:=Nat,F:=fun k=>([(0,one (.ptr 0 0)),(2,one (.fz (.nm .record) (l))),(4,one (.ptr 2 0)),(6,one (.ptr 3 0)),(8,one (.own 4)),(14,one (.ptr 5 0)),(52,one (.fz (.nm .record) (l))),(53,one (.int (l).length)),(54,one (.int k))],[.box 147 ([.own 1,.int ((sy)),.bool (.atom ((dn))),.bool (.atom ((dm))),.int ((kp))]),.row 5 .u8 ((bs)),.box 64 (cellsOf (.nm .stable) (s)),.box 64 (cellsOf (.nm .stable) (sta0)),.row 5 .u8 ((encL l)),.box 64 (cellsOf (.nm .stable) ((stepsF s (l.take k)).1))]),J:=fun k=>k<=l.length/\l.all recOk=true/\(stepsF s (l.take k)).2=0,μ:=fun k=>(l).length - k })]
noncomputable def Bn:Kn:=aK (ae (kC (aX 0 0)) (ae (kT (.nm .stable)) (ae (kC (cL (.nm .record))) ao))) (aC (dH 147 (ax (eO 1) (ax cI (ax cB (ax cB (ax cI dv)))))) (aC (eW 5 .u8) aw)) fun (_,s,l,_) ((_,sy,dn,dm,kp,_),bs,_)=>⟨[(Dsk.mk bs sy dn dm kp).OK,s.log.length<=10000,l.length<=1000],[.agg (cellsOf (.nm .stable) ((saveF (Dsk.mk bs sy dn dm kp) s l).2.1)),.c (.int (((saveF (Dsk.mk bs sy dn dm kp) s l).2.2)))],some ([.box 147 ([.own 1,.int (((saveF (Dsk.mk bs sy dn dm kp) s l).1.synced)),.bool (.atom (((saveF (Dsk.mk bs sy dn dm kp) s l).1.down))),.bool (.atom (((saveF (Dsk.mk bs sy dn dm kp) s l).1.doomed))),.int (((saveF (Dsk.mk bs sy dn dm kp) s l).1.keep))]),.row 5 .u8 (((saveF (Dsk.mk bs sy dn dm kp) s l).1.b))]),false⟩
set_option maxRecDepth 8000 in
theorem MP:CK 87 Bn:=ag fun (_,s,l,_) ((_,sy,dn,dm,kp,_),bs,_) hp=>by
 have h0:=cc hp;have h1:=cc (eQ hp);have h2:=cc (eQ (eQ hp));refine br DX (TB s l sy dn dm kp bs) Tryz.func87 (?_:(fun (q11:Dsk)=>(fun (q10:Prop)=>(fun (q9:Prop)=>(fun (q8:Prop)=>(fun (q7:Prop)=>(fun (q6:Prop)=>(fun (q5:Int)=>(fun (q4:Int)=>(fun (q3:Nat)=>(fun (q12:Int)=>(fun (q2:Int)=>(fun (q1:Dsk)=>(fun (q13:Dsk)=>(fun (q0:Dsk × Stable × Int)=>(fun (q18:Stable)=>(fun (q17:Int)=>(fun (q16:Dsk)=>(fun (q15:Prop)=>(fun (q14:Prop)=>cf s (l.length*48<=140737488355328->∃ (s0:Nat),(q10/\q10/\q5=q12/\q2=(↑s0:Int)/\sy=sy/\dn=dn/\dm=dm/\kp=kp/\bs=bs/\aE s s (q2=sta0.floor/\q2=sta0.term/\q2=sta0.vote/\sta0.log=[]/\encL (List.take s0 l)=[]))/\(s0<=q3/\(List.take s0 l).all recOk=true)/\∀ (s_1:Nat),s_1<=q3/\(List.take s_1 l).all recOk=true->((↑s_1:Int)<q12->q2<=(↑s_1:Int)/\(↑s_1:Int)<q5/\∀ (x:Record),(fun (q20:Int)=>(fun (q19:List UInt8 × Int)=>l[s_1]? = some x->dR x ((aI x).fst.length*1<=140737488355328->I64 q20->(¬q20=q2->q6->q7->q8->aE s q18 (q20=q17/\q14))/\(q20=q2->q19.fst.length*1<=140737488355328->I64 q19.snd->(¬q19.snd=q2->q6->q7->q8->aE s q18 (q19.snd=q17/\q14))/\(q19.snd=q2->((encL (List.take s_1 l)).length+q19.fst.length)*1<=140737488355328/\I64 ((↑s_1:Int)+1)/\∃ (s':Nat),(q10/\q10/\q12=q12/\(↑s_1:Int)+1=(↑s':Int)/\sy=sy/\dn=dn/\dm=dm/\kp=kp/\bs=bs/\aE s s (aE sta0 sta0 (encL (List.take s_1 l)++q19.fst=encL (List.take s' l))))/\(s' <= q3/\(List.take s' l).all recOk=true)/\q3 - s' < q3 - s_1)))) (py (aI x).fst)) (aI x).snd)/\(q12<=(↑s_1:Int)->q6->q7->q8->∃ (s0:Nat),(q10/\q10/\q5=q12/\q2=(↑s0:Int)/\sy=sy/\dn=dn/\dm=dm/\kp=kp/\bs=bs/\aE s s (aE sta0 sta0 (encL (List.take s_1 l)=encL l/\dV s (stepsF s (List.take s0 l)).fst)))/\(s0<=q3/\q9/\(stepsF s (List.take s0 l)).snd=q2)/\∀ (s_2:Nat),(fun (q21:Stable)=>s_2<=q3/\q9/\(stepsF s (List.take s_2 l)).snd=q2->((↑s_2:Int)<q12->q2<=(↑s_2:Int)/\(↑s_2:Int)<q5/\∀ (x:Record),(fun (q22:Int)=>l[s_2]? = some x->dR x (q21.log.length<=1000000/\cf (aM q21 x).fst (I64 q22->(¬q22=q2->q6->q7->q8->aE s q18 (q22=q17/\q14))/\(q22=q2->I64 ((↑s_2:Int)+1)/\∃ (s':Nat),(q10/\q10/\q12=q12/\(↑s_2:Int)+1=(↑s':Int)/\sy=sy/\dn=dn/\dm=dm/\kp=kp/\bs=bs/\aE s s (aE sta0 sta0 (encL l=encL l/\dV (aM q21 x).fst (stepsF s (List.take s' l)).fst)))/\(s' <= q3/\q9/\(stepsF s (List.take s' l)).snd=q2)/\q3 - s' < q3 - s_2)))) (aM q21 x).snd)/\(q12<=(↑s_2:Int)->(q5=q2->aE q21 q18 (q2=q17/\q14))/\(¬q5=q2->(q2<=sy/\sy<=(↑bs.length:Int)/\bs.length<=65536)/\(I64 q4->(¬q4=q2->q6->q7->q8->aE s q18 (q4=q17/\q1.synced=q16.synced/\q1.down=q16.down/\q1.doomed=q16.doomed/\q1.keep=q16.keep/\q1.b=q16.b))/\(q4=q2->(q2<=q1.synced/\q1.synced<=(↑q1.b.length:Int)/\q1.b.length<=65536)/\(I64 q1.ft->(¬q1.ft=q2->q6->q7->q8->aE s q18 (q1.ft=q17/\q15))/\(q1.ft=q2->aE q21 q18 (q2=q17/\q15)))))))) (stepsF s (List.take s_2 l)).fst))) (sy=q16.synced/\dn=q16.down/\dm=q16.doomed/\kp=q16.keep/\bs=q16.b)) (q13.synced=q16.synced/\q13.down=q16.down/\q13.doomed=q16.doomed/\q13.keep=q16.keep/\q13.b=q16.b)) q0.fst) q0.snd.snd) q0.snd.fst) (saveF q11 s l)) q1.sync) (q11.app (encL l))) 0) (↑q3:Int)) l.length) (q11.jW (encL l))) (↑l.length:Int)) (I64 s.floor)) (I64 s.term)) (I64 s.vote)) (l.all recOk=true)) (l=l)) (Dsk.mk bs sy dn dm kp))
 have hO:=h0;obtain ⟨o1,o2,o3⟩:=h0;dsimp only at o1 o2 o3;(repeat' with_reducible first|apply aZ|refine aY ?_|intro)
 all_goals try (refine ⟨0,?_⟩; (repeat' with_reducible first|apply aZ|refine aY ?_|intro))
 all_goals try (first | (refine ⟨‹Nat› + 1,?_⟩; (repeat' with_reducible first|apply aZ|refine aY ?_|intro) <;> (first | exact bt | (with_reducible exact acq ab ab) | (with_reducible exact MV ab ab ab) | (with_reducible exact VB h2 ab ab) | (with_reducible exact abf ab ab) | (with_reducible exact acT ab) | (with_reducible exact adV h1 h2) | (with_reducible exact ab5 ab ab) | (with_reducible exact (uc ab ab ab).1) | (with_reducible exact app_1 hO) | (with_reducible exact WM hO) | (with_reducible exact WD hO) | (with_reducible exact (congrArg Stable.floor (uc ab ab ab).2).symm) | (with_reducible exact (congrArg Stable.term (uc ab ab ab).2).symm) | (with_reducible exact (congrArg Stable.vote (uc ab ab ab).2).symm) | (with_reducible exact (congrArg Stable.log (uc ab ab ab).2).symm) | (rw [abA (d:=Dsk.mk bs sy dn dm kp) ab ab] <;> rfl) | (rw [abw (d:=Dsk.mk bs sy dn dm kp) ab ab ab ab] <;> rfl) | (rw [acb (d:=Dsk.mk bs sy dn dm kp) ab ab ab ab ab] <;> rfl) | (rw [abd (d:=Dsk.mk bs sy dn dm kp) ab ab ab ab ab ab] <;> rfl) | (rw [aeo (d:=Dsk.mk bs sy dn dm kp) ab ab ab ab ab ab] <;> rfl) | (rw [abM (d:=Dsk.mk bs sy dn dm kp) (k:=‹Nat›) ab] <;> rfl) | exact rfl); done) | (refine ⟨0,?_⟩; (repeat' with_reducible first|apply aZ|refine aY ?_|intro)))
 all_goals try (refine ⟨‹Nat› + 1,?_⟩; (repeat' with_reducible first|apply aZ|refine aY ?_|intro))
 all_goals (first | exact bt | (with_reducible exact acq ab ab) | (with_reducible exact MV ab ab ab) | (with_reducible exact VB h2 ab ab) | (with_reducible exact abf ab ab) | (with_reducible exact acT ab) | (with_reducible exact adV h1 h2) | (with_reducible exact ab5 ab ab) | (with_reducible exact (uc ab ab ab).1) | (with_reducible exact app_1 hO) | (with_reducible exact WM hO) | (with_reducible exact WD hO) | (with_reducible exact (congrArg Stable.floor (uc ab ab ab).2).symm) | (with_reducible exact (congrArg Stable.term (uc ab ab ab).2).symm) | (with_reducible exact (congrArg Stable.vote (uc ab ab ab).2).symm) | (with_reducible exact (congrArg Stable.log (uc ab ab ab).2).symm) | (rw [abA (d:=Dsk.mk bs sy dn dm kp) ab ab] <;> rfl) | (rw [abw (d:=Dsk.mk bs sy dn dm kp) ab ab ab ab] <;> rfl) | (rw [acb (d:=Dsk.mk bs sy dn dm kp) ab ab ab ab ab] <;> rfl) | (rw [abd (d:=Dsk.mk bs sy dn dm kp) ab ab ab ab ab ab] <;> rfl) | (rw [aeo (d:=Dsk.mk bs sy dn dm kp) ab ab ab ab ab ab] <;> rfl) | (rw [abM (d:=Dsk.mk bs sy dn dm kp) (k:=‹Nat›) ab] <;> rfl) | exact rfl)
noncomputable def acM:bN:=(aO 87 Bn abq)
theorem lH:ay Tryz.prog (al tyT) acM:=(ah MP DX)
variable {l:List Entry}
theorem aen {x:Entry} (h:l[k]? = some x):l.take k++[x]=l.take (k+1):=(ai h).symm
theorem acD (h:(l.length:Int)<=k):l.take k=l:=List.take_of_length_le (by omega)
def HL (l:List Entry):List (Nat × LI):=[(3,{ σ:=Nat,F:=fun k=>([(3,one (.own 0)),(6,one (.fz (.nm .entry) (l))),(7,one (.int (l).length)),(8,one (.int k))],[.row 52 (.nm .entry) ((l.take k))]),J:=fun k=>k<=l.length,μ:=fun k=>(l).length - k })]
noncomputable def AB:Kn:=aK ao aw fun _ _=>⟨[],[.agg (cellsOf (.nm .state) (State.mk 1 1 0 0 [] [] []))],none,false⟩
theorem Jz:CK 46 AB:=ag fun _ _ _=>by
 refine av lH [] Tryz.func46 (?_:(1:Int)=1/\(1:Int)=1/\(0:Int)=0/\(0:Int)=0 /\ @Eq (List (den (Sh.nm NT.sess))) [] [] /\ @Eq (List (den (Sh.nm NT.opn))) [] [] /\ @Eq (List (den (Sh.nm NT.snap))) [] []);exact ⟨rfl,rfl,rfl,rfl,rfl,rfl,rfl⟩
noncomputable def wu:Kn:=aK (ae (kC (aX 0 0)) (ae (kC cI) (ae (kC cI) ao))) tY fun (_,kd,to,_) n=>⟨[],[.agg (cellsOf (.nm .letter) (qJ n.c kd to))],none,false⟩
theorem Il:CK 51 wu:=ag fun (_,kd,to,_) n _=>by
 refine av lH [] Tryz.func51 (?_:(fun q0=>I64 kd->I64 to->kd=q0.kind/\n.c.me=q0.frm/\to=q0.to/\n.c.st.term=q0.term/\0=q0.a/\0=q0.b/\0=q0.c/\n.c.bin=q0.bin/\false=q0.ok/\q0.l=[]) (qJ n.c kd to));(repeat' with_reducible first|apply aZ|refine aY ?_|intro)
 all_goals first | exact bt | rfl
noncomputable def td:Kn:=aK (ae (kC (cL (.nm .entry))) ao) aw fun (l,_) _=>⟨[],[.c (.fz (.nm .entry) ((l)))],none,false⟩
theorem Cv:CK 60 td:=ag fun (l,_) _ _=>by
 refine av lH (HL l) Tryz.func60 (?_:(fun (q0:Nat)=>l.length*32<=140737488355328->∃ (s0:Nat),(l=l/\(↑l.length:Int)=(↑q0:Int)/\0=(↑s0:Int)/\List.take s0 l=[])/\s0<=q0/\∀ (s:Nat),s<=q0->((↑s:Int)<(↑q0:Int)->0<=(↑s:Int)/\(↑s:Int)<(↑l.length:Int)/\∀ (x:Entry),(fun (q1:Prop)=>l[s]? = some x->I64 x.term->q1->(q1->((List.take s l).length+[x].length)*32<=140737488355328)/\(q1->I64 ((↑s:Int)+1)/\∃ (s':Nat),(l=l/\(↑q0:Int)=(↑q0:Int)/\(↑s:Int)+1=(↑s':Int)/\List.take s l++[x]=List.take s' l)/\s' <= q0/\q0 - s' < q0 - s)) (x.b.length*1<=140737488355328))/\((↑q0:Int)<=(↑s:Int)->List.take s l=l)) l.length);iterate 3 ((all_goals (repeat' with_reducible first|apply aZ|refine aY ?_|intro)); (all_goals try (first | exact bt | exact rfl | exact (aen ab) | exact (acD ab) | (simp only [List.length_take,List.length_cons,List.length_nil]; omega))); all_goals try first | refine ⟨‹Nat› + 1,?_⟩ | refine ⟨0,?_⟩)
noncomputable def El:Kn:=aK (ae (kC (aX 0 0)) (ae (kC cI) ao)) tY fun (_,k,_) n=>⟨[],[],some ((kU ({ n with d:=⟨n.d.b,n.d.synced,n.d.down,true,k⟩ }))),false⟩
theorem TU:CK 62 El:=ag fun (_,k,_) n _=>by
 refine br lH [] Tryz.func62 (?_:I64 k->n.c.me=n.c.me/\n.c.many=n.c.many/\n.c.bin=n.c.bin/\aE n.c.st n.c.st (n.c.role=n.c.role/\n.c.commit=n.c.commit/\n.c.applied=n.c.applied/\bD n.c.s n.c.s (n.d.synced=n.d.synced/\n.d.down=n.d.down/\true=true/\k=k/\n.d.b=n.d.b/\n.rp=n.rp/\n.vs=n.vs/\n.bn=n.bn/\n.nx=n.nx/\n.mt=n.mt)));(repeat' with_reducible first|apply aZ|refine aY ?_|intro)
 all_goals first | exact bt | rfl
noncomputable def yi:Kn:=aK (ae (kC (aX 0 0)) (ae (kC cI) ao)) tY fun (_,k,_) n=>⟨[n.d.OK],[],some ((kU ({ n with d:=n.d.cD k }))),false⟩
theorem No:CK 30 yi:=ag fun (_,k,_) n hp=>by
 have h0:=cc hp;refine br lH [] Tryz.func30 (?_:(fun q0=>I64 k->(0<=n.d.synced/\n.d.synced<=(↑n.d.b.length:Int)/\n.d.b.length<=65536)/\n.c.me=n.c.me/\n.c.many=n.c.many/\n.c.bin=n.c.bin/\aE n.c.st n.c.st (n.c.role=n.c.role/\n.c.commit=n.c.commit/\n.c.applied=n.c.applied/\bD n.c.s n.c.s (q0.synced=q0.synced/\q0.down=q0.down/\q0.doomed=q0.doomed/\q0.keep=q0.keep/\q0.b=q0.b/\n.rp=n.rp/\n.vs=n.vs/\n.bn=n.bn/\n.nx=n.nx/\n.mt=n.mt))) (n.d.cD k));obtain ⟨o1,o2,o3⟩:=id h0;(repeat' with_reducible first|apply aZ|refine aY ?_|intro)
 all_goals first | exact bt | rfl
noncomputable def UR:bN:=(aO 30 yi (aO 62 El (aO 60 td (aO 51 wu (aO 46 AB acM)))))
theorem nQ:ay Tryz.prog (al tyT) UR:=(ah No (ah TU (ah Cv (ah Il (ah Jz lH)))))
variable {n:NdC}
theorem acK (h:¬ (k:Int)=n.me):jB n k++[(k:Int)]=jB n (k+1):=by
 simp [jB,List.range_succ,h]
theorem ac5 (h:(k:Int)=n.me):jB n k=jB n (k+1):=by
 simp [jB,List.range_succ,h]
theorem abF (h1:k<=n.many.toNat) (h:n.many<=k):jB n k=cK n:=by
 unfold cK; congr 1; omega
theorem lJ:(jB n k).length<=k:=by
 unfold jB;refine Nat.le_trans (List.length_filter_le _ _) ?_;simp
def LV (n:Nd):List (Nat × LI):=[(3,{ σ:=Nat,F:=fun k=>([(0,one (.ptr 0 0)),(3,one (.own 8)),(8,one (.int n.c.many)),(9,one (.int k))],(kU (n)++[.row 3 .int ((jB n.c k))])),J:=fun k=>k<=n.c.many.toNat,μ:=fun k=>n.c.many.toNat - k })]
noncomputable def uV:Kn:=aK (ae (kC (cL .int)) ao) aw fun (l,_) _=>⟨[],[.c (.own 0)],some ([.row 3 .int ((l))]),true⟩
theorem wk:CK 75 uV:=ag fun (l,_) _ _=>by
 refine dD nQ [] Tryz.func75 (?_:(fun q0=>q0->∀ (b:Bool),(b=true->l=[])->(b=true->l=[])/\(b=false->q0/\l=l)) (l.length*8<=140737488355328));exact fun h b hb=>⟨hb,fun _=>⟨h,rfl⟩⟩
theorem Jd (l:List Int):Sat Tryz.prog (al tyT) 75 [.c (.fz .int (l))] [] ⟨[],[.c (.own 0)],some ([.row 3 .int ((l))]),true⟩:=wk _ _ _ rfl (by simp)
noncomputable def MI:Kn:=aK (ae (kT (.nm .letter)) ao) aw fun (x,_) _=>⟨[],[.agg (cellsOf (.nm .letter) (x))],none,false⟩
theorem Zp:CK 59 MI:=ag fun (x,_) _ _=>by
 refine av nQ [] Tryz.func59 (?_:aJ x (x.l.length*32<=140737488355328->nN x x));(repeat' with_reducible first|apply aZ|refine aY ?_|intro)
 all_goals first | exact bt | rfl
noncomputable def uO:Kn:=aK (ae (kC (aX 0 0)) ao) tY fun _ n=>⟨[n.c.many<=5],[.c (.fz .int ((cK n.c)))],none,false⟩
theorem Ja:CK 50 uO:=ag fun _ n hp=>by
 have h0:=cc hp;refine av nQ (LV n) Tryz.func50 (?_:(fun (q0:Int)=>(fun (q1:Nat)=>∃ (s0:Nat),(q0=q0/\0=(↑s0:Int)/\qu n n (jB n.c s0=[]))/\s0<=q1/\∀ (s:Nat),(fun (q2:Int)=>s<=q1->((↑s:Int)<q0->(¬(↑s:Int)=n.c.me->((jB n.c s).length+[(↑s:Int)].length)*8<=140737488355328/\I64 q2/\∃ (s':Nat),(q0=q0/\q2=(↑s':Int)/\qu n n (jB n.c s++[(↑s:Int)]=jB n.c s'))/\s' <= q1/\q1 - s' < q1 - s)/\((↑s:Int)=n.c.me->I64 q2/\∃ (s':Nat),(q0=q0/\q2=(↑s':Int)/\qu n n (jB n.c s=jB n.c s'))/\s' <= q1/\q1 - s' < q1 - s))/\(q0<=(↑s:Int)->jB n.c s=cK n.c)) ((↑s:Int)+1)) q0.toNat) n.c.many);iterate 3 ((all_goals (repeat' with_reducible first|apply aZ|refine aY ?_|intro)); (all_goals try (first | exact bt | exact rfl | exact (acK ab) | exact (ac5 ab) | exact (abF ab ab) | (have:=lJ (n:=n.c) (k:=‹Nat›); simp only [List.length_cons,List.length_nil]; omega))); all_goals try first | refine ⟨‹Nat› + 1,?_⟩ | refine ⟨0,?_⟩)
noncomputable def Wj:bN:=(aO 50 uO (aO 59 MI (aO 75 uV UR)))
theorem OF:ay Tryz.prog (al tyT) Wj:=(ah Ja (ah Zp (ah wk nQ)))
end Go.Proofs.YticbaadnibdbkaaGreat
namespace Go.Proofs.YticbaadnibdbkaaGreat
open Go.RowKit Go.Proofs Go.Shelf Go.Sort
def wZ (w w1:World) (l:List Int) (g:Nat) (sp:List Value):Prop:=Kp [] w w1/\w.heap.size<=g/\w1.heap[g]? = some (.cells (List.toArray (l.map (Value.int .i64)++sp)) 3 (0,0))
variable {l:List Int} {w:World}
theorem CE {G:Gl} {ρ:List RE} {v:Value} (hG:G.shp=al tyT) (hR:Rep G ρ [] w) (h1:Rd (cx G ρ w) ρ (.fz .int l) v) (hl:l.length≠0) :
  jE Tryz.prog 75 #[v] w fun r w1=>∃ g cap sp,r = .slice (some ⟨g,0,none⟩) l.length cap/\wZ w w1 l g sp:=by
 have hρ:ρ=[]:=aa9 hR.obj.length.symm;subst hρ;refine ((Jd l).2 G [] w [v] hG hR (.cons h1 .nil)).mono fun r w1 ⟨us,e,ρ',hR',hx,hblk,hus,hk⟩=>?_;have hH:getO [AO.row 3 .int l] 0 = .row 3 .int l:=rfl;cases hus with | cons a b=>?_
 cases b;rcases bz hR' hH with ⟨_,h5⟩ | ⟨g,cap,cells,sp,h5,h6,h7,h8,h9,h10⟩
 ·rw [h5] at hl; exact absurd rfl hl
 rcases a with ⟨_,_,_,_,h3,rfl⟩ | ⟨h3,_⟩;case inr=>rw [h5] at h3; cases h3
 rw [h5] at h3; cases h3;obtain ⟨rfl,hI⟩:=mM h7;refine ⟨g,cap,sp,e,(hk rfl).1,?_,h6⟩;rcases Nat.lt_or_ge g w.heap.size with h | h
 ·exact absurd ⟨0,_,h5,rfl⟩ (hx.old g h (fun ⟨i,r,h,_⟩=>by simp at h)).1
 exact h
variable {sp:List Value} {w1:World}
theorem Da {g cap:Nat} (h:wZ w w1 l g sp) (h0:l.length<=12) :
  Calls Tryz.prog 265 #[.slice (some ⟨g,0,none⟩) l.length cap,.func (.func 266) #[] #[]] w1 fun e w2=>e = .returned (.tuple #[])/\wZ w w2 (oA l) g sp:=by
 obtain ⟨hk,hg,h6⟩:=h;refine (Ln h0 h6).mono fun e w2 ⟨he,hk2,h7⟩=>⟨he,⟨hk2.os.trans hk.os,hk2.tape.trans hk.tape,hk2.output.trans hk.output,Nat.le_trans hk.size hk2.size,fun b hb hn=>?_⟩,hg,h7⟩;exact (hk2.block b (aba hb hk.size) (by simp; omega)).trans (hk.block b hb hn)
theorem CG {g i:Nat} (h:wZ w w1 l g sp) (hi:i<l.length):w1.cell? ⟨g,i,none⟩=some (.int .i64 (l.getD i 0)):=by
 rw [Lib.cell_of_heap h.2.2,List.getElem?_toArray,List.getElem?_append_left (by simpa using hi),List.getElem?_map,List.getElem?_eq_getElem hi,List.getD_eq_getElem?_getD,List.getElem?_eq_getElem hi]; rfl
theorem HW (l:List Int) (h0:l.length<=12):Sat Tryz.prog (al tyT) 228 [.c (.fz .int l)] [] ⟨[l.length<=12],[.c (.int (gE l))],none,false⟩:=by
 refine ⟨⟨_,Tryz.func228,by decide,by kernel_rfl⟩,fun G ρ w vs hG hR hvs=>?_⟩;cases hvs with | cons h1 hvs=>?_
 cases hvs;have hc:=CE (l:=l) hG hR h1;replace h1:Pd (cx G ρ w) (.fz .int l) _:=h1;cases h1 with | fz k1 k2 k3 k4 k5=>?_
 rename_i a k cells;have hI:=(mM k4).2;by_cases hl:l.length=0
 ·clear hc;go_enter Tryz.func228,Tryz.ntmps228
  have hl':(l.length:Int)=0:=by omega
  go_wp2
  go_ret
  refine ⟨_,rfl,[_],rfl,?_,?_⟩
  ·exact Kp.refl w
  refine .cons ?_ .nil;have e:gE l=0:=if_pos hl;show Pd (cx G ρ w) (.int (gE l)) (.int .i64 0);rw [e]; exact .int ⟨by decide,by decide⟩
 replace hc:=hc hl;go_enter Tryz.func228,Tryz.ntmps228
 have hl':¬ (l.length:Int)=0:=by omega
 have h4:(l.length:Int).tdiv 2=((l.length / 2:Nat):Int):=by rw [aiP (by omega)]; omega
 have h5:0<=(l.length:Int).tdiv 2:=by omega
 have h6:(l.length:Int).tdiv 2<(l.length:Int):=by omega
 have h7:I64 ((l.length:Int).tdiv 2):=bR (by omega) (by omega);go_wp2_with (first | (go_at_call 75; refine ai0 hc ?_; rintro e w1 ⟨_,rfl,g,cap,sp,rfl,hw1⟩) | (go_at_call 265; refine ai0 (Da hw1 h0) ?_; rintro e w2 ⟨rfl,hw2⟩; have hcl:=CG (i:=l.length / 2) hw2 (by rw [pw]; omega)))
 go_ret
 refine ⟨_,rfl,[_],rfl,hw2.1,.cons ?_ .nil⟩;have e:gE l=(oA l).getD (l.length / 2) 0:=if_neg hl;show Pd (cx G ρ w2) (.int (gE l)) (.int .i64 ((oA l).getD (l.length / 2) 0));rw [e];refine .int (hI _ ((List.mergeSort_perm l (fun a b=>decide (b<=a))).mem_iff.1 (show _ ∈ oA l from ?_)));have hlt:l.length / 2<(oA l).length:=by rw [pw]; omega
 rw [List.getD_eq_getElem?_getD,List.getElem?_eq_getElem hlt];exact aeG hlt
end Go.Proofs.YticbaadnibdbkaaGreat
namespace Go.Proofs.YticbaadnibdbkaaGreat
open Go.RowKit
theorem JH (l:List Int) (h0:l.length<=12):Sat Tryz.prog (al tyT) 228 [.c (.fz .int (l))] [] ⟨[l.length<=12],[.c (.int ((gE l)))],none,false⟩:=HW l h0
noncomputable def zN:Kn:=aK (ae (kC (cL .int)) ao) aw fun (l,_) _=>⟨[l.length<=12],[.c (.int ((gE l)))],none,false⟩
theorem Mt:CK 228 zN:=ag fun (l,_) _ hp=>JH l (cc hp)
noncomputable def Vm:bN:=(aO 228 zN Wj)
theorem sB:ay Tryz.prog (al tyT) Vm:=(ah Mt OF)
theorem gC {d:Dsk} {s:Stable} {l:List Record} (h:¬ (saveF d s l).2.2=0):(saveF d s l).2.1=s:=by
 revert h;unfold saveF;repeat' split
 all_goals first | (intro _; rfl) | (intro h; exact absurd rfl h)
noncomputable def v_:Kn:=aK (ae (kT (.nm .stable)) (ae (kC (cL .int)) (ae (kC cI) ao))) aw fun (s,l,k,_) _=>⟨[l.length<=12],[.c (.int ((mf s l k)))],none,false⟩
theorem Is:CK 173 v_:=ag fun (s,l,k,_) _ hp=>by
 have h0:=cc hp;refine av sB [] Tryz.func173 (?_:(fun q0=>cf s (l.length*8<=140737488355328->I64 k->l.length<=12/\(I64 (gE l)->(k<q0->I64 (cJ s.log q0))->(k<q0/\cJ s.log q0=s.term->q0=mf s l k)/\(q0<=k\/¬cJ s.log q0=s.term->k=mf s l k)))) (min (gE l) (↑s.log.length:Int)));(repeat' with_reducible first|apply aZ|refine aY ?_|intro)
 all_goals (first | exact bt | (rw [mf,if_pos ⟨ab,ab⟩]) | (rw [mf,if_neg aL]))
noncomputable def FL:Kn:=aK (ae (kC (aX 0 0)) (ae (kC (cL (.nm .record))) ao)) tY fun (_,l,_) n=>⟨[n.d.OK,n.c.st.log.length<=10000,l.length<=1000],[.c (.int ((n.aN l)))],some ((kU ((n.save l)))),false⟩
theorem Qv:CK 47 FL:=ag fun (_,l,_) n hp=>by
 have h0:=cc hp;have h1:=cc (eQ hp);have h2:=cc (eQ (eQ hp));refine br sB [] Tryz.func47 (?_:(fun q0=>l.length*48<=140737488355328->((0<=n.d.synced/\n.d.synced<=(↑n.d.b.length:Int)/\n.d.b.length<=65536)/\n.c.st.log.length<=10000/\l.length<=1000)/\cf q0.snd.fst (I64 q0.snd.snd->(¬q0.snd.snd=0->q0.snd.snd=n.aN l/\bY (Nd.mk n.c q0.fst n.rp n.vs n.bn n.nx n.mt) (n.save l))/\(q0.snd.snd=0->0=n.aN l/\bY (Nd.mk (NdC.mk n.c.me n.c.many n.c.bin q0.snd.fst n.c.role n.c.commit n.c.applied n.c.s) q0.fst n.rp n.vs n.bn n.nx n.mt) (n.save l)))) (saveF n.d n.c.st l));obtain ⟨o1,o2,o3⟩:=id h0;(repeat' with_reducible first|apply aZ|refine aY ?_|intro)
 all_goals (first | exact bt | exact rfl | exact (Eq.symm ab) | exact (congrArg Stable.floor (gC ab)).symm | exact (congrArg Stable.term (gC ab)).symm | exact (congrArg Stable.vote (gC ab)).symm | exact (congrArg Stable.log (gC ab)).symm)
noncomputable def WN:bN:=(aO 47 FL (aO 173 v_ Vm))
theorem nS:ay Tryz.prog (al tyT) WN:=(ah Qv (ah Is sB))
structure AJ (n q:Nd):Prop where
 eq:n.apply=q.apply
 le:0<=q.c.applied/\q.c.commit<=(q.c.st.log.length:Int)/\(q.rp.length:Int)<=q.c.applied/\q.c.st.log.length<=10000
noncomputable def Nd.ap1 (q:Nd):Nd:={ q with c:={ q.c with s:=plS q.c.bin q.c.s ((q.c.st.log.drop q.c.applied.toNat).take ((q.c.applied+1).toNat - q.c.applied.toNat)),applied:=q.c.applied+1 },rp:=q.rp++plR q.c.bin q.c.s ((q.c.st.log.drop q.c.applied.toNat).take ((q.c.applied+1).toNat - q.c.applied.toNat)) }
section
variable {n q:Nd}
theorem ag8 (h:(0<=n.c.applied/\n.c.commit<=(n.c.st.log.length:Int))/\(n.rp.length:Int)<=n.c.applied/\n.c.st.log.length<=10000):AJ n n:=⟨rfl,by omega⟩
theorem Su (h:AJ n q):(q.c.applied+1).toNat - q.c.applied.toNat=1:=by have:=h.le; omega
theorem NY (h:AJ n q):(plR q.c.bin q.c.s ((q.c.st.log.drop q.c.applied.toNat).take ((q.c.applied+1).toNat - q.c.applied.toNat))).length<=1:=by
 rw [Su h,plR,Cf,List.length_take,List.length_take]; omega
theorem aha (h:AJ n q) (h1:q.c.applied<q.c.commit) (h2:pE q.c.bin ((q.c.st.log.drop q.c.applied.toNat).take ((q.c.applied+1).toNat - q.c.applied.toNat))=0):AJ n q.ap1:=by
 have hl:=h.le;have hk:=NY h;refine ⟨?_,?_,hl.2.1,?_,hl.2.2.2⟩
 ·rw [h.eq,Nd.apply,show (q.c.commit - q.c.applied).toNat=(q.c.commit - (q.c.applied+1)).toNat+1 by omega,Nd.dg,if_pos h1];rw [Su h] at h2;rw [if_pos h2,Nd.apply,Nd.ap1,Su h]
 ·show 0<=q.c.applied+1;omega
 show (((q.rp++_).length:Nat):Int)<=q.c.applied+1;rw [List.length_append]; omega
theorem aiB (h1:q.c.applied<q.c.commit):(q.c.commit - (q.c.applied+1)).toNat<(q.c.commit - q.c.applied).toNat:=by omega
theorem ahf (h:AJ n q) (h1:q.c.applied<q.c.commit) (h2:¬ pE q.c.bin ((q.c.st.log.drop q.c.applied.toNat).take ((q.c.applied+1).toNat - q.c.applied.toNat))=0):n.apply=q:=by
 rw [Su h] at h2;rw [h.eq,Nd.apply,show (q.c.commit - q.c.applied).toNat=(q.c.commit - (q.c.applied+1)).toNat+1 by omega,Nd.dg,if_pos h1,if_neg h2]
theorem ahE (h:AJ n q) (h1:q.c.commit<=q.c.applied):n.apply=q:=by
 rw [h.eq,Nd.apply,show (q.c.commit - q.c.applied).toNat=0 by omega,Nd.dg]
theorem ag6 (h:AJ n q):0<=q.c.applied:=h.le.1
theorem aeR (h:AJ n q) (h1:q.c.applied<q.c.commit):q.c.applied+1<=(q.c.st.log.length:Int):=by have:=h.le; omega
theorem afD (h:AJ n q) (h1:q.c.applied<q.c.commit):I64 (q.c.applied+1):=by have:=h.le; exact bR (by omega) (by omega)
theorem aiz (h:AJ n q) (h1:q.c.applied<q.c.commit):(q.rp.length+(plR q.c.bin q.c.s ((q.c.st.log.drop q.c.applied.toNat).take ((q.c.applied+1).toNat - q.c.applied.toNat))).length)*16<=140737488355328:=by
 have:=h.le; have:=NY h; omega
end
def lC (n:Nd):Site:=if n.d.down=true then ⟨false,0,0,0,0,0,0,0,[],⟨0,0,0,0,[],[],[]⟩⟩ else ⟨true,n.c.role,n.c.bin,n.c.st.floor,n.c.st.term,n.c.st.vote,n.c.commit,n.c.applied,n.c.st.log,n.c.s⟩
variable {n:Nd}
theorem Z_ (h:n.d.down=true):lC n=⟨false,0,0,0,0,0,0,0,[],⟨0,0,0,0,[],[],[]⟩⟩:=if_pos h
theorem Xj (h:n.d.down=false):lC n=⟨true,n.c.role,n.c.bin,n.c.st.floor,n.c.st.term,n.c.st.vote,n.c.commit,n.c.applied,n.c.st.log,n.c.s⟩:=if_neg (by rw [h]; decide)
theorem kJ {s:Stable} {r:Route} (h:¬ (gp s r).2=0):(gp s r).1=cF:=by
 revert h;unfold gp;repeat' split
 all_goals first | (intro _; rfl) | (intro h; exact absurd rfl h)
section
variable {n:Nd} {k t:Int}
end
def QC (n:Nd):List (Nat × LI):=[(0,{ σ:=Nd,F:=fun q=>([(0,one (.ptr 0 0))],(kU (q))),J:=fun q=>AJ n q,μ:=fun q=>(q.c.commit - q.c.applied).toNat })]
noncomputable def vU:Kn:=aK (ae (kC (aX 0 0)) (ae (kC cI) ao)) tY fun (_,k,_) n=>⟨[0<=k/\k<(n.nx.length:Int)],[.agg (cellsOf (.nm .letter) ((je n k).1)),.c (.int (((je n k).2)))],none,false⟩
theorem Ij:CK 71 vU:=ag fun (_,k,_) n hp=>by
 have h0:=cc hp;refine av nS [] Tryz.func71 (?_:(fun q2=>(fun q1=>(fun q0=>I64 k->(q2<=k/\k<(↑n.nx.length:Int))/\(I64 (n.nx.getD k.toNat (au Sh.int))->aJ q0.fst (I64 q0.snd->(¬q0.snd=q2->q2=q1.kind/\q2=q1.frm/\q2=q1.to/\q2=q1.term/\q2=q1.a/\q2=q1.b/\q2=q1.c/\q2=q1.bin/\false=q1.ok/\q1.l=[]/\q0.snd=(je n k).snd)/\(q0.snd=q2->aJ q0.fst (gV q0.fst q1 (q2=(je n k).snd)))))) (gp n.c.st (Route.mk n.c.me k (n.nx.getD k.toNat (au Sh.int)) n.c.commit n.c.bin))) (je n k).fst) (0:Int));(repeat' with_reducible first|apply aZ|refine aY ?_|intro)
 all_goals (first | exact bt | exact rfl | exact (congrArg Letter.kind (kJ (by assumption))).symm | exact (congrArg Letter.frm (kJ (by assumption))).symm | exact (congrArg Letter.to (kJ (by assumption))).symm | exact (congrArg Letter.term (kJ (by assumption))).symm | exact (congrArg Letter.a (kJ (by assumption))).symm | exact (congrArg Letter.b (kJ (by assumption))).symm | exact (congrArg Letter.c (kJ (by assumption))).symm | exact (congrArg Letter.bin (kJ (by assumption))).symm | exact (congrArg Letter.ok (kJ (by assumption))).symm | exact (congrArg Letter.l (kJ (by assumption))).symm | exact (Eq.symm (by assumption)) | exact (congrArg Letter.l (kJ (by assumption))))
noncomputable def Gt:Kn:=aK (ae (kC (aX 0 0)) ao) tY fun _ n=>⟨[],[.agg (cellsOf (.nm .site) (lC n))],none,false⟩
theorem TD:CK 17 Gt:=ag fun _ n _=>by
 refine av nS [] Tryz.func17 (?_:(fun q1=>(fun q0=>(fun q2=>(n.d.down=true->false=q0.up/\q1=q0.role/\q1=q0.binary/\q1=q0.floor/\q1=q0.term/\q1=q0.vote/\q1=q0.commit/\q1=q0.applied/\q0.log=[]/\q1=q2.version/\q1=q2.next/\q1=q2.keep/\q1=q2.quota/\q2.sess=[]/\q2.opens=[]/\q2.snaps=[])/\(n.d.down=false->n.c.st.log.length*32<=140737488355328->I64 n.c.s.version->I64 n.c.s.next->I64 n.c.s.keep->I64 n.c.s.quota->ZF (Site.mk true n.c.role n.c.bin n.c.st.floor n.c.st.term n.c.st.vote n.c.commit n.c.applied n.c.st.log n.c.s) q0)) q0.state) (lC n)) (0:Int));(repeat' with_reducible first|apply aZ|refine aY ?_|intro)
 all_goals (first | exact bt | (rw [Z_ (n:=n) ab] <;> rfl) | (rw [Xj (n:=n) ab] <;> rfl))
noncomputable def zC:Kn:=aK (ae (kC (aX 0 0)) ao) tY fun _ n=>⟨[(0<=n.c.applied/\n.c.commit<=(n.c.st.log.length:Int))/\(n.rp.length:Int)<=n.c.applied/\n.c.st.log.length<=10000],[],some ((kU ((n.apply)))),false⟩
theorem Jv:CK 99 zC:=ag fun _ n hp=>by
 have h0:=cc hp;refine br nS (QC n) Tryz.func99 (?_:(fun q0=>∃ s0,bY n s0/\AJ n s0/\∀ (s:Nd),(fun q4=>(fun q3=>(fun q2=>(fun q5=>(fun q1=>(fun q6=>AJ n s->(q2<q4.commit->I64 q5/\(0<=q2/\q2<=q5/\q5<=(↑q4.st.log.length:Int))/\(I64 q6.version->I64 q6.next->I64 q6.keep->I64 q6.quota->I64 (pE q3 q1)->(¬pE q3 q1=0->bY s n.apply)/\(pE q3 q1=0->(s.rp.length+(plR q3 q4.s q1).length)*16<=140737488355328/\I64 q5/\∃ s',bY (Nd.mk (NdC.mk q4.me q4.many q3 q4.st q4.role q4.commit q5 q6) s.d (s.rp++plR q3 q4.s q1) s.vs s.bn s.nx s.mt) s' /\ AJ n s' /\ (s'.c.commit - s'.c.applied).toNat<(q4.commit - q2).toNat)))/\(q4.commit<=q2->bY s n.apply)) (plS q3 q4.s q1)) (List.take (q5.toNat - q2.toNat) (List.drop q2.toNat q4.st.log))) (q2+q0)) q4.applied) q4.bin) s.c) (1:Int));obtain ⟨hp0,hp1⟩:=id h0;(repeat' with_reducible first|apply aZ|refine aY ?_|intro)
 all_goals try ( refine ⟨n,?_⟩; (repeat' with_reducible first|apply aZ|refine aY ?_|intro))
 all_goals try ( refine ⟨(‹Nd›).ap1,?_⟩; (repeat' with_reducible first|apply aZ|refine aY ?_|intro))
 all_goals (first | exact bt | exact rfl | exact (ag8 (n:=n) h0) | exact ag6 ab | exact (aeR ab ab) | exact (afD ab ab) | exact (aiz ab ab) | exact (aiB ab) | exact (aha ab ab ab) | (rw [ahf ab ab ab] <;> rfl) | (rw [ahE ab ab] <;> rfl))
noncomputable def VG:bN:=(aO 99 zC (aO 17 Gt (aO 71 vU WN)))
theorem nu:ay Tryz.prog (al tyT) VG:=(ah Jv (ah TD (ah Ij nS)))
section
variable {n:Nd} {l:List Int} {x:Int} {k:Nat}
theorem aar:∀ {l:List Int},(ck n l).2=0->ck n (l++[x])=if (je n x).2=0 then ((ck n l).1++[(je n x).1],0) else ([],(je n x).2)
 | [],_=>by
  rw [aiD];by_cases h:(je n x).2=0
  ·rw [if_pos h]; simp [ck,h]
  rw [if_neg h]; simp [ck,h]
 | t :: l,h=>by
  unfold ck at h;split at h
  ·rename_i h1;split at h
   ·rename_i h2;rw [List.cons_append,ck,if_pos h1,aar h2];by_cases h3:(je n x).2=0
    ·rw [if_pos h3,if_pos h3,if_pos rfl,ck,if_pos h1,if_pos h2]; rfl
    rw [if_neg h3,if_neg h3,if_neg h3]
   rename_i h2; exact absurd h h2
  rename_i h1; exact absurd h h1
theorem adj:∀ {l m:List Int},¬ (ck n l).2=0->ck n (l++m)=([],(ck n l).2)
 | [],_,h=>absurd rfl h
 | t :: l,m,h=>by
  unfold ck at h ⊢;rw [List.cons_append];dsimp only;split at h
  ·rename_i h1;rw [if_pos h1];split at h
   ·exact absurd rfl h
   rename_i h2;rw [if_neg h2,adj h2,if_neg h2,if_pos h1]
  rename_i h1;rw [if_neg h1,if_neg h1]
theorem Cc:∀ {l:List Int},(ck n l).1.length<=l.length
 | []=>Nat.le_refl _
 | t :: l=>by
  have:=Cc (l:=l);unfold ck;split
  ·split <;> simp <;> omega
  simp
theorem agM (h:n.d.down=true):bJ n=([],30):=if_pos h
theorem agd (h:n.d.down=false) (h1:¬ n.c.role=2):bJ n=([],33):=by
 rw [bJ,if_neg (by rw [h]; decide),if_neg h1]
theorem adQ (h:n.d.down=false) (h1:n.c.role=2):bJ n=ck n (cK n.c):=by
 rw [bJ,if_neg (by rw [h]; decide),if_pos h1]
theorem ag9 (h:n.d.down=false) (h1:n.c.role=2) (hk:(ck n ((cK n.c).take k)).2=0) (hx:(cK n.c)[k]? = some x) (he:¬ (je n x).2=0):bJ n=([],(je n x).2):=by
 have e:cK n.c=(cK n.c).take k++[x]++(cK n.c).drop (k+1):=by
  rw [<- ai hx,List.take_append_drop]
 have e2:=aar (x:=x) hk;rw [if_neg he] at e2;rw [adQ h h1,e,adj (by rw [e2]; exact he),e2]
theorem afe (h:n.d.down=false) (h1:n.c.role=2) (hk:(ck n ((cK n.c).take k)).2=0) (hl:((cK n.c).length:Int)<=k):bJ n=((ck n ((cK n.c).take k)).1,0):=by
 rw [adQ h h1,List.take_of_length_le (by omega)] at *;exact Prod.ext rfl hk
theorem acI (hk:(ck n ((cK n.c).take k)).2=0) (hx:(cK n.c)[k]? = some x) (he:(je n x).2=0):(ck n ((cK n.c).take k)).1++[(je n x).1]=(ck n ((cK n.c).take (k+1))).1/\(ck n ((cK n.c).take (k+1))).2=0:=by
 rw [ai hx,aar hk,if_pos he]; exact ⟨rfl,rfl⟩
theorem agY {y:Letter} (hm:n.c.many<=5):((ck n ((cK n.c).take k)).1.length+[y].length)*96<=140737488355328:=by
 have h1:=Cc (n:=n) (l:=(cK n.c).take k);have h2:(cK n.c).length<=n.c.many.toNat:=lJ;rw [List.length_take] at h1;simp only [List.length_cons,List.length_nil]; omega
theorem WG {n:NdC} (hx:(cK n)[k]? = some x):x≠n.me/\0<=x/\x<n.many:=w_ (aiN.2 ⟨k,hx⟩)
theorem afS (h:n.c.role=0\/(n.nx.length:Int)=n.c.many) (h1:n.c.role=2) (hx:(cK n.c)[k]? = some x):x<(n.nx.length:Int):=by
 have:=WG hx; omega
end
section
variable {n:Nd} {c:Command}
theorem mh {b:Bool} (h:b=false):¬ b=true:=by rw [h]; decide
theorem afs (h:n.d.down=true):cR n c=⟨n,0,0,30⟩:=if_pos h
theorem agx (h:n.d.down=false) (h1:¬ n.c.role=2):cR n c=⟨n,0,0,33⟩:=by rw [cR,if_neg (mh h),if_pos h1]
theorem agQ (h:n.d.down=false) (h1:n.c.role=2) (h2:¬ bG c n.c.s.version=0):cR n c=⟨n,0,0,bG c n.c.s.version⟩:=by rw [cR,if_neg (mh h),if_neg (by omega),if_pos h2]
variable (h:n.d.down=false) (h1:n.c.role=2) (h2:bG c n.c.s.version=0)
include h h1 h2
theorem aft (h3:c.kind=8) (h4:¬ c.n=n.c.s.version+1):cR n c=⟨n,0,0,1⟩:=by rw [cR,if_neg (mh h),if_neg (by omega),if_neg (by omega),if_pos ⟨h3,h4⟩]
theorem aeZ (h3:¬ c.kind=8\/c.n=n.c.s.version+1) (h4:c.kind=8) (h5:ll n.c.s.version n.bn=false):cR n c=⟨n,0,0,34⟩:=by rw [cR,if_neg (mh h),if_neg (by omega),if_neg (by omega),if_neg (by omega),if_pos ⟨h4,h5⟩]
variable (h3:¬ c.kind=8\/c.n=n.c.s.version+1) (h4:¬ c.kind=8\/ll n.c.s.version n.bn=true)
include h3 h4
theorem QI:cR n c=if 64<(n.c.st.log.length:Int)+1 then ⟨n,0,0,20⟩ else if ¬ (ei c n.c.st.term n.c.s.version).2=0 then ⟨n,0,0,(ei c n.c.st.term n.c.s.version).2⟩
 else let l:=[⟨3,(n.c.st.log.length:Int)+1,(ei c n.c.st.term n.c.s.version).1.term,(ei c n.c.st.term n.c.s.version).1.b⟩]
  if n.aN l=0 then ⟨n.save l,(n.c.st.log.length:Int)+1,n.c.st.term,0⟩ else ⟨n.save l,0,0,n.aN l⟩:=by
 rw [cR,if_neg (mh h),if_neg (by omega),if_neg (by omega),if_neg (by omega),if_neg];rintro ⟨k1,k2⟩;rcases h4 with k3 | k3
 ·exact k3 k1
 rw [k3] at k2; cases k2
theorem agI (h5:64<(n.c.st.log.length:Int)+1):cR n c=⟨n,0,0,20⟩:=by rw [QI h h1 h2 h3 h4,if_pos h5]
variable (h5:(n.c.st.log.length:Int)+1<=64)
include h5
theorem ah6 (h6:¬ (ei c n.c.st.term n.c.s.version).2=0):cR n c=⟨n,0,0,(ei c n.c.st.term n.c.s.version).2⟩:=by rw [QI h h1 h2 h3 h4,if_neg (by omega),if_pos h6]
theorem afF (h6:(ei c n.c.st.term n.c.s.version).2=0) (h7:¬ n.aN [⟨3,(n.c.st.log.length:Int)+1,(ei c n.c.st.term n.c.s.version).1.term,(ei c n.c.st.term n.c.s.version).1.b⟩]=0):cR n c=⟨n.save [⟨3,(n.c.st.log.length:Int)+1,(ei c n.c.st.term n.c.s.version).1.term,(ei c n.c.st.term n.c.s.version).1.b⟩],0,0,n.aN [⟨3,(n.c.st.log.length:Int)+1,(ei c n.c.st.term n.c.s.version).1.term,(ei c n.c.st.term n.c.s.version).1.b⟩]⟩:=by rw [QI h h1 h2 h3 h4,if_neg (by omega),if_neg (by omega)]; exact if_neg h7
theorem afv (h6:(ei c n.c.st.term n.c.s.version).2=0) (h7:n.aN [⟨3,(n.c.st.log.length:Int)+1,(ei c n.c.st.term n.c.s.version).1.term,(ei c n.c.st.term n.c.s.version).1.b⟩]=0):cR n c=⟨n.save [⟨3,(n.c.st.log.length:Int)+1,(ei c n.c.st.term n.c.s.version).1.term,(ei c n.c.st.term n.c.s.version).1.b⟩],(n.c.st.log.length:Int)+1,n.c.st.term,0⟩:=by rw [QI h h1 h2 h3 h4,if_neg (by omega),if_neg (by omega)]; exact if_pos h7
end
section
variable {n:Nd} {x:Letter}
theorem ag1 (h:¬ (aH n.c.st x).2.2=0):cE n x=⟨n,[],(aH n.c.st x).2.2⟩:=if_pos h
theorem agi (h:(aH n.c.st x).2.2=0) (h1:¬ n.aN (aH n.c.st x).1=0):cE n x=⟨n.save (aH n.c.st x).1,[],n.aN (aH n.c.st x).1⟩:=by rw [cE,if_neg (by omega),if_pos h1]
theorem agq (h:(aH n.c.st x).2.2=0) (h1:n.aN (aH n.c.st x).1=0):cE n x=⟨n.save (aH n.c.st x).1,[{ qJ (n.save (aH n.c.st x).1).c 2 x.frm with ok:=(aH n.c.st x).2.1 }],0⟩:=by rw [cE,if_neg (by omega),if_neg (by omega)]
theorem Ut {s:Stable}:(aH s x).1.length<=1000:=by
 have h:=fV (s:=s) (t:=x.term);unfold aH;repeat' split
 all_goals first | (simp; done) | (dsimp only; omega)
end
def aah (n:Nd):List (Nat × LI):=[(7,{ σ:=Nat,F:=fun k=>([(0,one (.ptr 0 0)),(4,one (.own 8)),(21,one (.fz .int (cK n.c))),(22,one (.int (cK n.c).length)),(23,one (.int k))],(kU (n)++[.row 40 (.nm .letter) (((ck n ((cK n.c).take k)).1))])),J:=fun k=>k<=(cK n.c).length/\(ck n ((cK n.c).take k)).2=0,μ:=fun k=>(cK n.c).length - k })]
noncomputable def DL:Kn:=aK (ae (kC (aX 0 0)) ao) tY fun _ n=>⟨[n.c.many<=5,n.c.role=0\/(n.nx.length:Int)=n.c.many],[.c (.fz (.nm .letter) (((bJ n).1))),.c (.int (((bJ n).2)))],none,false⟩
theorem Ti:CK 31 DL:=ag fun _ n hp=>by
 have h0:=cc hp;have h1:=cc (eQ hp);refine av nu (aah n) Tryz.func31 (?_:(fun (q2:Prop)=>(fun (q1:Int)=>(fun (q0:List Int)=>(fun (q3:Nat)=>(n.d.down=true->q2/\30=(bJ n).snd)/\(n.d.down=false->(¬n.c.role=2->q2/\33=(bJ n).snd)/\(n.c.role=2->n.c.many<=5/\(q0.length*8<=140737488355328->∃ (s0:Nat),(q0=q0/\(↑q0.length:Int)=(↑q3:Int)/\q1=(↑s0:Int)/\qu n n ((ck n (List.take s0 q0)).fst=[]))/\(s0<=q3/\(ck n (List.take s0 q0)).snd=q1)/\∀ (s:Nat),(fun (q4:List Letter)=>s<=q3/\(ck n (List.take s q0)).snd=q1->((↑s:Int)<(↑q3:Int)->q1<=(↑s:Int)/\(↑s:Int)<(↑q0.length:Int)/\∀ (x:Int),(fun (q5:Int)=>q0[s]? = some x->I64 x->(q1<=x/\x<(↑n.nx.length:Int))/\aJ (je n x).fst (I64 q5->(¬q5=q1->q2/\q5=(bJ n).snd)/\(q5=q1->(q4.length+[(je n x).fst].length)*96<=140737488355328/\I64 ((↑s:Int)+1)/\∃ (s':Nat),(q0=q0/\(↑q3:Int)=(↑q3:Int)/\(↑s:Int)+1=(↑s':Int)/\qu n n (q4++[(je n x).fst]=(ck n (List.take s' q0)).fst))/\(s' <= q3/\(ck n (List.take s' q0)).snd=q1)/\q3 - s' < q3 - s))) (je n x).snd)/\((↑q3:Int)<=(↑s:Int)->q4=(bJ n).fst/\q1=(bJ n).snd)) (ck n (List.take s q0)).fst)))) q0.length) (cK n.c)) 0) ((bJ n).fst=[]));iterate 3 ((all_goals (repeat' with_reducible first|apply aZ|refine aY ?_|intro)); (all_goals try (first | exact bt | exact rfl | exact (acI ab ab ab).1 | exact (acI ab ab ab).2 | exact (agY h0) | exact (WG ab).2.1 | exact (afS h1 ab ab) | (rw [agM (n:=n) ab] <;> rfl) | (rw [agd (n:=n) ab ab] <;> rfl) | (rw [ag9 (n:=n) ab ab ab ab ab] <;> rfl) | (rw [afe (n:=n) ab ab ab ab] <;> rfl))); all_goals try first | refine ⟨‹Nat› + 1,?_⟩ | refine ⟨0,?_⟩)
noncomputable def Fp:Kn:=aK (ae (kC (aX 0 0)) (ae (kT (.nm .command)) ao)) tY fun (_,c,_) n=>⟨[NdOK n],[.c (.int (((cR n c).a))),.c (.int (((cR n c).b))),.c (.int (((cR n c).e)))],some ((kU ((cR n c).n))),false⟩
theorem Qt:CK 15 Fp:=ag fun (_,c,_) n hp=>by
 have h0:=cc hp;refine br nu [] Tryz.func15 (?_:(fun q6=>(fun q5=>(fun q7=>(fun q4=>(fun q3=>(fun q2=>(fun q1=>(fun q10=>(fun q9=>(fun q8=>(fun q0=>bB c ((n.d.down=true->q8/\q9/\30=q1.e/\q10)/\(n.d.down=false->(¬n.c.role=2->q8/\q9/\33=q1.e/\q10)/\(n.c.role=2->I64 (bG c q5)->(¬bG c q5=q3->q8/\q9/\bG c q5=q1.e/\q10)/\(bG c q5=q3->(q6->I64 q7)/\(q6/\¬c.n=q7->q8/\q9/\1=q1.e/\q10)/\(¬q6\/c.n=q7->(q6/\ll q5 n.bn=false->q8/\q9/\34=q1.e/\q10)/\(¬q6\/ll q5 n.bn=true->I64 q4/\(64<q4->q8/\q9/\20=q1.e/\q10)/\(q4<=64->I64 q2.fst.term->q2.fst.b.length*1<=140737488355328->I64 q2.snd->(¬q2.snd=q3->q8/\q9/\q2.snd=q1.e/\q10)/\(q2.snd=q3->(q3<=n.d.synced/\n.d.synced<=(↑n.d.b.length:Int)/\n.d.b.length<=65536)/\n.c.st.log.length<=10000/\q0.length<=1000/\(I64 (n.aN q0)->(¬n.aN q0=q3->q8/\q9/\n.aN q0=q1.e/\bY (n.save q0) q1.n)/\(n.aN q0=q3->q4=q1.a/\n.c.st.term=q1.b/\q3=q1.e/\bY (n.save q0) q1.n))))))))))) [Record.mk 3 q4 q2.fst.term q2.fst.b]) (q3=q1.a)) (q3=q1.b)) (bY n q1.n)) (cR n c)) (ei c n.c.st.term q5)) (0:Int)) ((↑n.c.st.log.length:Int)+1)) (q5+1)) n.c.s.version) (c.kind=8));obtain ⟨o1,o2,o3⟩:=id h0.d;have o4:=h0.log;(repeat' with_reducible first|apply aZ|refine aY ?_|intro)
 all_goals (first | exact bt | (simp only [List.length_cons,List.length_nil]; omega) | (have q2:=(Ud (by with_reducible assumption:bG c n.c.s.version=0)).1; exact bR aL aL) | (rw [afs (n:=n) ab] <;> rfl) | (rw [agx (n:=n) ab ab] <;> rfl) | (rw [agQ (n:=n) ab ab ab] <;> rfl) | (rw [aft (n:=n) ab ab ab ab ab] <;> rfl) | (rw [aeZ (n:=n) ab ab ab ab ab ab] <;> rfl) | (rw [agI (n:=n) ab ab ab ab ab ab] <;> rfl) | (rw [ah6 (n:=n) ab ab ab ab ab ab ab] <;> rfl) | (rw [afF (n:=n) ab ab ab ab ab ab ab ab] <;> rfl) | (rw [afv (n:=n) ab ab ab ab ab ab ab ab] <;> rfl))
noncomputable def BK:Kn:=aK (ae (kC (aX 0 0)) (ae (kT (.nm .letter)) ao)) tY fun (_,x,_) n=>⟨[NdOK n],[.c (.fz (.nm .letter) (((cE n x).l))),.c (.int (((cE n x).e)))],some ((kU ((cE n x).n))),false⟩
theorem KN:CK 56 BK:=ag fun (_,x,_) n hp=>by
 have h0:=cc hp;refine br nu [] Tryz.func56 (?_:(fun q3=>(fun q2=>(fun q1=>(fun q4=>(fun q0=>aJ x (q1.fst.length*48<=140737488355328->I64 q1.snd.snd->(¬q1.snd.snd=q3->q2.l=[]/\q1.snd.snd=q2.e/\bY n q2.n)/\(q1.snd.snd=q3->(q3<=n.d.synced/\n.d.synced<=(↑n.d.b.length:Int)/\n.d.b.length<=65536)/\n.c.st.log.length<=10000/\q1.fst.length<=1000/\(I64 q4->(¬q4=q3->q2.l=[]/\q4=q2.e/\bY (n.save q1.fst) q2.n)/\(q4=q3->aJ q0 ([Letter.mk q0.kind q0.frm q0.to q0.term q0.a q0.b q0.c q0.bin q1.snd.fst q0.l]=q2.l/\q3=q2.e/\bY (n.save q1.fst) q2.n)))))) (qJ (n.save q1.fst).c 2 x.frm)) (n.aN q1.fst)) (aH n.c.st x)) (cE n x)) (0:Int));obtain ⟨o1,o2,o3⟩:=id h0.d;have o4:=h0.log;(repeat' with_reducible first|apply aZ|refine aY ?_|intro)
 all_goals (first | exact bt | exact Ut | (rw [ag1 (n:=n) ab] <;> rfl) | (rw [agi (n:=n) ab ab] <;> rfl) | (rw [agq (n:=n) ab ab] <;> rfl))
noncomputable def WK:bN:=(aO 56 BK (aO 15 Fp (aO 31 DL VG)))
theorem sF:ay Tryz.prog (al tyT) WK:=(ah KN (ah Qt (ah Ti nu)))
section
variable {n:Nd} {k:Nat} {y:Int}
theorem Iw {s:Stable} {m:Int}:(aT s m).1.length<=1000:=by
 unfold aT;repeat' split
 all_goals simp
theorem aip (h:n.d.down=true):bj n=⟨n,[],30⟩:=if_pos h
variable (h:n.d.down=false)
include h
theorem aio (h1:n.c.role=2):bj n=⟨n,[],0⟩:=by rw [bj,if_neg (mh h),if_pos h1]
variable (h1:¬ n.c.role=2)
include h1
theorem ahD (h2:¬ (aT n.c.st n.c.me).2=0):bj n=⟨n,[],(aT n.c.st n.c.me).2⟩:=by rw [bj,if_neg (mh h),if_neg h1,if_pos h2]
variable (h2:(aT n.c.st n.c.me).2=0)
include h2
theorem ags (h3:¬ n.aN (aT n.c.st n.c.me).1=0):bj n=⟨n.save (aT n.c.st n.c.me).1,[],n.aN (aT n.c.st n.c.me).1⟩:=by rw [bj,if_neg (mh h),if_neg h1,if_neg (by omega),if_pos h3]
variable (h3:n.aN (aT n.c.st n.c.me).1=0)
include h3
theorem abH:bj n=⟨(n.save (aT n.c.st n.c.me).1).ey,fp (n.save (aT n.c.st n.c.me).1).ey.c,0⟩:=by rw [bj,if_neg (mh h),if_neg h1,if_neg (by omega),if_neg (by omega)]
theorem afL (hl:((cK (n.save (aT n.c.st n.c.me).1).ey.c).length:Int)<=k):(fp (n.save (aT n.c.st n.c.me).1).ey.c).take k=(bj n).l:=by
 rw [abH h h1 h2 h3];exact List.take_of_length_le (by unfold fp; rw [List.length_map]; omega)
end
section
variable {c:NdC} {k:Nat} {y:Int} {z:Letter}
theorem afx (hm:c.many<=5):(((fp c).take k).length+[z].length)*96<=140737488355328:=by
 have h2:(cK c).length<=c.many.toNat:=lJ;rw [List.length_take,fp,List.length_map];simp only [List.length_cons,List.length_nil]; omega
theorem afC (hk:(k:Int)<((cK c).length:Nat)) (hm:c.many<=5):I64 ((k:Int)+1):=by
 have h2:(cK c).length<=c.many.toNat:=lJ;exact bR aL aL
theorem aia (hx:(cK c)[k]? = some y):(fp c).take k++[Letter.mk (qJ c 1 y).kind (qJ c 1 y).frm (qJ c 1 y).to (qJ c 1 y).term c.st.log.length (gY c.st.log) (qJ c 1 y).c (qJ c 1 y).bin (qJ c 1 y).ok (qJ c 1 y).l]=(fp c).take (k+1):=by
 have:(fp c)[k]? = some { qJ c 1 y with a:=c.st.log.length,b:=gY c.st.log }:=by
  unfold fp; rw [List.getElem?_map,hx]; rfl
 rw [ai this]
end
section
variable {n:Nd} {x:Letter}
theorem aeP (h:¬ (aB n.c.st x).2.2.2=0):bO n x=⟨n,[],(aB n.c.st x).2.2.2⟩:=if_pos h
variable (h:(aB n.c.st x).2.2.2=0)
include h
theorem afP (h1:¬ n.aN (aB n.c.st x).1=0):bO n x=⟨n.save (aB n.c.st x).1,[],n.aN (aB n.c.st x).1⟩:=by rw [bO,if_neg (by omega),if_pos h1]
variable (h1:n.aN (aB n.c.st x).1=0)
include h1
theorem ah4 (h2:x.term=(n.save (aB n.c.st x).1).c.st.term) (h3:(aB n.c.st x).2.1=true):bO n x=⟨({ (n.save (aB n.c.st x).1) with c:={ (n.save (aB n.c.st x).1).c with role:=0,commit:=max (n.save (aB n.c.st x).1).c.commit (min x.c (aB n.c.st x).2.2.1) } }:Nd).apply,[{ qJ { (n.save (aB n.c.st x).1).c with role:=0 } 4 x.frm with ok:=(aB n.c.st x).2.1,a:=(aB n.c.st x).2.2.1 }],0⟩:=by
 rw [bO,if_neg (by omega),if_neg (by omega),h3];dsimp only;rw [if_pos h2]; rfl
theorem ahR (h2:¬ x.term=(n.save (aB n.c.st x).1).c.st.term) (h3:(aB n.c.st x).2.1=true):bO n x=⟨({ (n.save (aB n.c.st x).1) with c:={ (n.save (aB n.c.st x).1).c with commit:=max (n.save (aB n.c.st x).1).c.commit (min x.c (aB n.c.st x).2.2.1) } }:Nd).apply,[{ qJ (n.save (aB n.c.st x).1).c 4 x.frm with ok:=(aB n.c.st x).2.1,a:=(aB n.c.st x).2.2.1 }],0⟩:=by
 rw [bO,if_neg (by omega),if_neg (by omega),h3];dsimp only;rw [if_neg h2]; rfl
theorem ahV (h2:x.term=(n.save (aB n.c.st x).1).c.st.term) (h3:(aB n.c.st x).2.1=false):bO n x=⟨(n.save (aB n.c.st x).1).follow,[{ qJ { (n.save (aB n.c.st x).1).c with role:=0 } 4 x.frm with ok:=(aB n.c.st x).2.1,a:=min 64 ((n.save (aB n.c.st x).1).c.st.log.length:Int) }],0⟩:=by
 rw [bO,if_neg (by omega),if_neg (by omega),h3];dsimp only;rw [if_pos h2,if_neg (by decide)];split
 ·rfl
 rename_i q; exact absurd h2 q
theorem agt (h2:¬ x.term=(n.save (aB n.c.st x).1).c.st.term) (h3:(aB n.c.st x).2.1=false):bO n x=⟨n.save (aB n.c.st x).1,[{ qJ (n.save (aB n.c.st x).1).c 4 x.frm with ok:=(aB n.c.st x).2.1 }],0⟩:=by
 rw [bO,if_neg (by omega),if_neg (by omega),h3];dsimp only;rw [if_neg h2,if_neg (by decide)];split
 ·rename_i q; exact absurd q h2
 rfl
end
theorem HX {s:Stable} {x:Letter}:(aB s x).1.length<=1000:=by
 by_cases h:(aB s x).2.2.2=0
 ·obtain ⟨⟨hm,_⟩,hc⟩:=f_ h;rcases hc with ⟨_,e⟩ | ⟨_,_,e⟩ | ⟨_,_,e⟩ <;> rw [e]
  ·simp
  ·have:=uE (s:=s) hm; dsimp only; omega
  have:=fV (s:=s) (t:=x.term); dsimp only; omega
 have e:aB s x=([],false,0,1):=by
  unfold aB at h ⊢;split at h
  ·rename_i h1; rw [if_pos h1]
  repeat' split at h
  all_goals exact absurd rfl h
 rw [e]; simp
def Ht (n:Nd):List (Nat × LI):=[(17,{ σ:=Nat,F:=fun k=>([(0,one (.ptr 0 0)),(7,one (.int (n.save (aT n.c.st n.c.me).1).c.st.log.length)),(8,one (.int (gY (n.save (aT n.c.st n.c.me).1).c.st.log))),(9,one (.own 12)),(113,one (.fz .int (cK (n.save (aT n.c.st n.c.me).1).ey.c))),(114,one (.int (cK (n.save (aT n.c.st n.c.me).1).ey.c).length)),(115,one (.int k))],[.box 103 (noF 0 (((n.save (aT n.c.st n.c.me).1).ey.c))++[.own 3,.own 8,.own 9,.own 10,.own 11]),.box 147 ([.own 2,.int (((n.save (aT n.c.st n.c.me).1).ey.d.synced)),.bool (.atom (((n.save (aT n.c.st n.c.me).1).ey.d.down))),.bool (.atom (((n.save (aT n.c.st n.c.me).1).ey.d.doomed))),.int (((n.save (aT n.c.st n.c.me).1).ey.d.keep))]),.row 5 .u8 (((n.save (aT n.c.st n.c.me).1).ey.d.b)),.row 78 (.nm .reply) ((n.rp)),.row 4 .bool ((n.vs)),.row 3 .int ((n.bn)),.row 3 .int ((n.nx)),.row 3 .int ((n.mt)),.row 4 .bool (((n.save (aT n.c.st n.c.me).1).ey.vs)),.row 3 .int (((n.save (aT n.c.st n.c.me).1).ey.bn)),.row 3 .int (((n.save (aT n.c.st n.c.me).1).ey.nx)),.row 3 .int (((n.save (aT n.c.st n.c.me).1).ey.mt)),.row 40 (.nm .letter) (((fp (n.save (aT n.c.st n.c.me).1).ey.c).take k))]),J:=fun k=>k<=(cK (n.save (aT n.c.st n.c.me).1).ey.c).length,μ:=fun k=>(cK (n.save (aT n.c.st n.c.me).1).ey.c).length - k })]
noncomputable def sZ:Kn:=aK (ae (kC (aX 0 0)) ao) tY fun _ n=>⟨[NdOK n],[.c (.fz (.nm .letter) (((bj n).l))),.c (.int (((bj n).e)))],some ((kU ((bj n).n))),false⟩
theorem CW:CK 14 sZ:=ag fun _ n hp=>by
 have h0:=cc hp;refine br sF (Ht n) Tryz.func14 (?_:(fun (q4:Int)=>(fun (q3:NdR)=>(fun (q2:Int)=>(fun (q1:List Record × Int)=>(fun (q5:Int)=>(fun (q0:Nd)=>(fun (q9:NdC)=>(fun (q10:Int)=>(fun (q8:List Entry)=>(fun (q12:Int)=>(fun (q11:Int)=>(fun (q7:Int)=>(fun (q15:List (den Sh.int))=>(fun (q14:List Int)=>(fun (q13:Prop)=>(fun (q6:Nd)=>(fun (q17:Dsk)=>(fun (q16:NdC)=>(fun (q18:Nat)=>(n.d.down=true->q3.l=[]/\(30:Int)=q3.e/\bY n q3.n)/\(n.d.down=false->(n.c.role=(2:Int)->q3.l=[]/\q4=q3.e/\bY n q3.n)/\(¬n.c.role=(2:Int)->n.c.st.term<=(1048576:Int)/\(q1.fst.length*(48:Nat)<=(140737488355328:Nat)->I64 q1.snd->(¬q1.snd=q4->q3.l=[]/\q1.snd=q3.e/\bY n q3.n)/\(q1.snd=q4->(q4<=n.d.synced/\n.d.synced<=(↑n.d.b.length:Int)/\n.d.b.length<=(65536:Nat))/\n.c.st.log.length<=(10000:Nat)/\q1.fst.length<=(1000:Nat)/\(I64 q5->(¬q5=q4->q3.l=[]/\q5=q3.e/\bY q0 q3.n)/\(q5=q4->(q4<=q7/\q7*(↑(1:Nat):Int)<=(140737488355328:Int)/\q7=q7)/\q13/\q13/\q13/\q4<=q10/\q10<(↑(List.replicate q7.toNat (au Sh.bool)).length:Int)/\q4<=q10/\q10<(↑q15.length:Int)/\(I64 (q15.getD q10.toNat (au Sh.int))->I64 (↑q8.length:Int)->I64 q12->q7<=(5:Int)/\(q14.length*(8:Nat)<=(140737488355328:Nat)->∃ (s0:Nat),((↑q8.length:Int)=q11/\q12=q12/\q14=cK q16/\(↑q14.length:Int)=(↑q18:Int)/\q4=(↑s0:Int)/\q10=q16.me/\q7=q16.many/\q9.bin=q16.bin/\aE q9.st q16.st (q2=q16.role/\q9.commit=q16.commit/\q9.applied=q16.applied/\bD q9.s q16.s (q0.d.synced=q17.synced/\q0.d.down=q17.down/\q0.d.doomed=q17.doomed/\q0.d.keep=q17.keep/\q0.d.b=q17.b/\q0.rp=n.rp/\q0.vs=n.vs/\q0.bn=n.bn/\q0.nx=n.nx/\q0.mt=n.mt/\(List.replicate q7.toNat (au Sh.bool)).set q10.toNat true=q6.vs/\q15.set q10.toNat q9.bin=q6.bn/\q15=q6.nx/\q15=q6.mt/\List.take s0 (fp q16)=[])))/\s0<=q18/\∀ (s:Nat),s<=q18->((↑s:Int)<(↑q18:Int)->q4<=(↑s:Int)/\(↑s:Int)<(↑(cK q16).length:Int)/\∀ (x:Int),(fun (q19:Letter)=>(fun (q20:Letter)=>(cK q16)[s]? = some x->I64 x->aJ q19 (((List.take s (fp q16)).length+[q20].length)*(96:Nat)<=(140737488355328:Nat)/\I64 ((↑s:Int)+q2)/\∃ (s':Nat),(q11=q11/\q12=q12/\cK q16=cK q16/\(↑q18:Int)=(↑q18:Int)/\(↑s:Int)+q2=(↑s':Int)/\q16.me=q16.me/\q16.many=q16.many/\q16.bin=q16.bin/\aE q16.st q16.st (q16.role=q16.role/\q16.commit=q16.commit/\q16.applied=q16.applied/\bD q16.s q16.s (q17.synced=q17.synced/\q17.down=q17.down/\q17.doomed=q17.doomed/\q17.keep=q17.keep/\q17.b=q17.b/\n.rp=n.rp/\n.vs=n.vs/\n.bn=n.bn/\n.nx=n.nx/\n.mt=n.mt/\q6.vs=q6.vs/\q6.bn=q6.bn/\q6.nx=q6.nx/\q6.mt=q6.mt/\List.take s (fp q16)++[q20]=List.take s' (fp q16))))/\s' <= q18/\q18 - s' < q18 - s)) (Letter.mk q19.kind q19.frm q19.to q19.term q11 q12 q19.c q19.bin q19.ok q19.l)) (qJ q16 q2 x))/\((↑q18:Int)<=(↑s:Int)->List.take s (fp q16)=q3.l/\q4=q3.e/\bY (Nd.mk q16 q17 n.rp q6.vs q6.bn q6.nx q6.mt) q3.n)))))))))) (cK q16).length) q6.c) q6.d) q0.ey) (q4<=q7/\q7*(↑(8:Nat):Int)<=(140737488355328:Int)/\q7=q7)) (cK (NdC.mk q10 q7 q9.bin q9.st q2 q9.commit q9.applied q9.s))) (List.replicate q7.toNat (au Sh.int))) q9.many) (↑q8.length:Int)) (gY q8)) q9.st.log) q9.me) q0.c) (n.save q1.fst)) (n.aN q1.fst)) (aT n.c.st n.c.me)) (1:Int)) (bj n)) (0:Int))
 obtain ⟨o1,o2,o3⟩:=id h0.d;have o4:=h0.log;have o5:=h0.many;have o6:=h0.me;have o7:=h0.com;have o8:=h0.term;have o9:=h0.rp;iterate 3 ((all_goals (repeat' with_reducible first|apply aZ|refine aY ?_|intro)); (all_goals try (first | exact bt | exact rfl | exact Iw | exact (afL ab ab ab ab ab) | exact (aia ab) | exact (afx o5.2) | exact (afC (c:=(n.save (aT n.c.st n.c.me).1).ey.c) ab o5.2) | (dsimp only [Nd.save]; omega) | (rw [aeC]; dsimp only [Nd.save]; omega) | (rw [aip (n:=n) ab] <;> rfl) | (rw [aio (n:=n) ab ab] <;> rfl) | (rw [ahD (n:=n) ab ab ab] <;> rfl) | (rw [ags (n:=n) ab ab ab ab] <;> rfl) | (rw [abH (n:=n) ab ab ab ab] <;> rfl))); all_goals try first | refine ⟨‹Nat› + 1,?_⟩ | refine ⟨0,?_⟩)
noncomputable def vY:Kn:=aK (ae (kC (aX 0 0)) (ae (kT (.nm .letter)) ao)) tY fun (_,x,_) n=>⟨[NdOK n,db n.c x=true,x.kind=3],[.c (.fz (.nm .letter) (((bO n x).l))),.c (.int (((bO n x).e)))],some ((kU ((bO n x).n))),false⟩
theorem He:CK 57 vY:=ag fun (_,x,_) n hp=>by
 have h0:=cc hp;have h1:=cc (eQ hp);have h2:=cc (eQ (eQ hp));refine br sF [] Tryz.func57 (?_:(fun q6=>(fun q5=>(fun q4=>(fun q3=>(fun q7=>(fun q2=>(fun q9=>(fun q8=>(fun q1=>(fun q0=>(fun q15=>(fun q18=>(fun q17=>(fun q16=>(fun q14=>(fun q13=>(fun q12=>(fun q19=>(fun q11=>(fun q10=>aJ x (q6.length*48<=140737488355328->I64 q2.snd.fst->I64 q2.snd.snd->(¬q2.snd.snd=q3->q4.l=[]/\q2.snd.snd=q4.e/\bY n q4.n)/\(q2.snd.snd=q3->(q3<=n.d.synced/\n.d.synced<=(↑n.d.b.length:Int)/\n.d.b.length<=65536)/\n.c.st.log.length<=10000/\q6.length<=1000/\(I64 (n.aN q6)->(¬n.aN q6=q3->q4.l=[]/\n.aN q6=q4.e/\bY q0 q4.n)/\(n.aN q6=q3->(q14->aJ q10 ((q9=true->q13/\[Letter.mk q10.kind q10.frm q10.to q10.term q2.snd.fst q10.b q10.c q10.bin q9 q10.l]=q4.l/\q7/\bY (Nd.mk (NdC.mk q15.me q15.many q15.bin q15.st q3 q18 q17 q15.s) q0.d q0.rp q0.vs q0.bn q0.nx q0.mt).apply q4.n)/\(q9=false->(q14->[Letter.mk q10.kind q10.frm q10.to q10.term q16 q10.b q10.c q10.bin q9 q10.l]=q4.l/\q19)/\(¬q14->[Letter.mk q10.kind q10.frm q10.to q10.term q10.a q10.b q10.c q10.bin q9 q10.l]=q4.l/\q19))))/\(¬q14->aJ q11 ((q9=true->q13/\[Letter.mk q11.kind q11.frm q11.to q11.term q2.snd.fst q11.b q11.c q11.bin q9 q11.l]=q4.l/\q7/\bY (Nd.mk (NdC.mk q15.me q15.many q15.bin q15.st q15.role q18 q17 q15.s) q0.d q0.rp q0.vs q0.bn q0.nx q0.mt).apply q4.n)/\(q9=false->(q14->[Letter.mk q11.kind q11.frm q11.to q11.term q16 q11.b q11.c q11.bin q9 q11.l]=q4.l/\q7/\bY q0 q4.n)/\(¬q14->[Letter.mk q11.kind q11.frm q11.to q11.term q11.a q11.b q11.c q11.bin q9 q11.l]=q4.l/\q7/\bY q0 q4.n))))))))) (qJ q12 q1 q5)) (qJ q15 q1 q5)) (q7/\bY (Nd.mk q12 q0.d q0.rp q0.vs q0.bn q0.nx q0.mt) q4.n)) (NdC.mk q15.me q15.many q15.bin q15.st q3 q15.commit q17 q15.s)) ((q3<=q17/\q18<=(↑q15.st.log.length:Int))/\(↑q0.rp.length:Int)<=q17/\q15.st.log.length<=10000)) (x.term=q15.st.term)) (min 64 (↑q15.st.log.length:Int))) q15.applied) (max q15.commit q8)) q0.c) (n.save q6)) (4:Int)) (min x.c q2.snd.fst)) q2.fst) (aB n.c.st x).snd) (q3=q4.e)) (0:Int)) (bO n x)) x.frm) (aB n.c.st x).fst);obtain ⟨o1,o2,o3⟩:=id h0.d;have o4:=h0.log;(repeat' with_reducible first|apply aZ|refine aY ?_|intro)
 all_goals (first | exact bt | exact HX | exact (Gu h0 h1 h2 ab ab).1.1 | exact (Gu h0 h1 h2 ab ab).1.2 | exact (Gu h0 h1 h2 ab ab).2.1 | exact (Gu h0 h1 h2 ab ab).2.2 | (rw [aeP (n:=n) ab] <;> rfl) | (rw [afP (n:=n) ab ab] <;> rfl) | (rw [ah4 (n:=n) ab ab ab ab] <;> rfl) | (rw [ahR (n:=n) ab ab ab ab] <;> rfl) | (rw [ahV (n:=n) ab ab ab ab] <;> rfl) | (rw [agt (n:=n) ab ab ab ab] <;> rfl))
noncomputable def VZ:bN:=(aO 57 vY (aO 14 sZ WK))
theorem tP:ay Tryz.prog (al tyT) VZ:=(ah He (ah CW sF))
theorem Sat.ahK {P:Program} {shp:TypeId->Option Sh} {f:Nat} {args rs:List TV1} {H1 H2:AH} {pre:List Prop} (hc:gO H1 [0,1,2] [0,1,2]=true) (ho:oE (posOf · [0,1,2]) (kN H1 [0,1,2])=H2) (hrs:∀ (c c':Cx) (ρ ρ':List RE) us,All2 (cZ c ρ) rs us->All2 (cZ c' ρ') rs us) (h:Sat P shp f args (kU n) ⟨pre,rs,some H1,false⟩):Sat P shp f args (kU n) ⟨pre,rs,some H2,false⟩:=by
 refine ⟨h.1,fun G ρ w vs hg hR hv=>(h.2 G ρ w vs hg hR hv).mono ?_⟩;rintro v w' ⟨us,e1,ρ',k1,k2,k3,k4,k5⟩;obtain ⟨m1,m2⟩:=k1.sub (σ:=[0,1,2]) (Z':=G.Z) rfl hc k1.z (fun _ h _=>h) (fun b hl=>by
  obtain ⟨i,r,h1,h2⟩:=gr hl;exact (k1.bnd i r b h1 h2).2.2)
 rw [ho] at m1;refine ⟨us,e1,df ρ' [0,1,2],m1,⟨k2.os,k2.tape,k2.output,k2.size,fun b hb hl=>⟨fun h=>(k2.old b hb hl).1 (gr h),(k2.old b hb hl).2⟩⟩,fun i g h=>?_,hrs _ _ _ _ _ k4,fun h=>by cases h⟩;have hi:∀ (j:Nat) (t:TypeId) (s:Sh) (xs:List (den s)),(kU n)[j]? = some (.row t s xs)->i≠j:=fun j t s xs hj e=>by
  subst e;obtain ⟨r,hr,h1⟩:=hR.at_ hj;rw [h] at hr; cases hr;obtain ⟨_,_,h1 | ⟨_,_,_,_,h1,_⟩⟩:=h1
  ·exact absurd h1.1 (by simp)
  cases h1
 have hlt:i<8:=by
  have h1:=(aaj.1 h).1;have h2:(kU n).length=8:=rfl;have h3:=hR.obj.length;omega
 have h3:=hi 3 _ _ _ rfl;have h4:=hi 4 _ _ _ rfl;have h5:=hi 5 _ _ _ rfl;have h6:=hi 6 _ _ _ rfl;have h7:=hi 7 _ _ _ rfl;have hk:=k3 i g h;have:i=0\/i=1\/i=2:=by omega
 rcases this with rfl | rfl | rfl
 ·exact (ou (j:=0) (i:=0) rfl).trans (congrArg some (getD_some hk))
 ·exact (ou (j:=1) (i:=1) rfl).trans (congrArg some (getD_some hk))
 exact (ou (j:=2) (i:=2) rfl).trans (congrArg some (getD_some hk))
theorem WV {e:Int} (c c':Cx) (ρ ρ':List RE) (us:List Value) (h:All2 (cZ c ρ) [.c (.int e)] us):All2 (cZ c' ρ') [.c (.int e)] us:=by
 cases h with | cons h1 h2=>?_
 cases h2;replace h1:Pd c (.int e) _:=h1;cases h1 with | int hi=>exact .cons (show Pd c' (.int e) _ from .int hi) .nil
def gW (me many:Int):Nd:=⟨⟨me,many,0,sta0,0,0,0,⟨0,0,0,0,[],[],[]⟩⟩,⟨[],0,true,false,0⟩,[],[],[],[],[]⟩
theorem SB:(Dsk.mk [] 0 false false 0).cD 0=⟨[],0,true,false,0⟩:=by decide
noncomputable def FY:Kn:=aK (ae (kC cI) (ae (kC cI) ao)) aw fun (me,many,_) _=>⟨[3<=many/\many<=5/\0<=me/\me<many],[.c (.ptr 0 0),.c (.int ((0)))],some ([.box 103 (noF 0 (((gW me many).c))++[.em true,.em true,.em true,.em true,.em true]),.box 147 ([.own 2,.int (((gW me many).d.synced)),.bool (.atom (((gW me many).d.down))),.bool (.atom (((gW me many).d.doomed))),.int (((gW me many).d.keep))]),.row 5 .u8 (((gW me many).d.b))]),true⟩
theorem GL:CK 12 FY:=ag fun (me,many,_) _ hp=>by
 have h0:=cc hp;refine dD tP [] Tryz.func12 (?_:(fun (q1:Int)=>(fun (q2:Dsk)=>(fun (q0:Nd)=>(fun (q3:NdC)=>I64 me->I64 many->(((many<(3:Int)\/(5:Int)<many)\/me<q1)\/many<=me->False/\(1:Int)=q1/\False/\False/\q0.d.b=[])/\((((3:Int)<=many/\many<=(5:Int))/\q1<=me)/\me<many->(q1<=q1/\q1<=(↑(0:Nat):Int)/\(0:Nat)<=(65536:Nat))/\q1=q1/\me=q3.me/\many=q3.many/\q1=q3.bin/\q1=q3.st.floor/\q1=q3.st.term/\q1=q3.st.vote/\q3.st.log=[]/\q1=q3.role/\q1=q3.commit/\q1=q3.applied/\q1=q3.s.version/\q1=q3.s.next/\q1=q3.s.keep/\q1=q3.s.quota/\q3.s.sess=[]/\q3.s.opens=[]/\q3.s.snaps=[]/\q2.synced=q0.d.synced/\q2.down=q0.d.down/\q2.doomed=q0.d.doomed/\q2.keep=q0.d.keep/\q2.b=q0.d.b)) q0.c) (gW me many)) ((Dsk.mk [] q1 false false q1).cD q1)) (0:Int));(repeat' with_reducible first|apply aZ|refine aY ?_|intro)
 all_goals (first | exact bt | exact rfl | (rw [SB] <;> rfl) | (exfalso; omega))
theorem RZ (me:Int) (many:Int) (h0:3<=many/\many<=5/\0<=me/\me<many):Sat Tryz.prog (al tyT) 12 [.c (.int (me)),.c (.int (many))] [] ⟨[3<=many/\many<=5/\0<=me/\me<many],[.c (.ptr 0 0),.c (.int ((0)))],some ([.box 103 (noF 0 (((gW me many).c))++[.em true,.em true,.em true,.em true,.em true]),.box 147 ([.own 2,.int (((gW me many).d.synced)),.bool (.atom (((gW me many).d.down))),.bool (.atom (((gW me many).d.doomed))),.int (((gW me many).d.keep))]),.row 5 .u8 (((gW me many).d.b))]),true⟩:=GL _ _ _ rfl (by intro p hp; simp only [aa_,ah1,or_false] at hp; subst hp; exact h0)
theorem Xu (me:Int) (many:Int) (h0:3<=many/\many<=5/\0<=me/\me<many):Sat Tryz.prog (al tyT) 12 [.c (.int (me)),.c (.int (many))] [] ⟨[3<=many/\many<=5/\0<=me/\me<many],[.c (.ptr 0 0),.c (.int ((0)))],some ((kU ((gW me many)))),true⟩:=Sat.LJ 0 22 3 .int bE rfl rfl (Sat.LJ 0 21 3 .int bE rfl rfl (Sat.LJ 0 20 3 .int bE rfl rfl (Sat.LJ 0 19 4 .bool bE rfl rfl (Sat.LJ 0 18 78 (.nm .reply) bE rfl rfl (RZ me many h0) rfl) rfl) rfl) rfl) rfl
noncomputable def Lt:Kn:=aK (ae (kC cI) (ae (kC cI) ao)) aw fun (me,many,_) _=>⟨[3<=many/\many<=5/\0<=me/\me<many],[.c (.ptr 0 0),.c (.int ((0)))],some ((kU ((gW me many)))),true⟩
theorem aaP:CK 12 Lt:=ag fun (me,many,_) _ hp=>Xu me many (cc hp)
noncomputable def yz:Kn:=aK (ae (kC (aX 0 0)) (ae (kC (cL (.nm .record))) ao)) (aC (dH 103 (lNd 0 (ax (Yi true) (ax (Yi true) (ax (Yi true) (ax (Yi true) (ax (Yi true) dv))))))) (aC (dH 147 (ax (eO 2) (ax cI (ax cB (ax cB (ax cI dv)))))) (aC (eW 5 .u8) aw))) fun (_,l,_) ((nd,_,_,_,_,_,_),(_,sy,dn,dm,kp,_),bs,_)=>⟨[(Dsk.mk bs sy dn dm kp).OK,nd.st.log.length<=10000,l.length<=1000],[.c (.int (((Nd.mk nd ⟨bs,sy,dn,dm,kp⟩ [] [] [] [] []).aN l)))],some ([.box 103 (noF 0 ((((Nd.mk nd ⟨bs,sy,dn,dm,kp⟩ [] [] [] [] []).save l).c))++[.em true,.em true,.em true,.em true,.em true]),.box 147 ([.own 2,.int ((((Nd.mk nd ⟨bs,sy,dn,dm,kp⟩ [] [] [] [] []).save l).d.synced)),.bool (.atom ((((Nd.mk nd ⟨bs,sy,dn,dm,kp⟩ [] [] [] [] []).save l).d.down))),.bool (.atom ((((Nd.mk nd ⟨bs,sy,dn,dm,kp⟩ [] [] [] [] []).save l).d.doomed))),.int ((((Nd.mk nd ⟨bs,sy,dn,dm,kp⟩ [] [] [] [] []).save l).d.keep))]),.row 5 .u8 ((((Nd.mk nd ⟨bs,sy,dn,dm,kp⟩ [] [] [] [] []).save l).d.b))]),false⟩
theorem OX:CK 47 yz:=ag fun (_,l,_) ((nd,_,_,_,_,_,_),(_,sy,dn,dm,kp,_),bs,_) hp=>by
 have h0:=cc hp;have h1:=cc (eQ hp);have h2:=cc (eQ (eQ hp));refine br tP [] Tryz.func47 (?_:(fun q2=>(fun q1=>(fun q3=>(fun q0=>(fun q4=>l.length*48<=140737488355328->((0<=sy/\sy<=(↑bs.length:Int)/\bs.length<=65536)/\nd.st.log.length<=10000/\l.length<=1000)/\cf q1.snd.fst (I64 q1.snd.snd->(¬q1.snd.snd=0->q1.snd.snd=q2.aN l/\nd.me=q0.c.me/\nd.many=q0.c.many/\nd.bin=q0.c.bin/\aE nd.st q0.c.st q4)/\(q1.snd.snd=0->0=q2.aN l/\nd.me=q0.c.me/\nd.many=q0.c.many/\nd.bin=q0.c.bin/\aE q1.snd.fst q0.c.st q4))) (nd.role=q0.c.role/\nd.commit=q0.c.commit/\nd.applied=q0.c.applied/\bD nd.s q0.c.s (q3.synced=q0.d.synced/\q3.down=q0.d.down/\q3.doomed=q0.d.doomed/\q3.keep=q0.d.keep/\q3.b=q0.d.b))) (q2.save l)) q1.fst) (saveF (Dsk.mk bs sy dn dm kp) nd.st l)) (Nd.mk nd (Dsk.mk bs sy dn dm kp) [] [] [] [] []));obtain ⟨o1,o2,o3⟩:=id h0;(repeat' with_reducible first|apply aZ|refine aY ?_|intro)
 all_goals (first | exact bt | exact rfl | exact (Eq.symm ab) | exact (congrArg Stable.floor (gC ab)).symm | exact (congrArg Stable.term (gC ab)).symm | exact (congrArg Stable.vote (gC ab)).symm | exact (congrArg Stable.log (gC ab)).symm)
noncomputable def VS:bN:=(aO 47 yz (aO 12 Lt (aO 12 FY VZ)))
theorem tu:ay Tryz.prog (al tyT) VS:=(ah OX (ah aaP (ah GL tP)))
end Go.Proofs.YticbaadnibdbkaaGreat
