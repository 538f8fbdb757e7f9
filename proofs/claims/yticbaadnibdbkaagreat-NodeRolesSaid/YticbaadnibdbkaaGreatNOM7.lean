/- What leads to the law, part 7. Conditions: each lemma's own. -/
import Derived.Test.YticbaadnibdbkaaGreatNOM6
set_option linter.unusedVariables false
set_option linter.unusedSimpArgs false
set_option maxHeartbeats 2000000
set_option linter.defProp false
noncomputable section
namespace Go.Proofs.YticbaadnibdbkaaGreat
open Go.RowKit
variable {r:Route}
def uu {s:Stable} (h:r.next<1\/(s.log.length:Int)+1<r.next):fR s r=(cM,1):=if_pos h
def qz {s:Stable} (a:1<=r.next) (b:r.next<=(s.log.length:Int)+1) (h:¬ mayL (Letter.mk 3 r.frm r.to s.term (r.next - 1) (cD s.log (r.next - 1)) r.commit r.bin false (ef s.log (r.next - 1) 4))=0):fR s r=(cM,mayL (ku s r)):=by
 rw [fR,if_neg aE,if_pos (show ¬ mayL (ku s r)=0 from h)]
def ue {s:Stable} (a:1<=r.next) (b:r.next<=(s.log.length:Int)+1) (h:mayL (Letter.mk 3 r.frm r.to s.term (r.next - 1) (cD s.log (r.next - 1)) r.commit r.bin false (ef s.log (r.next - 1) 4))=0):fR s r=(ku s r,0):=by
 rw [fR,if_neg aE,if_neg (Classical.not_not.2 (show mayL (ku s r)=0 from h))]
variable {b:List UInt8}
def TC (h:(b.length:Int)<2):bm b=([],0,2):=if_pos aE
def UN (h:2<=(b.length:Int)) (a:ei b=0\/4096<ei b):bm b=([],0,3):=by rw [bm,if_neg aE,if_pos a]
def Tc (h:2<=(b.length:Int)) (c:¬ ei b=0) (d:ei b<=4096) (a:(b.length:Int)<2+ei b+4):bm b=([],0,2):=by rw [bm,if_neg aE,if_neg aE,if_pos a]
variable {x:UInt8} {k:Nat}
def Ky {l:List UInt8} (h:l[k]? = some x):(Gh (l.take k)*2 ^ 8) % 4294967296 ||| x.toNat=Gh (l.take (k+1)):=by
 rw [ai h]; simp only [Gh,List.foldl_append]; rfl
variable {n:Int}
def ah2 (a:0<=n):(b.drop (2+n).toNat).take ((2+n+4).toNat - (2+n).toNat)=(b.drop (2+n).toNat).take 4:=by
 congr 1; omega
def ah8 (a:0<=n) (h:2+n+4<=(b.length:Int)):(((b.drop (2+n).toNat).take ((2+n+4).toNat - (2+n).toNat)).length:Int)=4:=by
 rw [List.length_take,List.length_drop]; omega
def ahA (a:(k:Int)<4) (c:0<=n) (h:2+n+4<=(b.length:Int)):(k:Int)<(((b.drop (2+n).toNat).take 4).length:Nat):=by
 rw [List.length_take,List.length_drop]; omega
def Uo (a:decide (dV 1 ((b.drop 0).take ((2+ei b).toNat - 0))=Gh (((b.drop (2+ei b).toNat).take 4).take k))=false) (c:(4:Int)<=k) (h:2<=(b.length:Int)) (d:¬ ei b=0) (e:ei b<=4096) (f:2+ei b+4<=(b.length:Int)):bm b=([],0,3):=by
 have a:=aha a;rw [ajy,ajg,ai3,aie aE] at a;rw [bm,if_neg aE,if_neg aE,if_neg aE,if_neg a]
def aaV (a:decide (dV 1 ((b.drop 0).take ((2+ei b).toNat - 0))=Gh (((b.drop (2+ei b).toNat).take 4).take k))=true) (c:(4:Int)<=k) (h:2<=(b.length:Int)) (d:¬ ei b=0) (e:ei b<=4096) (f:2+ei b+4<=(b.length:Int)):bm b=((b.drop 2).take ((2+ei b).toNat - 2),2+ei b+4,0):=by
 have a:=acx a;rw [ajy,ajg,ai3,aie aE] at a;rw [bm,if_neg aE,if_neg aE,if_neg aE,if_pos a]
def Zc (b:List UInt8):List (Nat × LI):=[(11,{ σ:=Nat,F:=fun k=>([(0,one (.fz .u8 (b))),(6,one (.int (2+ei b))),(7,one (.xx (.w (Gh (((b.drop (2+ei b).toNat).take 4).take k))) [])),(40,one (.fz .u8 ((b.drop (2+ei b).toNat).take 4))),(41,one (.int 4)),(42,one (.int k))],[]),J:=fun k=>k<=4,μ:=fun k=>4 - k })]
def GU:Kn:=aO (ae (kC (cL .u8)) ao) aw fun (b,_) _=>⟨[],[.c (.fz .u8 (((bm b).1))),.c (.int (((bm b).2.1))),.c (.int (((bm b).2.2)))],none,false⟩
theorem SL:CK 83 GU:=ah fun (b,_) _ _=>by
 refine av gE (Zc b) Tryz.func83 (?_:(fun i=>(fun j=>(fun u=>(fun G=>(fun H=>(fun t=>(fun l=>(fun g=>(fun m=>(fun a=>(fun v=>(fun o=>(fun p=>(fun w=>(fun c=>(fun y=>(fun z=>(fun f=>(fun h=>(fun A=>(fun d=>(fun e=>(fun B=>b.length*1<=140737488355328->(l<o->w)/\(o<=l->a<=a/\a<l/\i<64/\I64 p/\a<=1/\1<l/\a<=p/\a<=u/\(A=a\/4096<A->v)/\(¬A=a/\A<=4096->I64 d/\I64 e/\(l<e->w)/\(e<=l->I64 e/\a<=d/\d<=e/\e<=l/\∃ F,(b=b/\d=c/\j=Gh (List.take F h)/\B=List.take g f/\(↑B.length:Int)=m/\a=(↑F:Int))/\F<=g/\∀ (s:Nat),s<=g->((↑s:Int)<m->a<=(↑s:Int)/\(↑s:Int)<(↑(List.take g f).length:Int)/\∀ (x:UInt8),(List.take g f)[s]? = some x->i<32/\I64 ((↑s:Int)+1)/\∃ C,(b=b/\c=c/\Gh (List.take s h)*2 ^ i % 4294967296 ||| x.toNat=Gh (List.take C h)/\List.take g f=List.take g f/\m=m/\(↑s:Int)+1=(↑C:Int))/\C <= g/\g - C < g - s)/\(m<=(↑s:Int)->a<=a/\a<=c/\c<=c/\c<=l/\(decide (z=Gh (List.take s h))=false->v)/\(decide (z=Gh (List.take s h))=true->a<=o/\o<=c/\c<=c/\c<=l/\(y.length*1<=140737488355328->I64 (c+m)/\y=(bm b).fst/\c+m=t.fst/\a=t.snd))))))) (List.take (e.toNat - d.toNat) (List.drop d.toNat b))) (d+m)) (o+A)) (Wv p u)) (List.take g f)) (List.drop c.toNat b)) (dV 1 (List.take (c.toNat - j) (List.drop j b)))) (List.take (c.toNat - 2) (List.drop 2 b))) (o+ei b)) (G/\a=t.fst/\o=t.snd)) (H*o ^ i)) (2:Int)) (G/\a=t.fst/\3=t.snd)) (0:Int)) (4:Int)) (4:Nat)) (↑b.length:Int)) (bm b).snd) (↑(UInt8.toNat (b.getD j (au Sh.u8))):Int)) ((bm b).fst=[])) (↑(UInt8.toNat (b.getD 1 (au Sh.u8))):Int)) (0:Nat)) (8:Nat));have D:=Tu b;have I:=(b.getD 0 (au .u8):UInt8).toNat_lt;have J:=(b.getD 1 (au .u8):UInt8).toNat_lt;dsimp only [ei] at D;(repeat' with_reducible first|apply aV|refine bl ?_|intro)
 all_goals try (exact (congrArg (fun q=>q.2.1) (TC ab)).symm)
 all_goals try (refine ⟨0,?_⟩; (repeat' with_reducible first|apply aV|refine bl ?_|intro))
 all_goals try (exact (congrArg (fun q=>q.2.1) (TC ab)).symm)
 all_goals try (refine ⟨‹Nat› + 1,?_⟩; (repeat' with_reducible first|apply aV|refine bl ?_|intro))
 all_goals (first | exact bY | exact (congrArg (fun q=>q.2.2) (TC ab)).symm | exact (congrArg Prod.fst (UN ab ab)).symm | exact (congrArg (fun q=>q.2.1) (UN ab ab)).symm | exact (congrArg (fun q=>q.2.2) (UN ab ab)).symm | exact (congrArg Prod.fst (Tc ab ab ab ab)).symm | exact (congrArg (fun q=>q.2.1) (Tc ab ab ab ab)).symm | exact (congrArg (fun q=>q.2.2) (Tc ab ab ab ab)).symm | exact (congrArg Prod.fst (Uo ab ab ab ab ab ab)).symm | exact (congrArg (fun q=>q.2.1) (Uo ab ab ab ab ab ab)).symm | exact (congrArg (fun q=>q.2.2) (Uo ab ab ab ab ab ab)).symm | exact (congrArg Prod.fst (aaV ab ab ab ab ab ab)).symm | exact (congrArg (fun q=>q.2.1) (aaV ab ab ab ab ab ab)).symm | exact (congrArg (fun q=>q.2.2) (aaV ab ab ab ab ab ab)).symm | exact (congrArg Prod.fst (TC ab)) | exact (congrArg Prod.fst (UN ab ab)) | exact (congrArg Prod.fst (Tc ab ab ab ab)) | exact (congrArg Prod.fst (Uo ab ab ab ab ab ab)) | exact rfl | exact (ah2 D) | exact (ah8 D ab) | exact (ahA ab D ab) | exact (Ky ab) | (dsimp only [ei]; omega) | (refine aD ?_ ?_ <;> dsimp only [ei] <;> omega) | (rw [List.length_take,List.length_drop]; omega))
def wE:Kn:=aO (ae (kC (ba 0 0)) (ae (kT (.nm .record)) ao)) (aC (dC 64 (ax cI (ax cI (ax cI (ax (eI 1) dA))))) (aC (eG 52 (.nm .entry)) aw)) fun (_,r,_) ((a,d,e,_,_),f,_)=>⟨[],[.c (.bool (.atom (((dP (Stable.mk a d e f) r).isSome))))],some ([.box 64 ([.int ((((dP (Stable.mk a d e f) r).getD (Stable.mk a d e f)).floor)),.int ((((dP (Stable.mk a d e f) r).getD (Stable.mk a d e f)).term)),.int ((((dP (Stable.mk a d e f) r).getD (Stable.mk a d e f)).vote)),.own 1]),.row 52 (.nm .entry) ((((dP (Stable.mk a d e f) r).getD (Stable.mk a d e f)).log))]),false⟩
theorem Ie:CK 214 wE:=ah fun (_,r,_) ((d,e,f,_,_),g,_) _=>by
 refine bz gE [] Tryz.func214 (?_:(fun c=>dU r ((r.a<d->false=(dP c r).isSome/\dT c ((dP c r).getD c))/\(d<=r.a->true=(dP c r).isSome/\dT (Stable.mk r.a e f g) ((dP c r).getD c)))) (Stable.mk d e f g));(repeat' (intro))
 all_goals first | (first | (refine aD ?_ ?_ <;> omega)) | (simp only [dP]; grind) | (simp only [List.length_cons,List.length_nil]; omega)
def zQ:Kn:=aO (ae (kC (ba 0 0)) (ae (kT (.nm .record)) ao)) (aC (dC 64 (ax cI (ax cI (ax cI (ax (eI 1) dA))))) (aC (eG 52 (.nm .entry)) aw)) fun (_,r,_) ((a,d,e,_,_),f,_)=>⟨[],[.c (.bool (.atom (((fD (Stable.mk a d e f) r).isSome))))],some ([.box 64 ([.int ((((fD (Stable.mk a d e f) r).getD (Stable.mk a d e f)).floor)),.int ((((fD (Stable.mk a d e f) r).getD (Stable.mk a d e f)).term)),.int ((((fD (Stable.mk a d e f) r).getD (Stable.mk a d e f)).vote)),.own 1]),.row 52 (.nm .entry) ((((fD (Stable.mk a d e f) r).getD (Stable.mk a d e f)).log))]),false⟩
theorem OY:CK 215 zQ:=ah fun (_,r,_) ((f,d,e,_,_),g,_) _=>by
 refine bz gE [] Tryz.func215 (?_:(fun c=>dU r ((r.a<d\/(r.a=d/\¬e=0)/\¬e=r.b->false=(fD c r).isSome/\dT c ((fD c r).getD c))/\(d<=r.a/\((¬r.a=d\/e=0)\/e=r.b)->true=(fD c r).isSome/\dT (Stable.mk f r.a r.b g) ((fD c r).getD c)))) (Stable.mk f d e g));(repeat' (first | with_reducible apply aV | intro))
 all_goals first | (simp only [fD]; grind)
def Gp:Kn:=aO (ae (kC (ba 0 0)) (ae (kT (.nm .record)) ao)) (aC (dC 64 (ax cI (ax cI (ax cI (ax (eI 1) dA))))) (aC (eG 52 (.nm .entry)) aw)) fun (_,r,_) ((d,e,f,_,_),g,_)=>⟨[1<=r.a/\r.a<=64],[.c (.bool (.atom (((fM (Stable.mk d e f g) r).isSome))))],some ([.box 64 ([.int ((((fM (Stable.mk d e f g) r).getD (Stable.mk d e f g)).floor)),.int ((((fM (Stable.mk d e f g) r).getD (Stable.mk d e f g)).term)),.int ((((fM (Stable.mk d e f g) r).getD (Stable.mk d e f g)).vote)),.own 1]),.row 52 (.nm .entry) ((((fM (Stable.mk d e f g) r).getD (Stable.mk d e f g)).log))]),false⟩
theorem UW:CK 217 Gp:=ah fun (_,r,_) ((f,g,h,_,_),d,_) i=>by
 have j:=cg i;refine bz (xX gE) [] Tryz.func217 (?_:(fun e=>(fun c=>dU r (((↑d.length:Int)<r.a->false=(fM c r).isSome/\dT c ((fM c r).getD c))/\(r.a<=(↑d.length:Int)->I64 e/\(0<=e/\e<=(↑d.length:Int))/\true=(fM c r).isSome/\dT (Stable.mk f g h (List.take e.toNat d)) ((fM c r).getD c)))) (Stable.mk f g h d)) (r.a - 1));(repeat' (first | with_reducible apply aV | intro))
 all_goals first | (first | omega | (refine aD ?_ ?_ <;> omega)) | (simp only [fM]; grind)
def uM:Kn:=aO (ae (kC (ba 0 0)) (ae (kT (.nm .record)) ao)) (aC (dC 64 (ax cI (ax cI (ax cI (ax (eI 1) dA))))) (aC (eG 52 (.nm .entry)) aw)) fun (_,r,_) ((d,e,f,_,_),a,_)=>⟨[a.length<=1000000,r.x.length<=200],[.c (.bool (.atom (((dx (Stable.mk d e f a) r).isSome))))],some ([.box 64 ([.int ((((dx (Stable.mk d e f a) r).getD (Stable.mk d e f a)).floor)),.int ((((dx (Stable.mk d e f a) r).getD (Stable.mk d e f a)).term)),.int ((((dx (Stable.mk d e f a) r).getD (Stable.mk d e f a)).vote)),.own 1]),.row 52 (.nm .entry) ((((dx (Stable.mk d e f a) r).getD (Stable.mk d e f a)).log))]),false⟩
theorem Ik:CK 216 uM:=ah fun (_,r,_) ((f,g,h,_,_),d,_) i=>by
 have l:=cg i;have m:=cg (eP i);refine bz gE [] Tryz.func216 (?_:(fun j=>(fun e=>(fun c=>dU r (I64 e/\(¬r.a=e->false=(dx c r).isSome/\dT c ((dx c r).getD c))/\(r.a=e->(j->(d.length+[Entry.mk r.b r.x].length)*32<=140737488355328)/\(j->true=(dx c r).isSome/\dT (Stable.mk f g h (d++[Entry.mk r.b r.x])) ((dx c r).getD c))))) (Stable.mk f g h d)) ((↑d.length:Int)+1)) (r.x.length*1<=140737488355328));(repeat' (first | with_reducible apply aV | intro))
 all_goals first | (first | (refine aD ?_ ?_ <;> omega)) | (simp only [dx]; grind) | (simp only [List.length_cons,List.length_nil]; omega)
def Ui :Sat Tryz.prog (ak tyT) 148 [] [] ⟨[],[.c (.xx (.km bS) [])],none,false⟩:=Jg
def EG:Kn:=aO ao aw fun _ _=>⟨[],[.c (.xx (.km bS) [])],none,false⟩
def VS:CK 148 EG:=ah fun _ _ _=>Ui
def FE:Kn:=aO (ae (kC (ba 0 0)) (ae (kC (ba 1 0)) (ae (kC (ba 2 0)) ao))) (aC (yI 40 (.nm .letter)) (aC (yI 64 (.nm .stable)) (aC (dC 3 (ax cI dA)) aw))) fun _ (x,s,(a,_),_)=>⟨[],[.c (.bool (.atom ((decide (s.term<x.term) || decide (s.vote=0) || decide (s.vote=a)))))],none,false⟩
def Th:CK 169 FE:=ah fun _ (x,s,(a,_),_) _=>by
 refine av gE [] Tryz.func169 (?_:(fun c=>c=c) (decide (s.term<x.term) || decide (s.vote=0) || decide (s.vote=a)));(repeat' (intro))
 all_goals first | (first | (refine aD ?_ ?_ <;> omega)) | rfl
def AK:Kn:=aO (ae (kT (.nm .stable)) (ae (kC cI) ao)) aw fun (s,t,_) _=>⟨[s.term<=1048576],[.c (.fz (.nm .record) (((aP s t).1))),.c (.int (((aP s t).2)))],none,false⟩
theorem MO:CK 48 AK:=ah fun (s,t,_) _ a=>by
 have c:=cg a;refine av gE [] Tryz.func48 (?_:cj s (I64 t->(t<0\/5<=t->(aP s t).fst=[]/\1=(aP s t).snd)/\(0<=t/\t<5->(1048576<=s.term->(aP s t).fst=[]/\4=(aP s t).snd)/\(s.term<1048576->I64 (s.term+1)/\I64 (t+1)/\[Record.mk 2 (s.term+1) (t+1) []]=(aP s t).fst/\0=(aP s t).snd))));(repeat' (first | with_reducible apply aV | intro))
 all_goals first | (simp only [aP]; grind) | (have q:=(by with_reducible assumption:I64 s.term); exact aD (by have:=q.1; omega) (by have:=q.2; omega))
def F_:Kn:=aO (ae (kT (.nm .stable)) (ae (kT (.nm .route)) ao)) aw fun (s,r,_) _=>⟨[],[.agg (cellsOf (.nm .letter) ((fR s r).1)),.c (.int (((fR s r).2)))],none,false⟩
def UI:CK 120 F_:=ah fun (s,r,_) _ _=>by
 refine av gE [] Tryz.func120 (?_:(fun f=>(fun i=>(fun g=>(fun e=>(fun d=>(fun h=>cj s (RL r ((f<=r.next->I64 i)/\(r.next<f\/i<r.next->e=d.kind/\e=d.frm/\e=d.to/\e=d.term/\e=d.a/\e=d.b/\e=d.c/\e=d.bin/\false=d.ok/\d.l=[]/\f=(fR s r).snd)/\(f<=r.next/\r.next<=i->I64 g/\(I64 (cD s.log g)->(ef s.log g 4).length*32<=140737488355328->I64 (mayL h)->(¬mayL h=e->e=d.kind/\e=d.frm/\e=d.to/\e=d.term/\e=d.a/\e=d.b/\e=d.c/\e=d.bin/\false=d.ok/\d.l=[]/\mayL h=(fR s r).snd)/\(mayL h=e->iw h d (e=(fR s r).snd))))))) (Letter.mk 3 r.frm r.to s.term g (cD s.log g) r.commit r.bin false (ef s.log g 4))) (fR s r).fst) (0:Int)) (r.next - f)) ((↑s.log.length:Int)+f)) (1:Int));(repeat' with_reducible first|apply aV|refine bl ?_|intro)
 all_goals (first | exact bY | exact (congrArg (fun q=>q.2) (uu ab)).symm | exact (congrArg (fun q=>q.1.kind) (uu ab)).symm | exact (congrArg (fun q=>q.1.frm) (uu ab)).symm | exact (congrArg (fun q=>q.1.to) (uu ab)).symm | exact (congrArg (fun q=>q.1.term) (uu ab)).symm | exact (congrArg (fun q=>q.1.a) (uu ab)).symm | exact (congrArg (fun q=>q.1.b) (uu ab)).symm | exact (congrArg (fun q=>q.1.c) (uu ab)).symm | exact (congrArg (fun q=>q.1.bin) (uu ab)).symm | exact (congrArg (fun q=>q.1.ok) (uu ab)).symm | exact (congrArg (fun q=>q.2) (qz ab ab ab)).symm | exact (congrArg (fun q=>q.1.kind) (qz ab ab ab)).symm | exact (congrArg (fun q=>q.1.frm) (qz ab ab ab)).symm | exact (congrArg (fun q=>q.1.to) (qz ab ab ab)).symm | exact (congrArg (fun q=>q.1.term) (qz ab ab ab)).symm | exact (congrArg (fun q=>q.1.a) (qz ab ab ab)).symm | exact (congrArg (fun q=>q.1.b) (qz ab ab ab)).symm | exact (congrArg (fun q=>q.1.c) (qz ab ab ab)).symm | exact (congrArg (fun q=>q.1.bin) (qz ab ab ab)).symm | exact (congrArg (fun q=>q.1.ok) (qz ab ab ab)).symm | exact (congrArg (fun q=>q.1.l) (qz ab ab ab)).symm | exact (congrArg (fun q=>q.2) (ue ab ab ab)).symm | exact (congrArg (fun q=>q.1.kind) (ue ab ab ab)).symm | exact (congrArg (fun q=>q.1.frm) (ue ab ab ab)).symm | exact (congrArg (fun q=>q.1.to) (ue ab ab ab)).symm | exact (congrArg (fun q=>q.1.term) (ue ab ab ab)).symm | exact (congrArg (fun q=>q.1.a) (ue ab ab ab)).symm | exact (congrArg (fun q=>q.1.b) (ue ab ab ab)).symm | exact (congrArg (fun q=>q.1.c) (ue ab ab ab)).symm | exact (congrArg (fun q=>q.1.bin) (ue ab ab ab)).symm | exact (congrArg (fun q=>q.1.ok) (ue ab ab ab)).symm | exact (congrArg (fun q=>q.1.l) (ue ab ab ab)).symm | exact (congrArg (fun q=>q.1.l) (uu ab)) | exact (congrArg (fun q=>q.1.l) (qz ab ab ab)))
def aeu:bP:=(aQ 120 F_ (aQ 48 AK (aQ 169 FE (aQ 148 EG (aQ 216 uM (aQ 217 Gp (aQ 215 zQ (aQ 214 wE (aQ 83 GU acP)))))))))
def nL:aA Tryz.prog (ak tyT) aeu:=(ag UI (ag MO (ag Th (ag VS (ag Ik (ag UW (ag OY (ag Ie (ag SL gE)))))))))
variable {r:Record}
theorem adO (h:((((((dO bS r.kind).isSome=false\/r.a<(((dO bS r.kind).getD kz).getD 0 KC.nf).int)\/(((dO bS r.kind).getD kz).getD 1 KC.nf).int<r.a)\/r.b<0)\/(((dO bS r.kind).getD kz).getD 3 KC.nf).int<r.b)\/(((dO bS r.kind).getD kz).getD 4 KC.nf).int<(r.x.length:Int))):aM r=([],1):=by
 rw [aM,if_neg];intro e;simp [recOk] at e;obtain ⟨⟨⟨⟨⟨i,c⟩,d⟩,j⟩,f⟩,g⟩:=e;unfold XB at c d f g;grind
def Mo (c:(dO bS r.kind).isSome=true) (d:(((dO bS r.kind).getD kz).getD 0 KC.nf).int<=r.a) (e:r.a<=(((dO bS r.kind).getD kz).getD 1 KC.nf).int) (f:0<=r.b) (g:r.b<=(((dO bS r.kind).getD kz).getD 3 KC.nf).int) (h:(r.x.length:Int)<=(((dO bS r.kind).getD kz).getD 4 KC.nf).int):recOk r=true:=by
 simp [recOk];exact ⟨⟨⟨⟨⟨c,d⟩,e⟩,f⟩,g⟩,h⟩
def Bw (h:recOk r=true):1<=r.kind/\r.kind<=4/\0<=r.a/\r.a<=1048576/\0<=r.b/\r.b<=1048576/\r.x.length<=200/\(de r.a.toNat).length<=10/\(de r.b.toNat).length<=10:=by
 have c:=db (n:=r.a.toNat) (by rcases bT.1 h with h | h | h | h <;> omega);have d:=db (n:=r.b.toNat) (by rcases bT.1 h with h | h | h | h <;> omega);have e:r.x.length<=200:=by rcases bT.1 h with h | h | h | h <;> simp [h]
 rcases bT.1 h with h | h | h | h <;> omega
def Tt (h:recOk r=true):aM r=(dB r,0):=by rw [aM,if_pos h]
def ajq (h:recOk r=true) (c:(((dO bS r.kind).getD kz).getD 2 KC.nf).bool=true):[UInt8.ofNat r.kind.toNat]++de r.a.toNat++de r.b.toNat++r.x=(aM r).1:=by
 rw [Tt h,dB,if_pos (show uz r.kind=true from c)]
def agJ (h:recOk r=true) (c:(((dO bS r.kind).getD kz).getD 2 KC.nf).bool=false):[UInt8.ofNat r.kind.toNat]++de r.a.toNat++r.x=(aM r).1:=by
 rw [Tt h,dB,if_neg (by rw [show uz r.kind=false from c]; decide),ad8]
def ade (b:List UInt8):(((aj b).2.1:Nat):Int)<=(b.length:Nat):=by
 have:=(oD (l:=b) (k:=0) (n:=0) aE).2;show (((bW 0 0 b).2.1:Nat):Int)<=_;omega
def aa3 (a:b[0]? = some x):(b.getD 0 (au .u8):UInt8)=x:=by
 rw [List.getD_eq_getElem?_getD,a]; rfl
def TP (a:b[0]? = some x):¬ b.length=0:=by
 have:=(aaw.1 a).1; omega
def OX (h:(b.length:Int)=0):bJ b=(uC,false):=if_pos aE
def Es (a:b[0]? = some x) (c:¬ (aj (b.drop 1)).2.2=0):bJ b=(uC,false):=by
 rw [bJ,if_neg (TP a),if_pos c]
def uJ (a:b[0]? = some x) (c:(aj (b.drop 1)).2.2=0) (d:(((dO bS (x.toNat:Int)).getD kz).getD 2 KC.nf).bool=true) (e:¬ (aj ((b.drop 1).drop (aj (b.drop 1)).2.1)).2.2=0):bJ b=(uC,false):=by
 rw [bJ,if_neg (TP a),if_neg (Classical.not_not.2 c),aa3 a,if_pos (show uz (x.toNat:Int)=true from d),if_pos e]
def uK (a:b[0]? = some x) (c:(aj (b.drop 1)).2.2=0) (d:(((dO bS (x.toNat:Int)).getD kz).getD 2 KC.nf).bool=true) (e:(aj ((b.drop 1).drop (aj (b.drop 1)).2.1)).2.2=0):bJ b=(⟨(x.toNat:Int),eQ (aj (b.drop 1)).1,eQ (aj ((b.drop 1).drop (aj (b.drop 1)).2.1)).1,((b.drop 1).drop (aj (b.drop 1)).2.1).drop (aj ((b.drop 1).drop (aj (b.drop 1)).2.1)).2.1⟩,true):=by
 rw [bJ,if_neg (TP a),if_neg (Classical.not_not.2 c),aa3 a,if_pos (show uz (x.toNat:Int)=true from d),if_neg (Classical.not_not.2 e)]
def uF (a:b[0]? = some x) (c:(aj (b.drop 1)).2.2=0) (d:(((dO bS (x.toNat:Int)).getD kz).getD 2 KC.nf).bool=false):bJ b=(⟨(x.toNat:Int),eQ (aj (b.drop 1)).1,0,(b.drop 1).drop (aj (b.drop 1)).2.1⟩,true):=by
 rw [bJ,if_neg (TP a),if_neg (Classical.not_not.2 c),aa3 a,if_neg (by rw [show uz (x.toNat:Int)=false from d]; decide)]
variable {x:Letter}
def aaK {s:Stable} (h:¬ mayL x=0\/¬ x.kind=1):aL s x=([],false,1):=if_pos h
def ZN {s:Stable} (c:mayL x=0) (d:x.kind=1) (h:(x.term<s.term\/(decide (s.term<x.term) || decide (s.vote=0) || decide (s.vote=x.frm+1))=false)\/ki s.log x.a x.b=false):aL s x=(ay s x.term,false,0):=by
 rw [aL,if_neg aE]; exact if_pos h
theorem acL {s:Stable} (d:mayL x=0) (e:x.kind=1) (f:s.term<=x.term) (c:(decide (s.term<x.term) || decide (s.vote=0) || decide (s.vote=x.frm+1))=true) (g:ki s.log x.a x.b=true):aL s x=if x.term=s.term/\s.vote=x.frm+1 then ([],true,0) else ([⟨2,x.term,x.frm+1,[]⟩],true,0):=by
 rw [aL,if_neg aE,if_neg];rintro ((h | h) | h)
 ·omega
 ·rw [show uX s x=true from c] at h; cases h
 grind
def abg {s:Stable} (c:mayL x=0) (d:x.kind=1) (e:s.term<=x.term) (f:(decide (s.term<x.term) || decide (s.vote=0) || decide (s.vote=x.frm+1))=true) (g:ki s.log x.a x.b=true) (h:x.term=s.term) (i:s.vote=x.frm+1):aL s x=([],true,0):=by
 rw [acL c d e f g,if_pos ⟨h,i⟩]
def aal {s:Stable} (c:mayL x=0) (d:x.kind=1) (e:s.term<=x.term) (f:(decide (s.term<x.term) || decide (s.vote=0) || decide (s.vote=x.frm+1))=true) (g:ki s.log x.a x.b=true) (h:¬ x.term=s.term\/¬ s.vote=x.frm+1):aL s x=([⟨2,x.term,x.frm+1,[]⟩],true,0):=by
 rw [acL c d e f g,if_neg aE]
def eh (s:Stable) (x:Letter) (k:Nat):List Record:=ay s x.term++(if (bj s.log x.a x.l).1=0 then [] else [⟨4,(bj s.log x.a x.l).1,0,[]⟩])++eX (x.a+x.l.length - (bj s.log x.a x.l).2.length+1) ((bj s.log x.a x.l).2.take k)
theorem tT:∀ {n:Int} {l:List Entry} {y:Entry},eX n (l++[y])=eX n l++[⟨3,n+l.length,y.term,y.b⟩]
 | n,[],y=>by simp [eX]
 | n,z :: l,y=>by
  rw [List.cons_append,eX,tT,eX,List.cons_append,List.length_cons];simp; omega
theorem vR:∀ {n:Int} {l:List Entry},(eX n l).length=l.length
 | _,[]=>rfl
 | n,_ :: l=>by rw [eX,List.length_cons,List.length_cons,vR]
def afD {s:Stable} (h:¬ (bj s.log x.a x.l).1=0):ay s x.term++[Record.mk 4 (bj s.log x.a x.l).1 0 []]=eh s x 0:=by
 rw [eh,if_neg h,ajz,eX,ad8]
def aej {s:Stable} (h:(bj s.log x.a x.l).1=0):ay s x.term=eh s x 0:=by
 rw [eh,if_pos h,ajz,eX,ad8,ad8]
def aa_ {s:Stable} {y:Entry} (h:(bj s.log x.a x.l).2[k]? = some y):eh s x k++[Record.mk 3 (x.a+x.l.length - (bj s.log x.a x.l).2.length+k+1) y.term y.b]=eh s x (k+1):=by
 have c:=(aaw.1 h).1;rw [eh,eh,ai h,tT,List.append_assoc,List.length_take,afR aE];congr 4; omega
def zZ {s:Stable} (h:(¬ mayL x=0\/¬ x.kind=3)\/64<x.a+x.l.length):az s x=([],false,0,1):=if_pos h
def zL {s:Stable} (d:mayL x=0) (e:x.kind=3) (f:x.a+x.l.length<=64) (c:x.term<s.term):az s x=([],false,0,0):=by
 rw [az,if_neg aE,if_pos c]
def CC {s:Stable} (d:mayL x=0) (e:x.kind=3) (f:x.a+x.l.length<=64) (g:s.term<=x.term) (c:decide (cD s.log x.a=x.b)=false):az s x=(ay s x.term,false,0,0):=by
 rw [az,if_neg aE,if_neg aE,if_neg (aha c)]
def Ck {s:Stable} (d:mayL x=0) (e:x.kind=3) (f:x.a+x.l.length<=64) (g:s.term<=x.term) (c:decide (cD s.log x.a=x.b)=true) (h:((bj s.log x.a x.l).2.length:Int)<=k):az s x=(eh s x k,true,x.a+x.l.length,0):=by
 rw [az,if_neg aE,if_neg aE,if_pos (acx c),eh,List.take_of_length_le aE]; rfl
theorem wS {l m:List Entry} {k:Int}:(bj l k m).2.length<=m.length/\0<=(bj l k m).1/\(bj l k m).1<=l.length+1:=by
 unfold bj;grind
theorem ZB {s:Stable}:(eh s x k).length<=2+x.l.length:=by
 have:=(wS (l:=s.log) (m:=x.l) (k:=x.a)).1;simp [eh,vR];have c:(ay s x.term).length<=1:=by unfold ay; split <;> simp
 grind
theorem aez {s:Stable} (h:mayL x=0):((eh s x k).length+[r].length)*48<=140737488355328:=by
 have:=eL h;have:=ZB (s:=s) (x:=x) (k:=k);grind
theorem afw {s:Stable}:((ay s n).length+[r].length)*48<=140737488355328:=by
 have a:(ay s n).length<=1:=by unfold ay; split <;> simp
 grind
def aan (s:Stable) (x:Letter):List (Nat × LI):=[(13,{ σ:=Nat,F:=fun k=>([(4,one (.own 0)),(6,one (.int (x.a+x.l.length))),(9,one (.fz (.nm .entry) (bj s.log x.a x.l).2)),(70,one (.fz (.nm .entry) (bj s.log x.a x.l).2)),(71,one (.int (bj s.log x.a x.l).2.length)),(72,one (.int k))],[.row 108 (.nm .record) ((eh s x k))]),J:=fun k=>k<=(bj s.log x.a x.l).2.length,μ:=fun k=>(bj s.log x.a x.l).2.length - k })]
def Fh:Kn:=aO (ae (kT (.nm .record)) ao) aw fun (r,_) _=>⟨[],[.c (.fz .u8 (((aM r).1))),.c (.int (((aM r).2)))],none,false⟩
def HE:CK 145 Fh:=ah fun (r,_) _ _=>by
 refine av nL [] Tryz.func145 (?_:(fun e=>(fun c=>(fun f=>(fun d=>dU r (((((((dO bS r.kind).isSome=false\/r.a<(d.getD 0 KC.nf).int)\/(d.getD e KC.nf).int<r.a)\/r.b<c)\/(d.getD 3 KC.nf).int<r.b)\/(d.getD 4 KC.nf).int<(↑r.x.length:Int)->(aM r).fst=[]/\1=(aM r).snd)/\((((((dO bS r.kind).isSome=true/\(d.getD 0 KC.nf).int<=r.a)/\r.a<=(d.getD e KC.nf).int)/\c<=r.b)/\r.b<=(d.getD 3 KC.nf).int)/\(↑r.x.length:Int)<=(d.getD 4 KC.nf).int->c<=r.kind/\c<=r.a/\([UInt8.ofNat r.kind.toNat].length+(de r.a.toNat).length)*e<=140737488355328/\((d.getD 2 KC.nf).bool=true->c<=r.b/\(f.length+(de r.b.toNat).length)*e<=140737488355328/\((f++de r.b.toNat).length+r.x.length)*e<=140737488355328/\f++de r.b.toNat++r.x=(aM r).fst/\c=(aM r).snd)/\((d.getD 2 KC.nf).bool=false->(f.length+r.x.length)*e<=140737488355328/\f++r.x=(aM r).fst/\c=(aM r).snd)))) ((dO bS r.kind).getD [KC.i c,KC.i c,KC.b false,KC.i c,KC.i c,KC.nf])) ([UInt8.ofNat r.kind.toNat]++de r.a.toNat)) (0:Int)) (1:Nat));(repeat' with_reducible first|apply aV|refine bl ?_|intro)
 all_goals (first | exact (congrArg (fun q=>q.1) (adO ab)) | exact (congrArg (fun q=>q.2) (adO ab)).symm | exact (congrArg (fun q=>q.2) (Tt (Mo ab ab ab ab ab ab))).symm | exact (ajq (Mo ab ab ab ab ab ab) ab) | exact (agJ (Mo ab ab ab ab ab ab) ab) | (have g:=Bw (Mo ab ab ab ab ab ab); omega) | (have g:=Bw (Mo ab ab ab ab ab ab); simp only [List.length_append,List.length_cons,List.length_nil]; omega))
def Vt (r:Record):Sat Tryz.prog (ak tyT) 145 [.agg (cellsOf (.nm .record) r)] [] ⟨[],[.c (.fz .u8 (((aM r).1))),.c (.int (((aM r).2)))],none,false⟩:=HE _ _ _ rfl aa
def wG:Kn:=aO (ae (kC (cL .u8)) ao) aw fun (b,_) _=>⟨[],[.agg (cellsOf (.nm .record) ((bJ b).1)),.c (.bool (.atom (((bJ b).2))))],none,false⟩
def IK:CK 144 wG:=ah fun (b,_) _ _=>by
 refine av nL [] Tryz.func144 (?_:(fun j=>(fun g=>(fun h=>(fun c=>(fun o=>(fun d=>(fun l=>(fun e=>(fun f=>b.length*g<=140737488355328->(j=c->l)/\(¬j=c->c<=c/\c<j/\∀ (x:UInt8),(fun m=>b[(0:Nat)]? = some x->c<=1/\1<=j/\(d.fst<18446744073709551616->I64 (↑d.snd.fst:Int)->I64 d.snd.snd->(¬d.snd.snd=c->l)/\(d.snd.snd=c->(c<=(↑d.snd.fst:Int)/\(↑d.snd.fst:Int)<=(↑(List.drop g b).length:Int))/\(m=true->(aj e).fst<18446744073709551616->I64 (↑f.fst:Int)->I64 f.snd->(¬f.snd=c->l)/\(f.snd=c->(c<=(↑f.fst:Int)/\(↑f.fst:Int)<=(↑e.length:Int))/\((List.drop f.fst e).length*g<=140737488355328->tU (Record.mk (↑x.toNat:Int) (eQ d.fst) (eQ (aj e).fst) (List.drop f.fst e)) h (true=(bJ b).snd))))/\(m=false->e.length*g<=140737488355328->tU (Record.mk (↑x.toNat:Int) (eQ d.fst) c e) h (true=(bJ b).snd))))) (((dO bS (↑x.toNat:Int)).getD o).getD 2 KC.nf).bool)) (aj e).snd) (List.drop d.snd.fst (List.drop g b))) (c=h.kind/\c=h.a/\c=h.b/\h.x=[]/\false=(bJ b).snd)) (aj (List.drop g b))) [KC.i c,KC.i c,KC.b false,KC.i c,KC.i c,KC.nf]) (0:Int)) (bJ b).fst) (1:Nat)) (↑b.length:Int));(repeat' (first | with_reducible apply aV | intro))
 all_goals (first | exact bY | exact (congrArg (fun q=>q.2) (OX ab)).symm | exact (congrArg (fun q=>q.1.kind) (OX ab)).symm | exact (congrArg (fun q=>q.1.a) (OX ab)).symm | exact (congrArg (fun q=>q.1.b) (OX ab)).symm | exact (congrArg (fun q=>q.1.x) (OX ab)) | exact (congrArg (fun q=>q.2) (Es ab ab)).symm | exact (congrArg (fun q=>q.1.kind) (Es ab ab)).symm | exact (congrArg (fun q=>q.1.a) (Es ab ab)).symm | exact (congrArg (fun q=>q.1.b) (Es ab ab)) | exact (congrArg (fun q=>q.1.b) (Es ab ab)).symm | exact (congrArg (fun q=>q.1.x) (Es ab ab)) | exact (congrArg (fun q=>q.1.x) (Es ab ab)).symm | exact (congrArg (fun q=>q.2) (uJ ab ab ab ab)) | exact (congrArg (fun q=>q.2) (uJ ab ab ab ab)).symm | exact (congrArg (fun q=>q.1.kind) (uJ ab ab ab ab)) | exact (congrArg (fun q=>q.1.kind) (uJ ab ab ab ab)).symm | exact (congrArg (fun q=>q.1.a) (uJ ab ab ab ab)) | exact (congrArg (fun q=>q.1.a) (uJ ab ab ab ab)).symm | exact (congrArg (fun q=>q.1.b) (uJ ab ab ab ab)) | exact (congrArg (fun q=>q.1.b) (uJ ab ab ab ab)).symm | exact (congrArg (fun q=>q.1.x) (uJ ab ab ab ab)) | exact (congrArg (fun q=>q.1.x) (uJ ab ab ab ab)).symm | exact (congrArg (fun q=>q.2) (uK ab ab ab ab)) | exact (congrArg (fun q=>q.2) (uK ab ab ab ab)).symm | exact (congrArg (fun q=>q.1.kind) (uK ab ab ab ab)) | exact (congrArg (fun q=>q.1.kind) (uK ab ab ab ab)).symm | exact (congrArg (fun q=>q.1.a) (uK ab ab ab ab)) | exact (congrArg (fun q=>q.1.a) (uK ab ab ab ab)).symm | exact (congrArg (fun q=>q.1.b) (uK ab ab ab ab)) | exact (congrArg (fun q=>q.1.b) (uK ab ab ab ab)).symm | exact (congrArg (fun q=>q.1.x) (uK ab ab ab ab)) | exact (congrArg (fun q=>q.1.x) (uK ab ab ab ab)).symm | exact (congrArg (fun q=>q.2) (uF ab ab ab)) | exact (congrArg (fun q=>q.2) (uF ab ab ab)).symm | exact (congrArg (fun q=>q.1.kind) (uF ab ab ab)) | exact (congrArg (fun q=>q.1.kind) (uF ab ab ab)).symm | exact (congrArg (fun q=>q.1.a) (uF ab ab ab)) | exact (congrArg (fun q=>q.1.a) (uF ab ab ab)).symm | exact (congrArg (fun q=>q.1.b) (uF ab ab ab)) | exact (congrArg (fun q=>q.1.b) (uF ab ab ab)).symm | exact (congrArg (fun q=>q.1.x) (uF ab ab ab)) | exact (congrArg (fun q=>q.1.x) (uF ab ab ab)).symm | exact (ade _))
def uR:Kn:=aO (ae (kT (.nm .stable)) (ae (kT (.nm .letter)) ao)) aw fun (s,x,_) _=>⟨[],[.c (.fz (.nm .record) (((aL s x).1))),.c (.bool (.atom (((aL s x).2.1)))),.c (.int (((aL s x).2.2)))],none,false⟩
def Jr:CK 98 uR:=ah fun (s,x,_) _ _=>by
 refine av nL [] Tryz.func98 (?_:(fun f=>(fun d=>(fun e=>(fun c=>(fun g=>(fun h=>cj s (aT x (I64 (mayL x)->(¬mayL x=d\/¬x.kind=1->f=[]/\false=c.fst/\1=c.snd)/\(mayL x=d/\x.kind=1->I64 e/\((x.term<s.term\/h=false)\/ki s.log x.a x.b=false->ay s x.term=f/\false=c.fst/\d=c.snd)/\((s.term<=x.term/\h=true)/\ki s.log x.a x.b=true->(x.term=s.term/\s.vote=e->f=[]/\g)/\(¬x.term=s.term\/¬s.vote=e->[Record.mk 2 x.term e []]=f/\g)))))) (decide (s.term<x.term) || decide (s.vote=d) || decide (s.vote=e))) (true=c.fst/\d=c.snd)) (aL s x).snd) (x.frm+1)) (0:Int)) (aL s x).fst);(repeat' with_reducible first|apply aV|refine bl ?_|intro)
 all_goals (first | exact (congrArg (fun q=>q.1) (aaK ab)) | exact (congrArg (fun q=>q.2.1) (aaK ab)).symm | exact (congrArg (fun q=>q.2.2) (aaK ab)).symm | exact (congrArg (fun q=>q.1) (ZN ab ab ab)).symm | exact (congrArg (fun q=>q.2.1) (ZN ab ab ab)).symm | exact (congrArg (fun q=>q.2.2) (ZN ab ab ab)).symm | exact (congrArg (fun q=>q.1) (abg ab ab ab ab ab ab ab)) | exact (congrArg (fun q=>q.2.1) (abg ab ab ab ab ab ab ab)).symm | exact (congrArg (fun q=>q.2.2) (abg ab ab ab ab ab ab ab)).symm | exact (congrArg (fun q=>q.1) (aal ab ab ab ab ab ab)).symm | exact (congrArg (fun q=>q.2.1) (aal ab ab ab ab ab ab)).symm | exact (congrArg (fun q=>q.2.2) (aal ab ab ab ab ab ab)).symm | (have:=eL ab; exact aD aE aE))
def ET:Kn:=aO (ae (kT (.nm .stable)) (ae (kT (.nm .letter)) ao)) aw fun (s,x,_) _=>⟨[],[.c (.fz (.nm .record) (((az s x).1))),.c (.bool (.atom (((az s x).2.1)))),.c (.int (((az s x).2.2.1))),.c (.int (((az s x).2.2.2)))],none,false⟩
set_option maxRecDepth 8000 in
theorem Sf:CK 95 ET:=ah fun (s,x,_) _ _=>by
 refine av nL (aan s x) Tryz.func95 (?_:(fun (p:List Record)=>(fun (D:Nat)=>(fun (G:List Record)=>(fun (w:Int)=>(fun (y:Int)=>(fun (H:Int)=>(fun (i:Int)=>(fun (F:Int)=>(fun (t:Bool × Int × Int)=>(fun (I:Prop)=>(fun (v:Int)=>(fun (J:Prop)=>(fun (z:List Entry)=>(fun (g:Prop)=>(fun (o:Int)=>(fun (e:Nat)=>(fun (f:Int)=>(fun (j:Int)=>cj s (aT x (I64 (mayL x)->(mayL x=i/\x.kind=w->I64 F)/\((¬mayL x=i\/¬x.kind=w)\/64<F->G=[]/\false=t.fst/\i=t.snd.fst/\y=t.snd.snd)/\((mayL x=i/\x.kind=w)/\F<=64->(x.term<s.term->G=[]/\I)/\(s.term<=x.term->(decide (cD s.log x.a=x.b)=false->p=G/\I)/\(decide (cD s.log x.a=x.b)=true->I64 F/\(I64 H->z.length*32<=D->(¬H=i->(p.length+[Record.mk 4 H i []].length)*48<=D/\∃ (A:Nat),(F=v/\g/\g/\o=f/\i=(↑A:Int)/\p++[Record.mk 4 H i []]=eh s x A)/\A<=e/\∀ (c:Nat),(fun (B:Int)=>c<=e->((↑c:Int)<f->i<=(↑c:Int)/\(↑c:Int)<o/\∀ (d:Entry),z[c]? = some d->I64 d.term->d.b.length*1<=D->I64 j/\I64 (j+(↑c:Int))/\I64 B/\((eh s x c).length+[Record.mk w B d.term d.b].length)*48<=D/\I64 ((↑c:Int)+y)/\∃ (u:Nat),(v=v/\g/\g/\f=f/\(↑c:Int)+y=(↑u:Int)/\eh s x c++[Record.mk w B d.term d.b]=eh s x u)/\u <= e/\e - u < e - c)/\(f<=(↑c:Int)->eh s x c=G/\J)) (j+(↑c:Int)+y))/\(H=i->∃ (A:Nat),(F=v/\g/\g/\o=f/\i=(↑A:Int)/\p=eh s x A)/\A<=e/\∀ (c:Nat),(fun (C:Int)=>c<=e->((↑c:Int)<f->i<=(↑c:Int)/\(↑c:Int)<o/\∀ (d:Entry),z[c]? = some d->I64 d.term->d.b.length*1<=D->I64 j/\I64 (j+(↑c:Int))/\I64 C/\((eh s x c).length+[Record.mk w C d.term d.b].length)*48<=D/\I64 ((↑c:Int)+y)/\∃ (u:Nat),(v=v/\g/\g/\f=f/\(↑c:Int)+y=(↑u:Int)/\eh s x c++[Record.mk w C d.term d.b]=eh s x u)/\u <= e/\e - u < e - c)/\(f<=(↑c:Int)->eh s x c=G/\J)) (j+(↑c:Int)+y))))))))) (v - o)) (↑e:Int)) z.length) (↑z.length:Int)) (z=z)) (bj s.log x.a x.l).snd) (true=t.fst/\v=t.snd.fst/\i=t.snd.snd)) (x.a+(↑x.l.length:Int))) (false=t.fst/\i=t.snd.fst/\i=t.snd.snd)) (az s x).snd) (x.a+(↑x.l.length:Int))) 0) (bj s.log x.a x.l).fst) 1) 3) (az s x).fst) 140737488355328) (ay s x.term));(repeat' with_reducible first|apply aV|refine bl ?_|intro)
 all_goals try ((with_reducible exact aa_ ab))
 all_goals try (refine ⟨0,?_⟩; (repeat' with_reducible first|apply aV|refine bl ?_|intro))
 all_goals try (first | exact bY | (with_reducible exact afD ab) | (with_reducible exact aej ab) | (with_reducible exact aa_ ab))
 all_goals try (refine ⟨‹Nat› + 1,?_⟩; (repeat' with_reducible first|apply aV|refine bl ?_|intro))
 all_goals (first | exact bY | (with_reducible exact afD ab) | (with_reducible exact aej ab) | (with_reducible exact aa_ ab) | (with_reducible exact aez ab) | (with_reducible exact afw) | (with_reducible exact (congrArg (fun q=>q.1) (zZ ab))) | (with_reducible exact (congrArg (fun q=>q.1) (zZ ab)).symm) | (with_reducible exact (congrArg (fun q=>q.2.1) (zZ ab))) | (with_reducible exact (congrArg (fun q=>q.2.1) (zZ ab)).symm) | (with_reducible exact (congrArg (fun q=>q.2.2.1) (zZ ab))) | (with_reducible exact (congrArg (fun q=>q.2.2.1) (zZ ab)).symm) | (with_reducible exact (congrArg (fun q=>q.2.2.2) (zZ ab))) | (with_reducible exact (congrArg (fun q=>q.2.2.2) (zZ ab)).symm) | (with_reducible exact (congrArg (fun q=>q.1) (zL ab ab ab ab))) | (with_reducible exact (congrArg (fun q=>q.1) (zL ab ab ab ab)).symm) | (with_reducible exact (congrArg (fun q=>q.2.1) (zL ab ab ab ab))) | (with_reducible exact (congrArg (fun q=>q.2.1) (zL ab ab ab ab)).symm) | (with_reducible exact (congrArg (fun q=>q.2.2.1) (zL ab ab ab ab))) | (with_reducible exact (congrArg (fun q=>q.2.2.1) (zL ab ab ab ab)).symm) | (with_reducible exact (congrArg (fun q=>q.2.2.2) (zL ab ab ab ab))) | (with_reducible exact (congrArg (fun q=>q.2.2.2) (zL ab ab ab ab)).symm) | (with_reducible exact (congrArg (fun q=>q.1) (CC ab ab ab ab ab))) | (with_reducible exact (congrArg (fun q=>q.1) (CC ab ab ab ab ab)).symm) | (with_reducible exact (congrArg (fun q=>q.2.1) (CC ab ab ab ab ab))) | (with_reducible exact (congrArg (fun q=>q.2.1) (CC ab ab ab ab ab)).symm) | (with_reducible exact (congrArg (fun q=>q.2.2.1) (CC ab ab ab ab ab))) | (with_reducible exact (congrArg (fun q=>q.2.2.1) (CC ab ab ab ab ab)).symm) | (with_reducible exact (congrArg (fun q=>q.2.2.2) (CC ab ab ab ab ab))) | (with_reducible exact (congrArg (fun q=>q.2.2.2) (CC ab ab ab ab ab)).symm) | (with_reducible exact (congrArg (fun q=>q.1) (Ck ab ab ab ab ab ab))) | (with_reducible exact (congrArg (fun q=>q.1) (Ck ab ab ab ab ab ab)).symm) | (with_reducible exact (congrArg (fun q=>q.2.1) (Ck ab ab ab ab ab ab))) | (with_reducible exact (congrArg (fun q=>q.2.1) (Ck ab ab ab ab ab ab)).symm) | (with_reducible exact (congrArg (fun q=>q.2.2.1) (Ck ab ab ab ab ab ab))) | (with_reducible exact (congrArg (fun q=>q.2.2.1) (Ck ab ab ab ab ab ab)).symm) | (with_reducible exact (congrArg (fun q=>q.2.2.2) (Ck ab ab ab ab ab ab))) | (with_reducible exact (congrArg (fun q=>q.2.2.2) (Ck ab ab ab ab ab ab)).symm) | (have h:=eL ab; have K:=wS (l:=s.log) (m:=x.l) (k:=x.a); refine aD ?_ ?_ <;> omega))
def Dl:bP:=(aQ 95 ET (aQ 98 uR (aQ 144 wG (aQ 145 Fh aeu))))
def jZ:aA Tryz.prog (ak tyT) Dl:=(ag Sf (ag Jr (ag IK (ag HE nL))))
def NX (r:Record) (a:recOk r=false):Sat Tryz.prog (ak tyT) 145 [.agg (cellsOf (.nm .record) r)] [] ⟨[recOk r=false],[.c (.fz .u8 (([]))),.c (.int ((1)))],none,false⟩:=by
 have e:aM r=([],1):=by rw [aM,if_neg (by rw [a]; decide)]
 have h:=Vt r;rw [e] at h; exact ⟨h.1,h.2⟩
def zA:Kn:=aO (ae (kT (.nm .record)) ao) aw fun (r,_) _=>⟨[recOk r=false],[.c (.fz .u8 (([]))),.c (.int ((1)))],none,false⟩
def Mu:CK 145 zA:=ah fun (r,_) _ a=>NX r (cg a)
def Ly  (a:False):Sat Tryz.prog (ak tyT) 148 [] [] ⟨[False],[.c (.xx (.km []) [])],none,false⟩:=a.elim
def Bt:Kn:=aO ao aw fun _ _=>⟨[False],[.c (.xx (.km []) [])],none,false⟩
def Oh:CK 148 Bt:=ah fun _ _ a=>Ly  (cg a)
def XI:bP:=(aQ 148 Bt (aQ 145 zA Dl))
def QI:aA Tryz.prog (ak tyT) XI:=(ag Oh (ag Mu jZ))
def Aw (h:(bJ b).2=false):bZ b=(uC,3):=if_pos h
theorem BF (h:(bJ b).2=true) (a:¬ (aM (bJ b).1).2=0\/decide ((aM (bJ b).1).1=b)=false):bZ b=(uC,3):=by
 rw [bZ,if_neg (by rw [h]; decide),if_pos];grind
theorem AZ (h:(bJ b).2=true) (a:(aM (bJ b).1).2=0) (c:decide ((aM (bJ b).1).1=b)=true):bZ b=((bJ b).1,0):=by
 rw [bZ,if_neg (by rw [h]; decide),if_neg];grind
theorem iv:(aM r).2=0↔recOk r=true:=by
 unfold aM;grind
theorem ox (h:¬ (aM r).2=0):(aM r).2=1/\recOk r=false:=by
 unfold aM at h ⊢;grind
def SD (s:Stable) (a b:Int) (x:List UInt8) (e:Stable) (f:Int):Xx tyT Dl [] Tryz.f85 [.agg (cellsOf (.nm .stable) s),.agg [.int 1,.int a,.int b,.fz .u8 x]] [] [.agg (cellsOf (.nm .stable) e),.c (.int f)]=((fun d=>(fun g=>cj s (I64 1->I64 a->I64 b->x.length*1<=140737488355328->(aM d).fst.length*1<=140737488355328->I64 g->(¬g=0->I64 s.floor->I64 s.term->I64 s.vote->aG s e (g=f))/\(g=0->I64 s.floor->I64 s.term->I64 s.vote->((dP s d).isSome=false->I64 s.floor->I64 s.term->I64 s.vote->aG s e (5=f))/\((dP s d).isSome=true->aG ((dP s d).getD s) e (0=f))))) (aM d).snd) (Record.mk 1 a b x)):=bN
def Sx (s:Stable) (a b:Int) (x:List UInt8) (e:Stable) (f:Int):Xx tyT Dl [] Tryz.f85 [.agg (cellsOf (.nm .stable) s),.agg [.int 2,.int a,.int b,.fz .u8 x]] [] [.agg (cellsOf (.nm .stable) e),.c (.int f)]=((fun d=>(fun g=>cj s (I64 2->I64 a->I64 b->x.length*1<=140737488355328->(aM d).fst.length*1<=140737488355328->I64 g->(¬g=0->I64 s.floor->I64 s.term->I64 s.vote->aG s e (g=f))/\(g=0->I64 s.floor->I64 s.term->I64 s.vote->((fD s d).isSome=false->I64 s.floor->I64 s.term->I64 s.vote->aG s e (5=f))/\((fD s d).isSome=true->aG ((fD s d).getD s) e (0=f))))) (aM d).snd) (Record.mk 2 a b x)):=bN
def Vq (s:Stable) (a b:Int) (x:List UInt8) (e:Stable) (f:Int):Xx tyT Dl [] Tryz.f85 [.agg (cellsOf (.nm .stable) s),.agg [.int 3,.int a,.int b,.fz .u8 x]] [] [.agg (cellsOf (.nm .stable) e),.c (.int f)]=((fun d=>(fun g=>cj s (I64 3->I64 a->I64 b->x.length*1<=140737488355328->(aM d).fst.length*1<=140737488355328->I64 g->(¬g=0->I64 s.floor->I64 s.term->I64 s.vote->aG s e (g=f))/\(g=0->I64 s.floor->I64 s.term->I64 s.vote->s.log.length<=1000000/\x.length<=200/\((dx s d).isSome=false->I64 s.floor->I64 s.term->I64 s.vote->aG s e (5=f))/\((dx s d).isSome=true->aG ((dx s d).getD s) e (0=f))))) (aM d).snd) (Record.mk 3 a b x)):=bN
def SA (s:Stable) (a b:Int) (x:List UInt8) (e:Stable) (f:Int):Xx tyT Dl [] Tryz.f85 [.agg (cellsOf (.nm .stable) s),.agg [.int 4,.int a,.int b,.fz .u8 x]] [] [.agg (cellsOf (.nm .stable) e),.c (.int f)]=((fun d=>(fun g=>cj s (I64 4->I64 a->I64 b->x.length*1<=140737488355328->(aM d).fst.length*1<=140737488355328->I64 g->(¬g=0->I64 s.floor->I64 s.term->I64 s.vote->aG s e (g=f))/\(g=0->I64 s.floor->I64 s.term->I64 s.vote->(1<=a/\a<=64)/\((fM s d).isSome=false->I64 s.floor->I64 s.term->I64 s.vote->aG s e (5=f))/\((fM s d).isSome=true->aG ((fM s d).getD s) e (0=f))))) (aM d).snd) (Record.mk 4 a b x)):=bN
def Sj (s:Stable) (r:Record) (a:Stable) (d:Int):Xx tyT XI [] Tryz.f85 [.agg (cellsOf (.nm .stable) s),.agg (cellsOf (.nm .record) r)] [] [.agg (cellsOf (.nm .stable) a),.c (.int d)]=(cj s (dU r (recOk r=false/\((0:Nat)*(1:Nat)<=(140737488355328:Nat)->I64 (1:Int)->(¬(1:Int)=(0:Int)->I64 s.floor->I64 s.term->I64 s.vote->aG s a ((1:Int)=d))/\((1:Int)=(0:Int)->I64 s.floor->I64 s.term->I64 s.vote->False/\False))))):=bN
def BU {s:Stable} (h:recOk r=false):aN s r=(s,1):=if_pos h
def jy {s:Stable} (h:¬ (aM r).2=0):aN s r=(s,(aM r).2):=by
 rw [BU (ox h).2,(ox h).1]
variable {o:Option Stable}
theorem jA {s:Stable} (e:fh s r=o) (h:(aM r).2=0) (a:o.isSome=false):aN s r=(s,5):=by
 rw [aN,if_neg (by rw [iv.1 h]; decide),e];grind
theorem jt {s:Stable} (e:fh s r=o) (h:(aM r).2=0) (a:o.isSome=true):aN s r=(o.getD s,0):=by
 rw [aN,if_neg (by rw [iv.1 h]; decide),e];grind
set_option maxRecDepth 8000 in
def abn (s:Stable) (a b:Int) (x:List UInt8) (e:s.log.length<=1000000):Sat Tryz.prog (ak tyT) 85 [.agg (cellsOf (.nm .stable) s),.agg (cellsOf (.nm .record) (⟨1,a,b,x⟩:Record))] [] ⟨[s.log.length<=1000000],[.agg (cellsOf (.nm .stable) (aN s (⟨1,a,b,x⟩:Record)).1),.c (.int (aN s (⟨1,a,b,x⟩:Record)).2)],none,false⟩:=by
 have d:fh s (⟨1,a,b,x⟩:Record)=dP s (⟨1,a,b,x⟩:Record):=rfl;refine av jZ [] Tryz.func85 ?_ (SD s a b x (aN s (⟨1,a,b,x⟩:Record)).1 (aN s (⟨1,a,b,x⟩:Record)).2).symm;(repeat' (first | with_reducible apply aV | intro))
 all_goals (first | exact (congrArg (fun q=>q.2) (jy ab)).symm | exact (congrArg (fun q=>q.1.floor) (jy ab)).symm | exact (congrArg (fun q=>q.1.term) (jy ab)).symm | exact (congrArg (fun q=>q.1.vote) (jy ab)).symm | exact (congrArg (fun q=>q.1.log) (jy ab)).symm | exact (congrArg (fun q=>q.2) (jA d ab ab)).symm | exact (congrArg (fun q=>q.1.floor) (jA d ab ab)).symm | exact (congrArg (fun q=>q.1.term) (jA d ab ab)).symm | exact (congrArg (fun q=>q.1.vote) (jA d ab ab)).symm | exact (congrArg (fun q=>q.1.log) (jA d ab ab)).symm | exact (congrArg (fun q=>q.2) (jt d ab ab)).symm | exact (congrArg (fun q=>q.1.floor) (jt d ab ab)).symm | exact (congrArg (fun q=>q.1.term) (jt d ab ab)).symm | exact (congrArg (fun q=>q.1.vote) (jt d ab ab)).symm | exact (congrArg (fun q=>q.1.log) (jt d ab ab)).symm)
set_option maxRecDepth 8000 in
def ab_ (s:Stable) (a b:Int) (x:List UInt8) (e:s.log.length<=1000000):Sat Tryz.prog (ak tyT) 85 [.agg (cellsOf (.nm .stable) s),.agg (cellsOf (.nm .record) (⟨2,a,b,x⟩:Record))] [] ⟨[s.log.length<=1000000],[.agg (cellsOf (.nm .stable) (aN s (⟨2,a,b,x⟩:Record)).1),.c (.int (aN s (⟨2,a,b,x⟩:Record)).2)],none,false⟩:=by
 have d:fh s (⟨2,a,b,x⟩:Record)=fD s (⟨2,a,b,x⟩:Record):=rfl;refine av jZ [] Tryz.func85 ?_ (Sx s a b x (aN s (⟨2,a,b,x⟩:Record)).1 (aN s (⟨2,a,b,x⟩:Record)).2).symm;(repeat' (first | with_reducible apply aV | intro))
 all_goals (first | exact (congrArg (fun q=>q.2) (jy ab)).symm | exact (congrArg (fun q=>q.1.floor) (jy ab)).symm | exact (congrArg (fun q=>q.1.term) (jy ab)).symm | exact (congrArg (fun q=>q.1.vote) (jy ab)).symm | exact (congrArg (fun q=>q.1.log) (jy ab)).symm | exact (congrArg (fun q=>q.2) (jA d ab ab)).symm | exact (congrArg (fun q=>q.1.floor) (jA d ab ab)).symm | exact (congrArg (fun q=>q.1.term) (jA d ab ab)).symm | exact (congrArg (fun q=>q.1.vote) (jA d ab ab)).symm | exact (congrArg (fun q=>q.1.log) (jA d ab ab)).symm | exact (congrArg (fun q=>q.2) (jt d ab ab)).symm | exact (congrArg (fun q=>q.1.floor) (jt d ab ab)).symm | exact (congrArg (fun q=>q.1.term) (jt d ab ab)).symm | exact (congrArg (fun q=>q.1.vote) (jt d ab ab)).symm | exact (congrArg (fun q=>q.1.log) (jt d ab ab)).symm)
set_option maxRecDepth 8000 in
def acn (s:Stable) (a b:Int) (x:List UInt8) (e:s.log.length<=1000000):Sat Tryz.prog (ak tyT) 85 [.agg (cellsOf (.nm .stable) s),.agg (cellsOf (.nm .record) (⟨3,a,b,x⟩:Record))] [] ⟨[s.log.length<=1000000],[.agg (cellsOf (.nm .stable) (aN s (⟨3,a,b,x⟩:Record)).1),.c (.int (aN s (⟨3,a,b,x⟩:Record)).2)],none,false⟩:=by
 have d:fh s (⟨3,a,b,x⟩:Record)=dx s (⟨3,a,b,x⟩:Record):=rfl;refine av jZ [] Tryz.func85 ?_ (Vq s a b x (aN s (⟨3,a,b,x⟩:Record)).1 (aN s (⟨3,a,b,x⟩:Record)).2).symm;(repeat' (first | with_reducible apply aV | intro))
 all_goals (first | exact (congrArg (fun q=>q.2) (jy ab)).symm | exact (congrArg (fun q=>q.1.floor) (jy ab)).symm | exact (congrArg (fun q=>q.1.term) (jy ab)).symm | exact (congrArg (fun q=>q.1.vote) (jy ab)).symm | exact (congrArg (fun q=>q.1.log) (jy ab)).symm | exact (congrArg (fun q=>q.2) (jA d ab ab)).symm | exact (congrArg (fun q=>q.1.floor) (jA d ab ab)).symm | exact (congrArg (fun q=>q.1.term) (jA d ab ab)).symm | exact (congrArg (fun q=>q.1.vote) (jA d ab ab)).symm | exact (congrArg (fun q=>q.1.log) (jA d ab ab)).symm | exact (congrArg (fun q=>q.2) (jt d ab ab)).symm | exact (congrArg (fun q=>q.1.floor) (jt d ab ab)).symm | exact (congrArg (fun q=>q.1.term) (jt d ab ab)).symm | exact (congrArg (fun q=>q.1.vote) (jt d ab ab)).symm | exact (congrArg (fun q=>q.1.log) (jt d ab ab)).symm | (have h:=bT.1 (iv.1 ab); dsimp only at h; omega))
set_option maxRecDepth 8000 in
def abr (s:Stable) (a b:Int) (x:List UInt8) (e:s.log.length<=1000000):Sat Tryz.prog (ak tyT) 85 [.agg (cellsOf (.nm .stable) s),.agg (cellsOf (.nm .record) (⟨4,a,b,x⟩:Record))] [] ⟨[s.log.length<=1000000],[.agg (cellsOf (.nm .stable) (aN s (⟨4,a,b,x⟩:Record)).1),.c (.int (aN s (⟨4,a,b,x⟩:Record)).2)],none,false⟩:=by
 have d:fh s (⟨4,a,b,x⟩:Record)=fM s (⟨4,a,b,x⟩:Record):=rfl;refine av jZ [] Tryz.func85 ?_ (SA s a b x (aN s (⟨4,a,b,x⟩:Record)).1 (aN s (⟨4,a,b,x⟩:Record)).2).symm;(repeat' (first | with_reducible apply aV | intro))
 all_goals (first | exact (congrArg (fun q=>q.2) (jy ab)).symm | exact (congrArg (fun q=>q.1.floor) (jy ab)).symm | exact (congrArg (fun q=>q.1.term) (jy ab)).symm | exact (congrArg (fun q=>q.1.vote) (jy ab)).symm | exact (congrArg (fun q=>q.1.log) (jy ab)).symm | exact (congrArg (fun q=>q.2) (jA d ab ab)).symm | exact (congrArg (fun q=>q.1.floor) (jA d ab ab)).symm | exact (congrArg (fun q=>q.1.term) (jA d ab ab)).symm | exact (congrArg (fun q=>q.1.vote) (jA d ab ab)).symm | exact (congrArg (fun q=>q.1.log) (jA d ab ab)).symm | exact (congrArg (fun q=>q.2) (jt d ab ab)).symm | exact (congrArg (fun q=>q.1.floor) (jt d ab ab)).symm | exact (congrArg (fun q=>q.1.term) (jt d ab ab)).symm | exact (congrArg (fun q=>q.1.vote) (jt d ab ab)).symm | exact (congrArg (fun q=>q.1.log) (jt d ab ab)).symm | (have h:=bT.1 (iv.1 ab); dsimp only at h; omega))
theorem Qq (s:Stable) (r:Record) (d:s.log.length<=1000000):Sat Tryz.prog (ak tyT) 85 [.agg (cellsOf (.nm .stable) s),.agg (cellsOf (.nm .record) r)] [] ⟨[s.log.length<=1000000],[.agg (cellsOf (.nm .stable) (aN s r).1),.c (.int (aN s r).2)],none,false⟩:=by
 cases e:recOk r
 ·refine av QI [] Tryz.func85 ?_ (Sj s r (aN s r).1 (aN s r).2).symm;rw [BU e];grind
 obtain ⟨k,a,b,x⟩:=r;rcases bT.1 e with h | h | h | h <;> (have f:=h.1; dsimp only at f; subst f)
 ·exact abn s a b x d
 ·exact ab_ s a b x d
 ·exact acn s a b x d
 exact abr s a b x d
def zG:Kn:=aO (ae (kC (cL .u8)) ao) aw fun (b,_) _=>⟨[],[.agg (cellsOf (.nm .record) ((bZ b).1)),.c (.int (((bZ b).2)))],none,false⟩
def MZ:CK 84 zG:=ah fun (b,_) _ _=>by
 refine av jZ [] Tryz.func84 (?_:(fun c=>(fun e=>(fun d=>(fun f=>b.length*1<=140737488355328->dU (bJ b).fst (((bJ b).snd=false->f)/\((bJ b).snd=true->d.fst.length*1<=140737488355328->I64 d.snd->(¬d.snd=c\/decide (d.fst=b)=false->f)/\(d.snd=c/\decide (d.fst=b)=true->tU (bJ b).fst e (c=(bZ b).snd))))) (c=e.kind/\c=e.a/\c=e.b/\e.x=[]/\3=(bZ b).snd)) (aM (bJ b).fst)) (bZ b).fst) (0:Int));(repeat' with_reducible first|apply aV|refine bl ?_|intro)
 all_goals (first | exact (congrArg (fun q=>q.2) (Aw ab)).symm | exact (congrArg (fun q=>q.1.kind) (Aw ab)).symm | exact (congrArg (fun q=>q.1.a) (Aw ab)).symm | exact (congrArg (fun q=>q.1.b) (Aw ab)).symm | exact (congrArg (fun q=>q.1.x) (Aw ab)) | exact (congrArg (fun q=>q.2) (BF ab ab)).symm | exact (congrArg (fun q=>q.1.kind) (BF ab ab)).symm | exact (congrArg (fun q=>q.1.a) (BF ab ab)).symm | exact (congrArg (fun q=>q.1.b) (BF ab ab)).symm | exact (congrArg (fun q=>q.1.x) (BF ab ab)) | exact (congrArg (fun q=>q.2) (AZ ab ab ab)).symm | exact (congrArg (fun q=>q.1.kind) (AZ ab ab ab)).symm | exact (congrArg (fun q=>q.1.a) (AZ ab ab ab)).symm | exact (congrArg (fun q=>q.1.b) (AZ ab ab ab)).symm | exact (congrArg (fun q=>q.1.x) (AZ ab ab ab)).symm)
def Qv (s:Stable) (r:Record) (a:s.log.length<=1000000):Sat Tryz.prog (ak tyT) 85 [.agg (cellsOf (.nm .stable) s),.agg (cellsOf (.nm .record) r)] [] ⟨[s.log.length<=1000000],[.agg (cellsOf (.nm .stable) ((aN s r).1)),.c (.int (((aN s r).2)))],none,false⟩:=Qq s r a
def AM:Kn:=aO (ae (kT (.nm .stable)) (ae (kT (.nm .record)) ao)) aw fun (s,r,_) _=>⟨[s.log.length<=1000000],[.agg (cellsOf (.nm .stable) ((aN s r).1)),.c (.int (((aN s r).2)))],none,false⟩
def QU:CK 85 AM:=ah fun (s,r,_) _ a=>Qv s r (cg a)
def acK:bP:=(aQ 85 AM (aQ 84 zG Dl))
def Hy:aA Tryz.prog (ak tyT) acK:=(ag QU (ag MZ jZ))
structure RJ (b:List UInt8) (s:Stable) (u:Int):Prop where
 le:0<=u/\u<=b.length
 log:(s.log.length:Int)<=u
 eq:replayF b=((playB (b.length+1) s (b.drop u.toNat)).1,u+(playB (b.length+1) s (b.drop u.toNat)).2)
def aeD:RJ b sta0 0:=⟨aE,aa,by simp [replayF]⟩
section
variable {b:List UInt8} {s:Stable} {u:Int}
def lC (h:RJ b s u) (a:¬ (bm (b.drop u.toNat)).2.2=0):replayF b=(s,u):=by
 rw [h.eq,mI a,Int.add_zero]
def jC (h:RJ b s u) (a:(bm (b.drop u.toNat)).2.2=0) (c:¬ (bZ (bm (b.drop u.toNat)).1).2=0):replayF b=(s,u):=by
 rw [h.eq,playB,if_neg (Classical.not_not.2 a),if_pos c,Int.add_zero]
def jk (h:RJ b s u) (a:(bm (b.drop u.toNat)).2.2=0) (c:(bZ (bm (b.drop u.toNat)).1).2=0) (d:¬ (aN s (bZ (bm (b.drop u.toNat)).1).1).2=0):replayF b=(s,u):=by
 rw [h.eq,playB,if_neg (Classical.not_not.2 a),if_neg (Classical.not_not.2 c),if_pos d,Int.add_zero]
theorem Jx {s t:Stable} (h:fh s r=some t):t.log.length<=s.log.length+1:=by
 unfold fh dP fD dx fM at h;grind
def vD {s:Stable}:(aN s r).1.log.length<=s.log.length+1:=by
 unfold aN;split
 ·simp
 split
 ·rename_i t h; exact Jx h
 simp
theorem ad0 (h:RJ b s u) (a:(bm (b.drop u.toNat)).2.2=0) (c:(bZ (bm (b.drop u.toNat)).1).2=0) (d:(aN s (bZ (bm (b.drop u.toNat)).1).1).2=0):RJ b (aN s (bZ (bm (b.drop u.toNat)).1).1).1 (u+(bm (b.drop u.toNat)).2.1):=by
 have e:=il a;rw [List.length_drop] at e;have f:=vD (s:=s) (r:=(bZ (bm (b.drop u.toNat)).1).1);have g:=h.log;refine ⟨aE,aE,?_⟩;rw [h.eq,playB,if_neg (Classical.not_not.2 a),if_neg (Classical.not_not.2 c),if_neg (Classical.not_not.2 d),af5,show u.toNat+(bm (b.drop u.toNat)).2.1.toNat=(u+(bm (b.drop u.toNat)).2.1).toNat by omega];rw [mK (n:=b.length) (m:=b.length+1) (by rw [List.length_drop]; omega) (by rw [List.length_drop]; omega)];grind
def aea (h:RJ b s u):0<=u:=h.le.1
def ae4 (h:RJ b s u):u<=(b.length:Int):=h.le.2
def afv (h:RJ b s u) (a:b.length<=1000000):s.log.length<=1000000:=by
 have:=h.log; have:=h.le; omega
def ad4 (h:RJ b s u) (a:(bm (b.drop u.toNat)).2.2=0) (c:b.length<=1000000):I64 (u+(bm (b.drop u.toNat)).2.1):=by
 have:=il a; have:=h.le;rw [List.length_drop] at *;exact aD aE aE
theorem aeQ (h:RJ b s u) (a:(bm (b.drop u.toNat)).2.2=0):((b.length:Int) - (u+(bm (b.drop u.toNat)).2.1)).toNat<((b.length:Int) - u).toNat:=by
 have:=il a; have:=h.le;grind
end
variable {l:List Record}
def BB {s:Stable} (h:(stepsF s (l.take k)).2=0) (a:l[k]? = some r):stepsF s (l.take (k+1))=stepsF (stepsF s (l.take k)).1 [r]:=by
 rw [ai a,dN h]
def jm {s:Stable} (h:(stepsF s (l.take k)).2=0) (a:l[k]? = some r) (c:(aN (stepsF s (l.take k)).1 r).2=0):(stepsF s (l.take (k+1))).2=0/\(stepsF s (l.take (k+1))).1=(aN (stepsF s (l.take k)).1 r).1:=by
 rw [BB h a,stepsF,if_pos c,stepsF]; exact ⟨rfl,rfl⟩
theorem ahL {s:Stable} (h:(stepsF s (l.take k)).2=0) (a:l[k]? = some r) (c:¬ (aN (stepsF s (l.take k)).1 r).2=0):(stepsF s l).2=(aN (stepsF s (l.take k)).1 r).2:=by
 have d:=(aaw.1 a);have e:l=l.take k++r :: l.drop (k+1):=by grind [List.getElem_cons_drop,List.take_append_drop]
 rw [show stepsF s l=stepsF s (l.take k++r :: l.drop (k+1)) from congrArg (stepsF s) e,dN h,stepsF,if_neg c]
theorem tc:∀ {l:List Record} {s:Stable},(stepsF s l).1.log.length<=s.log.length+l.length
 | [],s=>Nat.le_refl _
 | r :: l,s=>by
  rw [stepsF];split
  ·have:=tc (l:=l) (s:=(aN s r).1);have:=vD (s:=s) (r:=r);grind
  grind
def aeW (h:(l.take k).all recOk=true) (a:l[k]? = some r) (c:recOk r=true):(l.take (k+1)).all recOk=true:=by
 rw [ai a,List.all_append,h]; simp [c]
theorem aeE (a:l[k]? = some r) (c:recOk r=false):l.all recOk=false:=by grind
def abu (a:l[k]? = some r):encL (l.take k)++eW (dB r)=encL (l.take (k+1)):=by
 rw [ai a,tP]; simp [encL,ko]
def DC {d:Dsk} {x:List UInt8} (h:d.OK):(d.app x).OK:=by
 obtain ⟨a,c,e⟩:=h;unfold Dsk.app;split
 ·exact ⟨a,c,e⟩
 refine ⟨a,?_,?_⟩ <;> dsimp only <;> rw [List.length_append] <;> omega
def IW (b:List UInt8):List (Nat × LI):=[(3,{ σ:=Stable × Int,F:=fun q=>([(0,one (.fz .u8 (b))),(2,one (.ptr 1 0)),(4,one (.ptr 0 0)),(5,one (.int q.2))],[.box 64 (cellsOf (.nm .stable) (q.1)),.box 64 (cellsOf (.nm .stable) (sta0))]),J:=fun q=>RJ b q.1 q.2,μ:=fun q=>(b.length - q.2).toNat })]
def sj:Kn:=aO (ae (kC (cL .u8)) ao) aw fun (b,_) _=>⟨[b.length<=1000000],[.agg (cellsOf (.nm .stable) ((replayF b).1)),.c (.int (((replayF b).2)))],none,false⟩
theorem Eg:CK 41 sj:=ah fun (b,_) _ j=>by
 have h:=cg j;refine av Hy (IW b) Tryz.func41 (?_:(fun (a:Int)=>b.length*1<=140737488355328->∃ (d:Stable × Int),(b=b/\a=d.snd/\a=d.fst.floor/\a=d.fst.term/\a=d.fst.vote/\d.fst.log=[]/\a=sta0.floor/\a=sta0.term/\a=sta0.vote/\sta0.log=[])/\RJ b d.fst d.snd/\∀ (s:Stable × Int),(fun (i:Prop)=>(fun (c:List UInt8 × Int × Int)=>(fun (e:Record × Int)=>(fun (f:Stable × Int)=>RJ b s.fst s.snd->a<=s.snd/\s.snd<=(↑b.length:Int)/\(c.fst.length*1<=140737488355328->I64 c.snd.fst->I64 c.snd.snd->(¬c.snd.snd=a->i)/\(c.snd.snd=a->dU e.fst (I64 e.snd->(¬e.snd=a->i)/\(e.snd=a->s.fst.log.length<=1000000/\cj f.fst (I64 f.snd->(¬f.snd=a->i)/\(f.snd=a->I64 (s.snd+c.snd.fst)/\∃ (g:Stable × Int),(b=b/\s.snd+c.snd.fst=g.snd/\aG f.fst g.fst (dT sta0 sta0))/\RJ b g.fst g.snd/\((↑b.length:Int) - g.snd).toNat<((↑b.length:Int) - s.snd).toNat))))))) (aN s.fst e.fst)) (bZ c.fst)) (bm (List.drop s.snd.toNat b))) (aG s.fst (replayF b).fst (s.snd=(replayF b).snd))) 0);(repeat' (intro))
 all_goals try (first | (first | (refine aD ?_ ?_ <;> omega)) | (with_reducible exact aeD) | (with_reducible exact aea ab) | (with_reducible exact ae4 ab) | (with_reducible exact afv ab h) | (with_reducible exact ad4 ab ab h) | (with_reducible exact aeQ ab ab) | (with_reducible exact ad0 ab ab ab ab) | exact (congrArg (fun q=>q.2) (lC ab ab)) | exact (congrArg (fun q=>q.2) (lC ab ab)).symm | exact (congrArg (fun q=>q.1.floor) (lC ab ab)) | exact (congrArg (fun q=>q.1.floor) (lC ab ab)).symm | exact (congrArg (fun q=>q.1.term) (lC ab ab)) | exact (congrArg (fun q=>q.1.term) (lC ab ab)).symm | exact (congrArg (fun q=>q.1.vote) (lC ab ab)) | exact (congrArg (fun q=>q.1.vote) (lC ab ab)).symm | exact (congrArg (fun q=>q.1.log) (lC ab ab)) | exact (congrArg (fun q=>q.1.log) (lC ab ab)).symm | exact (congrArg (fun q=>q.2) (jC ab ab ab)) | exact (congrArg (fun q=>q.2) (jC ab ab ab)).symm | exact (congrArg (fun q=>q.1.floor) (jC ab ab ab)) | exact (congrArg (fun q=>q.1.floor) (jC ab ab ab)).symm | exact (congrArg (fun q=>q.1.term) (jC ab ab ab)) | exact (congrArg (fun q=>q.1.term) (jC ab ab ab)).symm | exact (congrArg (fun q=>q.1.vote) (jC ab ab ab)) | exact (congrArg (fun q=>q.1.vote) (jC ab ab ab)).symm | exact (congrArg (fun q=>q.1.log) (jC ab ab ab)) | exact (congrArg (fun q=>q.1.log) (jC ab ab ab)).symm | exact (congrArg (fun q=>q.2) (jk ab ab ab ab)) | exact (congrArg (fun q=>q.2) (jk ab ab ab ab)).symm | exact (congrArg (fun q=>q.1.floor) (jk ab ab ab ab)) | exact (congrArg (fun q=>q.1.floor) (jk ab ab ab ab)).symm | exact (congrArg (fun q=>q.1.term) (jk ab ab ab ab)) | exact (congrArg (fun q=>q.1.term) (jk ab ab ab ab)).symm | exact (congrArg (fun q=>q.1.vote) (jk ab ab ab ab)) | exact (congrArg (fun q=>q.1.vote) (jk ab ab ab ab)).symm | exact (congrArg (fun q=>q.1.log) (jk ab ab ab ab)) | exact (congrArg (fun q=>q.1.log) (jk ab ab ab ab)).symm)
 all_goals try (refine ⟨(sta0,0),?_⟩; (repeat' (first | with_reducible apply aV | intro)))
 all_goals try ((with_reducible exact ae4 ab))
 all_goals try (refine ⟨((aN (‹Stable × Int›).1 (bZ (bm (b.drop (‹Stable × Int›).2.toNat)).1).1).1,(‹Stable × Int›).2+(bm (b.drop (‹Stable × Int›).2.toNat)).2.1),?_⟩; (repeat' with_reducible first|apply aV|refine bl ?_|intro))
 all_goals (first | exact bY | (with_reducible exact aeD) | (with_reducible exact aea ab) | (with_reducible exact afv ab h) | (with_reducible exact ad4 ab ab h) | (with_reducible exact aeQ ab ab) | (with_reducible exact ad0 ab ab ab ab) | exact (congrArg (fun q=>q.2) (lC ab ab)).symm | exact (congrArg (fun q=>q.1.floor) (lC ab ab)).symm | exact (congrArg (fun q=>q.1.term) (lC ab ab)).symm | exact (congrArg (fun q=>q.1.vote) (lC ab ab)) | exact (congrArg (fun q=>q.1.vote) (lC ab ab)).symm | exact (congrArg (fun q=>q.1.log) (lC ab ab)) | exact (congrArg (fun q=>q.1.log) (lC ab ab)).symm | exact (congrArg (fun q=>q.2) (jC ab ab ab)) | exact (congrArg (fun q=>q.2) (jC ab ab ab)).symm | exact (congrArg (fun q=>q.1.floor) (jC ab ab ab)) | exact (congrArg (fun q=>q.1.floor) (jC ab ab ab)).symm | exact (congrArg (fun q=>q.1.term) (jC ab ab ab)) | exact (congrArg (fun q=>q.1.term) (jC ab ab ab)).symm | exact (congrArg (fun q=>q.1.vote) (jC ab ab ab)) | exact (congrArg (fun q=>q.1.vote) (jC ab ab ab)).symm | exact (congrArg (fun q=>q.1.log) (jC ab ab ab)) | exact (congrArg (fun q=>q.1.log) (jC ab ab ab)).symm | exact (congrArg (fun q=>q.2) (jk ab ab ab ab)) | exact (congrArg (fun q=>q.2) (jk ab ab ab ab)).symm | exact (congrArg (fun q=>q.1.floor) (jk ab ab ab ab)) | exact (congrArg (fun q=>q.1.floor) (jk ab ab ab ab)).symm | exact (congrArg (fun q=>q.1.term) (jk ab ab ab ab)) | exact (congrArg (fun q=>q.1.term) (jk ab ab ab ab)).symm | exact (congrArg (fun q=>q.1.vote) (jk ab ab ab ab)) | exact (congrArg (fun q=>q.1.vote) (jk ab ab ab ab)).symm | exact (congrArg (fun q=>q.1.log) (jk ab ab ab ab)) | exact (congrArg (fun q=>q.1.log) (jk ab ab ab ab)).symm)
def aes:bP:=(aQ 41 sj acK)
def Hb:aA Tryz.prog (ak tyT) aes:=(ag Eg Hy)
section
variable {d:Dsk} {s:Stable} {l:List Record} {k:Nat} {r:Record}
def UK (a:l[k]? = some r) (h:¬ (aM r).2=0):saveF d s l=(d,s,(aM r).2):=by
 rw [saveF,if_pos (aeE a (ox h).2),(ox h).1]
def aca (h:(aM r).2=0):pD (aM r).1=(eW (dB r),0):=by
 have a:=iv.1 h;have:=jz a;rw [Tt a,pD,if_neg (by dsimp only; omega)]
def Si {p:Prop} (h:(aM r).2=0) (a:¬ (pD (aM r).1).2=0):p:=absurd (by rw [aca h]) a
def Mc (a:l[k]? = some r) (h:(aM r).2=0):encL (l.take k)++(pD (aM r).1).1=encL (l.take (k+1)):=by
 rw [aca h]; exact abu a
def yT (h:l.length<=1000) (c:(l.take k).all recOk=true) (a:(aM r).2=0):((encL (l.take k)).length+(pD (aM r).1).1.length)*1<=140737488355328:=by
 have e:=oa c;have f:=jz (iv.1 a);have g:(l.take k).length<=l.length:=by rw [List.length_take]; omega
 rw [aca a]; dsimp only; rw [mN]; omega
def KP (a:(l.length:Int)<=k) (h:(l.take k).all recOk=true):l.all recOk=true:=by rwa [List.take_of_length_le aE] at h
def Ux (a:(l.length:Int)<=k):encL (l.take k)=encL l:=by rw [List.take_of_length_le aE]
theorem SQ (a:s.log.length<=10000) (c:l.length<=1000):(stepsF s (l.take k)).1.log.length<=1000000:=by
 have:=tc (s:=s) (l:=l.take k);grind
def SZ (c:l.all recOk=true) (h:(stepsF s (l.take k)).2=0) (f:l[k]? = some r) (a:¬ (aN (stepsF s (l.take k)).1 r).2=0):saveF d s l=(d,s,(aN (stepsF s (l.take k)).1 r).2):=by
 have e:=ahL h f a;rw [saveF,if_neg (by rw [c]; decide),if_pos (by rw [e]; exact a),e]
def Sv (a:(l.length:Int)=0):saveF d s l=(d,(stepsF s (l.take k)).1,0):=by
 rw [acu (l:=l) aE,List.take_nil]; rfl
def ZY (c:(l.length:Int)<=k) (a:l.all recOk=true) (h:(stepsF s (l.take k)).2=0) (e:¬ (l.length:Int)=0):saveF d s l=if d.iX (encL l)≠0 then (d,s,d.iX (encL l)) else if (d.app (encL l)).e_≠0 then ((d.app (encL l)).sync,s,(d.app (encL l)).e_) else ((d.app (encL l)).sync,(stepsF s (l.take k)).1,0):=by
 rw [List.take_of_length_le aE] at h ⊢;rw [saveF,if_neg (by rw [a]; decide),if_neg (by rw [h]; decide),if_neg aE]
theorem UB (a:(l.length:Int)<=k) (c:l.all recOk=true) (h:(stepsF s (l.take k)).2=0) (f:¬ (l.length:Int)=0) (g:¬ d.iX (encL l)=0):saveF d s l=(d.app (encL l),s,d.iX (encL l)):=by
 have e:d.app (encL l)=d:=by
  unfold Dsk.app Dsk.iX at *;grind
 rw [ZY a c h f,if_pos g,e]
def TZ (a:(l.length:Int)<=k) (c:l.all recOk=true) (h:(stepsF s (l.take k)).2=0) (e:¬ (l.length:Int)=0) (f:d.iX (encL l)=0) (g:¬ (d.app (encL l)).e_=0):saveF d s l=((d.app (encL l)).sync,s,(d.app (encL l)).e_):=by
 rw [ZY a c h e,if_neg (Classical.not_not.2 f),if_pos g]
def Td (a:(l.length:Int)<=k) (c:l.all recOk=true) (h:(stepsF s (l.take k)).2=0) (e:¬ (l.length:Int)=0) (f:d.iX (encL l)=0) (g:(d.app (encL l)).e_=0):saveF d s l=((d.app (encL l)).sync,(stepsF s (l.take k)).1,0):=by
 rw [ZY a c h e,if_neg (Classical.not_not.2 f),if_neg (Classical.not_not.2 g)]
variable {x:List UInt8}
def app_1 (h:d.OK):0<=(d.app x).synced:=(DC h).1
def GA (h:d.OK):(d.app x).synced<=((d.app x).b.length:Int):=(DC h).2.1
def Ge (h:d.OK):(d.app x).b.length<=65536:=(DC h).2.2
def rB (h:(l.take k).all recOk=true) (a:l[k]? = some r) (c:(aM r).2=0):(l.take (k+1)).all recOk=true:=aeW h a (iv.1 c)
end
def Tj (s:Stable) (l:List Record) (a:Int) (c:Bool) (d:Bool) (e:Int) (f:List UInt8):List (Nat × LI):=[(3,{ σ:=Nat,F:=fun k=>([(0,one (.ptr 0 0)),(2,one (.fz (.nm .record) (l))),(4,one (.ptr 2 0)),(6,one (.ptr 3 0)),(8,one (.own 4)),(20,one (.fz (.nm .record) (l))),(21,one (.int (l).length)),(22,one (.int k))],[.box 147 ([.own 1,.int ((a)),.bool (.atom ((c))),.bool (.atom ((d))),.int ((e))]),.row 5 .u8 ((f)),.box 64 (cellsOf (.nm .stable) (s)),.box 64 (cellsOf (.nm .stable) (sta0)),.row 5 .u8 ((encL (l.take k)))]),J:=fun k=>k<=l.length/\(l.take k).all recOk=true,μ:=fun k=>(l).length - k }),(15,{ σ:=Nat,F:=fun k=>([(0,one (.ptr 0 0)),(2,one (.fz (.nm .record) (l))),(4,one (.ptr 2 0)),(6,one (.ptr 3 0)),(8,one (.own 4)),(14,one (.ptr 5 0)),(52,one (.fz (.nm .record) (l))),(53,one (.int (l).length)),(54,one (.int k))],[.box 147 ([.own 1,.int ((a)),.bool (.atom ((c))),.bool (.atom ((d))),.int ((e))]),.row 5 .u8 ((f)),.box 64 (cellsOf (.nm .stable) (s)),.box 64 (cellsOf (.nm .stable) (sta0)),.row 5 .u8 ((encL l)),.box 64 (cellsOf (.nm .stable) ((stepsF s (l.take k)).1))]),J:=fun k=>k<=l.length/\l.all recOk=true/\(stepsF s (l.take k)).2=0,μ:=fun k=>(l).length - k })]
def CA:Kn:=aO (ae (kC (ba 0 0)) (ae (kT (.nm .stable)) (ae (kC (cL (.nm .record))) ao))) (aC (dC 147 (ax (eI 1) (ax cI (ax cB (ax cB (ax cI dA)))))) (aC (eG 5 .u8) aw)) fun (_,s,l,_) ((_,a,d,e,f,_),g,_)=>⟨[(Dsk.mk g a d e f).OK,s.log.length<=10000,l.length<=1000],[.agg (cellsOf (.nm .stable) ((saveF (Dsk.mk g a d e f) s l).2.1)),.c (.int (((saveF (Dsk.mk g a d e f) s l).2.2)))],some ([.box 147 ([.own 1,.int (((saveF (Dsk.mk g a d e f) s l).1.synced)),.bool (.atom (((saveF (Dsk.mk g a d e f) s l).1.down))),.bool (.atom (((saveF (Dsk.mk g a d e f) s l).1.doomed))),.int (((saveF (Dsk.mk g a d e f) s l).1.keep))]),.row 5 .u8 (((saveF (Dsk.mk g a d e f) s l).1.b))]),false⟩
set_option maxRecDepth 8000 in
theorem LO:CK 87 CA:=ah fun (_,s,l,_) ((_,a,e,f,g,_),c,_) T=>by
 have W:=cg T;have Q:=cg (eP T);have D:=cg (eP (eP T));refine bz Hb (Tj s l a e f g c) Tryz.func87 (?_:(fun (J:Dsk)=>(fun (q:Prop)=>(fun (U:Prop)=>(fun (K:Prop)=>(fun (L:Prop)=>(fun (N:Prop)=>(fun (O:Int)=>(fun (S:Int)=>(fun (A:Nat)=>(fun (p:Int)=>(fun (j:Int)=>(fun (w:Dsk)=>(fun (B:Dsk)=>(fun (V:Dsk × Stable × Int)=>(fun (t:Stable)=>(fun (u:Int)=>(fun (h:Dsk)=>(fun (P:Prop)=>(fun (F:Prop)=>cj s (l.length*48<=140737488355328->∃ (G:Nat),(q/\q/\O=p/\j=(↑G:Int)/\a=a/\e=e/\f=f/\g=g/\c=c/\aG s s (j=sta0.floor/\j=sta0.term/\j=sta0.vote/\sta0.log=[]/\encL (List.take G l)=[]))/\(G<=A/\(List.take G l).all recOk=true)/\∀ (i:Nat),i<=A/\(List.take i l).all recOk=true->((↑i:Int)<p->j<=(↑i:Int)/\(↑i:Int)<O/\∀ (x:Record),(fun (H:Int)=>(fun (v:List UInt8 × Int)=>l[i]? = some x->dU x ((aM x).fst.length*1<=140737488355328->I64 H->(¬H=j->N->L->K->aG s t (H=u/\F))/\(H=j->v.fst.length*1<=140737488355328->I64 v.snd->(¬v.snd=j->N->L->K->aG s t (v.snd=u/\F))/\(v.snd=j->((encL (List.take i l)).length+v.fst.length)*1<=140737488355328/\I64 ((↑i:Int)+1)/\∃ (C:Nat),(q/\q/\p=p/\(↑i:Int)+1=(↑C:Int)/\a=a/\e=e/\f=f/\g=g/\c=c/\aG s s (aG sta0 sta0 (encL (List.take i l)++v.fst=encL (List.take C l))))/\(C <= A/\(List.take C l).all recOk=true)/\A - C < A - i)))) (pD (aM x).fst)) (aM x).snd)/\(p<=(↑i:Int)->N->L->K->∃ (G:Nat),(q/\q/\O=p/\j=(↑G:Int)/\a=a/\e=e/\f=f/\g=g/\c=c/\aG s s (aG sta0 sta0 (encL (List.take i l)=encL l/\dT s (stepsF s (List.take G l)).fst)))/\(G<=A/\U/\(stepsF s (List.take G l)).snd=j)/\∀ (m:Nat),(fun (y:Stable)=>m<=A/\U/\(stepsF s (List.take m l)).snd=j->((↑m:Int)<p->j<=(↑m:Int)/\(↑m:Int)<O/\∀ (x:Record),(fun (I:Int)=>l[m]? = some x->dU x (y.log.length<=1000000/\cj (aN y x).fst (I64 I->(¬I=j->N->L->K->aG s t (I=u/\F))/\(I=j->I64 ((↑m:Int)+1)/\∃ (C:Nat),(q/\q/\p=p/\(↑m:Int)+1=(↑C:Int)/\a=a/\e=e/\f=f/\g=g/\c=c/\aG s s (aG sta0 sta0 (encL l=encL l/\dT (aN y x).fst (stepsF s (List.take C l)).fst)))/\(C <= A/\U/\(stepsF s (List.take C l)).snd=j)/\A - C < A - m)))) (aN y x).snd)/\(p<=(↑m:Int)->(O=j->aG y t (j=u/\F))/\(¬O=j->(j<=a/\a<=(↑c.length:Int)/\c.length<=65536)/\(I64 S->(¬S=j->N->L->K->aG s t (S=u/\w.synced=h.synced/\w.down=h.down/\w.doomed=h.doomed/\w.keep=h.keep/\w.b=h.b))/\(S=j->(j<=w.synced/\w.synced<=(↑w.b.length:Int)/\w.b.length<=65536)/\(I64 w.e_->(¬w.e_=j->N->L->K->aG s t (w.e_=u/\P))/\(w.e_=j->aG y t (j=u/\P)))))))) (stepsF s (List.take m l)).fst))) (a=h.synced/\e=h.down/\f=h.doomed/\g=h.keep/\c=h.b)) (B.synced=h.synced/\B.down=h.down/\B.doomed=h.doomed/\B.keep=h.keep/\B.b=h.b)) V.fst) V.snd.snd) V.snd.fst) (saveF J s l)) w.sync) (J.app (encL l))) 0) (↑A:Int)) l.length) (J.iX (encL l))) (↑l.length:Int)) (I64 s.floor)) (I64 s.term)) (I64 s.vote)) (l.all recOk=true)) (l=l)) (Dsk.mk c a e f g))
 have z:=W;obtain ⟨X,Y,Z⟩:=W;dsimp only at X Y Z;(repeat' (intro))
 all_goals try (first | (first | (refine aD ?_ ?_ <;> omega)) | (with_reducible exact Mc ab ab) | (with_reducible exact rB ab ab ab) | (with_reducible exact yT D ab ab) | (with_reducible exact KP ab ab) | (with_reducible exact Ux ab) | (with_reducible exact SQ Q D) | (with_reducible exact Si ab ab) | (with_reducible exact (jm ab ab ab).1) | (with_reducible exact app_1 z) | (with_reducible exact GA z) | (with_reducible exact Ge z) | (with_reducible exact (congrArg Stable.floor (jm ab ab ab).2).symm) | (with_reducible exact (congrArg Stable.term (jm ab ab ab).2).symm) | (with_reducible exact (congrArg Stable.vote (jm ab ab ab).2).symm) | (with_reducible exact (congrArg Stable.log (jm ab ab ab).2).symm) | (rw [UK (d:=Dsk.mk c a e f g) ab ab] <;> rfl) | (rw [SZ (d:=Dsk.mk c a e f g) ab ab ab ab] <;> rfl) | (rw [UB (d:=Dsk.mk c a e f g) ab ab ab ab ab] <;> rfl) | (rw [TZ (d:=Dsk.mk c a e f g) ab ab ab ab ab ab] <;> rfl) | (rw [Td (d:=Dsk.mk c a e f g) ab ab ab ab ab ab] <;> rfl) | (rw [Sv (d:=Dsk.mk c a e f g) (k:=‹Nat›) ab] <;> rfl) | exact rfl)
 all_goals try (refine ⟨0,?_⟩; (repeat' with_reducible first|apply aV|refine bl ?_|intro))
 all_goals try (first | exact bY | (with_reducible exact Mc ab ab) | (with_reducible exact rB ab ab ab) | (with_reducible exact yT D ab ab) | (with_reducible exact KP ab ab))
 all_goals try (first | (refine ⟨‹Nat› + 1,?_⟩; (repeat' with_reducible first|apply aV|refine bl ?_|intro) <;> (first | exact bY | (with_reducible exact Mc ab ab) | (with_reducible exact rB ab ab ab) | (with_reducible exact yT D ab ab) | (with_reducible exact KP ab ab) | (with_reducible exact Ux ab) | (with_reducible exact SQ Q D) | (with_reducible exact Si ab ab) | (with_reducible exact (jm ab ab ab).1) | (with_reducible exact app_1 z) | (with_reducible exact GA z) | (with_reducible exact Ge z) | (with_reducible exact (congrArg Stable.floor (jm ab ab ab).2).symm) | (with_reducible exact (congrArg Stable.term (jm ab ab ab).2).symm) | (with_reducible exact (congrArg Stable.vote (jm ab ab ab).2).symm) | (with_reducible exact (congrArg Stable.log (jm ab ab ab).2).symm) | (rw [UK (d:=Dsk.mk c a e f g) ab ab] <;> rfl) | (rw [SZ (d:=Dsk.mk c a e f g) ab ab ab ab] <;> rfl) | (rw [UB (d:=Dsk.mk c a e f g) ab ab ab ab ab] <;> rfl) | (rw [TZ (d:=Dsk.mk c a e f g) ab ab ab ab ab ab] <;> rfl) | (rw [Td (d:=Dsk.mk c a e f g) ab ab ab ab ab ab] <;> rfl) | (rw [Sv (d:=Dsk.mk c a e f g) (k:=‹Nat›) ab] <;> rfl) | exact rfl); done) | (refine ⟨0,?_⟩; (repeat' with_reducible first|apply aV|refine bl ?_|intro)))
 all_goals try (first | exact bY | (with_reducible exact Mc ab ab) | (with_reducible exact rB ab ab ab) | (with_reducible exact yT D ab ab) | (with_reducible exact KP ab ab) | (with_reducible exact Ux ab) | (with_reducible exact SQ Q D) | (with_reducible exact Si ab ab) | (with_reducible exact (jm ab ab ab).1) | (with_reducible exact app_1 z) | (with_reducible exact GA z) | (with_reducible exact Ge z) | (with_reducible exact (congrArg Stable.floor (jm ab ab ab).2).symm) | (with_reducible exact (congrArg Stable.term (jm ab ab ab).2).symm) | (with_reducible exact (congrArg Stable.vote (jm ab ab ab).2).symm) | (with_reducible exact (congrArg Stable.log (jm ab ab ab).2).symm) | (rw [UK (d:=Dsk.mk c a e f g) ab ab] <;> rfl) | (rw [SZ (d:=Dsk.mk c a e f g) ab ab ab ab] <;> rfl) | (rw [UB (d:=Dsk.mk c a e f g) ab ab ab ab ab] <;> rfl) | (rw [TZ (d:=Dsk.mk c a e f g) ab ab ab ab ab ab] <;> rfl) | (rw [Td (d:=Dsk.mk c a e f g) ab ab ab ab ab ab] <;> rfl) | (rw [Sv (d:=Dsk.mk c a e f g) (k:=‹Nat›) ab] <;> rfl) | exact rfl)
 all_goals try (refine ⟨‹Nat› + 1,?_⟩; (repeat' with_reducible first|apply aV|refine bl ?_|intro))
 all_goals (first | exact bY | (with_reducible exact Mc ab ab) | (with_reducible exact rB ab ab ab) | (with_reducible exact yT D ab ab) | (with_reducible exact KP ab ab) | (with_reducible exact Ux ab) | (with_reducible exact SQ Q D) | (with_reducible exact Si ab ab) | (with_reducible exact (jm ab ab ab).1) | (with_reducible exact app_1 z) | (with_reducible exact GA z) | (with_reducible exact Ge z) | (with_reducible exact (congrArg Stable.floor (jm ab ab ab).2).symm) | (with_reducible exact (congrArg Stable.term (jm ab ab ab).2).symm) | (with_reducible exact (congrArg Stable.vote (jm ab ab ab).2).symm) | (with_reducible exact (congrArg Stable.log (jm ab ab ab).2).symm) | (rw [UK (d:=Dsk.mk c a e f g) ab ab] <;> rfl) | (rw [SZ (d:=Dsk.mk c a e f g) ab ab ab ab] <;> rfl) | (rw [UB (d:=Dsk.mk c a e f g) ab ab ab ab ab] <;> rfl) | (rw [TZ (d:=Dsk.mk c a e f g) ab ab ab ab ab ab] <;> rfl) | (rw [Td (d:=Dsk.mk c a e f g) ab ab ab ab ab ab] <;> rfl) | (rw [Sv (d:=Dsk.mk c a e f g) (k:=‹Nat›) ab] <;> rfl) | exact rfl)
def afp:bP:=(aQ 87 CA aes)
def lL:aA Tryz.prog (ak tyT) afp:=(ag LO Hb)
variable {l:List Entry}
def adf {x:Entry} (h:l[k]? = some x):l.take k++[x]=l.take (k+1):=(ai h).symm
def ads (h:(l.length:Int)<=k):l.take k=l:=List.take_of_length_le aE
def HN (l:List Entry):List (Nat × LI):=[(3,{ σ:=Nat,F:=fun k=>([(3,one (.own 0)),(6,one (.fz (.nm .entry) (l))),(7,one (.int (l).length)),(8,one (.int k))],[.row 52 (.nm .entry) ((l.take k))]),J:=fun k=>k<=l.length,μ:=fun k=>(l).length - k })]
def zN:Kn:=aO ao aw fun _ _=>⟨[],[.agg (cellsOf (.nm .state) (State.mk 1 1 0 0 [] [] []))],none,false⟩
def Ox:CK 46 zN:=ah fun _ _ _=>by
 refine av lL [] Tryz.func46 (?_:(1:Int)=1/\(1:Int)=1/\(0:Int)=0/\(0:Int)=0 /\ @Eq (List (den (Sh.nm NT.sess))) [] [] /\ @Eq (List (den (Sh.nm NT.opn))) [] [] /\ @Eq (List (den (Sh.nm NT.snap))) [] []);exact ⟨rfl,rfl,rfl,rfl,rfl,rfl,rfl⟩
def wT:Kn:=aO (ae (kC (ba 0 0)) (ae (kC cI) (ae (kC cI) ao))) uo fun (_,kd,a,_) n=>⟨[],[.agg (cellsOf (.nm .letter) (qj n.c kd a))],none,false⟩
def IP:CK 51 wT:=ah fun (_,kd,e,_) n _=>by
 refine av lL [] Tryz.func51 (?_:(fun d=>I64 kd->I64 e->kd=d.kind/\n.c.me=d.frm/\e=d.to/\n.c.st.term=d.term/\0=d.a/\0=d.b/\0=d.c/\n.c.bin=d.bin/\false=d.ok/\d.l=[]) (qj n.c kd e));(repeat' with_reducible first|apply aV|refine bl ?_|intro)
 all_goals first | exact bY | rfl
def sC:Kn:=aO (ae (kC (cL (.nm .entry))) ao) aw fun (l,_) _=>⟨[],[.c (.fz (.nm .entry) ((l)))],none,false⟩
theorem DJ:CK 60 sC:=ah fun (l,_) _ _=>by
 refine av lL (HN l) Tryz.func60 (?_:(fun (a:Nat)=>l.length*32<=140737488355328->∃ (d:Nat),(l=l/\(↑l.length:Int)=(↑a:Int)/\0=(↑d:Int)/\List.take d l=[])/\d<=a/\∀ (s:Nat),s<=a->((↑s:Int)<(↑a:Int)->0<=(↑s:Int)/\(↑s:Int)<(↑l.length:Int)/\∀ (x:Entry),(fun (e:Prop)=>l[s]? = some x->I64 x.term->e->(e->((List.take s l).length+[x].length)*32<=140737488355328)/\(e->I64 ((↑s:Int)+1)/\∃ (c:Nat),(l=l/\(↑a:Int)=(↑a:Int)/\(↑s:Int)+1=(↑c:Int)/\List.take s l++[x]=List.take c l)/\c <= a/\a - c < a - s)) (x.b.length*1<=140737488355328))/\((↑a:Int)<=(↑s:Int)->List.take s l=l)) l.length);iterate 3 ((all_goals (repeat' with_reducible first|apply aV|refine bl ?_|intro)); (all_goals try (first | exact bY | exact rfl | exact (adf ab) | exact (ads ab) | (simp only [List.length_take,List.length_cons,List.length_nil]; omega))); all_goals try first | refine ⟨‹Nat› + 1,?_⟩ | refine ⟨0,?_⟩)
def FY:Kn:=aO (ae (kC (ba 0 0)) (ae (kC cI) ao)) uo fun (_,k,_) n=>⟨[],[],some ((kI ({ n with d:=⟨n.d.b,n.d.synced,n.d.down,true,k⟩ }))),false⟩
def RO:CK 62 FY:=ah fun (_,k,_) n _=>by
 refine bz lL [] Tryz.func62 (?_:I64 k->n.c.me=n.c.me/\n.c.many=n.c.many/\n.c.bin=n.c.bin/\aG n.c.st n.c.st (n.c.role=n.c.role/\n.c.commit=n.c.commit/\n.c.applied=n.c.applied/\bO n.c.s n.c.s (n.d.synced=n.d.synced/\n.d.down=n.d.down/\true=true/\k=k/\n.d.b=n.d.b/\n.rp=n.rp/\n.vs=n.vs/\n.bn=n.bn/\n.nx=n.nx/\n.mt=n.mt)));(repeat' with_reducible first|apply aV|refine bl ?_|intro)
 all_goals first | exact bY | rfl
def zE:Kn:=aO (ae (kC (ba 0 0)) (ae (kC cI) ao)) uo fun (_,k,_) n=>⟨[n.d.OK],[],some ((kI ({ n with d:=n.d.cH k }))),false⟩
def Ns:CK 30 zE:=ah fun (_,k,_) n e=>by
 have f:=cg e;refine bz lL [] Tryz.func30 (?_:(fun a=>I64 k->(0<=n.d.synced/\n.d.synced<=(↑n.d.b.length:Int)/\n.d.b.length<=65536)/\n.c.me=n.c.me/\n.c.many=n.c.many/\n.c.bin=n.c.bin/\aG n.c.st n.c.st (n.c.role=n.c.role/\n.c.commit=n.c.commit/\n.c.applied=n.c.applied/\bO n.c.s n.c.s (a.synced=a.synced/\a.down=a.down/\a.doomed=a.doomed/\a.keep=a.keep/\a.b=a.b/\n.rp=n.rp/\n.vs=n.vs/\n.bn=n.bn/\n.nx=n.nx/\n.mt=n.mt))) (n.d.cH k));obtain ⟨g,h,i⟩:=id f;(repeat' with_reducible first|apply aV|refine bl ?_|intro)
 all_goals first | exact bY | rfl
def Xl:bP:=(aQ 30 zE (aQ 62 FY (aQ 60 sC (aQ 51 wT (aQ 46 zN afp)))))
def ni:aA Tryz.prog (ak tyT) Xl:=(ag Ns (ag RO (ag DJ (ag IP (ag Ox lL)))))
variable {n:NdC}
def aer (h:¬ (k:Int)=n.me):iW n k++[(k:Int)]=iW n (k+1):=by
 simp [iW,List.range_succ,h]
def afc (h:(k:Int)=n.me):iW n k=iW n (k+1):=by
 simp [iW,List.range_succ,h]
def adJ (a:k<=n.many.toNat) (h:n.many<=k):iW n k=cu n:=by
 unfold cu; congr 1; omega
def qR:(iW n k).length<=k:=by
 unfold iW;refine Nat.le_trans (List.length_filter_le _ _) ?_;simp
def Ob (n:Nd):List (Nat × LI):=[(3,{ σ:=Nat,F:=fun k=>([(0,one (.ptr 0 0)),(3,one (.own 8)),(8,one (.int n.c.many)),(9,one (.int k))],(kI (n)++[.row 3 .int ((iW n.c k))])),J:=fun k=>k<=n.c.many.toNat,μ:=fun k=>n.c.many.toNat - k })]
def vn:Kn:=aO (ae (kC (cL .int)) ao) aw fun (l,_) _=>⟨[],[.c (.own 0)],some ([.row 3 .int ((l))]),true⟩
def uS:CK 75 vn:=ah fun (l,_) _ _=>by
 refine cT ni [] Tryz.func75 (?_:(fun a=>a->∀ (b:Bool),(b=true->l=[])->(b=true->l=[])/\(b=false->a/\l=l)) (l.length*8<=140737488355328));exact fun h b c=>⟨c,fun _=>⟨h,rfl⟩⟩
def JQ (l:List Int):Sat Tryz.prog (ak tyT) 75 [.c (.fz .int (l))] [] ⟨[],[.c (.own 0)],some ([.row 3 .int ((l))]),true⟩:=uS _ _ _ rfl aa
def Pt:Kn:=aO (ae (kT (.nm .letter)) ao) aw fun (x,_) _=>⟨[],[.agg (cellsOf (.nm .letter) (x))],none,false⟩
def abI:CK 59 Pt:=ah fun (x,_) _ _=>by
 refine av ni [] Tryz.func59 (?_:aT x (x.l.length*32<=140737488355328->B_ x x));(repeat' with_reducible first|apply aV|refine bl ?_|intro)
 all_goals first | exact bY | rfl
def wq:Kn:=aO (ae (kC (ba 0 0)) ao) uo fun _ n=>⟨[n.c.many<=5],[.c (.fz .int ((cu n.c)))],none,false⟩
theorem Iz:CK 50 wq:=ah fun _ n h=>by
 have i:=cg h;refine av ni (Ob n) Tryz.func50 (?_:(fun (a:Int)=>(fun (e:Nat)=>∃ (g:Nat),(a=a/\0=(↑g:Int)/\Bc n n (iW n.c g=[]))/\g<=e/\∀ (s:Nat),(fun (f:Int)=>s<=e->((↑s:Int)<a->(¬(↑s:Int)=n.c.me->((iW n.c s).length+[(↑s:Int)].length)*8<=140737488355328/\I64 f/\∃ (d:Nat),(a=a/\f=(↑d:Int)/\Bc n n (iW n.c s++[(↑s:Int)]=iW n.c d))/\d <= e/\e - d < e - s)/\((↑s:Int)=n.c.me->I64 f/\∃ (d:Nat),(a=a/\f=(↑d:Int)/\Bc n n (iW n.c s=iW n.c d))/\d <= e/\e - d < e - s))/\(a<=(↑s:Int)->iW n.c s=cu n.c)) ((↑s:Int)+1)) a.toNat) n.c.many);iterate 3 ((all_goals (repeat' with_reducible first|apply aV|refine bl ?_|intro)); (all_goals try (first | exact bY | exact rfl | exact (aer ab) | exact (afc ab) | exact (adJ ab ab) | (have:=qR (n:=n.c) (k:=‹Nat›); simp only [List.length_cons,List.length_nil]; omega))); all_goals try first | refine ⟨‹Nat› + 1,?_⟩ | refine ⟨0,?_⟩)
def WT:bP:=(aQ 50 wq (aQ 59 Pt (aQ 75 vn Xl)))
def Pe:aA Tryz.prog (ak tyT) WT:=(ag Iz (ag abI (ag uS ni)))
end Go.Proofs.YticbaadnibdbkaaGreat
namespace Go.Proofs.YticbaadnibdbkaaGreat
open Go.RowKit Go.Proofs Go.Shelf Go.Sort
def yD (w a:World) (l:List Int) (g:Nat) (b:List Value):Prop:=Kp [] w a/\w.heap.size<=g/\a.heap[g]? = some (.cells (List.toArray (l.map (Value.int .i64)++b)) 3 (0,0))
variable {w:World} {l:List Int}
theorem Dt {G:Gl} {f:List RE} {v:Value} (u:G.shp=ak tyT) (q:Rep G f [] w) (x:Rd (cx G f w) f (.fz .int l) v) (H:l.length≠0) :
  jT Tryz.prog 75 #[v] w fun r s=>∃ g c k,r = .slice (some ⟨g,0,none⟩) l.length c/\yD w s l g k:=by
 have m:f=[]:=acu q.obj.length.symm;subst m;refine ((JQ l).2 G [] w [v] u q (.cons x .nil)).mono fun r s ⟨I,e,y,n,z,t,o,A⟩=>?_;have B:getO [AO.row 3 .int l] 0 = .row 3 .int l:=rfl;cases o with | cons a b=>?_
 cases b;rcases bE n B with ⟨_,j⟩ | ⟨g,c,p,k,j,C,D,J,K,F⟩
 ·grind
 rcases a with ⟨_,_,_,_,d,rfl⟩ | ⟨d,_⟩;case inr=>rw [j] at d; cases d
 rw [j] at d; cases d;obtain ⟨rfl,L⟩:=mU D;refine ⟨g,c,k,e,(A rfl).1,?_,C⟩;rcases Nat.lt_or_ge g w.heap.size with h | h
 ·exact absurd ⟨0,_,j,rfl⟩ (z.old g h (fun ⟨i,r,h,_⟩=>by simp at h)).1
 exact h
variable {sp:List Value} {w1:World}
def DU {g d:Nat} (h:yD w w1 l g sp) (j:l.length<=12) :
  Calls Tryz.prog 265 #[.slice (some ⟨g,0,none⟩) l.length d,.func (.func 266) #[] #[]] w1 fun e f=>e = .returned (.tuple #[])/\yD w f (nz l) g sp:=by
 obtain ⟨c,k,m⟩:=h;refine (Lm j m).mono fun e f ⟨n,a,o⟩=>⟨n,⟨a.os.trans c.os,a.tape.trans c.tape,a.output.trans c.output,Nat.le_trans c.size a.size,fun b i p=>?_⟩,k,o⟩;exact (a.block b (acv i c.size) (by simp; omega)).trans (c.block b i p)
def Ea {g i:Nat} (h:yD w w1 l g sp) (a:i<l.length):w1.cell? ⟨g,i,none⟩=some (.int .i64 (l.getD i 0)):=by
 rw [Lib.cell_of_heap h.2.2,List.getElem?_toArray,List.getElem?_append_left (by simpa using a),List.getElem?_map,List.getElem?_eq_getElem a,List.getD_eq_getElem?_getD,List.getElem?_eq_getElem a]; rfl
def Jh (l:List Int) (s:l.length<=12):Sat Tryz.prog (ak tyT) 228 [.c (.fz .int l)] [] ⟨[l.length<=12],[.c (.int (gB l))],none,false⟩:=by
 refine ⟨⟨_,Tryz.func228,am,by kernel_rfl⟩,fun G n w B t u d=>?_⟩;cases d with | cons j d=>?_
 cases d;have m:=Dt (l:=l) t u j;replace j:Pd (cx G n w) (.fz .int l) _:=j;cases j with | fz C D F v H=>?_
 rename_i a k o;have x:=(mU v).2;by_cases p:l.length=0
 ·clear m;go_enter Tryz.func228,Tryz.ntmps228
  have q:(l.length:Int)=0:=by omega
  go_wp2
  go_ret
  refine ⟨_,rfl,[_],rfl,?_,?_⟩
  ·exact Kp.refl w
  refine .cons ?_ .nil;have e:gB l=0:=if_pos p;show Pd (cx G n w) (.int (gB l)) (.int .i64 0);rw [e]; exact .int ⟨am,am⟩
 replace m:=m p;go_enter Tryz.func228,Tryz.ntmps228
 have q:¬ (l.length:Int)=0:=by omega
 have I:(l.length:Int).tdiv 2=((l.length / 2:Nat):Int):=by rw [Int.tdiv_eq_ediv_of_nonneg aE]; omega
 have J:0<=(l.length:Int).tdiv 2:=by omega
 have K:(l.length:Int).tdiv 2<(l.length:Int):=by omega
 have L:I64 ((l.length:Int).tdiv 2):=aD aE aE;go_wp2_with (first | (go_at_call 75; refine ajv m ?_; rintro e w1 ⟨_,rfl,g,y,sp,rfl,r⟩) | (go_at_call 265; refine ajv (DU r s) ?_; rintro e z ⟨rfl,f⟩; have A:=Ea (i:=l.length / 2) f (by rw [pz]; omega)))
 go_ret
 refine ⟨_,rfl,[_],rfl,f.1,.cons ?_ .nil⟩;have e:gB l=(nz l).getD (l.length / 2) 0:=if_neg p;show Pd (cx G n z) (.int (gB l)) (.int .i64 ((nz l).getD (l.length / 2) 0));rw [e];refine .int (x _ ((List.mergeSort_perm l (fun a b=>decide (b<=a))).mem_iff.1 (show _ ∈ nz l from ?_)));have h:l.length / 2<(nz l).length:=by rw [pz]; omega
 rw [List.getD_eq_getElem?_getD,List.getElem?_eq_getElem h];exact afT h
end Go.Proofs.YticbaadnibdbkaaGreat
namespace Go.Proofs.YticbaadnibdbkaaGreat
open Go.RowKit
def Nu (l:List Int) (a:l.length<=12):Sat Tryz.prog (ak tyT) 228 [.c (.fz .int (l))] [] ⟨[l.length<=12],[.c (.int ((gB l)))],none,false⟩:=Jh l a
def Cm:Kn:=aO (ae (kC (cL .int)) ao) aw fun (l,_) _=>⟨[l.length<=12],[.c (.int ((gB l)))],none,false⟩
def MR:CK 228 Cm:=ah fun (l,_) _ a=>Nu l (cg a)
def Xj:bP:=(aQ 228 Cm WT)
def sJ:aA Tryz.prog (ak tyT) Xj:=(ag MR Pe)
variable {l:List Record} {d:Dsk}
def gq {s:Stable} (h:¬ (saveF d s l).2.2=0):(saveF d s l).2.1=s:=by
 revert h;unfold saveF;repeat' split
 all_goals first | (intro _; rfl) | (intro h; exact absurd rfl h)
def wR:Kn:=aO (ae (kT (.nm .stable)) (ae (kC (cL .int)) (ae (kC cI) ao))) aw fun (s,l,k,_) _=>⟨[l.length<=12],[.c (.int ((mj s l k)))],none,false⟩
def Ib:CK 173 wR:=ah fun (s,l,k,_) _ b=>by
 have c:=cg b;refine av sJ [] Tryz.func173 (?_:(fun a=>cj s (l.length*8<=140737488355328->I64 k->l.length<=12/\(I64 (gB l)->(k<a->I64 (cD s.log a))->(k<a/\cD s.log a=s.term->a=mj s l k)/\(a<=k\/¬cD s.log a=s.term->k=mj s l k)))) (min (gB l) (↑s.log.length:Int)));(repeat' with_reducible first|apply aV|refine bl ?_|intro)
 all_goals (first | exact bY | (rw [mj,if_pos ⟨ab,ab⟩]) | (rw [mj,if_neg aE]))
def Hr:Kn:=aO (ae (kC (ba 0 0)) (ae (kC (cL (.nm .record))) ao)) uo fun (_,l,_) n=>⟨[n.d.OK,n.c.st.log.length<=10000,l.length<=1000],[.c (.int ((n.aJ l)))],some ((kI ((n.save l)))),false⟩
def Un:CK 47 Hr:=ah fun (_,l,_) n e=>by
 have f:=cg e;have g:=cg (eP e);have h:=cg (eP (eP e));refine bz sJ [] Tryz.func47 (?_:(fun a=>l.length*48<=140737488355328->((0<=n.d.synced/\n.d.synced<=(↑n.d.b.length:Int)/\n.d.b.length<=65536)/\n.c.st.log.length<=10000/\l.length<=1000)/\cj a.snd.fst (I64 a.snd.snd->(¬a.snd.snd=0->a.snd.snd=n.aJ l/\bL (Nd.mk n.c a.fst n.rp n.vs n.bn n.nx n.mt) (n.save l))/\(a.snd.snd=0->0=n.aJ l/\bL (Nd.mk (NdC.mk n.c.me n.c.many n.c.bin a.snd.fst n.c.role n.c.commit n.c.applied n.c.s) a.fst n.rp n.vs n.bn n.nx n.mt) (n.save l)))) (saveF n.d n.c.st l));obtain ⟨i,j,k⟩:=id f;(repeat' with_reducible first|apply aV|refine bl ?_|intro)
 all_goals (first | exact bY | exact rfl | exact (Eq.symm ab) | exact (congrArg Stable.floor (gq ab)).symm | exact (congrArg Stable.term (gq ab)).symm | exact (congrArg Stable.vote (gq ab)).symm | exact (congrArg Stable.log (gq ab)).symm)
def XY:bP:=(aQ 47 Hr (aQ 173 wR Xj))
def nq:aA Tryz.prog (ak tyT) XY:=(ag Un (ag Ib sJ))
structure AJ (n q:Nd):Prop where
 eq:n.apply=q.apply
 le:0<=q.c.applied/\q.c.commit<=(q.c.st.log.length:Int)/\(q.rp.length:Int)<=q.c.applied/\q.c.st.log.length<=10000
def Nd.ap1 (q:Nd):Nd:={ q with c:={ q.c with s:=plS q.c.bin q.c.s ((q.c.st.log.drop q.c.applied.toNat).take ((q.c.applied+1).toNat - q.c.applied.toNat)),applied:=q.c.applied+1 },rp:=q.rp++plR q.c.bin q.c.s ((q.c.st.log.drop q.c.applied.toNat).take ((q.c.applied+1).toNat - q.c.applied.toNat)) }
section
variable {n q:Nd}
def ag2 (h:(0<=n.c.applied/\n.c.commit<=(n.c.st.log.length:Int))/\(n.rp.length:Int)<=n.c.applied/\n.c.st.log.length<=10000):AJ n n:=⟨rfl,aE⟩
def RM (h:AJ n q):(q.c.applied+1).toNat - q.c.applied.toNat=1:=by have:=h.le; omega
def NG (h:AJ n q):(plR q.c.bin q.c.s ((q.c.st.log.drop q.c.applied.toNat).take ((q.c.applied+1).toNat - q.c.applied.toNat))).length<=1:=by
 rw [RM h,plR,DE,List.length_take,List.length_take]; omega
theorem ai6 (h:AJ n q) (e:q.c.applied<q.c.commit) (a:pE q.c.bin ((q.c.st.log.drop q.c.applied.toNat).take ((q.c.applied+1).toNat - q.c.applied.toNat))=0):AJ n q.ap1:=by
 have b:=h.le;have f:=NG h;refine ⟨?_,?_,b.2.1,?_,b.2.2.2⟩
 ·rw [h.eq,Nd.apply,show (q.c.commit - q.c.applied).toNat=(q.c.commit - (q.c.applied+1)).toNat+1 by omega,Nd.cf,if_pos e];rw [RM h] at a;rw [if_pos a,Nd.apply,Nd.ap1,RM h]
 ·show 0<=q.c.applied+1;omega
 show (((q.rp++_).length:Nat):Int)<=q.c.applied+1;grind
def agT (a:q.c.applied<q.c.commit):(q.c.commit - (q.c.applied+1)).toNat<(q.c.commit - q.c.applied).toNat:=by omega
def ahe (h:AJ n q) (b:q.c.applied<q.c.commit) (a:¬ pE q.c.bin ((q.c.st.log.drop q.c.applied.toNat).take ((q.c.applied+1).toNat - q.c.applied.toNat))=0):n.apply=q:=by
 rw [RM h] at a;rw [h.eq,Nd.apply,show (q.c.commit - q.c.applied).toNat=(q.c.commit - (q.c.applied+1)).toNat+1 by omega,Nd.cf,if_pos b,if_neg a]
def agt (h:AJ n q) (a:q.c.commit<=q.c.applied):n.apply=q:=by
 rw [h.eq,Nd.apply,show (q.c.commit - q.c.applied).toNat=0 by omega,Nd.cf]
def aio (h:AJ n q):0<=q.c.applied:=h.le.1
def agl (h:AJ n q) (a:q.c.applied<q.c.commit):q.c.applied+1<=(q.c.st.log.length:Int):=by have:=h.le; omega
def aim (h:AJ n q) (a:q.c.applied<q.c.commit):I64 (q.c.applied+1):=by have:=h.le; exact aD aE aE
def aid (h:AJ n q) (a:q.c.applied<q.c.commit):(q.rp.length+(plR q.c.bin q.c.s ((q.c.st.log.drop q.c.applied.toNat).take ((q.c.applied+1).toNat - q.c.applied.toNat))).length)*16<=140737488355328:=by
 have:=h.le; have:=NG h; omega
end
def bA (n:Nd):Site:=if n.d.down=true then ⟨false,0,0,0,0,0,0,0,[],⟨0,0,0,0,[],[],[]⟩⟩ else ⟨true,n.c.role,n.c.bin,n.c.st.floor,n.c.st.term,n.c.st.vote,n.c.commit,n.c.applied,n.c.st.log,n.c.s⟩
variable {n:Nd}
def Nt (h:n.d.down=true):bA n=⟨false,0,0,0,0,0,0,0,[],⟨0,0,0,0,[],[],[]⟩⟩:=if_pos h
def iQ (h:n.d.down=false):bA n=⟨true,n.c.role,n.c.bin,n.c.st.floor,n.c.st.term,n.c.st.vote,n.c.commit,n.c.applied,n.c.st.log,n.c.s⟩:=if_neg (by rw [h]; decide)
theorem lA {s:Stable} {r:Route} (h:¬ (fR s r).2=0):(fR s r).1=cM:=by
 revert h;unfold fR;grind
section
variable {n:Nd} {k t:Int}
end
def VN (n:Nd):List (Nat × LI):=[(0,{ σ:=Nd,F:=fun q=>([(0,one (.ptr 0 0))],(kI (q))),J:=fun q=>AJ n q,μ:=fun q=>(q.c.commit - q.c.applied).toNat })]
def wu:Kn:=aO (ae (kC (ba 0 0)) (ae (kC cI) ao)) uo fun (_,k,_) n=>⟨[0<=k/\k<(n.nx.length:Int)],[.agg (cellsOf (.nm .letter) ((iG n k).1)),.c (.int (((iG n k).2)))],none,false⟩
def Jb:CK 71 wu:=ah fun (_,k,_) n h=>by
 have i:=cg h;refine av nq [] Tryz.func71 (?_:(fun e=>(fun f=>(fun g=>I64 k->(e<=k/\k<(↑n.nx.length:Int))/\(I64 (n.nx.getD k.toNat (au Sh.int))->aT g.fst (I64 g.snd->(¬g.snd=e->e=f.kind/\e=f.frm/\e=f.to/\e=f.term/\e=f.a/\e=f.b/\e=f.c/\e=f.bin/\false=f.ok/\f.l=[]/\g.snd=(iG n k).snd)/\(g.snd=e->aT g.fst (iw g.fst f (e=(iG n k).snd)))))) (fR n.c.st (Route.mk n.c.me k (n.nx.getD k.toNat (au Sh.int)) n.c.commit n.c.bin))) (iG n k).fst) (0:Int));(repeat' with_reducible first|apply aV|refine bl ?_|intro)
 all_goals (first | exact bY | exact rfl | exact (congrArg Letter.kind (lA ap)).symm | exact (congrArg Letter.frm (lA ap)).symm | exact (congrArg Letter.to (lA ap)).symm | exact (congrArg Letter.term (lA ap)).symm | exact (congrArg Letter.a (lA ap)).symm | exact (congrArg Letter.b (lA ap)).symm | exact (congrArg Letter.c (lA ap)).symm | exact (congrArg Letter.bin (lA ap)).symm | exact (congrArg Letter.ok (lA ap)).symm | exact (congrArg Letter.l (lA ap)).symm | exact (Eq.symm ap) | exact (congrArg Letter.l (lA ap)))
def EK:Kn:=aO (ae (kC (ba 0 0)) ao) uo fun _ n=>⟨[],[.agg (cellsOf (.nm .site) (bA n))],none,false⟩
def VR:CK 17 EK:=ah fun _ n _=>by
 refine av nq [] Tryz.func17 (?_:(fun a=>(fun b=>(fun e=>(n.d.down=true->false=b.up/\a=b.role/\a=b.binary/\a=b.floor/\a=b.term/\a=b.vote/\a=b.commit/\a=b.applied/\b.log=[]/\a=e.version/\a=e.next/\a=e.keep/\a=e.quota/\e.sess=[]/\e.opens=[]/\e.snaps=[])/\(n.d.down=false->n.c.st.log.length*32<=140737488355328->I64 n.c.s.version->I64 n.c.s.next->I64 n.c.s.keep->I64 n.c.s.quota->ZG (Site.mk true n.c.role n.c.bin n.c.st.floor n.c.st.term n.c.st.vote n.c.commit n.c.applied n.c.st.log n.c.s) b)) b.state) (bA n)) (0:Int));(repeat' with_reducible first|apply aV|refine bl ?_|intro)
 all_goals (first | exact bY | (rw [Nt (n:=n) ab] <;> rfl) | (rw [iQ (n:=n) ab] <;> rfl))
def yW:Kn:=aO (ae (kC (ba 0 0)) ao) uo fun _ n=>⟨[(0<=n.c.applied/\n.c.commit<=(n.c.st.log.length:Int))/\(n.rp.length:Int)<=n.c.applied/\n.c.st.log.length<=10000],[],some ((kI ((n.apply)))),false⟩
theorem NF:CK 99 yW:=ah fun _ n m=>by
 have j:=cg m;refine bz nq (VN n) Tryz.func99 (?_:(fun o=>∃ k,bL n k/\AJ n k/\∀ (s:Nd),(fun a=>(fun e=>(fun b=>(fun f=>(fun g=>(fun h=>AJ n s->(b<a.commit->I64 f/\(0<=b/\b<=f/\f<=(↑a.st.log.length:Int))/\(I64 h.version->I64 h.next->I64 h.keep->I64 h.quota->I64 (pE e g)->(¬pE e g=0->bL s n.apply)/\(pE e g=0->(s.rp.length+(plR e a.s g).length)*16<=140737488355328/\I64 f/\∃ i,bL (Nd.mk (NdC.mk a.me a.many e a.st a.role a.commit f h) s.d (s.rp++plR e a.s g) s.vs s.bn s.nx s.mt) i /\ AJ n i /\ (i.c.commit - i.c.applied).toNat<(a.commit - b).toNat)))/\(a.commit<=b->bL s n.apply)) (plS e a.s g)) (List.take (f.toNat - b.toNat) (List.drop b.toNat a.st.log))) (b+o)) a.applied) a.bin) s.c) (1:Int));obtain ⟨p,q⟩:=id j;(repeat' with_reducible first|apply aV|refine bl ?_|intro)
 all_goals try ( refine ⟨n,?_⟩; (repeat' with_reducible first|apply aV|refine bl ?_|intro))
 all_goals try ( refine ⟨(‹Nd›).ap1,?_⟩; (repeat' with_reducible first|apply aV|refine bl ?_|intro))
 all_goals (first | exact bY | exact rfl | exact (ag2 (n:=n) j) | exact aio ab | exact (agl ab ab) | exact (aim ab ab) | exact (aid ab ab) | exact (agT ab) | exact (ai6 ab ab ab) | (rw [ahe ab ab ab] <;> rfl) | (rw [agt ab ab] <;> rfl))
def Ww:bP:=(aQ 99 yW (aQ 17 EK (aQ 71 wu XY)))
def nA:aA Tryz.prog (ak tyT) Ww:=(ag NF (ag VR (ag Jb nq)))
section
variable {n:Nd} {l:List Int} {x:Int} {k:Nat}
theorem acj:∀ {l:List Int},(cm n l).2=0->cm n (l++[x])=if (iG n x).2=0 then ((cm n l).1++[(iG n x).1],0) else ([],(iG n x).2)
 | [],_=>by
  by_cases h:(iG n x).2=0
  ·rw [if_pos h]; simp [cm,h]
  rw [if_neg h]; simp [cm,h]
 | t :: l,h=>by
  unfold cm at h;split at h
  ·rename_i a;split at h
   ·rename_i b;rw [List.cons_append,cm,if_pos a,acj b];by_cases c:(iG n x).2=0
    ·rw [if_pos c,if_pos c,if_pos rfl,cm,if_pos a,if_pos b]; rfl
    grind
   grind
  grind
theorem adH:∀ {l m:List Int},¬ (cm n l).2=0->cm n (l++m)=([],(cm n l).2)
 | t :: l,m,h=>by
  unfold cm at h ⊢;rw [List.cons_append];dsimp only;split at h
  ·rename_i a;split at h
   ·grind
   simp_all [adH]
  grind
theorem PI:∀ {l:List Int},(cm n l).1.length<=l.length
 | []=>Nat.le_refl _
 | t :: l=>by
  have:=PI (l:=l);unfold cm;grind
def agP (h:n.d.down=true):aU n=([],30):=if_pos h
def ag9 (h:n.d.down=false) (a:¬ n.c.role=2):aU n=([],33):=by
 rw [aU,if_neg (by rw [h]; decide),if_neg a]
def aeK (h:n.d.down=false) (a:n.c.role=2):aU n=cm n (cu n.c):=by
 rw [aU,if_neg (by rw [h]; decide),if_pos a]
def aiQ (h:n.d.down=false) (f:n.c.role=2) (g:(cm n ((cu n.c).take k)).2=0) (i:(cu n.c)[k]? = some x) (b:¬ (iG n x).2=0):aU n=([],(iG n x).2):=by
 have e:cu n.c=(cu n.c).take k++[x]++(cu n.c).drop (k+1):=by
  rw [<- ai i,List.take_append_drop]
 have a:=acj (x:=x) g;rw [if_neg b] at a;rw [aeK h f,e,adH (by rw [a]; exact b),a]
theorem ahr (h:n.d.down=false) (a:n.c.role=2) (b:(cm n ((cu n.c).take k)).2=0) (e:((cu n.c).length:Int)<=k):aU n=((cm n ((cu n.c).take k)).1,0):=by
 rw [aeK h a,List.take_of_length_le aE] at *;grind
def afg (a:(cm n ((cu n.c).take k)).2=0) (b:(cu n.c)[k]? = some x) (e:(iG n x).2=0):(cm n ((cu n.c).take k)).1++[(iG n x).1]=(cm n ((cu n.c).take (k+1))).1/\(cm n ((cu n.c).take (k+1))).2=0:=by
 rw [ai b,acj a,if_pos e]; exact ⟨rfl,rfl⟩
theorem ahM {y:Letter} (a:n.c.many<=5):((cm n ((cu n.c).take k)).1.length+[y].length)*96<=140737488355328:=by
 have b:=PI (n:=n) (l:=(cu n.c).take k);have e:(cu n.c).length<=n.c.many.toNat:=qR;grind
def Wl {n:NdC} (a:(cu n)[k]? = some x):x≠n.me/\0<=x/\x<n.many:=rh (List.mem_iff_getElem?.2 ⟨k,a⟩)
def agN (h:n.c.role=0\/(n.nx.length:Int)=n.c.many) (b:n.c.role=2) (a:(cu n.c)[k]? = some x):x<(n.nx.length:Int):=by
 have:=Wl a; omega
end
section
variable {n:Nd} {c:Command}
def ml {b:Bool} (h:b=false):¬ b=true:=by rw [h]; decide
def ahn (h:n.d.down=true):cR n c=⟨n,0,0,30⟩:=if_pos h
def agS (h:n.d.down=false) (a:¬ n.c.role=2):cR n c=⟨n,0,0,33⟩:=by rw [cR,if_neg (ml h),if_pos a]
def agO (h:n.d.down=false) (b:n.c.role=2) (a:¬ bK c n.c.s.version=0):cR n c=⟨n,0,0,bK c n.c.s.version⟩:=by rw [cR,if_neg (ml h),if_neg aE,if_pos a]
variable (h:n.d.down=false) (h1:n.c.role=2) (h2:bK c n.c.s.version=0)
include h h1 h2
def aiv (a:c.kind=8) (b:¬ c.n=n.c.s.version+1):cR n c=⟨n,0,0,1⟩:=by rw [cR,if_neg (ml h),if_neg aE,if_neg aE,if_pos ⟨a,b⟩]
def aiN (e:¬ c.kind=8\/c.n=n.c.s.version+1) (a:c.kind=8) (b:kF n.c.s.version n.bn=false):cR n c=⟨n,0,0,34⟩:=by rw [cR,if_neg (ml h),if_neg aE,if_neg aE,if_neg aE,if_pos ⟨a,b⟩]
variable (h3:¬ c.kind=8\/c.n=n.c.s.version+1) (h4:¬ c.kind=8\/kF n.c.s.version n.bn=true)
include h3 h4
theorem SV:cR n c=if 64<(n.c.st.log.length:Int)+1 then ⟨n,0,0,20⟩ else if ¬ (dS c n.c.st.term n.c.s.version).2=0 then ⟨n,0,0,(dS c n.c.st.term n.c.s.version).2⟩
 else let l:=[⟨3,(n.c.st.log.length:Int)+1,(dS c n.c.st.term n.c.s.version).1.term,(dS c n.c.st.term n.c.s.version).1.b⟩]
  if n.aJ l=0 then ⟨n.save l,(n.c.st.log.length:Int)+1,n.c.st.term,0⟩ else ⟨n.save l,0,0,n.aJ l⟩:=by
 rw [cR,if_neg (ml h),if_neg aE,if_neg aE,if_neg aE,if_neg];grind
def aiF (a:64<(n.c.st.log.length:Int)+1):cR n c=⟨n,0,0,20⟩:=by rw [SV h h1 h2 h3 h4,if_pos a]
variable (h5:(n.c.st.log.length:Int)+1<=64)
include h5
def agx (a:¬ (dS c n.c.st.term n.c.s.version).2=0):cR n c=⟨n,0,0,(dS c n.c.st.term n.c.s.version).2⟩:=by rw [SV h h1 h2 h3 h4,if_neg aE,if_pos a]
def agz (e:(dS c n.c.st.term n.c.s.version).2=0) (a:¬ n.aJ [⟨3,(n.c.st.log.length:Int)+1,(dS c n.c.st.term n.c.s.version).1.term,(dS c n.c.st.term n.c.s.version).1.b⟩]=0):cR n c=⟨n.save [⟨3,(n.c.st.log.length:Int)+1,(dS c n.c.st.term n.c.s.version).1.term,(dS c n.c.st.term n.c.s.version).1.b⟩],0,0,n.aJ [⟨3,(n.c.st.log.length:Int)+1,(dS c n.c.st.term n.c.s.version).1.term,(dS c n.c.st.term n.c.s.version).1.b⟩]⟩:=by rw [SV h h1 h2 h3 h4,if_neg aE,if_neg aE]; exact if_neg a
def ajf (e:(dS c n.c.st.term n.c.s.version).2=0) (a:n.aJ [⟨3,(n.c.st.log.length:Int)+1,(dS c n.c.st.term n.c.s.version).1.term,(dS c n.c.st.term n.c.s.version).1.b⟩]=0):cR n c=⟨n.save [⟨3,(n.c.st.log.length:Int)+1,(dS c n.c.st.term n.c.s.version).1.term,(dS c n.c.st.term n.c.s.version).1.b⟩],(n.c.st.log.length:Int)+1,n.c.st.term,0⟩:=by rw [SV h h1 h2 h3 h4,if_neg aE,if_neg aE]; exact if_pos a
end
section
variable {n:Nd} {x:Letter}
def agq (h:¬ (aL n.c.st x).2.2=0):ct n x=⟨n,[],(aL n.c.st x).2.2⟩:=if_pos h
def ai7 (h:(aL n.c.st x).2.2=0) (a:¬ n.aJ (aL n.c.st x).1=0):ct n x=⟨n.save (aL n.c.st x).1,[],n.aJ (aL n.c.st x).1⟩:=by rw [ct,if_neg aE,if_pos a]
def ahg (h:(aL n.c.st x).2.2=0) (a:n.aJ (aL n.c.st x).1=0):ct n x=⟨n.save (aL n.c.st x).1,[{ qj (n.save (aL n.c.st x).1).c 2 x.frm with ok:=(aL n.c.st x).2.1 }],0⟩:=by rw [ct,if_neg aE,if_neg aE]
theorem UM {s:Stable}:(aL s x).1.length<=1000:=by
 have h:=gf (s:=s) (t:=x.term);unfold aL;grind
end
def abd (n:Nd):List (Nat × LI):=[(7,{ σ:=Nat,F:=fun k=>([(0,one (.ptr 0 0)),(4,one (.own 8)),(21,one (.fz .int (cu n.c))),(22,one (.int (cu n.c).length)),(23,one (.int k))],(kI (n)++[.row 40 (.nm .letter) (((cm n ((cu n.c).take k)).1))])),J:=fun k=>k<=(cu n.c).length/\(cm n ((cu n.c).take k)).2=0,μ:=fun k=>(cu n.c).length - k })]
def He:Kn:=aO (ae (kC (ba 0 0)) ao) uo fun _ n=>⟨[n.c.many<=5,n.c.role=0\/(n.nx.length:Int)=n.c.many],[.c (.fz (.nm .letter) (((aU n).1))),.c (.int (((aU n).2)))],none,false⟩
theorem TS:CK 31 He:=ah fun _ n k=>by
 have m:=cg k;have o:=cg (eP k);refine av nA (abd n) Tryz.func31 (?_:(fun (i:Prop)=>(fun (e:Int)=>(fun (a:List Int)=>(fun (b:Nat)=>(n.d.down=true->i/\30=(aU n).snd)/\(n.d.down=false->(¬n.c.role=2->i/\33=(aU n).snd)/\(n.c.role=2->n.c.many<=5/\(a.length*8<=140737488355328->∃ (g:Nat),(a=a/\(↑a.length:Int)=(↑b:Int)/\e=(↑g:Int)/\Bc n n ((cm n (List.take g a)).fst=[]))/\(g<=b/\(cm n (List.take g a)).snd=e)/\∀ (s:Nat),(fun (j:List Letter)=>s<=b/\(cm n (List.take s a)).snd=e->((↑s:Int)<(↑b:Int)->e<=(↑s:Int)/\(↑s:Int)<(↑a.length:Int)/\∀ (x:Int),(fun (h:Int)=>a[s]? = some x->I64 x->(e<=x/\x<(↑n.nx.length:Int))/\aT (iG n x).fst (I64 h->(¬h=e->i/\h=(aU n).snd)/\(h=e->(j.length+[(iG n x).fst].length)*96<=140737488355328/\I64 ((↑s:Int)+1)/\∃ (f:Nat),(a=a/\(↑b:Int)=(↑b:Int)/\(↑s:Int)+1=(↑f:Int)/\Bc n n (j++[(iG n x).fst]=(cm n (List.take f a)).fst))/\(f <= b/\(cm n (List.take f a)).snd=e)/\b - f < b - s))) (iG n x).snd)/\((↑b:Int)<=(↑s:Int)->j=(aU n).fst/\e=(aU n).snd)) (cm n (List.take s a)).fst)))) a.length) (cu n.c)) 0) ((aU n).fst=[]));(repeat' (first | with_reducible apply aV | intro))
 all_goals try (exact rfl)
 all_goals try (refine ⟨0,?_⟩; (repeat' with_reducible first|apply aV|refine bl ?_|intro))
 all_goals try (exact rfl)
 all_goals try (refine ⟨‹Nat› + 1,?_⟩; (repeat' with_reducible first|apply aV|refine bl ?_|intro))
 all_goals (first | (first | with_reducible rfl | omega | (refine aD ?_ ?_ <;> omega)) | exact (afg ab ab ab).1 | exact (afg ab ab ab).2 | exact (ahM m) | exact (Wl ab).2.1 | exact (agN o ab ab) | (rw [agP (n:=n) ab] <;> rfl) | (rw [ag9 (n:=n) ab ab] <;> rfl) | (rw [aiQ (n:=n) ab ab ab ab ab] <;> rfl) | (rw [ahr (n:=n) ab ab ab ab] <;> rfl))
def Gt:Kn:=aO (ae (kC (ba 0 0)) (ae (kT (.nm .command)) ao)) uo fun (_,c,_) n=>⟨[NdOK n],[.c (.int (((cR n c).a))),.c (.int (((cR n c).b))),.c (.int (((cR n c).e)))],some ((kI ((cR n c).n))),false⟩
theorem Tw:CK 15 Gt:=ah fun (_,c,_) n u=>by
 have t:=cg u;refine bz nA [] Tryz.func15 (?_:(fun p=>(fun j=>(fun r=>(fun q=>(fun h=>(fun i=>(fun f=>(fun g=>(fun k=>(fun m=>(fun o=>bF c ((n.d.down=true->m/\k/\30=f.e/\g)/\(n.d.down=false->(¬n.c.role=2->m/\k/\33=f.e/\g)/\(n.c.role=2->I64 (bK c j)->(¬bK c j=h->m/\k/\bK c j=f.e/\g)/\(bK c j=h->(p->I64 r)/\(p/\¬c.n=r->m/\k/\1=f.e/\g)/\(¬p\/c.n=r->(p/\kF j n.bn=false->m/\k/\34=f.e/\g)/\(¬p\/kF j n.bn=true->I64 q/\(64<q->m/\k/\20=f.e/\g)/\(q<=64->I64 i.fst.term->i.fst.b.length*1<=140737488355328->I64 i.snd->(¬i.snd=h->m/\k/\i.snd=f.e/\g)/\(i.snd=h->(h<=n.d.synced/\n.d.synced<=(↑n.d.b.length:Int)/\n.d.b.length<=65536)/\n.c.st.log.length<=10000/\o.length<=1000/\(I64 (n.aJ o)->(¬n.aJ o=h->m/\k/\n.aJ o=f.e/\bL (n.save o) f.n)/\(n.aJ o=h->q=f.a/\n.c.st.term=f.b/\h=f.e/\bL (n.save o) f.n))))))))))) [Record.mk 3 q i.fst.term i.fst.b]) (h=f.a)) (h=f.b)) (bL n f.n)) (cR n c)) (dS c n.c.st.term j)) (0:Int)) ((↑n.c.st.log.length:Int)+1)) (j+1)) n.c.s.version) (c.kind=8));obtain ⟨v,w,x⟩:=id t.d;have y:=t.log;(repeat' with_reducible first|apply aV|refine bl ?_|intro)
 all_goals (first | exact bY | (simp only [List.length_cons,List.length_nil]; omega) | (have i:=(RT (by with_reducible assumption:bK c n.c.s.version=0)).1; exact aD aE aE) | (rw [ahn (n:=n) ab] <;> rfl) | (rw [agS (n:=n) ab ab] <;> rfl) | (rw [agO (n:=n) ab ab ab] <;> rfl) | (rw [aiv (n:=n) ab ab ab ab ab] <;> rfl) | (rw [aiN (n:=n) ab ab ab ab ab ab] <;> rfl) | (rw [aiF (n:=n) ab ab ab ab ab ab] <;> rfl) | (rw [agx (n:=n) ab ab ab ab ab ab ab] <;> rfl) | (rw [agz (n:=n) ab ab ab ab ab ab ab ab] <;> rfl) | (rw [ajf (n:=n) ab ab ab ab ab ab ab ab] <;> rfl))
def zO:Kn:=aO (ae (kC (ba 0 0)) (ae (kT (.nm .letter)) ao)) uo fun (_,x,_) n=>⟨[NdOK n],[.c (.fz (.nm .letter) (((ct n x).l))),.c (.int (((ct n x).e)))],some ((kI ((ct n x).n))),false⟩
def OI:CK 56 zO:=ah fun (_,x,_) n m=>by
 have k:=cg m;refine bz nA [] Tryz.func56 (?_:(fun i=>(fun h=>(fun f=>(fun j=>(fun g=>aT x (f.fst.length*48<=140737488355328->I64 f.snd.snd->(¬f.snd.snd=i->h.l=[]/\f.snd.snd=h.e/\bL n h.n)/\(f.snd.snd=i->(i<=n.d.synced/\n.d.synced<=(↑n.d.b.length:Int)/\n.d.b.length<=65536)/\n.c.st.log.length<=10000/\f.fst.length<=1000/\(I64 j->(¬j=i->h.l=[]/\j=h.e/\bL (n.save f.fst) h.n)/\(j=i->aT g ([Letter.mk g.kind g.frm g.to g.term g.a g.b g.c g.bin f.snd.fst g.l]=h.l/\i=h.e/\bL (n.save f.fst) h.n)))))) (qj (n.save f.fst).c 2 x.frm)) (n.aJ f.fst)) (aL n.c.st x)) (ct n x)) (0:Int));obtain ⟨o,p,q⟩:=id k.d;have r:=k.log;(repeat' (first | with_reducible apply aV | intro))
 all_goals (first | (omega) | exact UM | (rw [agq (n:=n) ab] <;> rfl) | (rw [ai7 (n:=n) ab ab] <;> rfl) | (rw [ahg (n:=n) ab ab] <;> rfl))
def WQ:bP:=(aQ 56 zO (aQ 15 Gt (aQ 31 He Ww)))
def tn:aA Tryz.prog (ak tyT) WQ:=(ag OI (ag Tw (ag TS nA)))
section
variable {n:Nd} {k:Nat} {y:Int}
theorem pB {s:Stable} {m:Int}:(aP s m).1.length<=1000:=by
 unfold aP;grind
def ae8 (h:n.d.down=true):aH n=⟨n,[],30⟩:=if_pos h
variable (h:n.d.down=false)
include h
def ae6 (a:n.c.role=2):aH n=⟨n,[],0⟩:=by rw [aH,if_neg (ml h),if_pos a]
variable (h1:¬ n.c.role=2)
include h1
def afj (a:¬ (aP n.c.st n.c.me).2=0):aH n=⟨n,[],(aP n.c.st n.c.me).2⟩:=by rw [aH,if_neg (ml h),if_neg h1,if_pos a]
variable (h2:(aP n.c.st n.c.me).2=0)
include h2
def afy (a:¬ n.aJ (aP n.c.st n.c.me).1=0):aH n=⟨n.save (aP n.c.st n.c.me).1,[],n.aJ (aP n.c.st n.c.me).1⟩:=by rw [aH,if_neg (ml h),if_neg h1,if_neg aE,if_pos a]
variable (h3:n.aJ (aP n.c.st n.c.me).1=0)
include h3
def ab0:aH n=⟨(n.save (aP n.c.st n.c.me).1).dj,fP (n.save (aP n.c.st n.c.me).1).dj.c,0⟩:=by rw [aH,if_neg (ml h),if_neg h1,if_neg aE,if_neg aE]
def ad9 (a:((cu (n.save (aP n.c.st n.c.me).1).dj.c).length:Int)<=k):(fP (n.save (aP n.c.st n.c.me).1).dj.c).take k=(aH n).l:=by
 rw [ab0 h h1 h2 h3];exact List.take_of_length_le (by unfold fP; rw [List.length_map]; omega)
end
section
variable {c:NdC} {k:Nat} {y:Int} {z:Letter}
theorem aff (a:c.many<=5):(((fP c).take k).length+[z].length)*96<=140737488355328:=by
 have b:(cu c).length<=c.many.toNat:=qR;rw [List.length_take,fP,List.length_map];grind
def acI (a:(k:Int)<((cu c).length:Nat)) (b:c.many<=5):I64 ((k:Int)+1):=by
 have e:(cu c).length<=c.many.toNat:=qR;exact aD aE aE
def afn (e:(cu c)[k]? = some y):(fP c).take k++[Letter.mk (qj c 1 y).kind (qj c 1 y).frm (qj c 1 y).to (qj c 1 y).term c.st.log.length (fT c.st.log) (qj c 1 y).c (qj c 1 y).bin (qj c 1 y).ok (qj c 1 y).l]=(fP c).take (k+1):=by
 have:(fP c)[k]? = some { qj c 1 y with a:=c.st.log.length,b:=fT c.st.log }:=by
  unfold fP; rw [List.getElem?_map,e]; rfl
 rw [ai this]
end
section
variable {n:Nd} {x:Letter}
def aji (h:¬ (az n.c.st x).2.2.2=0):bB n x=⟨n,[],(az n.c.st x).2.2.2⟩:=if_pos h
variable (h:(az n.c.st x).2.2.2=0)
include h
def aia (a:¬ n.aJ (az n.c.st x).1=0):bB n x=⟨n.save (az n.c.st x).1,[],n.aJ (az n.c.st x).1⟩:=by rw [bB,if_neg aE,if_pos a]
variable (h1:n.aJ (az n.c.st x).1=0)
include h1
def ahN (b:x.term=(n.save (az n.c.st x).1).c.st.term) (e:(az n.c.st x).2.1=true):bB n x=⟨({ (n.save (az n.c.st x).1) with c:={ (n.save (az n.c.st x).1).c with role:=0,commit:=max (n.save (az n.c.st x).1).c.commit (min x.c (az n.c.st x).2.2.1) } }:Nd).apply,[{ qj { (n.save (az n.c.st x).1).c with role:=0 } 4 x.frm with ok:=(az n.c.st x).2.1,a:=(az n.c.st x).2.2.1 }],0⟩:=by
 rw [bB,if_neg aE,if_neg aE,e];dsimp only;rw [if_pos b]; rfl
theorem af9 (e:¬ x.term=(n.save (az n.c.st x).1).c.st.term) (b:(az n.c.st x).2.1=true):bB n x=⟨({ (n.save (az n.c.st x).1) with c:={ (n.save (az n.c.st x).1).c with commit:=max (n.save (az n.c.st x).1).c.commit (min x.c (az n.c.st x).2.2.1) } }:Nd).apply,[{ qj (n.save (az n.c.st x).1).c 4 x.frm with ok:=(az n.c.st x).2.1,a:=(az n.c.st x).2.2.1 }],0⟩:=by
 rw [bB,if_neg aE,if_neg aE,b];grind
def agF (b:x.term=(n.save (az n.c.st x).1).c.st.term) (e:(az n.c.st x).2.1=false):bB n x=⟨(n.save (az n.c.st x).1).follow,[{ qj { (n.save (az n.c.st x).1).c with role:=0 } 4 x.frm with ok:=(az n.c.st x).2.1,a:=min 64 ((n.save (az n.c.st x).1).c.st.log.length:Int) }],0⟩:=by
 rw [bB,if_neg aE,if_neg aE,e];dsimp only;rw [if_pos b,if_neg am];split
 ·rfl
 rename_i q; exact absurd b q
theorem aiC (b:¬ x.term=(n.save (az n.c.st x).1).c.st.term) (a:(az n.c.st x).2.1=false):bB n x=⟨n.save (az n.c.st x).1,[{ qj (n.save (az n.c.st x).1).c 4 x.frm with ok:=(az n.c.st x).2.1 }],0⟩:=by
 rw [bB,if_neg aE,if_neg aE,a];dsimp only;split
 ·grind
 rfl
end
variable {x:Letter}
theorem JC {s:Stable}:(az s x).1.length<=1000:=by
 by_cases h:(az s x).2.2.2=0
 ·obtain ⟨⟨b,_⟩,a⟩:=eF h;rcases a with ⟨_,e⟩ | ⟨_,_,e⟩ | ⟨_,_,e⟩ <;> rw [e]
  ·simp
  ·grind [wP]
  grind [gf]
 have e:az s x=([],false,0,1):=by
  unfold az at h ⊢;grind
 rw [e]; simp
def JI (n:Nd):List (Nat × LI):=[(17,{ σ:=Nat,F:=fun k=>([(0,one (.ptr 0 0)),(7,one (.int (n.save (aP n.c.st n.c.me).1).c.st.log.length)),(8,one (.int (fT (n.save (aP n.c.st n.c.me).1).c.st.log))),(9,one (.own 12)),(113,one (.fz .int (cu (n.save (aP n.c.st n.c.me).1).dj.c))),(114,one (.int (cu (n.save (aP n.c.st n.c.me).1).dj.c).length)),(115,one (.int k))],[.box 103 (noF 0 (((n.save (aP n.c.st n.c.me).1).dj.c))++[.own 3,.own 8,.own 9,.own 10,.own 11]),.box 147 ([.own 2,.int (((n.save (aP n.c.st n.c.me).1).dj.d.synced)),.bool (.atom (((n.save (aP n.c.st n.c.me).1).dj.d.down))),.bool (.atom (((n.save (aP n.c.st n.c.me).1).dj.d.doomed))),.int (((n.save (aP n.c.st n.c.me).1).dj.d.keep))]),.row 5 .u8 (((n.save (aP n.c.st n.c.me).1).dj.d.b)),.row 78 (.nm .reply) ((n.rp)),.row 4 .bool ((n.vs)),.row 3 .int ((n.bn)),.row 3 .int ((n.nx)),.row 3 .int ((n.mt)),.row 4 .bool (((n.save (aP n.c.st n.c.me).1).dj.vs)),.row 3 .int (((n.save (aP n.c.st n.c.me).1).dj.bn)),.row 3 .int (((n.save (aP n.c.st n.c.me).1).dj.nx)),.row 3 .int (((n.save (aP n.c.st n.c.me).1).dj.mt)),.row 40 (.nm .letter) (((fP (n.save (aP n.c.st n.c.me).1).dj.c).take k))]),J:=fun k=>k<=(cu (n.save (aP n.c.st n.c.me).1).dj.c).length,μ:=fun k=>(cu (n.save (aP n.c.st n.c.me).1).dj.c).length - k })]
def rG:Kn:=aO (ae (kC (ba 0 0)) ao) uo fun _ n=>⟨[NdOK n],[.c (.fz (.nm .letter) (((aH n).l))),.c (.int (((aH n).e)))],some ((kI ((aH n).n))),false⟩
theorem DF:CK 14 rG:=ah fun _ n I=>by
 have w:=cg I;refine bz tn (JI n) Tryz.func14 (?_:(fun (p:Int)=>(fun (k:NdR)=>(fun (A:Int)=>(fun (v:List Record × Int)=>(fun (C:Int)=>(fun (q:Nd)=>(fun (m:NdC)=>(fun (h:Int)=>(fun (D:List Entry)=>(fun (r:Int)=>(fun (u:Int)=>(fun (o:Int)=>(fun (t:List (den Sh.int))=>(fun (y:List Int)=>(fun (z:Prop)=>(fun (j:Nd)=>(fun (f:Dsk)=>(fun (a:NdC)=>(fun (g:Nat)=>(n.d.down=true->k.l=[]/\(30:Int)=k.e/\bL n k.n)/\(n.d.down=false->(n.c.role=(2:Int)->k.l=[]/\p=k.e/\bL n k.n)/\(¬n.c.role=(2:Int)->n.c.st.term<=(1048576:Int)/\(v.fst.length*(48:Nat)<=(140737488355328:Nat)->I64 v.snd->(¬v.snd=p->k.l=[]/\v.snd=k.e/\bL n k.n)/\(v.snd=p->(p<=n.d.synced/\n.d.synced<=(↑n.d.b.length:Int)/\n.d.b.length<=(65536:Nat))/\n.c.st.log.length<=(10000:Nat)/\v.fst.length<=(1000:Nat)/\(I64 C->(¬C=p->k.l=[]/\C=k.e/\bL q k.n)/\(C=p->(p<=o/\o*(↑(1:Nat):Int)<=(140737488355328:Int)/\o=o)/\z/\z/\z/\p<=h/\h<(↑(List.replicate o.toNat (au Sh.bool)).length:Int)/\p<=h/\h<(↑t.length:Int)/\(I64 (t.getD h.toNat (au Sh.int))->I64 (↑D.length:Int)->I64 r->o<=(5:Int)/\(y.length*(8:Nat)<=(140737488355328:Nat)->∃ (H:Nat),((↑D.length:Int)=u/\r=r/\y=cu a/\(↑y.length:Int)=(↑g:Int)/\p=(↑H:Int)/\h=a.me/\o=a.many/\m.bin=a.bin/\aG m.st a.st (A=a.role/\m.commit=a.commit/\m.applied=a.applied/\bO m.s a.s (q.d.synced=f.synced/\q.d.down=f.down/\q.d.doomed=f.doomed/\q.d.keep=f.keep/\q.d.b=f.b/\q.rp=n.rp/\q.vs=n.vs/\q.bn=n.bn/\q.nx=n.nx/\q.mt=n.mt/\(List.replicate o.toNat (au Sh.bool)).set h.toNat true=j.vs/\t.set h.toNat m.bin=j.bn/\t=j.nx/\t=j.mt/\List.take H (fP a)=[])))/\H<=g/\∀ (s:Nat),s<=g->((↑s:Int)<(↑g:Int)->p<=(↑s:Int)/\(↑s:Int)<(↑(cu a).length:Int)/\∀ (x:Int),(fun (i:Letter)=>(fun (B:Letter)=>(cu a)[s]? = some x->I64 x->aT i (((List.take s (fP a)).length+[B].length)*(96:Nat)<=(140737488355328:Nat)/\I64 ((↑s:Int)+A)/\∃ (F:Nat),(u=u/\r=r/\cu a=cu a/\(↑g:Int)=(↑g:Int)/\(↑s:Int)+A=(↑F:Int)/\a.me=a.me/\a.many=a.many/\a.bin=a.bin/\aG a.st a.st (a.role=a.role/\a.commit=a.commit/\a.applied=a.applied/\bO a.s a.s (f.synced=f.synced/\f.down=f.down/\f.doomed=f.doomed/\f.keep=f.keep/\f.b=f.b/\n.rp=n.rp/\n.vs=n.vs/\n.bn=n.bn/\n.nx=n.nx/\n.mt=n.mt/\j.vs=j.vs/\j.bn=j.bn/\j.nx=j.nx/\j.mt=j.mt/\List.take s (fP a)++[B]=List.take F (fP a))))/\F <= g/\g - F < g - s)) (Letter.mk i.kind i.frm i.to i.term u r i.c i.bin i.ok i.l)) (qj a A x))/\((↑g:Int)<=(↑s:Int)->List.take s (fP a)=k.l/\p=k.e/\bL (Nd.mk a f n.rp j.vs j.bn j.nx j.mt) k.n)))))))))) (cu a).length) j.c) j.d) q.dj) (p<=o/\o*(↑(8:Nat):Int)<=(140737488355328:Int)/\o=o)) (cu (NdC.mk h o m.bin m.st A m.commit m.applied m.s))) (List.replicate o.toNat (au Sh.int))) m.many) (↑D.length:Int)) (fT D)) m.st.log) m.me) q.c) (n.save v.fst)) (n.aJ v.fst)) (aP n.c.st n.c.me)) (1:Int)) (aH n)) (0:Int))
 obtain ⟨J,K,L⟩:=id w.d;have N:=w.log;have G:=w.many;have O:=w.me;have o7:=w.com;have P:=w.term;have Q:=w.rp;(repeat' (first | with_reducible apply aV | intro))
 all_goals try (exact pB)
 all_goals try (refine ⟨0,?_⟩; (repeat' with_reducible first|apply aV|refine bl ?_|intro))
 all_goals try (first | exact bY | exact rfl | exact pB | exact (ad9 ab ab ab ab ab) | exact (afn ab) | exact (aff G.2) | exact (acI (c:=(n.save (aP n.c.st n.c.me).1).dj.c) ab G.2) | (dsimp only [Nd.save]; omega) | (rw [afN]; dsimp only [Nd.save]; omega) | (rw [ae8 (n:=n) ab] <;> rfl) | (rw [ae6 (n:=n) ab ab] <;> rfl) | (rw [afj (n:=n) ab ab ab] <;> rfl) | (rw [afy (n:=n) ab ab ab ab] <;> rfl) | (rw [ab0 (n:=n) ab ab ab ab] <;> rfl))
 all_goals try (refine ⟨‹Nat› + 1,?_⟩; (repeat' with_reducible first|apply aV|refine bl ?_|intro))
 all_goals (first | exact bY | exact rfl | exact pB | exact (ad9 ab ab ab ab ab) | exact (afn ab) | exact (aff G.2) | exact (acI (c:=(n.save (aP n.c.st n.c.me).1).dj.c) ab G.2) | (dsimp only [Nd.save]; omega) | (rw [afN]; dsimp only [Nd.save]; omega) | (rw [ae8 (n:=n) ab] <;> rfl) | (rw [ae6 (n:=n) ab ab] <;> rfl) | (rw [afj (n:=n) ab ab ab] <;> rfl) | (rw [afy (n:=n) ab ab ab ab] <;> rfl) | (rw [ab0 (n:=n) ab ab ab ab] <;> rfl))
def vy:Kn:=aO (ae (kC (ba 0 0)) (ae (kT (.nm .letter)) ao)) uo fun (_,x,_) n=>⟨[NdOK n,cX n.c x=true,x.kind=3],[.c (.fz (.nm .letter) (((bB n x).l))),.c (.int (((bB n x).e)))],some ((kI ((bB n x).n))),false⟩
def JZ:CK 57 vy:=ah fun (_,x,_) n D=>by
 have u:=cg D;have B:=cg (eP D);have C:=cg (eP (eP D));refine bz tn [] Tryz.func57 (?_:(fun r=>(fun F=>(fun j=>(fun p=>(fun v=>(fun q=>(fun o=>(fun H=>(fun G=>(fun i=>(fun h=>(fun t=>(fun m=>(fun w=>(fun k=>(fun y=>(fun z=>(fun A=>(fun f=>(fun g=>aT x (r.length*48<=140737488355328->I64 q.snd.fst->I64 q.snd.snd->(¬q.snd.snd=p->j.l=[]/\q.snd.snd=j.e/\bL n j.n)/\(q.snd.snd=p->(p<=n.d.synced/\n.d.synced<=(↑n.d.b.length:Int)/\n.d.b.length<=65536)/\n.c.st.log.length<=10000/\r.length<=1000/\(I64 (n.aJ r)->(¬n.aJ r=p->j.l=[]/\n.aJ r=j.e/\bL i j.n)/\(n.aJ r=p->(k->aT g ((o=true->y/\[Letter.mk g.kind g.frm g.to g.term q.snd.fst g.b g.c g.bin o g.l]=j.l/\v/\bL (Nd.mk (NdC.mk h.me h.many h.bin h.st p t m h.s) i.d i.rp i.vs i.bn i.nx i.mt).apply j.n)/\(o=false->(k->[Letter.mk g.kind g.frm g.to g.term w g.b g.c g.bin o g.l]=j.l/\A)/\(¬k->[Letter.mk g.kind g.frm g.to g.term g.a g.b g.c g.bin o g.l]=j.l/\A))))/\(¬k->aT f ((o=true->y/\[Letter.mk f.kind f.frm f.to f.term q.snd.fst f.b f.c f.bin o f.l]=j.l/\v/\bL (Nd.mk (NdC.mk h.me h.many h.bin h.st h.role t m h.s) i.d i.rp i.vs i.bn i.nx i.mt).apply j.n)/\(o=false->(k->[Letter.mk f.kind f.frm f.to f.term w f.b f.c f.bin o f.l]=j.l/\v/\bL i j.n)/\(¬k->[Letter.mk f.kind f.frm f.to f.term f.a f.b f.c f.bin o f.l]=j.l/\v/\bL i j.n))))))))) (qj z G F)) (qj h G F)) (v/\bL (Nd.mk z i.d i.rp i.vs i.bn i.nx i.mt) j.n)) (NdC.mk h.me h.many h.bin h.st p h.commit m h.s)) ((p<=m/\t<=(↑h.st.log.length:Int))/\(↑i.rp.length:Int)<=m/\h.st.log.length<=10000)) (x.term=h.st.term)) (min 64 (↑h.st.log.length:Int))) h.applied) (max h.commit H)) i.c) (n.save r)) (4:Int)) (min x.c q.snd.fst)) q.fst) (az n.c.st x).snd) (p=j.e)) (0:Int)) (bB n x)) x.frm) (az n.c.st x).fst);obtain ⟨I,J,K⟩:=id u.d;have L:=u.log;(repeat' (first | with_reducible apply aV | intro))
 all_goals (first | exact bY | exact JC | exact (FR u B C ab ab).1.1 | exact (FR u B C ab ab).1.2 | exact (FR u B C ab ab).2.1 | exact (FR u B C ab ab).2.2 | (rw [aji (n:=n) ab] <;> rfl) | (rw [aia (n:=n) ab ab] <;> rfl) | (rw [ahN (n:=n) ab ab ab ab] <;> rfl) | (rw [af9 (n:=n) ab ab ab ab] <;> rfl) | (rw [agF (n:=n) ab ab ab ab] <;> rfl) | (rw [aiC (n:=n) ab ab ab ab] <;> rfl))
def W_:bP:=(aQ 57 vy (aQ 14 rG WQ))
def sK:aA Tryz.prog (ak tyT) W_:=(ag JZ (ag DF tn))
theorem Sat.ag_ {P:Program} {shp:TypeId->Option Sh} {f:Nat} {args p:List TV1} {y H:AH} {pre:List Prop} (O:gL y [0,1,2] [0,1,2]=true) (Q:pC (posOf · [0,1,2]) (kO y [0,1,2])=H) (A:∀ (c S:Cx) (B a:List RE) q,All2 (di c B) p q->All2 (di S a) p q) (h:Sat P shp f args (kI n) ⟨pre,p,some y,false⟩):Sat P shp f args (kI n) ⟨pre,p,some H,false⟩:=by
 refine ⟨h.1,fun G B w T U C V=>(h.2 G B w T U C V).mono ?_⟩;rintro v w' ⟨q,W,a,D,m,X,Y,k5⟩;obtain ⟨I,m2⟩:=D.sub (σ:=[0,1,2]) (Z':=G.Z) rfl O D.z (fun _ h _=>h) (fun b u=>by
  obtain ⟨i,r,k,J⟩:=gr u;exact (D.bnd i r b k J).2.2)
 rw [Q] at I;refine ⟨q,W,dp a [0,1,2],I,⟨m.os,m.tape,m.output,m.size,fun b K u=>⟨fun h=>(m.old b K u).1 (gr h),(m.old b K u).2⟩⟩,fun i g h=>?_,A _ _ _ _ _ Y,fun h=>by cases h⟩;have o:∀ (j:Nat) (t:TypeId) (s:Sh) (L:List (den s)),(kI n)[j]? = some (.row t s L)->i≠j:=fun j t s L d e=>by
  subst e;obtain ⟨r,N,k⟩:=C.at_ d;rw [h] at N; cases N;obtain ⟨_,_,k | ⟨_,_,_,_,k,_⟩⟩:=k
  ·grind
  cases k
 have l:i<8:=by
  have k:=(aaw.1 h).1;have J:(kI n).length=8:=rfl;have x:=C.obj.length;omega
 have x:=o 3 _ _ _ rfl;have h4:=o 4 _ _ _ rfl;have h5:=o 5 _ _ _ rfl;have h6:=o 6 _ _ _ rfl;have h7:=o 7 _ _ _ rfl;have F:=X i g h;have:i=0\/i=1\/i=2:=by omega
 rcases this with rfl | rfl | rfl
 ·exact (oi (j:=0) (i:=0) rfl).trans (congrArg some (getD_some F))
 ·exact (oi (j:=1) (i:=1) rfl).trans (congrArg some (getD_some F))
 exact (oi (j:=2) (i:=2) rfl).trans (congrArg some (getD_some F))
def Zy {e:Int} (c b:Cx) (g a:List RE) (f:List Value) (h:All2 (di c g) [.c (.int e)] f):All2 (di b a) [.c (.int e)] f:=by
 cases h with | cons i j=>?_
 cases j;cases i with | int k=>exact .cons (show Pd b (.int e) _ from .int k) .nil
def im (me a:Int):Nd:=⟨⟨me,a,0,sta0,0,0,0,⟨0,0,0,0,[],[],[]⟩⟩,⟨[],0,true,false,0⟩,[],[],[],[],[]⟩
def Rx:(Dsk.mk [] 0 false false 0).cH 0=⟨[],0,true,false,0⟩:=by decide
def EO:Kn:=aO (ae (kC cI) (ae (kC cI) ao)) aw fun (me,a,_) _=>⟨[3<=a/\a<=5/\0<=me/\me<a],[.c (.ptr 0 0),.c (.int ((0)))],some ([.box 103 (noF 0 (((im me a).c))++[.em true,.em true,.em true,.em true,.em true]),.box 147 ([.own 2,.int (((im me a).d.synced)),.bool (.atom (((im me a).d.down))),.bool (.atom (((im me a).d.doomed))),.int (((im me a).d.keep))]),.row 5 .u8 (((im me a).d.b))]),true⟩
def HD:CK 12 EO:=ah fun (me,a,_) _ i=>by
 have j:=cg i;refine cT sK [] Tryz.func12 (?_:(fun (e:Int)=>(fun (h:Dsk)=>(fun (g:Nd)=>(fun (f:NdC)=>I64 me->I64 a->(((a<(3:Int)\/(5:Int)<a)\/me<e)\/a<=me->False/\(1:Int)=e/\False/\False/\g.d.b=[])/\((((3:Int)<=a/\a<=(5:Int))/\e<=me)/\me<a->(e<=e/\e<=(↑(0:Nat):Int)/\(0:Nat)<=(65536:Nat))/\e=e/\me=f.me/\a=f.many/\e=f.bin/\e=f.st.floor/\e=f.st.term/\e=f.st.vote/\f.st.log=[]/\e=f.role/\e=f.commit/\e=f.applied/\e=f.s.version/\e=f.s.next/\e=f.s.keep/\e=f.s.quota/\f.s.sess=[]/\f.s.opens=[]/\f.s.snaps=[]/\h.synced=g.d.synced/\h.down=g.d.down/\h.doomed=g.d.doomed/\h.keep=g.d.keep/\h.b=g.d.b)) g.c) (im me a)) ((Dsk.mk [] e false false e).cH e)) (0:Int));(repeat' with_reducible first|apply aV|refine bl ?_|intro)
 all_goals (first | exact bY | exact rfl | (rw [Rx] <;> rfl) | (exfalso; omega))
def SO (me:Int) (a:Int) (f:3<=a/\a<=5/\0<=me/\me<a):Sat Tryz.prog (ak tyT) 12 [.c (.int (me)),.c (.int (a))] [] ⟨[3<=a/\a<=5/\0<=me/\me<a],[.c (.ptr 0 0),.c (.int ((0)))],some ([.box 103 (noF 0 (((im me a).c))++[.em true,.em true,.em true,.em true,.em true]),.box 147 ([.own 2,.int (((im me a).d.synced)),.bool (.atom (((im me a).d.down))),.bool (.atom (((im me a).d.doomed))),.int (((im me a).d.keep))]),.row 5 .u8 (((im me a).d.b))]),true⟩:=HD _ _ _ rfl (by intro p e; simp only [acw,af8,or_false] at e; subst e; exact f)
def ZD (me:Int) (a:Int) (b:3<=a/\a<=5/\0<=me/\me<a):Sat Tryz.prog (ak tyT) 12 [.c (.int (me)),.c (.int (a))] [] ⟨[3<=a/\a<=5/\0<=me/\me<a],[.c (.ptr 0 0),.c (.int ((0)))],some ((kI ((im me a)))),true⟩:=Sat.OU 0 22 3 .int bN rfl rfl (Sat.OU 0 21 3 .int bN rfl rfl (Sat.OU 0 20 3 .int bN rfl rfl (Sat.OU 0 19 4 .bool bN rfl rfl (Sat.OU 0 18 78 (.nm .reply) bN rfl rfl (SO me a b) rfl) rfl) rfl) rfl) rfl
def Ks:Kn:=aO (ae (kC cI) (ae (kC cI) ao)) aw fun (me,a,_) _=>⟨[3<=a/\a<=5/\0<=me/\me<a],[.c (.ptr 0 0),.c (.int ((0)))],some ((kI ((im me a)))),true⟩
def abQ:CK 12 Ks:=ah fun (me,a,_) _ b=>ZD me a (cg b)
def zp:Kn:=aO (ae (kC (ba 0 0)) (ae (kC (cL (.nm .record))) ao)) (aC (dC 103 (lNd 0 (ax (Zq true) (ax (Zq true) (ax (Zq true) (ax (Zq true) (ax (Zq true) dA))))))) (aC (dC 147 (ax (eI 2) (ax cI (ax cB (ax cB (ax cI dA)))))) (aC (eG 5 .u8) aw))) fun (_,l,_) ((a,_,_,_,_,_,_),(_,e,f,g,h,_),i,_)=>⟨[(Dsk.mk i e f g h).OK,a.st.log.length<=10000,l.length<=1000],[.c (.int (((Nd.mk a ⟨i,e,f,g,h⟩ [] [] [] [] []).aJ l)))],some ([.box 103 (noF 0 ((((Nd.mk a ⟨i,e,f,g,h⟩ [] [] [] [] []).save l).c))++[.em true,.em true,.em true,.em true,.em true]),.box 147 ([.own 2,.int ((((Nd.mk a ⟨i,e,f,g,h⟩ [] [] [] [] []).save l).d.synced)),.bool (.atom ((((Nd.mk a ⟨i,e,f,g,h⟩ [] [] [] [] []).save l).d.down))),.bool (.atom ((((Nd.mk a ⟨i,e,f,g,h⟩ [] [] [] [] []).save l).d.doomed))),.int ((((Nd.mk a ⟨i,e,f,g,h⟩ [] [] [] [] []).save l).d.keep))]),.row 5 .u8 ((((Nd.mk a ⟨i,e,f,g,h⟩ [] [] [] [] []).save l).d.b))]),false⟩
def PN:CK 47 zp:=ah fun (_,l,_) ((e,_,_,_,_,_,_),(_,h,m,o,p,_),i,_) j=>by
 have r:=cg j;have t:=cg (eP j);have u:=cg (eP (eP j));refine bz sK [] Tryz.func47 (?_:(fun k=>(fun f=>(fun g=>(fun a=>(fun q=>l.length*48<=140737488355328->((0<=h/\h<=(↑i.length:Int)/\i.length<=65536)/\e.st.log.length<=10000/\l.length<=1000)/\cj f.snd.fst (I64 f.snd.snd->(¬f.snd.snd=0->f.snd.snd=k.aJ l/\e.me=a.c.me/\e.many=a.c.many/\e.bin=a.c.bin/\aG e.st a.c.st q)/\(f.snd.snd=0->0=k.aJ l/\e.me=a.c.me/\e.many=a.c.many/\e.bin=a.c.bin/\aG f.snd.fst a.c.st q))) (e.role=a.c.role/\e.commit=a.c.commit/\e.applied=a.c.applied/\bO e.s a.c.s (g.synced=a.d.synced/\g.down=a.d.down/\g.doomed=a.d.doomed/\g.keep=a.d.keep/\g.b=a.d.b))) (k.save l)) f.fst) (saveF (Dsk.mk i h m o p) e.st l)) (Nd.mk e (Dsk.mk i h m o p) [] [] [] [] []));obtain ⟨v,w,y⟩:=id r;(repeat' with_reducible first|apply aV|refine bl ?_|intro)
 all_goals (first | exact bY | exact rfl | exact (Eq.symm ab) | exact (congrArg Stable.floor (gq ab)).symm | exact (congrArg Stable.term (gq ab)).symm | exact (congrArg Stable.vote (gq ab)).symm | exact (congrArg Stable.log (gq ab)).symm)
def Wu:bP:=(aQ 47 zp (aQ 12 Ks (aQ 12 EO W_)))
def tq:aA Tryz.prog (ak tyT) Wu:=(ag PN (ag abQ (ag HD sK)))
variable {m:Nd}
theorem agb (a:m.rp=[]) (b:m.vs=[]) (e:m.bn=[]) (f:m.nx=[]) (g:m.mt=[]):kI m=kI ⟨m.c,m.d,[],[],[],[],[]⟩:=by
 cases m;grind
def agA {p:Prop} {x:Bool} (h:x=true) (a:x=false):p:=by rw [h] at a; cases a
variable {b:List UInt8}
def ae9:(replayF b).1.log.length<=10000:=by have:=mX b; omega
def aei {r:Record}:[r].length<=1000:=by simp
section
variable {n:Nd} {b:Int}
def ZM (a:NdOK n) (h:n.d.down=true):((if n.d.down=true then n.d.up else n.d).cut (replayF n.d.b).2).OK:=(xM h a.d).1
def abl (a:NdOK n):(if n.d.down=true then n.d.up else n.d).OK:=by
 split
 ·exact Xc a.d
 exact a.d
def adN {p:Prop} (a:NdOK n) (h:n.d.down=true) (c:¬ (if n.d.down=true then n.d.up else n.d).kH (replayF n.d.b).2=0):p:=absurd (xM h a.d).2.1 c
def ac9 {p:Prop} (h:n.d.down=true) (a:¬ (if n.d.down=true then (0:Int) else 31)=0):p:=absurd (if_pos h) a
def Yq (a:NdOK n) (h:n.d.down=true):((n.fr b).save [⟨1,b,0,[]⟩]).d.OK:=qI (xM h a.d).1
theorem afb {p:Prop} (h:n.d.down=false\/¬ b_ b (max (replayF n.d.b).1.floor 1)=0) (a:n.d.down=true) (c:b_ b (max (replayF n.d.b).1.floor 1)=0):p:=by grind
end
def uY:Kn:=aO (ae (kC (ba 0 0)) (ae (kC cI) ao)) uo fun (_,b,_) n=>⟨[NdOK n,n.d.down=true,b_ b (max (replayF n.d.b).1.floor 1)=0],[.c (.int (((aZ n b).e)))],some ([.box 103 (noF 0 (((aZ n b).n.c))++[.em true,.em true,.em true,.em true,.em true]),.box 147 ([.own 2,.int (((aZ n b).n.d.synced)),.bool (.atom (((aZ n b).n.d.down))),.bool (.atom (((aZ n b).n.d.doomed))),.int (((aZ n b).n.d.keep))]),.row 5 .u8 (((aZ n b).n.d.b)),.row 78 (.nm .reply) ((n.rp)),.row 4 .bool ((n.vs)),.row 3 .int ((n.bn)),.row 3 .int ((n.nx)),.row 3 .int ((n.mt))]),false⟩
def wH:CK 13 uY:=ah fun (_,b,_) n T=>by
 have p:=cg T;have q:=cg (eP T);have S:=cg (eP (eP T));refine bz tq [] Tryz.func13 (?_:(fun (r:Bool)=>(fun (j:NdC)=>(fun (G:Int)=>(fun (D:Int)=>(fun (h:Int)=>(fun (y:Int)=>(fun (H:List (den (Sh.nm NT.record)))=>(fun (F:Stable × Int)=>(fun (z:Int)=>(fun (o:Int)=>(fun (V:NdC)=>(fun (N:Prop)=>(fun (U:Nd)=>(fun (f:Dsk)=>(fun (t:Bool)=>(fun (u:Int)=>(fun (a:NdC)=>(fun (I:Prop)=>(fun (J:Prop)=>(fun (K:Prop)=>(fun (A:Prop)=>(fun (L:Prop)=>(fun (B:Prop)=>(fun (O:Prop)=>(fun (k:Dsk)=>(fun (i:Dsk)=>(fun (P:Nd)=>(fun (C:Int)=>(fun (Q:Prop)=>(fun (v:Nd)=>(fun (g:NdC)=>(fun (w:Dsk)=>I64 b->(r=false->(31:Int)=G/\O)/\(r=true->(h<=n.d.synced/\n.d.synced<=(↑n.d.b.length:Int)/\n.d.b.length<=(65536:Nat))/\n.d.b.length<=(1000000:Nat)/\cj F.fst (I64 o->I64 z->(¬z=h->z=G/\O)/\(z=h->I64 y->(¬y=h->y=G/\A/\B/\I/\aG j.st a.st (J/\K/\L/\bO j.s a.s (False/\False/\False/\False/\False/\k.synced=u/\k.down=f.down/\k.doomed=t/\k.keep=f.keep/\k.b=f.b/\N)))/\(y=h->(h<=k.synced/\k.synced<=(↑k.b.length:Int)/\k.b.length<=(65536:Nat))/\(I64 (k.kH o)->(¬k.kH o=h->k.kH o=G/\A/\B/\I/\aG j.st a.st (J/\K/\L/\bO j.s a.s (False/\False/\False/\False/\False/\Q)))/\(k.kH o=h->I64 D->I64 D->I64 h->I64 h->(0:Nat)*(32:Nat)<=(140737488355328:Nat)->(0:Nat)*(16:Nat)<=(140737488355328:Nat)->(0:Nat)*(64:Nat)<=(140737488355328:Nat)->(F.fst.floor<b->(h<=i.synced/\i.synced<=(↑i.b.length:Int)/\i.b.length<=(65536:Nat))/\F.fst.log.length<=(10000:Nat)/\H.length<=(1000:Nat)/\(I64 C->(¬C=h->(h<=v.d.synced/\v.d.synced<=(↑v.d.b.length:Int)/\v.d.b.length<=(65536:Nat))/\C=G/\g.me=a.me/\g.many=a.many/\g.bin=a.bin/\aG g.st a.st (g.role=a.role/\g.commit=a.commit/\g.applied=a.applied/\bO g.s a.s (w.synced=u/\w.down=f.down/\w.doomed=t/\w.keep=f.keep/\w.b=f.b/\N)))/\(C=h->h=G/\g.me=a.me/\g.many=a.many/\g.bin=a.bin/\aG g.st a.st (g.role=a.role/\g.commit=a.commit/\g.applied=a.applied/\bO g.s a.s (v.d.synced=u/\v.d.down=f.down/\v.d.doomed=t/\v.d.keep=f.keep/\v.d.b=f.b/\N)))))/\(b<=F.fst.floor->h=G/\A/\B/\b=a.bin/\aG F.fst a.st (h=a.role/\h=a.commit/\h=a.applied/\bO (State.mk D D h h [] [] []) a.s Q))))))))) (v.d.cH h)) v.c) (P.save H)) (i.synced=u/\i.down=f.down/\i.doomed=t/\i.keep=f.keep/\i.b=f.b/\N)) (P.aJ H)) (Nd.mk V i [] [] [] [] [])) (k.cut o)) (if r=true then n.d.up else n.d)) (A/\B/\I/\aG j.st a.st (J/\K/\L/\bO j.s a.s (False/\False/\False/\False/\False/\n.d.synced=u/\r=f.down/\n.d.doomed=t/\n.d.keep=f.keep/\n.d.b=f.b/\N)))) (j.many=a.many)) (j.applied=a.applied)) (j.me=a.me)) (j.commit=a.commit)) (j.role=a.role)) (j.bin=a.bin)) U.c) f.synced) f.doomed) U.d) (aZ n b).n) (n.rp=n.rp/\n.vs=n.vs/\n.bn=n.bn/\n.nx=n.nx/\n.mt=n.mt)) (NdC.mk j.me j.many b F.fst h h h (State.mk D D h h [] [] []))) F.snd) (b_ b (max F.fst.floor D))) (replayF n.d.b)) [Record.mk D b h []]) (if r=true then h else (31:Int))) (0:Int)) (1:Int)) (aZ n b).e) n.c) n.d.down)
 obtain ⟨W,X,Y⟩:=id p.d;have Z:=p.log;(repeat' with_reducible first|apply aV|refine bl ?_|intro)
 all_goals (first | exact bY | exact (agA q ab) | exact (absurd S ab) | exact (adN p q ab) | exact (ac9 q ab) | exact ae9 | exact aei | exact (ZM p q).1 | exact (ZM p q).2.1 | exact (ZM p q).2.2 | exact (abl p).1 | exact (abl p).2.1 | exact (abl p).2.2 | exact (Yq p q).1 | exact (Yq p q).2.1 | exact (Yq p q).2.2 | (rw [RR (n:=n) (b:=b) q S ab ab] <;> rfl) | (rw [Sm (n:=n) (b:=b) q S ab ab] <;> rfl) | (rw [Wd (n:=n) (b:=b) q S ab] <;> rfl))
theorem JX (b:Int) (n:Nd) (f:NdOK n) (g:n.d.down=true) (h:b_ b (max (replayF n.d.b).1.floor 1)=0):Sat Tryz.prog (ak tyT) 13 [.c (.ptr 0 0),.c (.int (b))] (kI n) ⟨[NdOK n,n.d.down=true,b_ b (max (replayF n.d.b).1.floor 1)=0],[.c (.int (((aZ n b).e)))],some ([.box 103 (noF 0 (((aZ n b).n.c))++[.em true,.em true,.em true,.em true,.em true]),.box 147 ([.own 2,.int (((aZ n b).n.d.synced)),.bool (.atom (((aZ n b).n.d.down))),.bool (.atom (((aZ n b).n.d.doomed))),.int (((aZ n b).n.d.keep))]),.row 5 .u8 (((aZ n b).n.d.b)),.row 78 (.nm .reply) ((n.rp)),.row 4 .bool ((n.vs)),.row 3 .int ((n.bn)),.row 3 .int ((n.nx)),.row 3 .int ((n.mt))]),false⟩:=wH _ _ _ rfl (by intro p a; simp only [acw,af8,or_false] at a; rcases a with rfl | rfl | rfl <;> assumption)
def vr:Kn:=aO (ae (kC (ba 0 0)) (ae (kC cI) ao)) uo fun (_,b,_) n=>⟨[NdOK n,n.d.down=false\/¬ b_ b (max (replayF n.d.b).1.floor 1)=0],[.c (.int (((aZ n b).e)))],some ((kI ((aZ n b).n))),false⟩
def uO:CK 13 vr:=ah fun (_,b,_) n C=>by
 have D:=cg C;have F:=cg (eP C);refine bz tq [] Tryz.func13 (?_:(fun (B:Bool)=>(fun (w:Int)=>(fun (u:Int)=>(fun (h:Int)=>(fun (r:Int)=>(fun (z:List (den (Sh.nm NT.record)))=>(fun (v:Stable × Int)=>(fun (j:Int)=>(fun (t:Int)=>(fun (q:Dsk)=>(fun (i:Dsk)=>(fun (k:Nd)=>(fun (g:Dsk)=>(fun (a:NdC)=>(fun (y:Prop)=>(fun (A:Nd)=>(fun (o:Nd)=>(fun (f:NdC)=>(fun (p:Dsk)=>I64 b->(B=false->(31:Int)=w/\bL n k)/\(B=true->(h<=n.d.synced/\n.d.synced<=(↑n.d.b.length:Int)/\n.d.b.length<=(65536:Nat))/\n.d.b.length<=(1000000:Nat)/\cj v.fst (I64 j->I64 t->(¬t=h->t=w/\bL n k)/\(t=h->I64 r->(¬r=h->r=w/\bL (Nd.mk n.c q n.rp n.vs n.bn n.nx n.mt) k)/\(r=h->(h<=q.synced/\q.synced<=(↑q.b.length:Int)/\q.b.length<=(65536:Nat))/\(I64 (q.kH j)->(¬q.kH j=h->q.kH j=w/\bL (Nd.mk n.c i n.rp n.vs n.bn n.nx n.mt) k)/\(q.kH j=h->I64 u->I64 u->I64 h->I64 h->(0:Nat)*(32:Nat)<=(140737488355328:Nat)->(0:Nat)*(16:Nat)<=(140737488355328:Nat)->(0:Nat)*(64:Nat)<=(140737488355328:Nat)->(v.fst.floor<b->(h<=i.synced/\i.synced<=(↑i.b.length:Int)/\i.b.length<=(65536:Nat))/\v.fst.log.length<=(10000:Nat)/\z.length<=(1000:Nat)/\(I64 (A.aJ z)->(¬A.aJ z=h->(h<=o.d.synced/\o.d.synced<=(↑o.d.b.length:Int)/\o.d.b.length<=(65536:Nat))/\A.aJ z=w/\f.me=a.me/\f.many=a.many/\f.bin=a.bin/\aG f.st a.st (f.role=a.role/\f.commit=a.commit/\f.applied=a.applied/\bO f.s a.s (False/\False/\False/\False/\False/\p.synced=g.synced/\p.down=g.down/\p.doomed=g.doomed/\p.keep=g.keep/\p.b=g.b/\y)))/\(A.aJ z=h->h=w/\f.me=a.me/\f.many=a.many/\f.bin=a.bin/\aG f.st a.st (f.role=a.role/\f.commit=a.commit/\f.applied=a.applied/\bO f.s a.s (False/\False/\False/\False/\False/\o.d.synced=g.synced/\o.d.down=g.down/\o.d.doomed=g.doomed/\o.d.keep=g.keep/\o.d.b=g.b/\y)))))/\(b<=v.fst.floor->h=w/\n.c.me=a.me/\n.c.many=a.many/\b=a.bin/\aG v.fst a.st (h=a.role/\h=a.commit/\h=a.applied/\bO (State.mk u u h h [] [] []) a.s (False/\False/\False/\False/\False/\i.synced=g.synced/\i.down=g.down/\i.doomed=g.doomed/\i.keep=g.keep/\i.b=g.b/\y)))))))))) (o.d.cH h)) o.c) (A.save z)) (Nd.mk (NdC.mk n.c.me n.c.many b v.fst h h h (State.mk u u h h [] [] [])) i [] [] [] [] [])) (n.rp=k.rp/\n.vs=k.vs/\n.bn=k.bn/\n.nx=k.nx/\n.mt=k.mt)) k.c) k.d) (aZ n b).n) (q.cut j)) (if B=true then n.d.up else n.d)) (b_ b (max v.fst.floor u))) v.snd) (replayF n.d.b)) [Record.mk u b h []]) (if B=true then h else (31:Int))) (0:Int)) (1:Int)) (aZ n b).e) n.d.down);obtain ⟨G,H,I⟩:=id D.d;have J:=D.log;(repeat' with_reducible first|apply aV|refine bl ?_|intro)
 all_goals (first | exact bY | exact (afb F ab ab) | (rw [abF (n:=n) (b:=b) ab] <;> rfl) | (rw [aat (n:=n) (b:=b) ab ab] <;> rfl))
theorem vj (b:Int) (n:Nd) (f:NdOK n) (g:n.d.down=false\/¬ b_ b (max (replayF n.d.b).1.floor 1)=0):Sat Tryz.prog (ak tyT) 13 [.c (.ptr 0 0),.c (.int (b))] (kI n) ⟨[NdOK n,n.d.down=false\/¬ b_ b (max (replayF n.d.b).1.floor 1)=0],[.c (.int (((aZ n b).e)))],some ((kI ((aZ n b).n))),false⟩:=uO _ _ _ rfl (by intro p a; simp only [acw,af8,or_false] at a; rcases a with rfl | rfl <;> assumption)
def Nv (b:Int) (n:Nd) (a:NdOK n):Sat Tryz.prog (ak tyT) 13 [.c (.ptr 0 0),.c (.int (b))] (kI n) ⟨[NdOK n],[.c (.int (((aZ n b).e)))],some ((kI ((aZ n b).n))),false⟩:=by
 by_cases f:n.d.down=true
 ·by_cases g:b_ b (max (replayF n.d.b).1.floor 1)=0
  ·have h:=Sat.OU 0 22 3 .int bN rfl rfl (Sat.OU 0 21 3 .int bN rfl rfl (Sat.OU 0 20 3 .int bN rfl rfl (Sat.OU 0 19 4 .bool bN rfl rfl (Sat.OU 0 18 78 (.nm .reply) bN rfl rfl (Sat.ag_ bN rfl Zy (JX b n a f g)) rfl) rfl) rfl) rfl) rfl;obtain ⟨i,j,k,o,p⟩:=agK f g;rw [agb i j k o p];exact ⟨h.1,h.2⟩
  have h:=vj b n a (.inr g);exact ⟨h.1,h.2⟩
 have h:=vj b n a (.inl (by simpa using f));exact ⟨h.1,h.2⟩
def Cz:Kn:=aO (ae (kC (ba 0 0)) (ae (kC cI) ao)) uo fun (_,b,_) n=>⟨[NdOK n],[.c (.int (((aZ n b).e)))],some ((kI ((aZ n b).n))),false⟩
def OF:CK 13 Cz:=ah fun (_,b,_) n a=>Nv b n (cg a)
def Yd:bP:=(aQ 13 Cz (aQ 13 vr (aQ 13 uY Wu)))
def BZ:aA Tryz.prog (ak tyT) Yd:=(ag OF (ag uO (ag wH tq)))
def ah6 (n:Nd):AH:=.box 25 [.ptr 1 0] :: ndO 1 n
def ZH:PH Nd:=PH.Ys (aC (dC 25 (ax (ba 1 0) dA)) (ae1 1 aw)) (·.2.1) (fun n=>(((),()),n,()))
def gz (n:Nd) (r:Record):Bool:=decide (r.kind=4) && decide (r.a<=n.c.commit)
def LC (n:Nd) (l:List Record):Int:=if l.any (gz n)=true then (l.findIdx (gz n):Int) else -1
section
variable {n:Nd} {l:List Record} {k:Nat} {r:Record}
def ag1 (h:(l.take k).any (gz n)=false) (a:l[k]? = some r) (c:gz n r=false):(l.take (k+1)).any (gz n)=false:=by
 rw [ai a,List.any_append,h]; simp [c]
def agQ (h:(l.take k).any (gz n)=false) (c:l[k]? = some r) (f:gz n r=true):(k:Int)=LC n l:=by
 have a:=aaw.1 c;have g:l.any (gz n)=true:=List.any_eq_true.2 ⟨r,acA c,f⟩;rw [LC,if_pos g];have e:l.findIdx (gz n)=k:=by
  rw [List.findIdx_eq a.1];refine ⟨by rw [a.2]; exact f,fun j i=>?_⟩;have:=List.any_eq_false.1 h (l[j]'(by have:=a.1; omega)) (List.mem_iff_getElem?.2 ⟨j,by rw [List.getElem?_take_of_lt i,List.getElem?_eq_getElem]⟩);simpa using this
 rw [e]
def ait (h:(l.take k).any (gz n)=false) (a:(l.length:Int)<=k):-1=LC n l:=by
 rw [List.take_of_length_le aE] at h;rw [LC,if_neg (by rw [h]; decide)]
def agk:decide (0<=LC n l)=l.any (gz n):=by
 unfold LC;cases h:l.any (gz n) <;> simp
end
def GX:Kn:=aO (ae (kT (.nm .record)) (ae (kC (ba 0 0)) ao)) ZH fun (r,_,_) n=>⟨[],[.c (.bool (.atom ((gz n r))))],none,false⟩
theorem VF:CK 97 GX:=ah fun (r,_,_) n _=>by
 refine av BZ [] Tryz.func97 (?_:dU r ((r.kind=4->decide (r.a<=n.c.commit)=gz n r)/\(¬r.kind=4->false=gz n r)));(repeat' with_reducible first|apply aV|refine bl ?_|intro)
 all_goals (first | exact bY | (simp only [gz]; simp_all; done) | exact rfl)
def Yh:bP:=(aQ 97 GX Yd)
def Bo:aA Tryz.prog (ak tyT) Yh:=(ag VF BZ)
def ahl (l:List Record) (n:Nd):List (Nat × LI):=[(2,{ σ:=Nat,F:=fun k=>([(0,one (.fz (.nm .record) (l))),(1,one (.fn 97 [] [(0,0)])),(7,one (.int (l).length)),(8,one (.int k))],(ah6 (n))),J:=fun k=>k<=l.length/\(l.take k).any (gz n)=false,μ:=fun k=>(l).length - k })]
def Xd:Kn:=aO (ae (kC (cL (.nm .record))) (ae (kC (qL 97 [] [(0,0)])) ao)) ZH fun (l,_,_) n=>⟨[],[.c (.int ((LC n l)))],none,false⟩
theorem aev:CK 168 Xd:=ah fun (l,_,_) n _=>by
 refine av Bo (ahl l n) Tryz.func168 (?_:(fun (a:Nat)=>l.length*48<=140737488355328->∃ (e:Nat),(l=l/\(↑l.length:Int)=(↑a:Int)/\0=(↑e:Int)/\bL n n)/\(e<=a/\(List.take e l).any (gz n)=false)/\∀ (s:Nat),s<=a/\(List.take s l).any (gz n)=false->((↑s:Int)<(↑a:Int)->0<=(↑s:Int)/\(↑s:Int)<(↑l.length:Int)/\∀ (x:Record),l[s]? = some x->dU x ((gz n x=true->(↑s:Int)=LC n l)/\(gz n x=false->I64 ((↑s:Int)+1)/\∃ (c:Nat),(l=l/\(↑a:Int)=(↑a:Int)/\(↑s:Int)+1=(↑c:Int)/\bL n n)/\(c <= a/\(List.take c l).any (gz n)=false)/\a - c < a - s)))/\((↑a:Int)<=(↑s:Int) -> -1=LC n l)) l.length);iterate 3 ((all_goals (repeat' with_reducible first|apply aV|refine bl ?_|intro)); (all_goals try (first | exact bY | exact rfl | exact (ag1 ab ab ab) | exact (agQ ab ab ab) | exact (ait ab ab))); all_goals try first | refine ⟨‹Nat› + 1,?_⟩ | refine ⟨0,?_⟩)
def WZ:bP:=(aQ 168 Xd Yh)
def BJ:aA Tryz.prog (ak tyT) WZ:=(ag aev Bo)
def Xt:Kn:=aO (ae (kC (cL (.nm .record))) (ae (kC (qL 97 [] [(0,0)])) ao)) ZH fun (l,_,_) n=>⟨[],[.c (.bool (.atom ((l.any (gz n)))))],none,false⟩
def adQ:CK 96 Xt:=ah fun (l,_,_) n _=>by
 refine av BJ [] Tryz.func96 (?_:l.length*48<=140737488355328->I64 (LC n l)->decide (0<=LC n l)=l.any (gz n));(repeat' with_reducible first|apply aV|refine bl ?_|intro)
 all_goals (first | exact bY | exact agk)
def WJ:bP:=(aQ 96 Xt WZ)
def Bl:aA Tryz.prog (ak tyT) WJ:=(ag adQ BJ)
variable {n:NdC}
def afu (h:(¬ mayL x=0\/¬ x.to=n.me)\/n.many<=x.frm):cX n x=false:=if_pos h
def adj (h:mayL x=0) (c:x.to=n.me) (e:x.frm<n.many) (a:¬ x.kind=3):cX n x=true:=by rw [cX,if_neg aE,if_pos a]
def adl (h:mayL x=0) (c:x.to=n.me) (e:x.frm<n.many) (f:x.kind=3) (a:¬ (az n.st x).2.2.2=0):cX n x=false:=by rw [cX,if_neg aE,if_neg aE,if_pos a]
variable {n:Nd}
def afE (h:mayL x=0) (a:x.to=n.c.me) (e:x.frm<n.c.many) (f:x.kind=3) (g:(az n.c.st x).2.2.2=0):(!(az n.c.st x).1.any (gz n))=cX n.c x:=by rw [cX,if_neg aE,if_neg aE,if_neg aE]; rfl
def KK:Kn:=aO (ae (kC (ba 0 0)) (ae (kT (.nm .letter)) ao)) uo fun (_,x,_) n=>⟨[],[.c (.bool (.atom ((cX n.c x))))],none,false⟩
def abB:CK 55 KK:=ah fun (_,x,_) n _=>by
 refine av Bl [] Tryz.func55 (?_:(fun a=>aT x (I64 (mayL x)->((¬mayL x=0\/¬x.to=n.c.me)\/n.c.many<=x.frm->false=cX n.c x)/\((mayL x=0/\x.to=n.c.me)/\x.frm<n.c.many->(¬x.kind=3->true=cX n.c x)/\(x.kind=3->(az n.c.st x).fst.length*48<=140737488355328->I64 a.fst->I64 a.snd->(¬a.snd=0->false=cX n.c x)/\(a.snd=0->(!(az n.c.st x).fst.any (gz n))=cX n.c x))))) (az n.c.st x).snd.snd);(repeat' with_reducible first|apply aV|refine bl ?_|intro)
 all_goals (first | exact bY | exact (afE ab ab ab ab ab) | exact (afu ab).symm | exact (adj ab ab ab ab).symm | exact (adl ab ab ab ab ab).symm)
def Xa:bP:=(aQ 55 KK WJ)
def sO:aA Tryz.prog (ak tyT) Xa:=(ag abB Bl)
theorem aef:∀ {k:Nat} {n:Nd},(n.cf k).nx=n.nx/\(n.cf k).d=n.d/\(n.cf k).c.me=n.c.me/\(n.cf k).c.st=n.c.st
 | 0,_=>⟨rfl,rfl,rfl,rfl⟩
 | k+1,n=>by
  unfold Nd.cf;split
  ·split
   ·exact aef
   grind
  grind
def Xk:n.apply.nx=n.nx:=aef.1
variable {k:Int}
theorem ME {s:Stable} {l:List Int} (h:k<=(s.log.length:Int)):mj s l k<=(s.log.length:Int):=by
 unfold mj;grind
abbrev OS (n:Nd) (x:Letter):Nd:=⟨⟨n.c.me,n.c.many,n.c.bin,n.c.st,n.c.role,mj n.c.st ((n.mt.set x.frm.toNat (max (n.mt.getD x.frm.toNat (au Sh.int)) (min x.a (n.c.st.log.length:Int)))).set n.c.me.toNat (n.c.st.log.length:Int)) n.c.commit,n.c.applied,n.c.s⟩,n.d,n.rp,n.vs,n.bn,n.nx.set x.frm.toNat (min (jn (n.nx.getD x.frm.toNat (au Sh.int)) x) ((n.c.st.log.length:Int)+1)),n.mt.set x.frm.toNat (max (n.mt.getD x.frm.toNat (au Sh.int)) (min x.a (n.c.st.log.length:Int)))⟩
abbrev MX (n:Nd) (x:Letter):Nd:=⟨⟨n.c.me,n.c.many,n.c.bin,n.c.st,n.c.role,mj n.c.st (n.mt.set n.c.me.toNat (n.c.st.log.length:Int)) n.c.commit,n.c.applied,n.c.s⟩,n.d,n.rp,n.vs,n.bn,n.nx.set x.frm.toNat (min (jn (n.nx.getD x.frm.toNat (au Sh.int)) x) ((n.c.st.log.length:Int)+1)),n.mt⟩
section
variable {n:Nd} {x:Letter}
def PD (h:x.ok=true):n.Kk x=OS n x:=by
 unfold Nd.Kk; dsimp only; rw [if_pos h]; rfl
def P_ (h:x.ok=false):n.Kk x=MX n x:=by
 unfold Nd.Kk; dsimp only; rw [if_neg (ml h)]; rfl
def aaX:(OS n x).apply.nx.length=n.nx.length:=by rw [Xk]; exact acF
def Yp:(MX n x).apply.nx.length=n.nx.length:=by rw [Xk]; exact acF
variable {G:Nd}
def adK (a:n.Kk x=G) (h:(n.c.st.log.length:Int)<G.apply.nx.getD x.frm.toNat (au Sh.int)):fa n x=⟨G.apply,[],0⟩:=by
 rw [fa,a]; exact if_pos h
def aec (a:n.Kk x=G) (h:G.apply.nx.getD x.frm.toNat (au Sh.int)<=(n.c.st.log.length:Int)) (e:¬ (iG G.apply x.frm).2=0):fa n x=⟨G.apply,[],(iG G.apply x.frm).2⟩:=by
 rw [fa,a]; exact (if_neg (Int.not_lt.2 h)).trans (if_neg e)
def afG (a:n.Kk x=G) (h:G.apply.nx.getD x.frm.toNat (au Sh.int)<=(n.c.st.log.length:Int)) (e:(iG G.apply x.frm).2=0):fa n x=⟨G.apply,[(iG G.apply x.frm).1],0⟩:=by
 rw [fa,a]; exact (if_neg (Int.not_lt.2 h)).trans (if_pos e)
end
def df (n:Nd) (k:Nat):Nd:={ n with c:={ n.c with role:=2 },nx:=List.replicate k ((n.c.st.log.length:Int)+1)++n.nx.drop k,mt:=List.replicate k (0:Int)++n.mt.drop k }
theorem ye {c:Type} {a:c}:∀ {l:List c} {k:Nat},k<l.length->(List.replicate k a++l.drop k).set k a=List.replicate (k+1) a++l.drop (k+1)
 | x :: l,0,_=>by simp
 | x :: l,k+1,h=>by
  rw [List.replicate_succ,List.drop_succ_cons,List.cons_append,List.set_cons_succ,ye (by simpa using h),List.replicate_succ (n:=k+1),List.cons_append,List.drop_succ_cons]
section
variable {n:Nd} {k:Nat}
def ado (h:(k:Int)<(n.nx.length:Int)):(df n k).nx.set k ((n.c.st.log.length:Int)+1)=(df n (k+1)).nx:=ye aE
def adv (h:(k:Int)<(n.mt.length:Int)):(df n k).mt.set k 0=(df n (k+1)).mt:=ye aE
def XV (h:k<=n.nx.length):(df n k).nx.length=n.nx.length:=by
 simp only [df,List.length_append,afN,List.length_drop]; omega
def ae7 (h:k<=n.mt.length):(df n k).mt.length=n.mt.length:=by
 simp only [df,List.length_append,afN,List.length_drop]; omega
variable (h1:(n.nx.length:Int)=n.c.many) (h2:(n.mt.length:Int)=n.c.many) (hk:k<=n.c.many.toNat) (hm:n.c.many<=k)
include h1 h2 hk hm
theorem abZ:df n k={ n with c:={ n.c with role:=2 },nx:=List.replicate n.nx.length ((n.c.st.log.length:Int)+1),mt:=List.replicate n.mt.length 0 }:=by
 unfold df;grind
def agy (h:(n.c.st.log.length:Int)+1<=64) (a:(df n k).aJ [⟨3,(n.c.st.log.length:Int)+1,(df n k).c.st.term,[]⟩]=0):fj n=⟨(df n k).save [⟨3,(n.c.st.log.length:Int)+1,(df n k).c.st.term,[]⟩],(aU ((df n k).save [⟨3,(n.c.st.log.length:Int)+1,(df n k).c.st.term,[]⟩])).1,(aU ((df n k).save [⟨3,(n.c.st.log.length:Int)+1,(df n k).c.st.term,[]⟩])).2⟩:=by
 rw [abZ h1 h2 hk hm] at a ⊢;exact (if_pos h).trans (if_pos a)
def ai9 (h:(n.c.st.log.length:Int)+1<=64) (a:¬ (df n k).aJ [⟨3,(n.c.st.log.length:Int)+1,(df n k).c.st.term,[]⟩]=0):fj n=⟨(df n k).save [⟨3,(n.c.st.log.length:Int)+1,(df n k).c.st.term,[]⟩],[],(df n k).aJ [⟨3,(n.c.st.log.length:Int)+1,(df n k).c.st.term,[]⟩]⟩:=by
 rw [abZ h1 h2 hk hm] at a ⊢;exact (if_pos h).trans (if_neg a)
def ajn (h:64<(n.c.st.log.length:Int)+1):fj n=⟨df n k,(aU (df n k)).1,(aU (df n k)).2⟩:=by
 rw [abZ h1 h2 hk hm];exact if_neg aE
end
def abM (n:Nd):List (Nat × LI):=[(4,{ σ:=Nat,F:=fun k=>([(0,one (.ptr 0 0)),(4,one (.int (n.c.st.log.length+1))),(22,one (.int n.c.many)),(23,one (.int k))],(kI ((df n k)))),J:=fun k=>k<=n.c.many.toNat,μ:=fun k=>n.c.many.toNat - k })]
def EN:Kn:=aO (ae (kC (ba 0 0)) (ae (kT (.nm .letter)) ao)) uo fun (_,x,_) n=>⟨[NdOK n,0<=x.frm/\x.frm<n.c.many,n.c.role=2,0<=x.a/\x.a<=64],[.c (.fz (.nm .letter) (((fa n x).l))),.c (.int (((fa n x).e)))],some ((kI ((fa n x).n))),false⟩
def Sy:CK 103 EN:=ah fun (_,x,_) n J=>by
 have A:=cg J;have L:=cg (eP J);have N:=cg (eP (eP J));have O:=cg (eP (eP (eP J)));refine bz sO [] Tryz.func103 (?_:(fun f=>(fun r=>(fun F=>(fun i=>(fun K=>(fun q=>(fun D=>(fun h=>(fun p=>(fun o=>(fun j=>(fun g=>(fun w=>(fun t=>(fun H=>(fun B=>(fun I=>(fun C=>(fun u=>(fun y=>(fun v=>(fun z=>aT x (j/\o<(↑n.nx.length:Int)/\(p<=x.a/\x.a<=64)/\I64 (t+1)/\j/\o<(↑n.nx.length:Int)/\(I64 w->I64 (jn w x)->I64 w->(x.ok=true->j/\o<(↑n.mt.length:Int)/\j/\o<(↑n.mt.length:Int)/\(I64 (n.mt.getD g q)->I64 (n.mt.getD g q)->p<=f.me/\f.me<(↑I.length:Int)/\(I64 (I.getD D q)->(I.set D t).length<=12/\(I64 C->((p<=r/\C<=(↑i.log.length:Int))/\K)/\j/\o<(↑v.nx.length:Int)/\(I64 (v.nx.getD g q)->(t<v.nx.getD g q->h.l=[]/\p=h.e/\bL v h.n)/\(v.nx.getD g q<=t->(j/\o<(↑v.nx.length:Int))/\aT (iG v o).fst (I64 z->(¬z=p->h.l=[]/\z=h.e/\bL v h.n)/\(z=p->[(iG v o).fst]=h.l/\p=h.e/\bL v h.n))))))))/\(x.ok=false->p<=f.me/\f.me<(↑n.mt.length:Int)/\(I64 (n.mt.getD D q)->(n.mt.set D t).length<=12/\(I64 B->((p<=r/\B<=(↑i.log.length:Int))/\K)/\j/\o<(↑u.nx.length:Int)/\(I64 (u.nx.getD g q)->(t<u.nx.getD g q->h.l=[]/\p=h.e/\bL u h.n)/\(u.nx.getD g q<=t->(j/\o<(↑u.nx.length:Int))/\aT (iG u o).fst (I64 y->(¬y=p->h.l=[]/\y=h.e/\bL u h.n)/\(y=p->[(iG u o).fst]=h.l/\p=h.e/\bL u h.n)))))))))) (iG v o).snd) (Nd.mk (NdC.mk f.me f.many f.bin i f.role C r f.s) n.d n.rp n.vs n.bn H I).apply) (iG u o).snd) (Nd.mk (NdC.mk f.me f.many f.bin i f.role B r f.s) n.d n.rp n.vs n.bn H n.mt).apply) (mj i (I.set D t) F)) (n.mt.set g (max (n.mt.getD g q) (min x.a t)))) (mj i (n.mt.set D t) F)) (n.nx.set g (min (jn w x) (t+1)))) (↑i.log.length:Int)) (n.nx.getD g q)) o.toNat) (p<=o)) x.frm) (0:Int)) (fa n x)) f.me.toNat) (au Sh.int)) ((↑n.rp.length:Int)<=r/\i.log.length<=10000)) f.st) f.commit) f.applied) n.c);obtain ⟨P,Q,S⟩:=id A.d;have T:=A.log;have U:=A.many;have V:=A.me;have o7:=A.com;have W:=A.term;have X:=A.rp;obtain ⟨Y,Z,b,k⟩:=A.len.resolve_left aE;(repeat' with_reducible first|apply aV|refine bl ?_|intro)
 all_goals (first | exact bY | exact (ME o7.2.2) | (rw [aaX]; omega) | (rw [Yp]; omega) | (rw [acF]; omega) | (rw [acF,acF]; omega) | (rw [adK (n:=n) (x:=x) (G:=OS n x) (PD ab) ab] <;> rfl) | (rw [aec (n:=n) (x:=x) (G:=OS n x) (PD ab) ab ab] <;> rfl) | (rw [afG (n:=n) (x:=x) (G:=OS n x) (PD ab) ab ab] <;> rfl) | (rw [adK (n:=n) (x:=x) (G:=MX n x) (P_ ab) ab] <;> rfl) | (rw [aec (n:=n) (x:=x) (G:=MX n x) (P_ ab) ab ab] <;> rfl) | (rw [afG (n:=n) (x:=x) (G:=MX n x) (P_ ab) ab ab] <;> rfl))
def EF:Kn:=aO (ae (kC (ba 0 0)) ao) uo fun _ n=>⟨[NdOK n,n.c.role=1],[.c (.fz (.nm .letter) (((fj n).l))),.c (.int (((fj n).e)))],some ((kI ((fj n).n))),false⟩
theorem Sg:CK 102 EF:=ah fun _ n v=>by
 have j:=cg v;have F:=cg (eP v);refine bz sO (abM n) Tryz.func102 (?_:(fun (w:Int)=>(fun (h:NdR)=>(fun (i:Int)=>(fun (f:Int)=>(fun (y:Int)=>(fun (o:Int)=>I64 w/\∃ (t:Nat),(w=o/\f=f/\i=(↑t:Int)/\bL (Nd.mk (NdC.mk n.c.me f n.c.bin n.c.st 2 n.c.commit n.c.applied n.c.s) n.d n.rp n.vs n.bn n.nx n.mt) (df n t))/\t<=f.toNat/\∀ (s:Nat),(fun (a:Nd)=>(fun (p:List (den (Sh.nm NT.record)))=>(fun (g:Nd)=>s<=f.toNat->((↑s:Int)<f->(i<=(↑s:Int)/\(↑s:Int)<(↑a.nx.length:Int))/\(I64 (a.nx.getD s (au Sh.int))->i<=(↑s:Int)/\(↑s:Int)<(↑a.mt.length:Int))/\(I64 (a.nx.getD s (au Sh.int))->I64 (a.mt.getD s (au Sh.int))->I64 ((↑s:Int)+1)/\∃ (q:Nat),(o=o/\f=f/\(↑s:Int)+1=(↑q:Int)/\bL (Nd.mk a.c a.d a.rp a.vs a.bn (a.nx.set s o) (a.mt.set s i)) (df n q))/\q <= f.toNat/\f.toNat - q < f.toNat - s))/\(f<=(↑s:Int)->(o<=64->(i<=a.d.synced/\a.d.synced<=(↑a.d.b.length:Int)/\a.d.b.length<=65536)/\a.c.st.log.length<=10000/\p.length<=1000/\(I64 (a.aJ p)->(¬a.aJ p=i->h.l=[]/\a.aJ p=h.e/\bL g h.n)/\(a.aJ p=i->g.c.many<=5/\(g.c.role=i\/(↑g.nx.length:Int)=g.c.many)/\((aU g).fst.length*96<=140737488355328->I64 (aU g).snd->(aU g).fst=h.l/\(aU g).snd=h.e/\bL g h.n))))/\(64<o->a.c.many<=5/\(a.c.role=i\/(↑a.nx.length:Int)=a.c.many)/\((aU a).fst.length*96<=140737488355328->I64 (aU a).snd->(aU a).fst=h.l/\(aU a).snd=h.e/\bL a h.n)))) (a.save p)) [Record.mk y o a.c.st.term []]) (df n s)) ((↑n.c.st.log.length:Int)+1)) 3) n.c.many) 0) (fj n)) ((↑n.c.st.log.length:Int)+1));obtain ⟨z,A,B⟩:=id j.d;have C:=j.log;have D:=j.many;have G:=j.me;have o7:=j.com;have H:=j.term;have I:=j.rp;obtain ⟨J,K,r,u⟩:=j.len.resolve_left aE;iterate 3 ((all_goals (repeat' with_reducible first|apply aV|refine bl ?_|intro)); (all_goals try (first | exact bY | exact rfl | exact (ado aE) | exact (adv aE) | (rw [XV aE]; omega) | (rw [ae7 aE]; omega) | exact (.inr ((congrArg Int.ofNat (XV aE)).trans r)) | exact aei | exact D.2 | exact z | exact A | exact B | exact (Nat.le_trans C am) | (rw [agy (n:=n) (k:=‹Nat›) r u ab ab ab ab] <;> rfl) | (rw [ai9 (n:=n) (k:=‹Nat›) r u ab ab ab ab] <;> rfl) | (rw [ajn (n:=n) (k:=‹Nat›) r u ab ab ab] <;> rfl))); all_goals try first | refine ⟨‹Nat› + 1,?_⟩ | refine ⟨0,?_⟩)
def Xu:bP:=(aQ 102 EF (aQ 103 EN Xa))
def Az:aA Tryz.prog (ak tyT) Xu:=(ag Sg (ag Sy sO))
variable {t:Int}
theorem Iu {s:Stable}:(stepsF s (ay s t)).1.log=s.log:=by
 unfold ay;split
 ·rfl
 rw [stepsF];split
 ·rw [stepsF];unfold aN;split
  ·rfl
  split
  ·rename_i u h;rw [fh,if_neg (show ¬ (2:Int)=1 by decide),if_pos rfl,fD] at h;grind
  rfl
 rfl
abbrev Yx (n:Nd) (x:Letter):Nd:=⟨(n.save (ay n.c.st x.term)).c,(n.save (ay n.c.st x.term)).d,(n.save (ay n.c.st x.term)).rp,(n.save (ay n.c.st x.term)).vs,(n.save (ay n.c.st x.term)).bn.set x.frm.toNat x.bin,(n.save (ay n.c.st x.term)).nx,(n.save (ay n.c.st x.term)).mt⟩
abbrev Rm (n:Nd) (x:Letter):Nd:=⟨(n.save (ay n.c.st x.term)).c,(n.save (ay n.c.st x.term)).d,(n.save (ay n.c.st x.term)).rp,(n.save (ay n.c.st x.term)).vs.set x.frm.toNat true,(n.save (ay n.c.st x.term)).bn.set x.frm.toNat x.bin,(n.save (ay n.c.st x.term)).nx,(n.save (ay n.c.st x.term)).mt⟩
def QY {s:Stable}:(ay s t).length<=1000:=Nat.le_trans gf am
section
variable {n:Nd} {x:Letter}
def aai (h:¬ n.aJ (ay n.c.st x.term)=0):bk n x=⟨n.save (ay n.c.st x.term),[],n.aJ (ay n.c.st x.term)⟩:=if_pos h
variable (h:n.aJ (ay n.c.st x.term)=0)
include h
def SC (a:¬ x.term=(n.save (ay n.c.st x.term)).c.st.term\/(n.save (ay n.c.st x.term)).c.role=0):bk n x=⟨n.save (ay n.c.st x.term),[],0⟩:=(if_neg (Classical.not_not.2 h)).trans (if_pos a)
def Yn (a:NdOK n):NdOK (n.save (ay n.c.st x.term)):=by
 have f:(n.save (ay n.c.st x.term)).c.st=(stepsF n.c.st (ay n.c.st x.term)).1:=(nQ h).1;have e:=ow (l:=ay n.c.st x.term) a.log a.term;rw [<- f] at e;refine ⟨qI a.d,a.many,a.me,e.1,e.2,⟨a.com.1,a.com.2.1,?_⟩,a.len,a.rp⟩;rw [f,Iu]; exact a.com.2.2
def ZL (a:NdOK n):NdOK (Yx n x):=by
 have k:=Yn h a;exact ⟨k.d,k.many,k.me,k.log,k.term,k.com,k.len.imp id fun q=>⟨q.1,by rw [acF]; exact q.2.1,q.2.2⟩,k.rp⟩
def aaP (a:NdOK n):NdOK (Rm n x):=by
 have k:=Yn h a;exact ⟨k.d,k.many,k.me,k.log,k.term,k.com,k.len.imp id fun q=>⟨by rw [acF]; exact q.1,by rw [acF]; exact q.2.1,q.2.2⟩,k.rp⟩
omit h in
def ac1 (a:NdOK n) (f:x.frm<n.c.many) (e:¬ (n.save (ay n.c.st x.term)).c.role=0):x.frm<((n.save (ay n.c.st x.term)).bn.length:Int)/\x.frm<((n.save (ay n.c.st x.term)).vs.length:Int):=by
 have q:=a.len.resolve_left e;exact ⟨by show x.frm<(n.bn.length:Int); omega,by show x.frm<(n.vs.length:Int); omega⟩
variable (h1:x.term=(n.save (ay n.c.st x.term)).c.st.term) (h2:¬ (n.save (ay n.c.st x.term)).c.role=0)
include h1 h2
def JD:bk n x=if (x.kind=2/\x.ok=true)/\(n.save (ay n.c.st x.term)).c.role=1 then (if nX (Rm n x).vs=true then fj (Rm n x) else ⟨Rm n x,[],0⟩) else if x.kind=4/\(n.save (ay n.c.st x.term)).c.role=2 then fa (Yx n x) x else ⟨Yx n x,[],0⟩:=
 (if_neg (Classical.not_not.2 h)).trans (if_neg (by rintro (q | q); exact q h1; exact h2 q))
def ahx (a:x.kind=2) (e:x.ok=true) (f:(n.save (ay n.c.st x.term)).c.role=1) (g:nX (Rm n x).vs=true):bk n x=fj (Rm n x):=(JD h h1 h2).trans ((if_pos ⟨⟨a,e⟩,f⟩).trans (if_pos g))
def ajm (a:x.kind=2) (e:x.ok=true) (f:(n.save (ay n.c.st x.term)).c.role=1) (g:nX (Rm n x).vs=false):bk n x=⟨Rm n x,[],0⟩:=(JD h h1 h2).trans ((if_pos ⟨⟨a,e⟩,f⟩).trans (if_neg (ml g)))
def ahm (e:(¬ x.kind=2\/x.ok=false)\/¬ (n.save (ay n.c.st x.term)).c.role=1) (f:x.kind=4) (g:(n.save (ay n.c.st x.term)).c.role=2):bk n x=fa (Yx n x) x:=
 (JD h h1 h2).trans ((if_neg (by rintro ⟨⟨a,b⟩,c⟩; rcases e with (q | q) | q; exact q a; exact ml q b; exact q c)).trans (if_pos ⟨f,g⟩))
def ahb (e:(¬ x.kind=2\/x.ok=false)\/¬ (n.save (ay n.c.st x.term)).c.role=1) (f:¬ x.kind=4\/¬ (n.save (ay n.c.st x.term)).c.role=2):bk n x=⟨Yx n x,[],0⟩:=
 (JD h h1 h2).trans ((if_neg (by rintro ⟨⟨a,b⟩,c⟩; rcases e with (q | q) | q; exact q a; exact ml q b; exact q c)).trans (if_neg (by rintro ⟨a,b⟩; rcases f with q | q; exact q a; exact q b)))
end
def pT:Kn:=aO (ae (kC (ba 0 0)) (ae (kT (.nm .letter)) ao)) uo fun (_,x,_) n=>⟨[NdOK n,0<=x.frm/\x.frm<n.c.many,0<=x.a/\x.a<=64],[.c (.fz (.nm .letter) (((bk n x).l))),.c (.int (((bk n x).e)))],some ((kI ((bk n x).n))),false⟩
def CF:CK 58 pT:=ah fun (_,x,_) n s=>by
 have o:=cg s;have u:=cg (eP s);have y:=cg (eP (eP s));refine bz Az [] Tryz.func58 (?_:(fun w=>(fun h=>(fun p=>(fun g=>(fun q=>(fun f=>(fun i=>(fun v=>(fun r=>(fun j=>aT x (((h<=n.d.synced/\n.d.synced<=(↑n.d.b.length:Int)/\n.d.b.length<=65536)/\n.c.st.log.length<=10000/\p.length<=1000)/\(I64 (n.aJ p)->(¬n.aJ p=h->g.l=[]/\n.aJ p=g.e/\bL f g.n)/\(n.aJ p=h->(¬x.term=f.c.st.term\/i=h->g.l=[]/\h=g.e/\bL f g.n)/\(x.term=f.c.st.term/\¬i=h->h<=x.frm/\x.frm<(↑f.bn.length:Int)/\(I64 (f.bn.getD q (au Sh.int))->((x.kind=2/\x.ok=true)/\i=1->h<=x.frm/\x.frm<(↑f.vs.length:Int)/\(nX (f.vs.set q true)=true->NdOK j/\i=1/\((fj j).l.length*96<=140737488355328->I64 (fj j).e->(fj j).l=g.l/\(fj j).e=g.e/\bL (fj j).n g.n))/\(nX (f.vs.set q true)=false->g.l=[]/\h=g.e/\bL j g.n))/\((¬x.kind=2\/x.ok=false)\/¬i=1->(x.kind=4/\i=2->NdOK v/\(h<=x.frm/\x.frm<f.c.many)/\i=2/\(h<=x.a/\x.a<=64)/\(r.l.length*96<=140737488355328->I64 r.e->r.l=g.l/\r.e=g.e/\bL r.n g.n))/\(¬x.kind=4\/¬i=2->g.l=[]/\h=g.e/\bL v g.n)))))))) (Nd.mk f.c f.d f.rp (f.vs.set q true) (f.bn.set q w) f.nx f.mt)) (fa v x)) (Nd.mk f.c f.d f.rp f.vs (f.bn.set q w) f.nx f.mt)) f.c.role) (n.save p)) x.frm.toNat) (bk n x)) (ay n.c.st x.term)) (0:Int)) x.bin);obtain ⟨z,A,B⟩:=id o.d;have C:=o.log;(repeat' with_reducible first|apply aV|refine bl ?_|intro)
 all_goals (first | exact bY | exact QY | exact (aaP ab o) | exact (ZL ab o) | exact (ac1 o u.2 ab).1 | exact (ac1 o u.2 ab).2 | exact u.2 | (rw [aai (n:=n) (x:=x) ab] <;> rfl) | (rw [SC (n:=n) (x:=x) ab ab] <;> rfl) | (rw [ahx (n:=n) (x:=x) ab ab ab ab ab ab ab] <;> rfl) | (rw [ajm (n:=n) (x:=x) ab ab ab ab ab ab ab] <;> rfl) | (rw [ahm (n:=n) (x:=x) ab ab ab ab ab ab] <;> rfl) | (rw [ahb (n:=n) (x:=x) ab ab ab ab ab] <;> rfl))
def Ym:bP:=(aQ 58 pT Xu)
def Bk:aA Tryz.prog (ak tyT) Ym:=(ag CF Az)
section
variable {n:Nd} {x:Letter}
def QM (e:cX n.c x=true):0<=x.frm/\x.frm<n.c.many/\0<=x.a/\x.a<=64/\1<=x.kind/\x.kind<=4:=by
 have h:=(oM e).1;have:=eL h.may;have:=h.frm;omega
def ahV {p:Prop} (a:cX n.c x=true) (e:¬ x.kind=1) (f:¬ x.kind=2) (g:¬ x.kind=3) (h:¬ x.kind=4):p:=by
 have:=QM a; omega
def Jf (h:NdOK n):NdOK n.follow:=⟨h.d,h.many,h.me,h.log,h.term,h.com,.inl rfl,h.rp⟩
def acY (a:cX n.c x=true):cX n.follow.c x=true:=a
def aa4 (h:n.d.down=true):br n x=⟨n,[],30⟩:=if_pos h
variable (h:n.d.down=false)
include h
def acp (a:cX n.c x=false):br n x=⟨n,[],1⟩:=(if_neg (ml h)).trans (if_pos a)
variable (hm:cX n.c x=true)
include hm
def Jc (a:n.c.st.term<x.term):br n x=if x.kind=1 then ct n.follow x else if x.kind=3 then bB n.follow x else bk n.follow x:=by
 rw [br,if_neg (ml h),if_neg (by rw [hm]; decide),if_pos a]
def IB (a:x.term<=n.c.st.term):br n x=if x.kind=1 then ct n x else if x.kind=3 then bB n x else bk n x:=by
 rw [br,if_neg (ml h),if_neg (by rw [hm]; decide),if_neg (show ¬ n.c.st.term<x.term by omega)]
section
variable (ht:n.c.st.term<x.term)
include ht
def agi (a:x.kind=1):br n x=ct n.follow x:=(Jc h hm ht).trans (if_pos a)
def ahY (a:x.kind=3):br n x=bB n.follow x:=(Jc h hm ht).trans ((if_neg aE).trans (if_pos a))
def ahv (a:x.kind=2):br n x=bk n.follow x:=(Jc h hm ht).trans ((if_neg aE).trans (if_neg aE))
def ahQ (a:x.kind=4):br n x=bk n.follow x:=(Jc h hm ht).trans ((if_neg aE).trans (if_neg aE))
end
section
variable (ht:x.term<=n.c.st.term)
include ht
def agI (a:x.kind=1):br n x=ct n x:=(IB h hm ht).trans (if_pos a)
def aiS (a:x.kind=3):br n x=bB n x:=(IB h hm ht).trans ((if_neg aE).trans (if_pos a))
def ahJ (a:x.kind=2):br n x=bk n x:=(IB h hm ht).trans ((if_neg aE).trans (if_neg aE))
def ais (a:x.kind=4):br n x=bk n x:=(IB h hm ht).trans ((if_neg aE).trans (if_neg aE))
end
end
def tM:Kn:=aO (ae (kC (ba 0 0)) (ae (kT (.nm .letter)) ao)) uo fun (_,x,_) n=>⟨[NdOK n],[.c (.fz (.nm .letter) (((br n x).l))),.c (.int (((br n x).e)))],some ((kI ((br n x).n))),false⟩
def DX:CK 16 tM:=ah fun (_,x,_) n G=>by
 have B:=cg G;refine bz Bk [] Tryz.func16 (?_:(fun i=>(fun j=>(fun g=>(fun h=>(fun v=>(fun y=>(fun z=>(fun A=>(fun C=>(fun r=>(fun D=>(fun f=>(fun F=>(fun u=>(fun o=>(fun p=>(fun q=>(fun w=>aT x ((n.d.down=true->f.l=[]/\30=f.e/\bL n f.n)/\(n.d.down=false->(cX n.c x=false->f.l=[]/\1=f.e/\bL n f.n)/\(cX n.c x=true->(n.c.st.term<x.term->(y->w)/\(¬y->(z->w)/\(¬z->(r->aT x (NdOK u/\cX C x=true/\r)/\aT x (p.l.length*h<=g->I64 p.e->p.l=f.l/\p.e=f.e/\bL p.n f.n))/\(¬r->(A->aT x (NdOK u)/\aT x (o.l.length*h<=g->I64 o.e->o.l=f.l/\o.e=f.e/\bL o.n f.n))/\(¬A->False)))))/\(x.term<=n.c.st.term->(y->F)/\(¬y->(z->F)/\(¬z->(r->aT x (NdOK n/\cX n.c x=true/\r)/\aT x (j.l.length*h<=g->I64 j.e->j.l=f.l/\j.e=f.e/\bL j.n f.n))/\(¬r->(A->aT x (NdOK n)/\aT x (i.l.length*h<=g->I64 i.e->i.l=f.l/\i.e=f.e/\bL i.n f.n))/\(¬A->False))))))))) (aT x (NdOK u/\D)/\aT x (q.l.length*h<=g->I64 q.e->q.l=f.l/\q.e=f.e/\bL q.n f.n))) (bk u x)) (bB u x)) (ct u x)) (Nd.mk C n.d n.rp n.vs n.bn n.nx n.mt)) (aT x (NdOK n/\D)/\aT x (v.l.length*h<=g->I64 v.e->v.l=f.l/\v.e=f.e/\bL v.n f.n))) (br n x)) ((0<=x.frm/\x.frm<n.c.many)/\0<=x.a/\x.a<=64)) (x.kind=3)) (NdC.mk n.c.me n.c.many n.c.bin n.c.st 0 n.c.commit n.c.applied n.c.s)) (x.kind=1)) (x.kind=2)) (x.kind=4)) (bk n x)) (96:Nat)) (140737488355328:Nat)) (bB n x)) (ct n x));(repeat' with_reducible first|apply aV|refine bl ?_|intro)
 all_goals (first | exact bY | exact B | exact (Jf B) | exact (acY (n:=n) ab) | exact (ahV (n:=n) ab ab ab ab ab) | exact (QM (n:=n) ab).1 | exact (QM (n:=n) ab).2.1 | exact (QM (n:=n) ab).2.2.1 | exact (QM (n:=n) ab).2.2.2.1 | (rw [aa4 (n:=n) (x:=x) ab] <;> rfl) | (rw [acp (n:=n) (x:=x) ab ab] <;> rfl) | (rw [agi (n:=n) (x:=x) ab ab ab ab] <;> rfl) | (rw [ahY (n:=n) (x:=x) ab ab ab ab] <;> rfl) | (rw [ahv (n:=n) (x:=x) ab ab ab ab] <;> rfl) | (rw [ahQ (n:=n) (x:=x) ab ab ab ab] <;> rfl) | (rw [agI (n:=n) (x:=x) ab ab ab ab] <;> rfl) | (rw [aiS (n:=n) (x:=x) ab ab ab ab] <;> rfl) | (rw [ahJ (n:=n) (x:=x) ab ab ab ab] <;> rfl) | (rw [ais (n:=n) (x:=x) ab ab ab ab] <;> rfl))
def Wz:bP:=(aQ 16 tM Ym)
def lB:aA Tryz.prog (ak tyT) Wz:=(ag DX Bk)
theorem CG {s:Stable} (h:(stepsF s [⟨3,(s.log.length:Int)+1,t,b⟩]).2=0):(stepsF s [⟨3,(s.log.length:Int)+1,t,b⟩]).1={ s with log:=s.log++[⟨t,b⟩] }:=by
 have a:(aN s ⟨3,(s.log.length:Int)+1,t,b⟩).2=0:=by
  rw [stepsF] at h;grind
 obtain ⟨_,c⟩:=lM a;rw [fh,if_neg (show ¬ (3:Int)=1 by decide),if_neg (show ¬ (3:Int)=2 by decide),if_pos rfl,dx,if_neg (by dsimp only; omega)] at c;rw [hP a];grind
def vJ {s:Stable} (h:(saveF d s l).2.2=0):(stepsF s l).2=0:=(nQ h).2
variable {L L':List Record}
def StepR.of_eq {a:Nd} {l:List Letter} (h:StepR m L a l L') (e:m.d=n.d) (f:m.c.me=n.c.me/\m.c.many=n.c.many/\m.c.commit=n.c.commit/\m.c.st=n.c.st/\m.c.bin=n.c.bin):StepR n L a l L':=by
 obtain ⟨g,i,j,o,p⟩:=f;exact ⟨h.inv,h.pre,by rw [<- g,<- i]; exact h.me,by rw [<- e]; exact h.len,h.lets,fun q r=>by rw [<- j,<- o,<- p]; exact h.mono (by rw [e]; exact q) r⟩
theorem GY (h:NInv n L) (a:n.d.down=false) (j:1<=t):∃ L',StepR n L (n.save [⟨3,(n.c.st.log.length:Int)+1,t,b⟩]) [] L':=by
 have i:∀ r ∈ [Record.mk 3 ((n.c.st.log.length:Int)+1) t b],r.kind=3->1<=r.b:=fun r f _=>by rw [acr.1 f]; exact j
 by_cases g:n.aJ [⟨3,(n.c.st.log.length:Int)+1,t,b⟩]=0
 ·have y:=lV h a aa i g;have o:=h.up a;have e:=y.st;rw [CG (vJ g)] at e;have p:=h.ok.com;refine ⟨_,lY h a y (fun f=>by rw [e]; exact o.vote f) (by rw [e]) ?_ ?_ fun _=>?_⟩
  ·grind
  ·grind
  rw [e]; dsimp only; rw [List.length_append]; omega
 exact kR h a aa i g
def AW {c:Type} {a d:c}:∀ {k i:Nat},i<k->(List.replicate k a).getD i d=a:=fun h=>by
 rw [List.getD_eq_getElem?_getD,List.getElem?_replicate,if_pos h]; rfl
def ZQ (h:NInv n L) (j:n.d.down=false) (r:n.c.role=1):∃ L',StepR n L (fj n).n (fj n).l L':=by
 have a:=h.up j;have o:=a.vote aE;have e:=h.ok.len.resolve_left aE;have p:NInv { n with c:={ n.c with role:=2 },nx:=List.replicate n.nx.length ((n.c.st.log.length:Int)+1),mt:=List.replicate n.mt.length 0 } L:=
  ⟨⟨h.ok.d,h.ok.many,h.ok.me,h.ok.log,h.ok.term,h.ok.com,.inr ⟨e.1,e.2.1,by dsimp only; rw [afN]; exact e.2.2.1,by dsimp only; rw [afN]; exact e.2.2.2⟩,h.ok.rp⟩,h.d,h.le,fun _=>
   ⟨a.st,a.bin,⟨(by decide:(0:Int)<=2),(by decide:(2:Int)<=2)⟩,fun _=>o,fun _ i f=>by
    dsimp only at f ⊢;rw [AW aE]; omega,a.pl⟩⟩
 unfold fj;dsimp only;split
 ·obtain ⟨L',q⟩:=GY (t:=n.c.st.term) (b:=[]) p j o.2;split
  ·exact ⟨L',(q.of_eq (n:=n) rfl ⟨rfl,rfl,rfl,rfl,rfl⟩).tell fun x g=>pJ g⟩
  exact ⟨L',q.of_eq (n:=n) rfl ⟨rfl,rfl,rfl,rfl,rfl⟩⟩
 exact ⟨L,((StepR.refl p).of_eq (n:=n) rfl ⟨rfl,rfl,rfl,rfl,rfl⟩).tell fun x g=>pJ g⟩
def YQ {s:Stable} {l:List Int}:k<=mj s l k:=by
 unfold mj;split <;> omega
theorem ZJ (c:0<=x.a):1<=jn k x:=by
 unfold jn;grind
theorem aa1 (h:NInv n L) (o:n.d.down=false) (p:n.c.role=2) (v:0<=x.a) (w:x.frm≠n.c.me/\0<=x.frm/\x.frm<n.c.many):∃ L',StepR n L (fa n x).n (fa n x).l L':=by
 have g:=h.up o;have j:=h.ok.len.resolve_left aE;generalize f:n.nx.set x.frm.toNat (min (jn (n.nx.getD x.frm.toNat 0) x) ((n.c.st.log.length:Int)+1))=nx;generalize q:(if x.ok=true then n.mt.set x.frm.toNat (max (n.mt.getD x.frm.toNat 0) (min x.a (n.c.st.log.length:Int))) else n.mt)=mt;have y:nx.length=n.nx.length:=by rw [<- f,acF]
 have A:mt.length=n.mt.length:=by
  grind
 have B:NInv { n with nx:=nx,mt:=mt } L:=⟨⟨h.ok.d,h.ok.many,h.ok.me,h.ok.log,h.ok.term,h.ok.com,.inr ⟨j.1,j.2.1,by dsimp only; rw [y]; exact j.2.2.1,by dsimp only; rw [A]; exact j.2.2.2⟩,h.ok.rp⟩,h.d,h.le,fun _=>
   ⟨g.st,g.bin,g.role,g.vote,fun p i r=>by
    dsimp only;rw [<- f];by_cases e:x.frm.toNat=i
    ·subst e;rw [List.getD_eq_getElem?_getD,adU aE];have:=ZJ (k:=n.nx.getD x.frm.toNat 0) v;grind
    rw [List.getD_eq_getElem?_getD,List.getElem?_set_ne e,<- List.getD_eq_getElem?_getD];exact g.nx p i r,g.pl⟩⟩
 have C:n.Kk x={ ({ n with nx:=nx,mt:=mt }:Nd) with c:={ n.c with commit:=mj n.c.st (mt.set n.c.me.toNat (n.c.st.log.length:Int)) n.c.commit } }:=by
  unfold Nd.Kk;dsimp only;rw [f,q]
 obtain ⟨s,u⟩:=((StepR.refl B).of_eq (n:=n) rfl ⟨rfl,rfl,rfl,rfl,rfl⟩).commit o (c:=mj n.c.st (mt.set n.c.me.toNat (n.c.st.log.length:Int)) n.c.commit) YQ (ME h.ok.com.2.2);dsimp only at s u;rw [<- C] at s u;obtain ⟨D,F,G,K,N,H⟩:=u;unfold fa;dsimp only;split
 ·grind
 split
 ·rename_i I;refine ⟨L,s.tell fun z J=>?_⟩;rw [acr.1 J];exact Gn (by rw [D]; exact o) (by rw [H]; exact p) I (by rw [F,G]; exact w)
 grind
def sV (h:NInv n L) (i:n.d.down=false) (q:ForMe n x) (B:n.c.role≠0->x.term<=n.c.st.term):∃ L',StepR n L (bk n x).n (bk n x).l L':=by
 have H:=eL q.may;have C:=mh q.may;have u:x.frm≠n.c.me/\0<=x.frm/\x.frm<n.c.many:=⟨by have:=q.to; omega,aE,q.frm⟩;have g:=h.up i;have f:(ay n.c.st x.term).length<=6:=Nat.le_trans gf am;by_cases j:n.aJ (ay n.c.st x.term)=0;case neg=>
  rw [aai j];exact kR h i f lH j
 have y:=lV h i f lH j;have o:=y.st;rw [(nR (s:=n.c.st) (t:=x.term) aE aE).1] at o;have z:n.c.role≠0->n.save (ay n.c.st x.term)=n:=fun a=>y.no (by unfold ay; rw [if_pos (B a)]);have v:StepR n L (n.save (ay n.c.st x.term)) [] (L++ay n.c.st x.term):=lY h i y (fun a=>by rw [z a]; exact g.vote a) (by rw [o]) (by rw [o]) (by rw [o]; exact h.ok.com.2.2) (fun _=>by rw [o]; exact Nat.le_refl _);by_cases p:¬ x.term=(n.save (ay n.c.st x.term)).c.st.term\/(n.save (ay n.c.st x.term)).c.role=0
 ·rw [SC j p]; exact ⟨_,v⟩
 rw [not_or] at p;have A:n.c.role≠0:=p.2;have e:=z A;rw [JD j (Classical.not_not.1 p.1) p.2];unfold Yx Rm;rw [e];have w:=h.ok.len.resolve_left A;have r:∀ {vs:List Bool},vs.length=n.vs.length->NInv ⟨n.c,n.d,n.rp,vs,n.bn.set x.frm.toNat x.bin,n.nx,n.mt⟩ L:=fun {vs} D=>
  ⟨⟨h.ok.d,h.ok.many,h.ok.me,h.ok.log,h.ok.term,h.ok.com,.inr ⟨by dsimp only; rw [D]; exact w.1,by dsimp only; rw [acF]; exact w.2.1,w.2.2⟩,h.ok.rp⟩,h.d,h.le,fun _=>⟨g.st,g.bin,g.role,g.vote,g.nx,g.pl⟩⟩
 split
 ·rename_i F;split
  ·obtain ⟨L',k⟩:=ZQ (r (vs:=n.vs.set x.frm.toNat true) acF) i F.2;exact ⟨L',k.of_eq (n:=n) rfl ⟨rfl,rfl,rfl,rfl,rfl⟩⟩
  exact ⟨L,(StepR.refl (r (vs:=n.vs.set x.frm.toNat true) acF)).of_eq (n:=n) rfl ⟨rfl,rfl,rfl,rfl,rfl⟩⟩
 split
 ·rename_i G;obtain ⟨L',k⟩:=aa1 (x:=x) (r (vs:=n.vs) rfl) i G.2 aE u;exact ⟨L',k.of_eq (n:=n) rfl ⟨rfl,rfl,rfl,rfl,rfl⟩⟩
 exact ⟨L,(StepR.refl (r (vs:=n.vs) rfl)).of_eq (n:=n) rfl ⟨rfl,rfl,rfl,rfl,rfl⟩⟩
def JT (h:NInv n L):∃ L',StepR n L (br n x).n (br n x).l L':=by
 cases a:n.d.down;case true=>rw [aa4 a]; exact ⟨L,.refl h⟩
 cases f:cX n.c x
 ·rw [acp a f]; exact ⟨L,.refl h⟩
 have g:=(oM f).1;by_cases o:n.c.st.term<x.term
 ·rw [Jc a f o];have e:n.follow.c.role≠0->x.term<=n.follow.c.st.term:=fun e=>absurd rfl e;have i:ForMe n.follow x:=⟨g.may,g.to,g.frm⟩;split
  ·obtain ⟨L',k⟩:=Ez h.follow a i e;exact ⟨L',k.lW⟩
  split
  ·rename_i j;obtain ⟨L',k⟩:=Ap h.follow a (acY f) j;exact ⟨L',k.lW⟩
  obtain ⟨L',k⟩:=sV h.follow a i e;exact ⟨L',k.lW⟩
 rw [IB a f aE];have e:n.c.role≠0->x.term<=n.c.st.term:=fun _=>by omega
 split
 ·exact Ez h a g e
 split
 ·rename_i j;exact Ap h a f j
 exact sV h a g e
theorem abf {c:Command} (h:NInv n L):∃ L',StepR n L (cR n c).n [] L':=by
 unfold cR;split
 ·exact ⟨L,.refl h⟩
 rename_i f;have a:n.d.down=false:=by simpa using f
 split
 ·exact ⟨L,.refl h⟩
 rename_i j;split
 ·exact ⟨L,.refl h⟩
 split
 ·exact ⟨L,.refl h⟩
 split
 ·exact ⟨L,.refl h⟩
 split
 ·exact ⟨L,.refl h⟩
 split
 ·exact ⟨L,.refl h⟩
 rename_i e;have g:(dS c n.c.st.term n.c.s.version).1.term=n.c.st.term:=by
  unfold dS at e ⊢;split at e
  ·grind
  grind
 have i:=((h.up a).vote aE).2;obtain ⟨L',k⟩:=GY (t:=(dS c n.c.st.term n.c.s.version).1.term) (b:=(dS c n.c.st.term n.c.s.version).1.b) h a (by rw [g]; exact i);dsimp only;split
 ·grind
 exact ⟨L',k⟩
theorem DkI.cH {d:Dsk} {L:List Record} {k:Int} (h:DkI d L):DkI (d.cH k) L/\(d.cH k).b=d.b:=by
 have f:=h.syn;have c:d.at_ k=d.b.length:=by unfold Dsk.at_; omega
 have a:(d.cH k).b=d.b:=by
  show d.b.take (d.at_ k).toNat=d.b;simp_all
 refine ⟨⟨h.st,by rw [a]; exact h.rep,by rw [a]; exact h.pre,?_,fun e=>by cases e⟩,a⟩;rw [a]; exact c
def NInv.dead (h:NInv n L) (g:m.c=n.c/\m.rp=n.rp/\m.vs=n.vs/\m.bn=n.bn/\m.nx=n.nx/\m.mt=n.mt) (i:m.d.OK) (j:DkI m.d L') (o:∀ r ∈ L',r.kind=3->1<=r.b) (e:m.d.down=true):NInv m L':=by
 obtain ⟨a,p,q,s,u,v⟩:=g;exact ⟨⟨i,by rw [a]; exact h.ok.many,by rw [a]; exact h.ok.me,by rw [a]; exact h.ok.log,by rw [a]; exact h.ok.term,by rw [a]; exact h.ok.com,by rw [a,q,s,u,v]; exact h.ok.len,by rw [a,p]; exact h.ok.rp⟩,j,o,fun f=>by rw [e] at f; cases f⟩
def VI (h:NInv n L):StepR n L { n with d:=n.d.cH k } [] L:=by
 obtain ⟨a,c⟩:=h.d.cH (k:=k);exact ⟨h.dead ⟨rfl,rfl,rfl,rfl,rfl,rfl⟩ (sE h.ok.d) a h.le rfl,List.prefix_refl _,⟨rfl,rfl⟩,by dsimp only; rw [c]; omega,fun _ e=>(by cases e),fun _ f=>by cases f⟩
def YN (h:NInv n L):StepR n L { n with d:=⟨n.d.b,n.d.synced,n.d.down,true,k⟩ } [] L:=by
 have c:DkI ⟨n.d.b,n.d.synced,n.d.down,true,k⟩ L:=⟨h.d.st,h.d.rep,h.d.pre,h.d.syn,h.d.up⟩;exact ⟨⟨⟨h.ok.d,h.ok.many,h.ok.me,h.ok.log,h.ok.term,h.ok.com,h.ok.len,h.ok.rp⟩,c,h.le,fun a=>⟨(h.up a).st,(h.up a).bin,(h.up a).role,(h.up a).vote,(h.up a).nx,(h.up a).pl⟩⟩,List.prefix_refl _,⟨rfl,rfl⟩,by dsimp only; omega,fun _ e=>(by cases e),fun _ _=>⟨afO _,rfl,rfl⟩⟩
def aco (h:NInv n L):StepR n L n (aU n).1 L:=(StepR.refl h).tell fun _ a=>pJ a
variable {b:Int}
theorem Iy {a:Int} (h:b_ a b=0):1<=a/\a<=3/\1<=b/\b<=a:=by
 unfold b_ at h;grind
def Ny {s:Stable} (a:1<=b) (c:b<=3) (h:s.floor<b):stepsF s [⟨1,b,0,[]⟩]=({ s with floor:=b },0):=by
 have e:aN s ⟨1,b,0,[]⟩=({ s with floor:=b },0):=by
  refine kE (aiT ⟨rfl,a,c,rfl,rfl⟩) ?_;rw [fh,if_pos rfl,dP,if_neg (by dsimp only; omega)]
 rw [hP (by rw [e]),e]
theorem Ht (h:NInv n L):∃ L',StepR n L (aZ n b).n [] L':=by
 cases g:n.d.down;case false=>rw [abF g]; exact ⟨L,.refl h⟩
 by_cases v:b_ b (max (replayF n.d.b).1.floor 1)=0;case neg=>rw [aat g v]; exact ⟨L,.refl h⟩
 obtain ⟨z,A,W,X⟩:=Iy v;obtain ⟨B,Y,P⟩:=xM g h.ok.d;have e:=h.d.rep;obtain ⟨t,I⟩:=h.d.pre;have a:=mX n.d.b
 have Q:n.d.b.take (replayF n.d.b).2.toNat=encL L:=by
  rw [e,I];dsimp only;rw [afM,List.take_left]
 have j:(n.fr b).d=⟨encL L,((encL L).length:Int),false,false,0⟩:=by
  show (if n.d.down=true then n.d.up else n.d).cut (replayF n.d.b).2=_;rw [P,Q,e]
 have o:DkI (n.fr b).d L:=by rw [j]; exact DkI.enc h.d.st rfl rfl
 have p:(n.fr b).c.st=(stepsF sta0 L).1:=by show (replayF n.d.b).1=_; rw [e]
 have C:NdOK (n.fr b):=⟨B,h.ok.many,h.ok.me,a.1.1,a.1.2,⟨afO 0,afO 0,Int.natCast_nonneg _⟩,.inl rfl,rfl⟩;have J:(n.fr b).d.b.length<=n.d.b.length:=by
  rw [j,I];show (encL L).length<=_;rw [List.length_append]; omega
 have D:okPl b ((replayF n.d.b).1.log.take 0)/\fr0=pS b fr0 ((replayF n.d.b).1.log.take 0)/\([]:List Reply)=pR b fr0 ((replayF n.d.b).1.log.take 0):=⟨fun x q=>(by cases q),rfl,rfl⟩;by_cases F:(replayF n.d.b).1.floor<b;case neg=>
  rw [Wd g v aE];exact ⟨L,⟨C,o,h.le,fun _=>⟨p,⟨z,A,by show (replayF n.d.b).1.floor=b; omega⟩,⟨afO 0,(by decide:(0:Int)<=2)⟩,fun hr=>absurd rfl hr,fun hr=>absurd (show (0:Int)=2 from hr) am,D⟩⟩,List.prefix_refl _,⟨rfl,rfl⟩,by show (n.fr b).d.b.length<=_; omega,fun _ q=>(by cases q),fun f=>by rw [g] at f; cases f⟩
 have G:(n.fr b).d.down=false:=by rw [j]
 have s:=yb (l:=[⟨1,b,0,[]⟩]) o G p;have Z:=tH s aa;have w:∀ (i:Nat),∀ r ∈ L++[Record.mk 1 b 0 []].take i,r.kind=3->1<=r.b:=fun i r hr=>by
  rcases acq.1 hr with hr | hr
  ·exact h.le r hr
  grind
 by_cases y:(n.fr b).aJ [⟨1,b,0,[]⟩]=0
 ·rw [RR g v F y];obtain ⟨K,N,u,m,k5,k6,k7,k8⟩:=s.ok y;have H:((n.fr b).save [⟨1,b,0,[]⟩]).c.st={ (n.fr b).c.st with floor:=b }:=by
   show (saveF _ _ _).2.1=_;rw [u,Ny z A F]
  refine ⟨L++[⟨1,b,0,[]⟩],⟨⟨qI B,h.ok.many,h.ok.me,by rw [H]; exact a.1.1,by rw [H]; exact a.1.2,⟨afO 0,afO 0,Int.natCast_nonneg _⟩,.inl rfl,rfl⟩,N,fun r hr=>w 1 r hr,fun _=>⟨?_,⟨z,A,by rw [H]⟩,⟨afO 0,(by decide:(0:Int)<=2)⟩,fun hr=>absurd rfl hr,fun hr=>absurd (show (0:Int)=2 from hr) am,?_⟩⟩,List.prefix_append _ _,⟨rfl,rfl⟩,by show (saveF (n.fr b).d (n.fr b).c.st _).1.b.length<=_; omega,fun _ q=>(by cases q),fun f=>by rw [g] at f; cases f⟩
  ·show (saveF _ _ _).2.1=_;rw [u,dN h.d.st,<- p]
  grind
 rw [Sm g v F y];obtain ⟨K,N,u⟩:=s.no y;have O:((n.fr b).save [⟨1,b,0,[]⟩]).c=(n.fr b).c:=by rw [DM,K]
 have S:∃ i,DkI ((n.fr b).save [⟨1,b,0,[]⟩]).d (L++[Record.mk 1 b 0 []].take i):=by
  rcases u with ⟨u,_⟩ | ⟨_,_,_,_,i,_,u⟩
  ·exact ⟨0,by rw [ajz,ad8,Oe,u]; exact o⟩
  grind
 obtain ⟨i,T⟩:=S;obtain ⟨U,V⟩:=T.cH (k:=0);refine ⟨_,⟨⟨sE (qI B),h.ok.many,h.ok.me,by rw [O]; exact a.1.1,by rw [O]; exact a.1.2,⟨afO 0,afO 0,Int.natCast_nonneg _⟩,.inl rfl,rfl⟩,U,w i,fun f=>by cases f⟩,Bf,⟨rfl,rfl⟩,?_,fun _ q=>(by cases q),fun f=>by rw [g] at f; cases f⟩;show (((n.fr b).save [⟨1,b,0,[]⟩]).d.cH 0).b.length<=_;rw [V];show (saveF (n.fr b).d (n.fr b).c.st _).1.b.length<=_;omega
structure ToldN where
 l:List Letter
 a:Int
 b:Int
 e:Int
def uI (x:Letter):Letter:={ x with l:=(x.l.take 6).map fun y=>⟨y.term,y.b.take 250⟩ }
def mm (c:Command):Command:={ c with chunks:=c.chunks.take 12,text:=⟨c.text.b.take 40⟩ }
def cP (n:Nd) (o:NOp):Nd × ToldN:=
 if o.kind.toNat % 8=0 then ((aZ n o.n).n,⟨[],0,0,(aZ n o.n).e⟩)
 else if o.kind.toNat % 8=1 then ((aH n).n,⟨(aH n).l,0,0,(aH n).e⟩)
 else if o.kind.toNat % 8=2 then (n,⟨(aU n).1,0,0,(aU n).2⟩)
 else if o.kind.toNat % 8=3 then ((br n (uI o.x)).n,⟨(br n (uI o.x)).l,0,0,(br n (uI o.x)).e⟩)
 else if o.kind.toNat % 8=4 then ((cR n (mm o.c)).n,⟨[],(cR n (mm o.c)).a,(cR n (mm o.c)).b,(cR n (mm o.c)).e⟩)
 else if o.kind.toNat % 8=5 then ({ n with d:=⟨n.d.b,n.d.synced,n.d.down,true,o.n⟩ },⟨[],0,0,0⟩)
 else if o.kind.toNat % 8=6 then ({ n with d:=n.d.cH o.n },⟨[],0,0,0⟩)
 else (n,⟨[],0,0,0⟩)
def acb {o:NOp} (h:NInv n L):∃ L',StepR n L (cP n o).1 (cP n o).2.l L':=by
 unfold cP;split
 ·exact Ht h
 split
 ·exact IZ h
 split
 ·exact ⟨L,aco h⟩
 split
 ·exact JT h
 split
 ·exact abf h
 split
 ·exact ⟨L,YN h⟩
 split
 ·exact ⟨L,VI h⟩
 exact ⟨L,.refl h⟩
def FT {me a:Int} (h:3<=a/\a<=5/\0<=me/\me<a):NInv (im me a) []:=
 ⟨⟨⟨afO 0,afO 0,af3 _⟩,⟨h.1,h.2.1⟩,h.2.2,af3 _,⟨afO 0,(by decide:(0:Int)<=1048576)⟩,⟨afO 0,afO 0,Int.natCast_nonneg _⟩,.inl rfl,rfl⟩,⟨rfl,tD (L:=[]) rfl,⟨[],rfl⟩,rfl,fun _=>rfl⟩,fun r c=>(by cases c),fun e=>(by cases e)⟩
theorem Fj:∀ {l:List Record} {s:Stable},s.log.all dr=true->(∀ r ∈ l,r.kind=3->1<=r.b)->(stepsF s l).1.log.all dr=true
 | [],_,h,_=>h
 | r :: l,s,h,c=>by
  rw [stepsF];split
  ·rename_i e;obtain ⟨f,a⟩:=lM e;refine Fj ?_ fun q g=>c q (by simp [g]);have o:=bT.1 f;generalize (aN s r).1=t at a ⊢;unfold fh at a;split at a
   ·unfold dP at a;split at a <;> cases a; exact h
   split at a
   ·unfold fD at a;split at a <;> cases a; exact h
   split at a
   ·rename_i i;unfold dx at a;split at a <;> cases a;show (s.log++[_]).all dr=true;rw [List.all_append,h,Bool.true_and,List.all_cons,List.all_nil,Bool.and_true,lO];have:=c r aa i;dsimp only; omega
   unfold fM at a;split at a <;> cases a;exact List.all_eq_true.2 fun y j=>List.all_eq_true.1 h y (List.mem_of_mem_take j)
  exact h
section
variable {n m:Nd} {L:List Record} {x:Letter} {l:List Record}
def NInv.aiJ (h:NInv n L) (a:n.d.down=false):n.c.st.log.all dr=true:=by rw [(h.up a).st]; exact Fj rfl h.le
def QG {l:List Entry} (h:l.all dr=true) (a:0<=k) (c:k<=l.length):0<=cD l k/\cD l k<=1048576:=by
 unfold cD;split
 ·omega
 rename_i e;rw [if_neg aE,List.getD_eq_getElem?_getD,List.getElem?_eq_getElem aE];have:=lO.1 (List.all_eq_true.1 h _ (afT (l:=l) (n:=(k - 1).toNat) aE));simp only [ajs]; omega
def abo {l:List Entry} (h:l.all dr=true):(ef l k 4).all dr=true/\(ef l k 4).length<=4:=by
 unfold ef;split
 ·exact ⟨rfl,aa⟩
 refine ⟨List.all_eq_true.2 fun y a=>List.all_eq_true.1 h y (ahO (List.mem_of_mem_take a)),?_⟩;rw [List.length_take]; omega
def ahq {a:Int} (h:NInv n L) (e:n.d.down=false) (g:n.c.role=2) (p:a≠n.c.me/\0<=a/\a<n.c.many):(iG n a).2=0:=by
 have u:=h.up e;have q:=u.nx g a.toNat aE;have r:=u.vote aE;have f:=h.aiJ e;have s:=h.ok.log;have i:=h.ok.term;have v:=h.ok.many;have j:=h.ok.me;have w:=h.ok.com;have y:=u.bin;have t:=QG (k:=n.nx.getD a.toNat 0 - 1) f aE aE;obtain ⟨o,z⟩:=abo (k:=n.nx.getD a.toNat 0 - 1) f;unfold iG fR;rw [if_neg (by dsimp only; omega)];have:mayL (ku n.c.st ⟨n.c.me,a,n.nx.getD a.toNat 0,n.c.commit,n.c.bin⟩)=0:=by
  unfold mayL;rw [if_pos];refine ⟨?_,o⟩;simp only [mW,ku,dH,cq,Bool.and_eq_true,Bool.or_eq_true,Bool.not_eq_true',decide_eq_true_eq,decide_eq_false_iff_not];simp [-List.getD_eq_getElem?_getD];refine ⟨⟨⟨⟨⟨⟨⟨⟨⟨?_,?_⟩,?_,?_⟩,?_⟩,?_,?_⟩,?_,?_⟩,?_,?_⟩,?_,?_⟩,?_,?_⟩,?_⟩;all_goals first | omega | (apply decide_eq_true; omega) | (apply decide_eq_false; omega)
 rw [if_neg (by rw [this]; simp)]
def oc (m:Nd):m.save []=m/\m.aJ []=0:=by
 have:saveF m.d m.c.st []=(m.d,m.c.st,0):=by simp [saveF,stepsF]
 unfold Nd.save Nd.aJ;rw [this]; exact ⟨rfl,rfl⟩
def EX (h:NInv m L) (c:m.d.down=false) (e:m.aJ l≠0):m.save l=m\/(m.save l).d.down=true:=by
 obtain ⟨f,_,a⟩:=(yb (l:=l) h.d c (h.up c).st).no e;rcases a with ⟨a,_⟩ | ⟨_,_,g,_⟩
 ·left; unfold Nd.save; rw [f,a]
 exact .inr g
theorem Hw:∀ (k:Nat) (n:Nd),(n.cf k).c={ n.c with s:=(n.cf k).c.s,applied:=(n.cf k).c.applied }/\(n.cf k).d=n.d/\(n.cf k).vs=n.vs/\(n.cf k).bn=n.bn/\(n.cf k).nx=n.nx/\(n.cf k).mt=n.mt
 | 0,n=>⟨rfl,rfl,rfl,rfl,rfl,rfl⟩
 | k+1,n=>by
  simp only [Nd.cf];split
  ·split
   ·exact Hw k _
   exact ⟨rfl,rfl,rfl,rfl,rfl,rfl⟩
  exact ⟨rfl,rfl,rfl,rfl,rfl,rfl⟩
def wX (n:Nd):n.apply.c={ n.c with s:=n.apply.c.s,applied:=n.apply.c.applied }:=(Hw _ n).1
def xL (n:Nd) (x:Letter) (ok:Bool) (up:Int):NdR:=
 let f:=if x.term=n.c.st.term then n.follow else n
 if ok=true then ⟨({ f with c:={ f.c with commit:=max f.c.commit (min x.c up) } }:Nd).apply,[{ qj f.c 4 x.frm with ok:=true,a:=up }],0⟩
 else ⟨f,[{ qj f.c 4 x.frm with a:=if x.term=f.c.st.term then min 64 (f.c.st.log.length:Int) else 0 }],0⟩
def Lb (a:(az n.c.st x).2.2.2=0) (e:n.aJ (az n.c.st x).1=0):bB n x=xL (n.save (az n.c.st x).1) x (az n.c.st x).2.1 (az n.c.st x).2.2.1:=by
 rw [bB,if_neg aE,if_neg aE]; rfl
theorem adg {s:Nd} {ok:Bool} {up:Int}:(xL s x ok up).n.c.st=s.c.st/\(xL s x ok up).n.c.me=s.c.me/\(xL s x ok up).n.c.many=s.c.many/\(xL s x ok up).n.d=s.d/\(xL s x ok up).e=0:=by
 have h:∀ f:Nd,f=s.follow\/f=s->f.c.st=s.c.st/\f.c.me=s.c.me/\f.c.many=s.c.many/\f.d=s.d:=fun f h=>by rcases h with rfl | rfl <;> exact ⟨rfl,rfl,rfl,rfl⟩
 have o:∃ f:Nd,f=(if x.term=s.c.st.term then s.follow else s)/\(f=s.follow\/f=s):=⟨_,rfl,by split <;> simp⟩;obtain ⟨f,a,g⟩:=o;obtain ⟨p,q,r,i⟩:=h f g;unfold xL;dsimp only;rw [<- a];split
 ·have j:=Hw (({ f with c:={ f.c with commit:=max f.c.commit (min x.c up) } }:Nd).c.commit - ({ f with c:={ f.c with commit:=max f.c.commit (min x.c up) } }:Nd).c.applied).toNat ({ f with c:={ f.c with commit:=max f.c.commit (min x.c up) } }:Nd);have u:=j.1;have v:=j.2.1;refine ⟨?_,?_,?_,v.trans i,rfl⟩ <;> (unfold Nd.apply; rw [u]; assumption)
 exact ⟨p,q,r,i,rfl⟩
def D_ (h:x.term<=n.c.st.term):ay n.c.st x.term=[]:=by unfold ay; rw [if_pos h]
def aex (h:x.term<=n.c.st.term):n.save (ay n.c.st x.term)=n/\n.aJ (ay n.c.st x.term)=0:=by rw [D_ h]; exact oc n
def acQ (e:x.term<=n.c.st.term) (h:¬ x.term=n.c.st.term\/n.c.role=0):bk n x=⟨n,[],0⟩:=by
 obtain ⟨a,f⟩:=aex e;have:=SC f (by rw [a]; exact h);rwa [a] at this
def anB (n:Nd) (x:Letter):Nd:=⟨n.c,n.d,n.rp,n.vs,n.bn.set x.frm.toNat x.bin,n.nx,n.mt⟩
def anA (n:Nd) (x:Letter):Nd:=⟨n.c,n.d,n.rp,n.vs.set x.frm.toNat true,n.bn.set x.frm.toNat x.bin,n.nx,n.mt⟩
def adY (e:x.term=n.c.st.term) (f:¬ n.c.role=0):bk n x=if (x.kind=2/\x.ok=true)/\n.c.role=1 then (if nX (anA n x).vs=true then fj (anA n x) else ⟨anA n x,[],0⟩)
  else if x.kind=4/\n.c.role=2 then fa (anB n x) x else ⟨anB n x,[],0⟩:=by
 obtain ⟨a,g⟩:=aex (n:=n) (x:=x) aE;have:=JD g (by rw [a]; exact e) (by rw [a]; exact f);unfold Yx Rm at this;rw [a] at this;exact this
def KI (h:NInv n L) (g:n.d.down=false) (o:n.c.role=1):NInv { n with c:={ n.c with role:=2 },nx:=List.replicate n.nx.length ((n.c.st.log.length:Int)+1),mt:=List.replicate n.mt.length 0 } L:=by
 have a:=h.up g;have j:=a.vote aE;have e:=h.ok.len.resolve_left aE;exact ⟨⟨h.ok.d,h.ok.many,h.ok.me,h.ok.log,h.ok.term,h.ok.com,.inr ⟨e.1,e.2.1,by dsimp only; rw [afN]; exact e.2.2.1,by dsimp only; rw [afN]; exact e.2.2.2⟩,h.ok.rp⟩,h.d,h.le,fun _=>
   ⟨a.st,a.bin,⟨(by decide:(0:Int)<=2),(by decide:(2:Int)<=2)⟩,fun _=>j,fun _ i f=>by
    dsimp only at f ⊢;rw [AW aE]; omega,a.pl⟩⟩
def aah:(fa n x).n=(n.Kk x).apply:=by
 unfold fa;dsimp only;split
 ·rfl
 split <;> rfl
def RX (n:Nd):n.apply.d=n.d/\n.apply.bn=n.bn/\n.apply.mt=n.mt/\n.apply.nx=n.nx/\n.apply.vs=n.vs:=by
 have h:=Hw (n.c.commit - n.c.applied).toNat n;exact ⟨h.2.1,h.2.2.2.1,h.2.2.2.2.2,h.2.2.2.2.1,h.2.2.1⟩
