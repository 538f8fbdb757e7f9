/- What leads to the law, part 7. Conditions: each lemma's own. -/
import Derived.Test.YticbaadnibdbkaaGreatNRM6
set_option linter.unusedVariables false
set_option linter.unusedSimpArgs false
set_option maxHeartbeats 2000000
set_option linter.defProp false
noncomputable section
namespace Go.Proofs.YticbaadnibdbkaaGreat
open Go.RowKit
theorem qY (n:Nat):C_ (n:Int)=UInt8.ofNat n:=by
 apply UInt8.toNat_inj.1;rw [C_,ofNat_toNat,ofNat_toNat]; omega
variable {k m:Int} {l:List Entry}
def Lo (h:(k<0\/(l.length:Int)<k)\/m<1):fM l k m=[]:=if_pos h
def KI (a:0<=k) (b:k<=(l.length:Int)) (c:1<=m):(l.drop k.toNat).take (min m ((l.drop k.toNat).length:Int)).toNat=fM l k m:=by
 rw [fM,if_neg aK]
variable {m:List Entry}
def aaY (h:k<0\/(l.length:Int)<k):bh l k m=(0,[]):=if_pos h
variable {j:Nat}
def XU (b:j<=iC (l.drop k.toNat) m) (c:0<=k) (d:k<=(l.length:Int)) (f:j<m.length) (g:(((l.drop k.toNat).length:Nat):Int)<=j):bh l k m=(0,m.drop j):=by
 have:=nW (h:=l.drop k.toNat) (a:=m);have e:iC (l.drop k.toNat) m=j:=by omega
 rw [bh,if_neg aK,e,if_neg aK,if_pos aK]
theorem WU {y:Entry} (b:j<=iC (l.drop k.toNat) m) (d:0<=k) (f:k<=(l.length:Int)) (g:(j:Int)<((l.drop k.toNat).length:Nat)) (a:m[j]? = some y) (h:¬ ((l.drop k.toNat).getD j (ao (Sh.nm NT.entry))).term=y.term):bh l k m=(k+j+1,m.drop j):=by
 have c:(l.drop k.toNat)[j]? = some ((l.drop k.toNat).getD j (ao (Sh.nm NT.entry))):=by
  grind
 have:=oY b c a;have i:=(aar.1 a).1;have e:iC (l.drop k.toNat) m=j:=by
  grind
 rw [bh,if_neg aK,e,if_neg aK,if_neg aK]
theorem adJ {y:Entry} (a:j<=iC (l.drop k.toNat) m) (e:(j:Int)<((l.drop k.toNat).length:Nat)) (b:m[j]? = some y) (c:((l.drop k.toNat).getD j (ao (Sh.nm NT.entry))).term=y.term):j+1<=iC (l.drop k.toNat) m:=by
 have d:(l.drop k.toNat)[j]? = some ((l.drop k.toNat).getD j (ao (Sh.nm NT.entry))):=by
  grind
 exact (oY a d b).1 c
def Zi (a:j<=iC (l.drop k.toNat) m) (b:0<=k) (c:k<=(l.length:Int)) (d:(m.length:Int)<=j):bh l k m=(0,[]):=by
 rw [bh,if_neg aK,if_pos aK]
variable {x:Letter}
theorem abD (h:((((((((((((¬x.kind=1/\¬x.kind=2)/\¬x.kind=3)/\¬x.kind=4)\/cq x.frm 0 4=false)\/cq x.to 0 4=false)\/x.frm=x.to)\/cq x.term 1 1048576=false)\/cq x.bin 1 3=false)\/dZ x.a 64 (decide (x.kind=1) || decide (x.kind=3) || decide (x.kind=4))=false)\/dZ x.b 1048576 (decide (x.kind=1) || decide (x.kind=3))=false)\/dZ x.c 64 (decide (x.kind=3))=false)\/(x.ok=true/\¬x.kind=2)/\¬x.kind=4)\/dZ (x.l.length:Int) 4 (decide (x.kind=3))=false):oF x=false:=by
 unfold oF;grind
theorem acB (e:((x.kind=1\/x.kind=2)\/x.kind=3)\/x.kind=4) (f:cq x.frm 0 4=true) (g:cq x.to 0 4=true) (h:¬x.frm=x.to) (i:cq x.term 1 1048576=true) (n:cq x.bin 1 3=true) (o:dZ x.a 64 (decide (x.kind=1) || decide (x.kind=3) || decide (x.kind=4))=true) (p:dZ x.b 1048576 (decide (x.kind=1) || decide (x.kind=3))=true) (q:dZ x.c 64 (decide (x.kind=3))=true) (r:(x.ok=false\/x.kind=2)\/x.kind=4) (d:dZ (x.l.length:Int) 4 (decide (x.kind=3))=true):oF x=true:=by
 unfold oF;grind
theorem Uu {y:Entry} (h:cq y.term 1 1048576=false\/200<(y.b.length:Int)):eP y=false:=by
 unfold eP;grind
def Tz {y:Entry} (h:cq y.term 1 1048576=true) (a:(y.b.length:Int)<=200):eP y=true:=by
 unfold eP; rw [h,decide_eq_true a]; rfl
variable {k:Nat}
def adD (h:oF x=true) (b:(x.l.length:Int)<=k) (a:(x.l.take k).all eP=true):0=mayL x:=by
 rw [List.take_of_length_le aK] at a;rw [mayL,if_pos ⟨h,a⟩]
theorem abM {y:Entry} (a:x.l[k]? = some y) (h:eP y=false):1=mayL x:=by
 rw [mayL,if_neg];grind
def aeD {y:Entry} (a:x.l[k]? = some y) (h:eP y=true) (b:(x.l.take k).all eP=true):(x.l.take (k+1)).all eP=true:=by
 rw [ai a,ahI,b]; simp [h]
def ajn:(x.l.take 0).all eP=true:=rfl
def adu (h:oF x=false):1=mayL x:=by
 rw [mayL,if_neg (by rintro ⟨a,_⟩; rw [h] at a; cases a)]
def ab4 (x:Letter):List (Nat × LI):=[(7,{ σ:=Nat,F:=fun k=>([(112,one (.fz (.nm .entry) x.l)),(113,one (.int x.l.length)),(114,one (.int k))],[]),J:=fun k=>k<=x.l.length/\oF x=true/\(x.l.take k).all eP=true,μ:=fun k=>x.l.length - k })]
def TJ (l:List Entry) (k:Int) (m:List Entry):List (Nat × LI):=[(5,{ σ:=Nat,F:=fun j=>([(1,one (.int (k))),(2,one (.fz (.nm .entry) (m))),(8,one (.fz (.nm .entry) (l.drop k.toNat))),(22,one (.fz (.nm .entry) (m))),(23,one (.int (m).length)),(24,one (.int j))],[]),J:=fun j=>j<=m.length/\j<=iC (l.drop k.toNat) m,μ:=fun j=>(m).length - j })]
def Gf:Kn:=aM (ae (kC (cL .u8)) (ae (kC cW) ak)) av fun (b,s,_) _=>⟨[],[.c (.bool (.atom ((decide (cz 1 b=s)))))],none,false⟩
theorem UN:CK 143 Gf:=ag fun (b,s,_) _ _=>by
 refine aq iR [] Tryz.func143 (?_:b.length*1<=140737488355328->decide ((↑(cz 1 b):Int)=(↑s:Int))=decide (cz 1 b=s));(repeat' with_reducible first|apply bc|refine ba ?_|intro) <;> first | (first | with_reducible rfl | with_reducible assumption | omega | (refine bz ?_ ?_ <;> omega)) | (simp only [decide_eq_decide]; omega)
def Mx:Kn:=aM (ae (kC (cL .u8)) ak) av fun (x,_) _=>⟨[],[.c (.fz .u8 (((fS x).1))),.c (.int (((fS x).2)))],none,false⟩
theorem ZI:CK 149 Mx:=ag fun (x,_) _ _=>by
 refine aq (xC iR) [] Tryz.func149 (?_:(fun (f:Nat)=>(fun (a:Nat)=>(fun (b:Int)=>(fun (d:Int)=>(fun (e:List (den Sh.u8))=>(fun (c:List (den Sh.u8))=>(fun (g:List (den Sh.u8))=>x.length*a<=(140737488355328:Nat)->(b=(0:Int)\/(4096:Int)<b->(fS x).fst=[]/\(4:Int)=(fS x).snd)/\(¬b=(0:Int)/\b<=(4096:Int)->I64 ((2:Int)+b)/\I64 d/\(0:Int)<=d/\d*(↑a:Int)<=(140737488355328:Int)/\(0:Int)<=b/\(8:Nat)<(64:Nat)/\((0:Nat)+e.length)*a<=(140737488355328:Nat)/\(([]++e).length+x.length)*a<=(140737488355328:Nat)/\(24:Nat)<(32:Nat)/\(16:Nat)<(32:Nat)/\(8:Nat)<(32:Nat)/\(c.length+g.length)*a<=(140737488355328:Nat)/\c++g=(fS x).fst/\(0:Int)=(fS x).snd)) [UInt8.ofNat (cz a c / (2:Nat) ^ (24:Nat)),UInt8.ofNat (cz a c / (2:Nat) ^ (16:Nat)),UInt8.ofNat (cz a c / f),UInt8.ofNat (cz a c)]) ([]++e++x)) [C_ (↑(x.length / f):Int),C_ b]) ((2:Int)+b+(4:Int))) (↑x.length:Int)) (1:Nat)) ((2:Nat) ^ (8:Nat)));(repeat' with_reducible first|apply bc|refine ba ?_|intro)
 all_goals first | exact bm | (simp only [fS,ek,fJ,py,qY,akz] at *; grind)
def vO:Kn:=aM (ae (kC (cL (.nm .entry))) (ae (kC cI) (ae (kC cI) ak))) av fun (l,k,m,_) _=>⟨[],[.c (.fz (.nm .entry) ((fM l k m)))],none,false⟩
def Jm:CK 194 vO:=ag fun (l,k,m,_) _ _=>by
 refine aq iR [] Tryz.func194 (?_:(fun a=>l.length*32<=140737488355328->I64 k->I64 m->((k<0\/(↑l.length:Int)<k)\/m<1->fM l k m=[])/\((0<=k/\k<=(↑l.length:Int))/\1<=m->0<=k/\k<=(↑l.length:Int)/\0<=min m a/\min m a<=a/\List.take (min m a).toNat (List.drop k.toNat l)=fM l k m)) (↑(List.drop k.toNat l).length:Int));(repeat' with_reducible first|apply bc|refine ba ?_|intro)
 all_goals (first | exact bm | exact (Lo ab) | exact (KI ab ab ab))
def GM:Kn:=aM (ae (kT (.nm .stable)) ak) av fun (s,_) _=>⟨[],[.agg ([.int ((s.floor)),.int ((s.term)),.int ((s.vote)),.own 0])],some ([.row 52 (.nm .entry) ((s.log))]),true⟩
def TY:CK 147 GM:=ag fun (s,_) _ _=>by
 refine dF iR [] Tryz.func147 (?_:bR s (dM s s));(repeat' with_reducible first|apply bc|refine ba ?_|intro)
 all_goals (first | exact bm | exact rfl)
def zI:Kn:=aM (ae (kT (.nm .stable)) (ae (kC cI) ak)) av fun (s,t,_) _=>⟨[],[.c (.own 0)],some ([.row 108 (.nm .record) ((aB s t))]),true⟩
def Pf:CK 100 zI:=ag fun (s,t,_) _ _=>by
 refine dF iR [] Tryz.func100 (?_:bR s (I64 t->(t<=s.term->aB s t=[])/\(s.term<t->[Record.mk 2 t 0 []]=aB s t)));(repeat' with_reducible first|apply bc|refine ba ?_|intro)
 all_goals (first | exact bm | (rw [aB,if_pos ab]) | (rw [aB,if_neg aK]) | (simp; done))
def GH:Kn:=aM (ae (kT (.nm .letter)) ak) av fun (x,_) _=>⟨[],[.c (.int ((mayL x)))],none,false⟩
theorem Td:CK 94 GH:=ag fun (x,_) _ _=>by
 refine aq iR (ab4 x) Tryz.func94 (?_:(fun (n:Int)=>(fun (i:Int)=>(fun (p:Int)=>(fun (g:Int)=>(fun (h:Nat)=>(fun (f:Int)=>(fun (q:Prop)=>(fun (e:Int)=>(fun (t:Bool)=>(fun (q0:Bool)=>(fun (o:Bool)=>aS x (((((((((((((¬f=e/\¬q)/\¬f=3)/\¬f=g\/cq x.frm i g=false)\/cq x.to i g=false)\/x.frm=x.to)\/cq x.term e n=false)\/cq x.bin e 3=false)\/o=false)\/dZ x.b n (t || q0)=false)\/dZ x.c 64 q0=false)\/(x.ok=true/\¬q)/\¬f=g)\/dZ p g q0=false->e=mayL x)/\(((((((((((((f=e\/q)\/f=3)\/f=g)/\cq x.frm i g=true)/\cq x.to i g=true)/\¬x.frm=x.to)/\cq x.term e n=true)/\cq x.bin e 3=true)/\o=true)/\dZ x.b n (t || q0)=true)/\dZ x.c 64 q0=true)/\((x.ok=false\/q)\/f=g))/\dZ p g q0=true->∃ (u:Nat),(x.l=x.l/\p=(↑h:Int)/\i=(↑u:Int))/\(u<=h/\oF x=true/\(List.take u x.l).all eP=true)/\∀ (s:Nat),s<=h/\oF x=true/\(List.take s x.l).all eP=true->((↑s:Int)<(↑h:Int)->i<=(↑s:Int)/\(↑s:Int)<p/\∀ (d:Entry),x.l[s]? = some d->I64 d.term->d.b.length*1<=140737488355328->(cq d.term e n=false\/200<(↑d.b.length:Int)->e=mayL x)/\(cq d.term e n=true/\(↑d.b.length:Int)<=200->I64 ((↑s:Int)+e)/\∃ (r:Nat),(x.l=x.l/\(↑h:Int)=(↑h:Int)/\(↑s:Int)+e=(↑r:Int))/\(r <= h/\oF x=true/\(List.take r x.l).all eP=true)/\h - r < h - s))/\((↑h:Int)<=(↑s:Int)->i=mayL x)))) (dZ x.a 64 (t || q0 || decide (f=g)))) (decide (f=3))) (decide (f=e))) 1) (f=2)) x.kind) x.l.length) 4) (↑x.l.length:Int)) 0) 1048576);iterate 3 ((all_goals (repeat' with_reducible first|apply bc|refine ba ?_|intro)); (all_goals try (first | exact bm | exact ajn | exact (adD ab ab ab) | exact (adu (abD ab)) | exact (acB ab ab ab ab ab ab ab ab ab ab ab) | exact (aeD ab (Tz ab ab) ab) | exact (abM ab (Uu ab)))); all_goals try first | refine ⟨‹Nat› + 1,?_⟩ | refine ⟨0,?_⟩)
def BP:Kn:=aM (ae (kC (cL (.nm .entry))) (ae (kC cI) (ae (kC (cL (.nm .entry))) ak))) av fun (l,k,m,_) _=>⟨[],[.c (.int (((bh l k m).1))),.c (.fz (.nm .entry) (((bh l k m).2)))],none,false⟩
theorem Qe:CK 167 BP:=ag fun (l,k,m,_) _ _=>by
 refine aq iR (TJ l k m) Tryz.func167 (?_:(fun (g:Int)=>(fun (n:Nat)=>(fun (d:Nat)=>(fun (e:Int × List Entry)=>(fun (c:Int)=>(fun (f:List (den (Sh.nm NT.entry)))=>l.length*32<=140737488355328->I64 k->m.length*32<=140737488355328->(k<c\/(↑l.length:Int)<k->c=e.fst/\e.snd=[])/\(c<=k/\k<=(↑l.length:Int)->c<=k/\k<=(↑l.length:Int)/\∃ (o:Nat),(k=k/\m=m/\f=f/\m=m/\g=(↑d:Int)/\c=(↑o:Int))/\(o<=d/\o<=n)/\∀ (s:Nat),(fun (h:den (Sh.nm NT.entry))=>(fun (a:Int)=>s<=d/\s<=n->(a<(↑d:Int)->c<=a/\a<g/\∀ (x:Entry),m[s]? = some x->I64 x.term->x.b.length*1<=140737488355328->((↑f.length:Int)<=a->c<=a/\a<=g/\c=e.fst/\List.drop s m=e.snd)/\(a<(↑f.length:Int)->c<=a/\a<(↑f.length:Int)/\(I64 h.term->h.b.length*1<=140737488355328->(¬h.term=x.term->I64 (k+a)/\I64 (k+a+1)/\c<=a/\a<=g/\k+a+1=e.fst/\List.drop s m=e.snd)/\(h.term=x.term->I64 (a+1)/\∃ (i:Nat),(k=k/\m=m/\f=f/\m=m/\(↑d:Int)=(↑d:Int)/\a+1=(↑i:Int))/\(i <= d/\i <= n)/\d - i < d - s))))/\((↑d:Int)<=a->c=e.fst/\e.snd=[])) (↑s:Int)) (f.getD s (ao (Sh.nm NT.entry))))) (List.drop k.toNat l)) 0) (bh l k m)) m.length) (iC (List.drop k.toNat l) m)) (↑m.length:Int));iterate 3 ((all_goals (repeat' with_reducible first|apply bc|refine ba ?_|intro)); (all_goals try (first | exact bm | exact (congrArg Prod.fst (aaY ab)).symm | exact (congrArg Prod.fst (XU ab ab ab aK ab)).symm | exact (congrArg Prod.fst (WU ab ab ab ab ab ab)).symm | exact (congrArg Prod.fst (Zi ab ab ab ab)).symm | exact (congrArg Prod.snd (aaY ab)).symm | exact (congrArg Prod.snd (XU ab ab ab aK ab)).symm | exact (congrArg Prod.snd (WU ab ab ab ab ab ab)).symm | exact (congrArg Prod.snd (Zi ab ab ab ab)).symm | exact (congrArg Prod.snd (aaY ab)) | exact (congrArg Prod.snd (Zi ab ab ab ab)) | exact (adJ ab ab ab ab))); all_goals try first | refine ⟨‹Nat› + 1,?_⟩ | refine ⟨0,?_⟩)
def adH:bF:=(aP 167 BP (aP 94 GH (aP 100 zI (aP 147 GM (aP 194 vO (aP 149 Mx (aP 143 Gf aeW)))))))
def gM:aw Tryz.prog (aj tyT) adH:=(ah Qe (ah Td (ah Pf (ah TY (ah Jm (ah ZI (ah UN iR)))))))
variable {r:Route}
def qM {s:Stable} (h:r.next<1\/(s.log.length:Int)+1<r.next):gu s r=(cK,1):=if_pos h
def qN {s:Stable} (a:1<=r.next) (b:r.next<=(s.log.length:Int)+1) (h:¬ mayL (Letter.mk 3 r.frm r.to s.term (r.next - 1) (cV s.log (r.next - 1)) r.commit r.bin false (fM s.log (r.next - 1) 4))=0):gu s r=(cK,mayL (qi s r)):=by
 rw [gu,if_neg aK,if_pos (show ¬ mayL (qi s r)=0 from h)]
def sa {s:Stable} (a:1<=r.next) (b:r.next<=(s.log.length:Int)+1) (h:mayL (Letter.mk 3 r.frm r.to s.term (r.next - 1) (cV s.log (r.next - 1)) r.commit r.bin false (fM s.log (r.next - 1) 4))=0):gu s r=(qi s r,0):=by
 rw [gu,if_neg aK,if_neg (acY.2 (show mayL (qi s r)=0 from h))]
variable {b:List UInt8}
def VE (h:(b.length:Int)<2):az b=([],0,2):=if_pos aK
def TL (h:2<=(b.length:Int)) (a:bD b=0\/4096<bD b):az b=([],0,3):=by rw [az,if_neg aK,if_pos a]
def SX (h:2<=(b.length:Int)) (c:¬ bD b=0) (d:bD b<=4096) (a:(b.length:Int)<2+bD b+4):az b=([],0,2):=by rw [az,if_neg aK,if_neg aK,if_pos a]
variable {x:UInt8}
def KN {l:List UInt8} (h:l[k]? = some x):(yQ (l.take k)*2 ^ 8) % 4294967296 ||| x.toNat=yQ (l.take (k+1)):=by
 rw [ai h]; simp only [yQ,List.foldl_append]; rfl
variable {n:Int}
def ajM (a:0<=n):(b.drop (2+n).toNat).take ((2+n+4).toNat - (2+n).toNat)=(b.drop (2+n).toNat).take 4:=by
 congr 1; omega
def aj_ (a:0<=n) (h:2+n+4<=(b.length:Int)):(((b.drop (2+n).toNat).take ((2+n+4).toNat - (2+n).toNat)).length:Int)=4:=by
 rw [List.length_take,List.length_drop]; omega
def ajO (a:(k:Int)<4) (c:0<=n) (h:2+n+4<=(b.length:Int)):(k:Int)<(((b.drop (2+n).toNat).take 4).length:Nat):=by
 rw [List.length_take,List.length_drop]; omega
def Ws (a:decide (cz 1 ((b.drop 0).take ((2+bD b).toNat - 0))=yQ (((b.drop (2+bD b).toNat).take 4).take k))=false) (c:(4:Int)<=k) (h:2<=(b.length:Int)) (d:¬ bD b=0) (e:bD b<=4096) (f:2+bD b+4<=(b.length:Int)):az b=([],0,3):=by
 have a:=aj7 a;rw [ak3,akW,akT,akK aK] at a;rw [az,if_neg aK,if_neg aK,if_neg aK,if_neg a]
def aaz (a:decide (cz 1 ((b.drop 0).take ((2+bD b).toNat - 0))=yQ (((b.drop (2+bD b).toNat).take 4).take k))=true) (c:(4:Int)<=k) (h:2<=(b.length:Int)) (d:¬ bD b=0) (e:bD b<=4096) (f:2+bD b+4<=(b.length:Int)):az b=((b.drop 2).take ((2+bD b).toNat - 2),2+bD b+4,0):=by
 have a:=acW a;rw [ak3,akW,akT,akK aK] at a;rw [az,if_neg aK,if_neg aK,if_neg aK,if_pos a]
def Zd (b:List UInt8):List (Nat × LI):=[(11,{ σ:=Nat,F:=fun k=>([(0,one (.fz .u8 (b))),(6,one (.int (2+bD b))),(7,one (.xx (.w (yQ (((b.drop (2+bD b).toNat).take 4).take k))) [])),(40,one (.fz .u8 ((b.drop (2+bD b).toNat).take 4))),(41,one (.int 4)),(42,one (.int k))],[]),J:=fun k=>k<=4,μ:=fun k=>4 - k })]
def GL:Kn:=aM (ae (kC (cL .u8)) ak) av fun (b,_) _=>⟨[],[.c (.fz .u8 (((az b).1))),.c (.int (((az b).2.1))),.c (.int (((az b).2.2)))],none,false⟩
theorem VT:CK 83 GL:=ag fun (b,_) _ _=>by
 refine aq gM (Zd b) Tryz.func83 (?_:(fun i=>(fun o=>(fun y=>(fun J=>(fun K=>(fun w=>(fun p=>(fun g=>(fun t=>(fun a=>(fun z=>(fun u=>(fun v=>(fun A=>(fun c=>(fun B=>(fun C=>(fun f=>(fun h=>(fun D=>(fun d=>(fun e=>(fun F=>b.length*1<=140737488355328->(p<u->A)/\(u<=p->a<=a/\a<p/\i<64/\I64 v/\a<=1/\1<p/\a<=v/\a<=y/\(D=a\/4096<D->z)/\(¬D=a/\D<=4096->I64 d/\I64 e/\(p<e->A)/\(e<=p->I64 e/\a<=d/\d<=e/\e<=p/\∃ I,(b=b/\d=c/\o=yQ (List.take I h)/\F=List.take g f/\(↑F.length:Int)=t/\a=(↑I:Int))/\I<=g/\∀ (s:Nat),s<=g->((↑s:Int)<t->a<=(↑s:Int)/\(↑s:Int)<(↑(List.take g f).length:Int)/\∀ (x:UInt8),(List.take g f)[s]? = some x->i<32/\I64 ((↑s:Int)+1)/\∃ G,(b=b/\c=c/\yQ (List.take s h)*2 ^ i % 4294967296 ||| x.toNat=yQ (List.take G h)/\List.take g f=List.take g f/\t=t/\(↑s:Int)+1=(↑G:Int))/\G <= g/\g - G < g - s)/\(t<=(↑s:Int)->a<=a/\a<=c/\c<=c/\c<=p/\(decide (C=yQ (List.take s h))=false->z)/\(decide (C=yQ (List.take s h))=true->a<=u/\u<=c/\c<=c/\c<=p/\(B.length*1<=140737488355328->I64 (c+t)/\B=(az b).fst/\c+t=w.fst/\a=w.snd))))))) (List.take (e.toNat - d.toNat) (List.drop d.toNat b))) (d+t)) (u+D)) (TA v y)) (List.take g f)) (List.drop c.toNat b)) (cz 1 (List.take (c.toNat - o) (List.drop o b)))) (List.take (c.toNat - 2) (List.drop 2 b))) (u+bD b)) (J/\a=w.fst/\u=w.snd)) (K*u ^ i)) (2:Int)) (J/\a=w.fst/\3=w.snd)) (0:Int)) (4:Int)) (4:Nat)) (↑b.length:Int)) (az b).snd) (↑(UInt8.toNat (b.getD o (ao Sh.u8))):Int)) ((az b).fst=[])) (↑(UInt8.toNat (b.getD 1 (ao Sh.u8))):Int)) (0:Nat)) (8:Nat));have H:=oy b;have L:=(b.getD 0 (ao .u8):UInt8).toNat_lt;have N:=(b.getD 1 (ao .u8):UInt8).toNat_lt;dsimp only [bD] at H;iterate 3 ((all_goals (repeat' with_reducible first|apply bc|refine ba ?_|intro)); (all_goals try (first | exact bm | exact (congrArg Prod.fst (VE ab)).symm | exact (congrArg (fun q=>q.2.1) (VE ab)).symm | exact (congrArg (fun q=>q.2.2) (VE ab)).symm | exact (congrArg Prod.fst (TL ab ab)).symm | exact (congrArg (fun q=>q.2.1) (TL ab ab)).symm | exact (congrArg (fun q=>q.2.2) (TL ab ab)).symm | exact (congrArg Prod.fst (SX ab ab ab ab)).symm | exact (congrArg (fun q=>q.2.1) (SX ab ab ab ab)).symm | exact (congrArg (fun q=>q.2.2) (SX ab ab ab ab)).symm | exact (congrArg Prod.fst (Ws ab ab ab ab ab ab)).symm | exact (congrArg (fun q=>q.2.1) (Ws ab ab ab ab ab ab)).symm | exact (congrArg (fun q=>q.2.2) (Ws ab ab ab ab ab ab)).symm | exact (congrArg Prod.fst (aaz ab ab ab ab ab ab)).symm | exact (congrArg (fun q=>q.2.1) (aaz ab ab ab ab ab ab)).symm | exact (congrArg (fun q=>q.2.2) (aaz ab ab ab ab ab ab)).symm | exact (congrArg Prod.fst (VE ab)) | exact (congrArg Prod.fst (TL ab ab)) | exact (congrArg Prod.fst (SX ab ab ab ab)) | exact (congrArg Prod.fst (Ws ab ab ab ab ab ab)) | exact rfl | exact (ajM H) | exact (aj_ H ab) | exact (ajO ab H ab) | exact (KN ab) | (dsimp only [bD]; omega) | (refine bz ?_ ?_ <;> dsimp only [bD] <;> omega) | (rw [List.length_take,List.length_drop]; omega))); all_goals try first | refine ⟨‹Nat› + 1,?_⟩ | refine ⟨0,?_⟩)
def wU:Kn:=aM (ae (kC (aZ 0 0)) (ae (kT (.nm .record)) ak)) (aH (dQ 64 (ax cI (ax cI (ax cI (ax (eV 1) dL))))) (aH (e_ 52 (.nm .entry)) av)) fun (_,r,_) ((a,d,e,_,_),f,_)=>⟨[],[.c (.bool (.atom (((dD (Stable.mk a d e f) r).isSome))))],some ([.box 64 ([.int ((((dD (Stable.mk a d e f) r).getD (Stable.mk a d e f)).floor)),.int ((((dD (Stable.mk a d e f) r).getD (Stable.mk a d e f)).term)),.int ((((dD (Stable.mk a d e f) r).getD (Stable.mk a d e f)).vote)),.own 1]),.row 52 (.nm .entry) ((((dD (Stable.mk a d e f) r).getD (Stable.mk a d e f)).log))]),false⟩
theorem Jr:CK 214 wU:=ag fun (_,r,_) ((d,e,f,_,_),g,_) _=>by
 refine bw gM [] Tryz.func214 (?_:(fun c=>df r ((r.a<d->false=(dD c r).isSome/\dM c ((dD c r).getD c))/\(d<=r.a->true=(dD c r).isSome/\dM (Stable.mk r.a e f g) ((dD c r).getD c)))) (Stable.mk d e f g));(repeat' with_reducible first|apply bc|refine ba ?_|intro)
 all_goals first | exact bm | (simp only [dD]; grind) | (simp only [List.length_cons,List.length_nil]; omega)
def Aa:Kn:=aM (ae (kC (aZ 0 0)) (ae (kT (.nm .record)) ak)) (aH (dQ 64 (ax cI (ax cI (ax cI (ax (eV 1) dL))))) (aH (e_ 52 (.nm .entry)) av)) fun (_,r,_) ((a,d,e,_,_),f,_)=>⟨[],[.c (.bool (.atom (((eT (Stable.mk a d e f) r).isSome))))],some ([.box 64 ([.int ((((eT (Stable.mk a d e f) r).getD (Stable.mk a d e f)).floor)),.int ((((eT (Stable.mk a d e f) r).getD (Stable.mk a d e f)).term)),.int ((((eT (Stable.mk a d e f) r).getD (Stable.mk a d e f)).vote)),.own 1]),.row 52 (.nm .entry) ((((eT (Stable.mk a d e f) r).getD (Stable.mk a d e f)).log))]),false⟩
theorem MH:CK 215 Aa:=ag fun (_,r,_) ((f,d,e,_,_),g,_) _=>by
 refine bw gM [] Tryz.func215 (?_:(fun c=>df r ((r.a<d\/(r.a=d/\¬e=0)/\¬e=r.b->false=(eT c r).isSome/\dM c ((eT c r).getD c))/\(d<=r.a/\((¬r.a=d\/e=0)\/e=r.b)->true=(eT c r).isSome/\dM (Stable.mk f r.a r.b g) ((eT c r).getD c)))) (Stable.mk f d e g));(repeat' with_reducible first|apply bc|refine ba ?_|intro)
 all_goals first | exact bm | (simp only [eT]; grind) | (simp only [List.length_cons,List.length_nil]; omega)
def Fo:Kn:=aM (ae (kC (aZ 0 0)) (ae (kT (.nm .record)) ak)) (aH (dQ 64 (ax cI (ax cI (ax cI (ax (eV 1) dL))))) (aH (e_ 52 (.nm .entry)) av)) fun (_,r,_) ((d,e,f,_,_),g,_)=>⟨[1<=r.a/\r.a<=64],[.c (.bool (.atom (((fi (Stable.mk d e f g) r).isSome))))],some ([.box 64 ([.int ((((fi (Stable.mk d e f g) r).getD (Stable.mk d e f g)).floor)),.int ((((fi (Stable.mk d e f g) r).getD (Stable.mk d e f g)).term)),.int ((((fi (Stable.mk d e f g) r).getD (Stable.mk d e f g)).vote)),.own 1]),.row 52 (.nm .entry) ((((fi (Stable.mk d e f g) r).getD (Stable.mk d e f g)).log))]),false⟩
theorem VQ:CK 217 Fo:=ag fun (_,r,_) ((f,g,h,_,_),d,_) i=>by
 have o:=cg i;refine bw (yj gM) [] Tryz.func217 (?_:(fun e=>(fun c=>df r (((↑d.length:Int)<r.a->false=(fi c r).isSome/\dM c ((fi c r).getD c))/\(r.a<=(↑d.length:Int)->I64 e/\(0<=e/\e<=(↑d.length:Int))/\true=(fi c r).isSome/\dM (Stable.mk f g h (List.take e.toNat d)) ((fi c r).getD c)))) (Stable.mk f g h d)) (r.a - 1));(repeat' with_reducible first|apply bc|refine ba ?_|intro)
 all_goals first | exact bm | (simp only [fi]; grind) | (simp only [List.length_cons,List.length_nil]; omega)
def wA:Kn:=aM (ae (kC (aZ 0 0)) (ae (kT (.nm .record)) ak)) (aH (dQ 64 (ax cI (ax cI (ax cI (ax (eV 1) dL))))) (aH (e_ 52 (.nm .entry)) av)) fun (_,r,_) ((d,e,f,_,_),a,_)=>⟨[a.length<=1000000,r.x.length<=200],[.c (.bool (.atom (((du (Stable.mk d e f a) r).isSome))))],some ([.box 64 ([.int ((((du (Stable.mk d e f a) r).getD (Stable.mk d e f a)).floor)),.int ((((du (Stable.mk d e f a) r).getD (Stable.mk d e f a)).term)),.int ((((du (Stable.mk d e f a) r).getD (Stable.mk d e f a)).vote)),.own 1]),.row 52 (.nm .entry) ((((du (Stable.mk d e f a) r).getD (Stable.mk d e f a)).log))]),false⟩
theorem Kr:CK 216 wA:=ag fun (_,r,_) ((f,g,h,_,_),d,_) i=>by
 have p:=cg i;have q:=cg (eU i);refine bw gM [] Tryz.func216 (?_:(fun o=>(fun e=>(fun c=>df r (I64 e/\(¬r.a=e->false=(du c r).isSome/\dM c ((du c r).getD c))/\(r.a=e->(o->(d.length+[Entry.mk r.b r.x].length)*32<=140737488355328)/\(o->true=(du c r).isSome/\dM (Stable.mk f g h (d++[Entry.mk r.b r.x])) ((du c r).getD c))))) (Stable.mk f g h d)) ((↑d.length:Int)+1)) (r.x.length*1<=140737488355328));(repeat' with_reducible first|apply bc|refine ba ?_|intro)
 all_goals first | exact bm | (simp only [du]; grind) | (simp only [List.length_cons,List.length_nil]; omega)
def UE :Sat Tryz.prog (aj tyT) 148 [] [] ⟨[],[.c (.xx (.km bU) [])],none,false⟩:=JN
def HF:Kn:=aM ak av fun _ _=>⟨[],[.c (.xx (.km bU) [])],none,false⟩
def Tg:CK 148 HF:=ag fun _ _ _=>UE
def EP:Kn:=aM (ae (kC (aZ 0 0)) (ae (kC (aZ 1 0)) (ae (kC (aZ 2 0)) ak))) (aH (yR 40 (.nm .letter)) (aH (yR 64 (.nm .stable)) (aH (dQ 3 (ax cI dL)) av))) fun _ (x,s,(a,_),_)=>⟨[],[.c (.bool (.atom ((decide (s.term<x.term) || decide (s.vote=0) || decide (s.vote=a)))))],none,false⟩
def Tu:CK 169 EP:=ag fun _ (x,s,(a,_),_) _=>by
 refine aq gM [] Tryz.func169 (?_:(fun c=>c=c) (decide (s.term<x.term) || decide (s.vote=0) || decide (s.vote=a)));(repeat' with_reducible first|apply bc|refine ba ?_|intro)
 all_goals first | exact bm | rfl
def Ay:Kn:=aM (ae (kT (.nm .stable)) (ae (kC cI) ak)) av fun (s,t,_) _=>⟨[s.term<=1048576],[.c (.fz (.nm .record) (((aV s t).1))),.c (.int (((aV s t).2)))],none,false⟩
theorem NX:CK 48 Ay:=ag fun (s,t,_) _ a=>by
 have c:=cg a;refine aq gM [] Tryz.func48 (?_:bR s (I64 t->(t<0\/5<=t->(aV s t).fst=[]/\1=(aV s t).snd)/\(0<=t/\t<5->(1048576<=s.term->(aV s t).fst=[]/\4=(aV s t).snd)/\(s.term<1048576->I64 (s.term+1)/\I64 (t+1)/\[Record.mk 2 (s.term+1) (t+1) []]=(aV s t).fst/\0=(aV s t).snd))));(repeat' with_reducible first|apply bc|refine ba ?_|intro)
 all_goals first | exact bm | (simp only [aV]; grind) | (have q:=(by with_reducible assumption:I64 s.term); exact bz (by have:=q.1; omega) (by have:=q.2; omega)) | (simp only [List.length_cons,List.length_nil]; omega)
def EI:Kn:=aM (ae (kT (.nm .stable)) (ae (kT (.nm .route)) ak)) av fun (s,r,_) _=>⟨[],[.agg (cellsOf (.nm .letter) ((gu s r).1)),.c (.int (((gu s r).2)))],none,false⟩
def SV:CK 120 EI:=ag fun (s,r,_) _ _=>by
 refine aq gM [] Tryz.func120 (?_:(fun f=>(fun i=>(fun g=>(fun e=>(fun d=>(fun h=>bR s (VC r ((f<=r.next->I64 i)/\(r.next<f\/i<r.next->e=d.kind/\e=d.frm/\e=d.to/\e=d.term/\e=d.a/\e=d.b/\e=d.c/\e=d.bin/\false=d.ok/\d.l=[]/\f=(gu s r).snd)/\(f<=r.next/\r.next<=i->I64 g/\(I64 (cV s.log g)->(fM s.log g 4).length*32<=140737488355328->I64 (mayL h)->(¬mayL h=e->e=d.kind/\e=d.frm/\e=d.to/\e=d.term/\e=d.a/\e=d.b/\e=d.c/\e=d.bin/\false=d.ok/\d.l=[]/\mayL h=(gu s r).snd)/\(mayL h=e->iH h d (e=(gu s r).snd))))))) (Letter.mk 3 r.frm r.to s.term g (cV s.log g) r.commit r.bin false (fM s.log g 4))) (gu s r).fst) (0:Int)) (r.next - f)) ((↑s.log.length:Int)+f)) (1:Int));(repeat' with_reducible first|apply bc|refine ba ?_|intro)
 all_goals (first | exact bm | exact (congrArg (fun q=>q.2) (qM ab)).symm | exact (congrArg (fun q=>q.1.kind) (qM ab)).symm | exact (congrArg (fun q=>q.1.frm) (qM ab)).symm | exact (congrArg (fun q=>q.1.to) (qM ab)).symm | exact (congrArg (fun q=>q.1.term) (qM ab)).symm | exact (congrArg (fun q=>q.1.a) (qM ab)).symm | exact (congrArg (fun q=>q.1.b) (qM ab)).symm | exact (congrArg (fun q=>q.1.c) (qM ab)).symm | exact (congrArg (fun q=>q.1.bin) (qM ab)).symm | exact (congrArg (fun q=>q.1.ok) (qM ab)).symm | exact (congrArg (fun q=>q.1.l) (qM ab)).symm | exact (congrArg (fun q=>q.2) (qN ab ab ab)).symm | exact (congrArg (fun q=>q.1.kind) (qN ab ab ab)).symm | exact (congrArg (fun q=>q.1.frm) (qN ab ab ab)).symm | exact (congrArg (fun q=>q.1.to) (qN ab ab ab)).symm | exact (congrArg (fun q=>q.1.term) (qN ab ab ab)).symm | exact (congrArg (fun q=>q.1.a) (qN ab ab ab)).symm | exact (congrArg (fun q=>q.1.b) (qN ab ab ab)).symm | exact (congrArg (fun q=>q.1.c) (qN ab ab ab)).symm | exact (congrArg (fun q=>q.1.bin) (qN ab ab ab)).symm | exact (congrArg (fun q=>q.1.ok) (qN ab ab ab)).symm | exact (congrArg (fun q=>q.1.l) (qN ab ab ab)).symm | exact (congrArg (fun q=>q.2) (sa ab ab ab)).symm | exact (congrArg (fun q=>q.1.kind) (sa ab ab ab)).symm | exact (congrArg (fun q=>q.1.frm) (sa ab ab ab)).symm | exact (congrArg (fun q=>q.1.to) (sa ab ab ab)).symm | exact (congrArg (fun q=>q.1.term) (sa ab ab ab)).symm | exact (congrArg (fun q=>q.1.a) (sa ab ab ab)).symm | exact (congrArg (fun q=>q.1.b) (sa ab ab ab)).symm | exact (congrArg (fun q=>q.1.c) (sa ab ab ab)).symm | exact (congrArg (fun q=>q.1.bin) (sa ab ab ab)).symm | exact (congrArg (fun q=>q.1.ok) (sa ab ab ab)).symm | exact (congrArg (fun q=>q.1.l) (sa ab ab ab)).symm | exact (congrArg (fun q=>q.1.l) (qM ab)) | exact (congrArg (fun q=>q.1.l) (qN ab ab ab)))
def aed:bF:=(aP 120 EI (aP 48 Ay (aP 169 EP (aP 148 HF (aP 216 wA (aP 217 Fo (aP 215 Aa (aP 214 wU (aP 83 GL adH)))))))))
def nF:aw Tryz.prog (aj tyT) aed:=(ah SV (ah NX (ah Tu (ah Tg (ah Kr (ah VQ (ah MH (ah Jr (ah VT gM)))))))))
variable {r:Record}
theorem Vr (h:((((((dX bU r.kind).isSome=false\/r.a<(((dX bU r.kind).getD kz).getD 0 KC.nf).int)\/(((dX bU r.kind).getD kz).getD 1 KC.nf).int<r.a)\/r.b<0)\/(((dX bU r.kind).getD kz).getD 3 KC.nf).int<r.b)\/(((dX bU r.kind).getD kz).getD 4 KC.nf).int<(r.x.length:Int))):ay r=([],1):=by
 rw [ay,if_neg];intro e;simp only [recOk,Bool.and_eq_true] at e;obtain ⟨⟨⟨⟨⟨i,c⟩,d⟩,o⟩,f⟩,g⟩:=e;unfold XP at c d f g;grind
def Bp (c:(dX bU r.kind).isSome=true) (d:(((dX bU r.kind).getD kz).getD 0 KC.nf).int<=r.a) (e:r.a<=(((dX bU r.kind).getD kz).getD 1 KC.nf).int) (f:0<=r.b) (g:r.b<=(((dX bU r.kind).getD kz).getD 3 KC.nf).int) (h:(r.x.length:Int)<=(((dX bU r.kind).getD kz).getD 4 KC.nf).int):recOk r=true:=by
 simp only [recOk,Bool.and_eq_true,decide_eq_true_eq];exact ⟨⟨⟨⟨⟨c,d⟩,e⟩,f⟩,g⟩,h⟩
def dj (h:recOk r=true):1<=r.kind/\r.kind<=4/\0<=r.a/\r.a<=1048576/\0<=r.b/\r.b<=1048576/\r.x.length<=200/\(bj r.a.toNat).length<=10/\(bj r.b.toNat).length<=10:=by
 have c:=cO (n:=r.a.toNat) (by rcases bM.1 h with h | h | h | h <;> omega);have d:=cO (n:=r.b.toNat) (by rcases bM.1 h with h | h | h | h <;> omega);have e:r.x.length<=200:=by rcases bM.1 h with h | h | h | h <;> first | omega | simp [h]
 rcases bM.1 h with h | h | h | h <;> omega
def qQ (h:recOk r=true):ay r=(recPut r,0):=by rw [ay,if_pos h]
def ahr (h:recOk r=true) (c:(((dX bU r.kind).getD kz).getD 2 KC.nf).bool=true):[UInt8.ofNat r.kind.toNat]++bj r.a.toNat++bj r.b.toNat++r.x=(ay r).1:=by
 rw [qQ h,recPut,if_pos (show qU r.kind=true from c)]
def aje (h:recOk r=true) (c:(((dX bU r.kind).getD kz).getD 2 KC.nf).bool=false):[UInt8.ofNat r.kind.toNat]++bj r.a.toNat++r.x=(ay r).1:=by
 rw [qQ h,recPut,if_neg (by rw [show qU r.kind=false from c]; decide),ads]
def NQ (b:List UInt8):(((takeF b).2.1:Nat):Int)<=(b.length:Nat):=by
 have:=(oW (l:=b) (k:=0) (n:=0) aK).2;show (((bK 0 0 b).2.1:Nat):Int)<=_;omega
def abO (a:b[0]? = some x):(b.getD 0 (ao .u8):UInt8)=x:=by
 rw [List.getD_eq_getElem?_getD,a]; rfl
def Vh (a:b[0]? = some x):¬ b.length=0:=by
 have:=(aar.1 a).1; omega
def uM (h:(b.length:Int)=0):bG b=(kv,false):=if_pos aK
def uP (a:b[0]? = some x) (c:¬ (takeF (b.drop 1)).2.2=0):bG b=(kv,false):=by
 rw [bG,if_neg (Vh a),if_pos c]
def u_ (a:b[0]? = some x) (c:(takeF (b.drop 1)).2.2=0) (d:(((dX bU (x.toNat:Int)).getD kz).getD 2 KC.nf).bool=true) (e:¬ (takeF ((b.drop 1).drop (takeF (b.drop 1)).2.1)).2.2=0):bG b=(kv,false):=by
 rw [bG,if_neg (Vh a),if_neg (acY.2 c),abO a,if_pos (show qU (x.toNat:Int)=true from d),if_pos e]
def uY (a:b[0]? = some x) (c:(takeF (b.drop 1)).2.2=0) (d:(((dX bU (x.toNat:Int)).getD kz).getD 2 KC.nf).bool=true) (e:(takeF ((b.drop 1).drop (takeF (b.drop 1)).2.1)).2.2=0):bG b=(⟨(x.toNat:Int),dq (takeF (b.drop 1)).1,dq (takeF ((b.drop 1).drop (takeF (b.drop 1)).2.1)).1,((b.drop 1).drop (takeF (b.drop 1)).2.1).drop (takeF ((b.drop 1).drop (takeF (b.drop 1)).2.1)).2.1⟩,true):=by
 rw [bG,if_neg (Vh a),if_neg (acY.2 c),abO a,if_pos (show qU (x.toNat:Int)=true from d),if_neg (acY.2 e)]
def uO (a:b[0]? = some x) (c:(takeF (b.drop 1)).2.2=0) (d:(((dX bU (x.toNat:Int)).getD kz).getD 2 KC.nf).bool=false):bG b=(⟨(x.toNat:Int),dq (takeF (b.drop 1)).1,0,(b.drop 1).drop (takeF (b.drop 1)).2.1⟩,true):=by
 rw [bG,if_neg (Vh a),if_neg (acY.2 c),abO a,if_neg (by rw [show qU (x.toNat:Int)=false from d]; decide)]
variable {x:Letter}
def Kh {s:Stable} (h:¬ mayL x=0\/¬ x.kind=1):aO s x=([],false,1):=if_pos h
def Ih {s:Stable} (c:mayL x=0) (d:x.kind=1) (h:(x.term<s.term\/(decide (s.term<x.term) || decide (s.vote=0) || decide (s.vote=x.frm+1))=false)\/jO s.log x.a x.b=false):aO s x=(aB s x.term,false,0):=by
 rw [aO,if_neg aK]; exact if_pos h
theorem af2 {s:Stable} (d:mayL x=0) (e:x.kind=1) (f:s.term<=x.term) (c:(decide (s.term<x.term) || decide (s.vote=0) || decide (s.vote=x.frm+1))=true) (g:jO s.log x.a x.b=true):aO s x=if x.term=s.term/\s.vote=x.frm+1 then ([],true,0) else ([⟨2,x.term,x.frm+1,[]⟩],true,0):=by
 rw [aO,if_neg aK,if_neg];rintro ((h | h) | h)
 ·omega
 ·rw [show EK s x=true from c] at h; cases h
 grind
def Jb {s:Stable} (c:mayL x=0) (d:x.kind=1) (e:s.term<=x.term) (f:(decide (s.term<x.term) || decide (s.vote=0) || decide (s.vote=x.frm+1))=true) (g:jO s.log x.a x.b=true) (h:x.term=s.term) (i:s.vote=x.frm+1):aO s x=([],true,0):=by
 rw [af2 c d e f g,if_pos ⟨h,i⟩]
def ID {s:Stable} (c:mayL x=0) (d:x.kind=1) (e:s.term<=x.term) (f:(decide (s.term<x.term) || decide (s.vote=0) || decide (s.vote=x.frm+1))=true) (g:jO s.log x.a x.b=true) (h:¬ x.term=s.term\/¬ s.vote=x.frm+1):aO s x=([⟨2,x.term,x.frm+1,[]⟩],true,0):=by
 rw [af2 c d e f g,if_neg aK]
def ew (s:Stable) (x:Letter) (k:Nat):List Record:=aB s x.term++(if (bh s.log x.a x.l).1=0 then [] else [⟨4,(bh s.log x.a x.l).1,0,[]⟩])++fb (x.a+x.l.length - (bh s.log x.a x.l).2.length+1) ((bh s.log x.a x.l).2.take k)
theorem tI:∀ {n:Int} {l:List Entry} {y:Entry},fb n (l++[y])=fb n l++[⟨3,n+l.length,y.term,y.b⟩]
 | n,[],y=>by simp [fb]
 | n,z :: l,y=>by
  rw [List.cons_append,fb,tI,fb,List.cons_append,List.length_cons];simp; omega
theorem vH:∀ {n:Int} {l:List Entry},(fb n l).length=l.length
 | _,[]=>rfl
 | n,_ :: l=>by rw [fb,List.length_cons,List.length_cons,vH]
def akA {s:Stable} (h:¬ (bh s.log x.a x.l).1=0):aB s x.term++[Record.mk 4 (bh s.log x.a x.l).1 0 []]=ew s x 0:=by
 rw [ew,if_neg h,ak4,fb,ads]
def ahJ {s:Stable} (h:(bh s.log x.a x.l).1=0):aB s x.term=ew s x 0:=by
 rw [ew,if_pos h,ak4,fb,ads,ads]
def akq {s:Stable} {y:Entry} (h:(bh s.log x.a x.l).2[k]? = some y):ew s x k++[Record.mk 3 (x.a+x.l.length - (bh s.log x.a x.l).2.length+k+1) y.term y.b]=ew s x (k+1):=by
 have c:=(aar.1 h).1;rw [ew,ew,ai h,tI,List.append_assoc,List.length_take,agq aK];congr 4; omega
def AY {s:Stable} (h:(¬ mayL x=0\/¬ x.kind=3)\/64<x.a+x.l.length):aE s x=([],false,0,1):=if_pos h
def zb {s:Stable} (d:mayL x=0) (e:x.kind=3) (f:x.a+x.l.length<=64) (c:x.term<s.term):aE s x=([],false,0,0):=by
 rw [aE,if_neg aK,if_pos c]
def Ao {s:Stable} (d:mayL x=0) (e:x.kind=3) (f:x.a+x.l.length<=64) (g:s.term<=x.term) (c:decide (cV s.log x.a=x.b)=false):aE s x=(aB s x.term,false,0,0):=by
 rw [aE,if_neg aK,if_neg aK,if_neg (aj7 c)]
def BX {s:Stable} (d:mayL x=0) (e:x.kind=3) (f:x.a+x.l.length<=64) (g:s.term<=x.term) (c:decide (cV s.log x.a=x.b)=true) (h:((bh s.log x.a x.l).2.length:Int)<=k):aE s x=(ew s x k,true,x.a+x.l.length,0):=by
 rw [aE,if_neg aK,if_neg aK,if_pos (acW c),ew,List.take_of_length_le aK]; rfl
theorem vJ {k:Int}:(bh l k m).2.length<=m.length/\0<=(bh l k m).1/\(bh l k m).1<=l.length+1:=by
 unfold bh;grind
theorem aco {s:Stable}:(ew s x k).length<=2+x.l.length:=by
 have:=(vJ (l:=s.log) (m:=x.l) (k:=x.a)).1;simp only [ew,List.length_append,vH];have c:(aB s x.term).length<=1:=by unfold aB; split <;> simp
 grind
theorem adh {s:Stable} (h:mayL x=0):((ew s x k).length+[r].length)*48<=140737488355328:=by
 have:=fP h;have:=aco (s:=s) (x:=x) (k:=k);grind
theorem adx {s:Stable}:((aB s n).length+[r].length)*48<=140737488355328:=by
 have a:(aB s n).length<=1:=by unfold aB; split <;> simp
 grind
def Zs (s:Stable) (x:Letter):List (Nat × LI):=[(13,{ σ:=Nat,F:=fun k=>([(4,one (.own 0)),(6,one (.int (x.a+x.l.length))),(9,one (.fz (.nm .entry) (bh s.log x.a x.l).2)),(70,one (.fz (.nm .entry) (bh s.log x.a x.l).2)),(71,one (.int (bh s.log x.a x.l).2.length)),(72,one (.int k))],[.row 108 (.nm .record) ((ew s x k))]),J:=fun k=>k<=(bh s.log x.a x.l).2.length,μ:=fun k=>(bh s.log x.a x.l).2.length - k })]
def GO:Kn:=aM (ae (kT (.nm .record)) ak) av fun (r,_) _=>⟨[],[.c (.fz .u8 (((ay r).1))),.c (.int (((ay r).2)))],none,false⟩
def Ga:CK 145 GO:=ag fun (r,_) _ _=>by
 refine aq nF [] Tryz.func145 (?_:(fun e=>(fun c=>(fun f=>(fun d=>df r (((((((dX bU r.kind).isSome=false\/r.a<(d.getD 0 KC.nf).int)\/(d.getD e KC.nf).int<r.a)\/r.b<c)\/(d.getD 3 KC.nf).int<r.b)\/(d.getD 4 KC.nf).int<(↑r.x.length:Int)->(ay r).fst=[]/\1=(ay r).snd)/\((((((dX bU r.kind).isSome=true/\(d.getD 0 KC.nf).int<=r.a)/\r.a<=(d.getD e KC.nf).int)/\c<=r.b)/\r.b<=(d.getD 3 KC.nf).int)/\(↑r.x.length:Int)<=(d.getD 4 KC.nf).int->c<=r.kind/\c<=r.a/\([UInt8.ofNat r.kind.toNat].length+(bj r.a.toNat).length)*e<=140737488355328/\((d.getD 2 KC.nf).bool=true->c<=r.b/\(f.length+(bj r.b.toNat).length)*e<=140737488355328/\((f++bj r.b.toNat).length+r.x.length)*e<=140737488355328/\f++bj r.b.toNat++r.x=(ay r).fst/\c=(ay r).snd)/\((d.getD 2 KC.nf).bool=false->(f.length+r.x.length)*e<=140737488355328/\f++r.x=(ay r).fst/\c=(ay r).snd)))) ((dX bU r.kind).getD [KC.i c,KC.i c,KC.b false,KC.i c,KC.i c,KC.nf])) ([UInt8.ofNat r.kind.toNat]++bj r.a.toNat)) (0:Int)) (1:Nat));(repeat' with_reducible first|apply bc|refine ba ?_|intro)
 all_goals (first | exact bm | exact (congrArg (fun q=>q.1) (Vr ab)) | exact (congrArg (fun q=>q.1) (Vr ab)).symm | exact (congrArg (fun q=>q.2) (Vr ab)) | exact (congrArg (fun q=>q.2) (Vr ab)).symm | exact (congrArg (fun q=>q.1) (qQ (Bp ab ab ab ab ab ab))) | exact (congrArg (fun q=>q.1) (qQ (Bp ab ab ab ab ab ab))).symm | exact (congrArg (fun q=>q.2) (qQ (Bp ab ab ab ab ab ab))) | exact (congrArg (fun q=>q.2) (qQ (Bp ab ab ab ab ab ab))).symm | exact (ahr (Bp ab ab ab ab ab ab) ab) | exact (aje (Bp ab ab ab ab ab ab) ab) | (have g:=dj (Bp ab ab ab ab ab ab); omega) | (have g:=dj (Bp ab ab ab ab ab ab); simp only [List.length_append,List.length_cons,List.length_nil]; omega))
def Tv (r:Record):Sat Tryz.prog (aj tyT) 145 [.agg (cellsOf (.nm .record) r)] [] ⟨[],[.c (.fz .u8 (((ay r).1))),.c (.int (((ay r).2)))],none,false⟩:=Ga _ _ _ rfl aa
def wG:Kn:=aM (ae (kC (cL .u8)) ak) av fun (b,_) _=>⟨[],[.agg (cellsOf (.nm .record) ((bG b).1)),.c (.bool (.atom (((bG b).2))))],none,false⟩
def IL:CK 144 wG:=ag fun (b,_) _ _=>by
 refine aq nF [] Tryz.func144 (?_:(fun o=>(fun g=>(fun h=>(fun c=>(fun t=>(fun d=>(fun p=>(fun e=>(fun f=>b.length*g<=140737488355328->(o=c->p)/\(¬o=c->c<=c/\c<o/\∀ (x:UInt8),(fun s=>b[(0:Nat)]? = some x->c<=1/\1<=o/\(d.fst<18446744073709551616->I64 (↑d.snd.fst:Int)->I64 d.snd.snd->(¬d.snd.snd=c->p)/\(d.snd.snd=c->(c<=(↑d.snd.fst:Int)/\(↑d.snd.fst:Int)<=(↑(List.drop g b).length:Int))/\(s=true->(takeF e).fst<18446744073709551616->I64 (↑f.fst:Int)->I64 f.snd->(¬f.snd=c->p)/\(f.snd=c->(c<=(↑f.fst:Int)/\(↑f.fst:Int)<=(↑e.length:Int))/\((List.drop f.fst e).length*g<=140737488355328->kV (Record.mk (↑x.toNat:Int) (dq d.fst) (dq (takeF e).fst) (List.drop f.fst e)) h (true=(bG b).snd))))/\(s=false->e.length*g<=140737488355328->kV (Record.mk (↑x.toNat:Int) (dq d.fst) c e) h (true=(bG b).snd))))) (((dX bU (↑x.toNat:Int)).getD t).getD 2 KC.nf).bool)) (takeF e).snd) (List.drop d.snd.fst (List.drop g b))) (c=h.kind/\c=h.a/\c=h.b/\h.x=[]/\false=(bG b).snd)) (takeF (List.drop g b))) [KC.i c,KC.i c,KC.b false,KC.i c,KC.i c,KC.nf]) (0:Int)) (bG b).fst) (1:Nat)) (↑b.length:Int));(repeat' with_reducible first|apply bc|refine ba ?_|intro)
 all_goals (first | exact bm | exact (congrArg (fun q=>q.2) (uM ab)) | exact (congrArg (fun q=>q.2) (uM ab)).symm | exact (congrArg (fun q=>q.1.kind) (uM ab)) | exact (congrArg (fun q=>q.1.kind) (uM ab)).symm | exact (congrArg (fun q=>q.1.a) (uM ab)) | exact (congrArg (fun q=>q.1.a) (uM ab)).symm | exact (congrArg (fun q=>q.1.b) (uM ab)) | exact (congrArg (fun q=>q.1.b) (uM ab)).symm | exact (congrArg (fun q=>q.1.x) (uM ab)) | exact (congrArg (fun q=>q.1.x) (uM ab)).symm | exact (congrArg (fun q=>q.2) (uP ab ab)) | exact (congrArg (fun q=>q.2) (uP ab ab)).symm | exact (congrArg (fun q=>q.1.kind) (uP ab ab)) | exact (congrArg (fun q=>q.1.kind) (uP ab ab)).symm | exact (congrArg (fun q=>q.1.a) (uP ab ab)) | exact (congrArg (fun q=>q.1.a) (uP ab ab)).symm | exact (congrArg (fun q=>q.1.b) (uP ab ab)) | exact (congrArg (fun q=>q.1.b) (uP ab ab)).symm | exact (congrArg (fun q=>q.1.x) (uP ab ab)) | exact (congrArg (fun q=>q.1.x) (uP ab ab)).symm | exact (congrArg (fun q=>q.2) (u_ ab ab ab ab)) | exact (congrArg (fun q=>q.2) (u_ ab ab ab ab)).symm | exact (congrArg (fun q=>q.1.kind) (u_ ab ab ab ab)) | exact (congrArg (fun q=>q.1.kind) (u_ ab ab ab ab)).symm | exact (congrArg (fun q=>q.1.a) (u_ ab ab ab ab)) | exact (congrArg (fun q=>q.1.a) (u_ ab ab ab ab)).symm | exact (congrArg (fun q=>q.1.b) (u_ ab ab ab ab)) | exact (congrArg (fun q=>q.1.b) (u_ ab ab ab ab)).symm | exact (congrArg (fun q=>q.1.x) (u_ ab ab ab ab)) | exact (congrArg (fun q=>q.1.x) (u_ ab ab ab ab)).symm | exact (congrArg (fun q=>q.2) (uY ab ab ab ab)) | exact (congrArg (fun q=>q.2) (uY ab ab ab ab)).symm | exact (congrArg (fun q=>q.1.kind) (uY ab ab ab ab)) | exact (congrArg (fun q=>q.1.kind) (uY ab ab ab ab)).symm | exact (congrArg (fun q=>q.1.a) (uY ab ab ab ab)) | exact (congrArg (fun q=>q.1.a) (uY ab ab ab ab)).symm | exact (congrArg (fun q=>q.1.b) (uY ab ab ab ab)) | exact (congrArg (fun q=>q.1.b) (uY ab ab ab ab)).symm | exact (congrArg (fun q=>q.1.x) (uY ab ab ab ab)) | exact (congrArg (fun q=>q.1.x) (uY ab ab ab ab)).symm | exact (congrArg (fun q=>q.2) (uO ab ab ab)) | exact (congrArg (fun q=>q.2) (uO ab ab ab)).symm | exact (congrArg (fun q=>q.1.kind) (uO ab ab ab)) | exact (congrArg (fun q=>q.1.kind) (uO ab ab ab)).symm | exact (congrArg (fun q=>q.1.a) (uO ab ab ab)) | exact (congrArg (fun q=>q.1.a) (uO ab ab ab)).symm | exact (congrArg (fun q=>q.1.b) (uO ab ab ab)) | exact (congrArg (fun q=>q.1.b) (uO ab ab ab)).symm | exact (congrArg (fun q=>q.1.x) (uO ab ab ab)) | exact (congrArg (fun q=>q.1.x) (uO ab ab ab)).symm | exact (NQ _))
def wg:Kn:=aM (ae (kT (.nm .stable)) (ae (kT (.nm .letter)) ak)) av fun (s,x,_) _=>⟨[],[.c (.fz (.nm .record) (((aO s x).1))),.c (.bool (.atom (((aO s x).2.1)))),.c (.int (((aO s x).2.2)))],none,false⟩
def JZ:CK 98 wg:=ag fun (s,x,_) _ _=>by
 refine aq nF [] Tryz.func98 (?_:(fun f=>(fun d=>(fun e=>(fun c=>(fun g=>(fun h=>bR s (aS x (I64 (mayL x)->(¬mayL x=d\/¬x.kind=1->f=[]/\false=c.fst/\1=c.snd)/\(mayL x=d/\x.kind=1->I64 e/\((x.term<s.term\/h=false)\/jO s.log x.a x.b=false->aB s x.term=f/\false=c.fst/\d=c.snd)/\((s.term<=x.term/\h=true)/\jO s.log x.a x.b=true->(x.term=s.term/\s.vote=e->f=[]/\g)/\(¬x.term=s.term\/¬s.vote=e->[Record.mk 2 x.term e []]=f/\g)))))) (decide (s.term<x.term) || decide (s.vote=d) || decide (s.vote=e))) (true=c.fst/\d=c.snd)) (aO s x).snd) (x.frm+1)) (0:Int)) (aO s x).fst);(repeat' with_reducible first|apply bc|refine ba ?_|intro)
 all_goals (first | exact bm | exact (congrArg (fun q=>q.1) (Kh ab)) | exact (congrArg (fun q=>q.1) (Kh ab)).symm | exact (congrArg (fun q=>q.2.1) (Kh ab)) | exact (congrArg (fun q=>q.2.1) (Kh ab)).symm | exact (congrArg (fun q=>q.2.2) (Kh ab)) | exact (congrArg (fun q=>q.2.2) (Kh ab)).symm | exact (congrArg (fun q=>q.1) (Ih ab ab ab)) | exact (congrArg (fun q=>q.1) (Ih ab ab ab)).symm | exact (congrArg (fun q=>q.2.1) (Ih ab ab ab)) | exact (congrArg (fun q=>q.2.1) (Ih ab ab ab)).symm | exact (congrArg (fun q=>q.2.2) (Ih ab ab ab)) | exact (congrArg (fun q=>q.2.2) (Ih ab ab ab)).symm | exact (congrArg (fun q=>q.1) (Jb ab ab ab ab ab ab ab)) | exact (congrArg (fun q=>q.1) (Jb ab ab ab ab ab ab ab)).symm | exact (congrArg (fun q=>q.2.1) (Jb ab ab ab ab ab ab ab)) | exact (congrArg (fun q=>q.2.1) (Jb ab ab ab ab ab ab ab)).symm | exact (congrArg (fun q=>q.2.2) (Jb ab ab ab ab ab ab ab)) | exact (congrArg (fun q=>q.2.2) (Jb ab ab ab ab ab ab ab)).symm | exact (congrArg (fun q=>q.1) (ID ab ab ab ab ab ab)) | exact (congrArg (fun q=>q.1) (ID ab ab ab ab ab ab)).symm | exact (congrArg (fun q=>q.2.1) (ID ab ab ab ab ab ab)) | exact (congrArg (fun q=>q.2.1) (ID ab ab ab ab ab ab)).symm | exact (congrArg (fun q=>q.2.2) (ID ab ab ab ab ab ab)) | exact (congrArg (fun q=>q.2.2) (ID ab ab ab ab ab ab)).symm | (have:=fP ab; exact bz aK aK))
def Hl:Kn:=aM (ae (kT (.nm .stable)) (ae (kT (.nm .letter)) ak)) av fun (s,x,_) _=>⟨[],[.c (.fz (.nm .record) (((aE s x).1))),.c (.bool (.atom (((aE s x).2.1)))),.c (.int (((aE s x).2.2.1))),.c (.int (((aE s x).2.2.2)))],none,false⟩
set_option maxRecDepth 8000 in
theorem UL:CK 95 Hl:=ag fun (s,x,_) _ _=>by
 refine aq nF (Zs s x) Tryz.func95 (?_:(fun (t:List Record)=>(fun (F:Nat)=>(fun (H:List Record)=>(fun (y:Int)=>(fun (z:Int)=>(fun (I:Int)=>(fun (i:Int)=>(fun (G:Int)=>(fun (u:Bool × Int × Int)=>(fun (J:Prop)=>(fun (w:Int)=>(fun (K:Prop)=>(fun (A:List Entry)=>(fun (g:Prop)=>(fun (p:Int)=>(fun (e:Nat)=>(fun (f:Int)=>(fun (o:Int)=>bR s (aS x (I64 (mayL x)->(mayL x=i/\x.kind=y->I64 G)/\((¬mayL x=i\/¬x.kind=y)\/64<G->H=[]/\false=u.fst/\i=u.snd.fst/\z=u.snd.snd)/\((mayL x=i/\x.kind=y)/\G<=64->(x.term<s.term->H=[]/\J)/\(s.term<=x.term->(decide (cV s.log x.a=x.b)=false->t=H/\J)/\(decide (cV s.log x.a=x.b)=true->I64 G/\(I64 I->A.length*32<=F->(¬I=i->(t.length+[Record.mk 4 I i []].length)*48<=F/\∃ (B:Nat),(G=w/\g/\g/\p=f/\i=(↑B:Int)/\t++[Record.mk 4 I i []]=ew s x B)/\B<=e/\∀ (c:Nat),(fun (C:Int)=>c<=e->((↑c:Int)<f->i<=(↑c:Int)/\(↑c:Int)<p/\∀ (d:Entry),A[c]? = some d->I64 d.term->d.b.length*1<=F->I64 o/\I64 (o+(↑c:Int))/\I64 C/\((ew s x c).length+[Record.mk y C d.term d.b].length)*48<=F/\I64 ((↑c:Int)+z)/\∃ (v:Nat),(w=w/\g/\g/\f=f/\(↑c:Int)+z=(↑v:Int)/\ew s x c++[Record.mk y C d.term d.b]=ew s x v)/\v <= e/\e - v < e - c)/\(f<=(↑c:Int)->ew s x c=H/\K)) (o+(↑c:Int)+z))/\(I=i->∃ (B:Nat),(G=w/\g/\g/\p=f/\i=(↑B:Int)/\t=ew s x B)/\B<=e/\∀ (c:Nat),(fun (D:Int)=>c<=e->((↑c:Int)<f->i<=(↑c:Int)/\(↑c:Int)<p/\∀ (d:Entry),A[c]? = some d->I64 d.term->d.b.length*1<=F->I64 o/\I64 (o+(↑c:Int))/\I64 D/\((ew s x c).length+[Record.mk y D d.term d.b].length)*48<=F/\I64 ((↑c:Int)+z)/\∃ (v:Nat),(w=w/\g/\g/\f=f/\(↑c:Int)+z=(↑v:Int)/\ew s x c++[Record.mk y D d.term d.b]=ew s x v)/\v <= e/\e - v < e - c)/\(f<=(↑c:Int)->ew s x c=H/\K)) (o+(↑c:Int)+z))))))))) (w - p)) (↑e:Int)) A.length) (↑A.length:Int)) (A=A)) (bh s.log x.a x.l).snd) (true=u.fst/\w=u.snd.fst/\i=u.snd.snd)) (x.a+(↑x.l.length:Int))) (false=u.fst/\i=u.snd.fst/\i=u.snd.snd)) (aE s x).snd) (x.a+(↑x.l.length:Int))) 0) (bh s.log x.a x.l).fst) 1) 3) (aE s x).fst) 140737488355328) (aB s x.term));iterate 3 ((all_goals (repeat' with_reducible first|apply bc|refine ba ?_|intro)); (all_goals try (first | exact bm | (with_reducible exact akA ab) | (with_reducible exact ahJ ab) | (with_reducible exact akq ab) | (with_reducible exact adh ab) | (with_reducible exact adx) | (with_reducible exact (congrArg (fun q=>q.1) (AY ab))) | (with_reducible exact (congrArg (fun q=>q.1) (AY ab)).symm) | (with_reducible exact (congrArg (fun q=>q.2.1) (AY ab))) | (with_reducible exact (congrArg (fun q=>q.2.1) (AY ab)).symm) | (with_reducible exact (congrArg (fun q=>q.2.2.1) (AY ab))) | (with_reducible exact (congrArg (fun q=>q.2.2.1) (AY ab)).symm) | (with_reducible exact (congrArg (fun q=>q.2.2.2) (AY ab))) | (with_reducible exact (congrArg (fun q=>q.2.2.2) (AY ab)).symm) | (with_reducible exact (congrArg (fun q=>q.1) (zb ab ab ab ab))) | (with_reducible exact (congrArg (fun q=>q.1) (zb ab ab ab ab)).symm) | (with_reducible exact (congrArg (fun q=>q.2.1) (zb ab ab ab ab))) | (with_reducible exact (congrArg (fun q=>q.2.1) (zb ab ab ab ab)).symm) | (with_reducible exact (congrArg (fun q=>q.2.2.1) (zb ab ab ab ab))) | (with_reducible exact (congrArg (fun q=>q.2.2.1) (zb ab ab ab ab)).symm) | (with_reducible exact (congrArg (fun q=>q.2.2.2) (zb ab ab ab ab))) | (with_reducible exact (congrArg (fun q=>q.2.2.2) (zb ab ab ab ab)).symm) | (with_reducible exact (congrArg (fun q=>q.1) (Ao ab ab ab ab ab))) | (with_reducible exact (congrArg (fun q=>q.1) (Ao ab ab ab ab ab)).symm) | (with_reducible exact (congrArg (fun q=>q.2.1) (Ao ab ab ab ab ab))) | (with_reducible exact (congrArg (fun q=>q.2.1) (Ao ab ab ab ab ab)).symm) | (with_reducible exact (congrArg (fun q=>q.2.2.1) (Ao ab ab ab ab ab))) | (with_reducible exact (congrArg (fun q=>q.2.2.1) (Ao ab ab ab ab ab)).symm) | (with_reducible exact (congrArg (fun q=>q.2.2.2) (Ao ab ab ab ab ab))) | (with_reducible exact (congrArg (fun q=>q.2.2.2) (Ao ab ab ab ab ab)).symm) | (with_reducible exact (congrArg (fun q=>q.1) (BX ab ab ab ab ab ab))) | (with_reducible exact (congrArg (fun q=>q.1) (BX ab ab ab ab ab ab)).symm) | (with_reducible exact (congrArg (fun q=>q.2.1) (BX ab ab ab ab ab ab))) | (with_reducible exact (congrArg (fun q=>q.2.1) (BX ab ab ab ab ab ab)).symm) | (with_reducible exact (congrArg (fun q=>q.2.2.1) (BX ab ab ab ab ab ab))) | (with_reducible exact (congrArg (fun q=>q.2.2.1) (BX ab ab ab ab ab ab)).symm) | (with_reducible exact (congrArg (fun q=>q.2.2.2) (BX ab ab ab ab ab ab))) | (with_reducible exact (congrArg (fun q=>q.2.2.2) (BX ab ab ab ab ab ab)).symm) | (have h:=fP ab; have L:=vJ (l:=s.log) (m:=x.l) (k:=x.a); refine bz ?_ ?_ <;> omega))); all_goals try first | refine ⟨‹Nat› + 1,?_⟩ | refine ⟨0,?_⟩)
def Et:bF:=(aP 95 Hl (aP 98 wg (aP 144 wG (aP 145 GO aed))))
def jZ:aw Tryz.prog (aj tyT) Et:=(ah UL (ah JZ (ah IL (ah Ga nF))))
def Pm (r:Record) (a:recOk r=false):Sat Tryz.prog (aj tyT) 145 [.agg (cellsOf (.nm .record) r)] [] ⟨[recOk r=false],[.c (.fz .u8 (([]))),.c (.int ((1)))],none,false⟩:=by
 have e:ay r=([],1):=by rw [ay,if_neg (by rw [a]; decide)]
 have h:=Tv r;rw [e] at h; exact ⟨h.1,h.2⟩
def Cn:Kn:=aM (ae (kT (.nm .record)) ak) av fun (r,_) _=>⟨[recOk r=false],[.c (.fz .u8 (([]))),.c (.int ((1)))],none,false⟩
def KX:CK 145 Cn:=ag fun (r,_) _ a=>Pm r (cg a)
def NY  (a:False):Sat Tryz.prog (aj tyT) 148 [] [] ⟨[False],[.c (.xx (.km []) [])],none,false⟩:=a.elim
def AT:Kn:=aM ak av fun _ _=>⟨[False],[.c (.xx (.km []) [])],none,false⟩
def Np:CK 148 AT:=ag fun _ _ a=>NY  (cg a)
def WW:bF:=(aP 148 AT (aP 145 Cn Et))
def Rh:aw Tryz.prog (aj tyT) WW:=(ah Np (ah KX jZ))
def mF (h:(bG b).2=false):aC b=(kv,3):=if_pos h
theorem mG (h:(bG b).2=true) (a:¬ (ay (bG b).1).2=0\/decide ((ay (bG b).1).1=b)=false):aC b=(kv,3):=by
 rw [aC,if_neg (by rw [h]; decide),if_pos];grind
theorem mC (h:(bG b).2=true) (a:(ay (bG b).1).2=0) (c:decide ((ay (bG b).1).1=b)=true):aC b=((bG b).1,0):=by
 rw [aC,if_neg (by rw [h]; decide),if_neg];grind
theorem ct:(ay r).2=0↔recOk r=true:=by
 unfold ay;grind
theorem jv (h:¬ (ay r).2=0):(ay r).2=1/\recOk r=false:=by
 unfold ay at h ⊢;grind
def Tc (s:Stable) (a b:Int) (x:List UInt8) (e:Stable) (f:Int):Yf tyT Et [] Tryz.f85 [.agg (cellsOf (.nm .stable) s),.agg [.int 1,.int a,.int b,.fz .u8 x]] [] [.agg (cellsOf (.nm .stable) e),.c (.int f)]=((fun d=>(fun g=>bR s (I64 1->I64 a->I64 b->x.length*1<=140737488355328->(ay d).fst.length*1<=140737488355328->I64 g->(¬g=0->I64 s.floor->I64 s.term->I64 s.vote->aD s e (g=f))/\(g=0->I64 s.floor->I64 s.term->I64 s.vote->((dD s d).isSome=false->I64 s.floor->I64 s.term->I64 s.vote->aD s e (5=f))/\((dD s d).isSome=true->aD ((dD s d).getD s) e (0=f))))) (ay d).snd) (Record.mk 1 a b x)):=bN
def TX (s:Stable) (a b:Int) (x:List UInt8) (e:Stable) (f:Int):Yf tyT Et [] Tryz.f85 [.agg (cellsOf (.nm .stable) s),.agg [.int 2,.int a,.int b,.fz .u8 x]] [] [.agg (cellsOf (.nm .stable) e),.c (.int f)]=((fun d=>(fun g=>bR s (I64 2->I64 a->I64 b->x.length*1<=140737488355328->(ay d).fst.length*1<=140737488355328->I64 g->(¬g=0->I64 s.floor->I64 s.term->I64 s.vote->aD s e (g=f))/\(g=0->I64 s.floor->I64 s.term->I64 s.vote->((eT s d).isSome=false->I64 s.floor->I64 s.term->I64 s.vote->aD s e (5=f))/\((eT s d).isSome=true->aD ((eT s d).getD s) e (0=f))))) (ay d).snd) (Record.mk 2 a b x)):=bN
def SF (s:Stable) (a b:Int) (x:List UInt8) (e:Stable) (f:Int):Yf tyT Et [] Tryz.f85 [.agg (cellsOf (.nm .stable) s),.agg [.int 3,.int a,.int b,.fz .u8 x]] [] [.agg (cellsOf (.nm .stable) e),.c (.int f)]=((fun d=>(fun g=>bR s (I64 3->I64 a->I64 b->x.length*1<=140737488355328->(ay d).fst.length*1<=140737488355328->I64 g->(¬g=0->I64 s.floor->I64 s.term->I64 s.vote->aD s e (g=f))/\(g=0->I64 s.floor->I64 s.term->I64 s.vote->s.log.length<=1000000/\x.length<=200/\((du s d).isSome=false->I64 s.floor->I64 s.term->I64 s.vote->aD s e (5=f))/\((du s d).isSome=true->aD ((du s d).getD s) e (0=f))))) (ay d).snd) (Record.mk 3 a b x)):=bN
def Uv (s:Stable) (a b:Int) (x:List UInt8) (e:Stable) (f:Int):Yf tyT Et [] Tryz.f85 [.agg (cellsOf (.nm .stable) s),.agg [.int 4,.int a,.int b,.fz .u8 x]] [] [.agg (cellsOf (.nm .stable) e),.c (.int f)]=((fun d=>(fun g=>bR s (I64 4->I64 a->I64 b->x.length*1<=140737488355328->(ay d).fst.length*1<=140737488355328->I64 g->(¬g=0->I64 s.floor->I64 s.term->I64 s.vote->aD s e (g=f))/\(g=0->I64 s.floor->I64 s.term->I64 s.vote->(1<=a/\a<=64)/\((fi s d).isSome=false->I64 s.floor->I64 s.term->I64 s.vote->aD s e (5=f))/\((fi s d).isSome=true->aD ((fi s d).getD s) e (0=f))))) (ay d).snd) (Record.mk 4 a b x)):=bN
def Sw (s:Stable) (r:Record) (a:Stable) (d:Int):Yf tyT WW [] Tryz.f85 [.agg (cellsOf (.nm .stable) s),.agg (cellsOf (.nm .record) r)] [] [.agg (cellsOf (.nm .stable) a),.c (.int d)]=(bR s (df r (recOk r=false/\((0:Nat)*(1:Nat)<=(140737488355328:Nat)->I64 (1:Int)->(¬(1:Int)=(0:Int)->I64 s.floor->I64 s.term->I64 s.vote->aD s a ((1:Int)=d))/\((1:Int)=(0:Int)->I64 s.floor->I64 s.term->I64 s.vote->False/\False))))):=bN
def AZ {s:Stable} (h:recOk r=false):aG s r=(s,1):=if_pos h
def dN {s:Stable} (h:¬ (ay r).2=0):aG s r=(s,(ay r).2):=by
 rw [AZ (jv h).2,(jv h).1]
variable {o:Option Stable}
theorem dO {s:Stable} (e:di s r=o) (h:(ay r).2=0) (a:o.isSome=false):aG s r=(s,5):=by
 rw [aG,if_neg (by rw [ct.1 h]; decide),e];grind
theorem dP {s:Stable} (e:di s r=o) (h:(ay r).2=0) (a:o.isSome=true):aG s r=(o.getD s,0):=by
 rw [aG,if_neg (by rw [ct.1 h]; decide),e];grind
set_option maxRecDepth 8000 in
def aaP (s:Stable) (a b:Int) (x:List UInt8) (e:s.log.length<=1000000):Sat Tryz.prog (aj tyT) 85 [.agg (cellsOf (.nm .stable) s),.agg (cellsOf (.nm .record) (⟨1,a,b,x⟩:Record))] [] ⟨[s.log.length<=1000000],[.agg (cellsOf (.nm .stable) (aG s (⟨1,a,b,x⟩:Record)).1),.c (.int (aG s (⟨1,a,b,x⟩:Record)).2)],none,false⟩:=by
 have d:di s (⟨1,a,b,x⟩:Record)=dD s (⟨1,a,b,x⟩:Record):=rfl;refine aq jZ [] Tryz.func85 ?_ (Tc s a b x (aG s (⟨1,a,b,x⟩:Record)).1 (aG s (⟨1,a,b,x⟩:Record)).2).symm;(repeat' with_reducible first|apply bc|refine ba ?_|intro)
 all_goals (first | exact bm | exact (congrArg (fun q=>q.2) (dN ab)) | exact (congrArg (fun q=>q.2) (dN ab)).symm | exact (congrArg (fun q=>q.1.floor) (dN ab)) | exact (congrArg (fun q=>q.1.floor) (dN ab)).symm | exact (congrArg (fun q=>q.1.term) (dN ab)) | exact (congrArg (fun q=>q.1.term) (dN ab)).symm | exact (congrArg (fun q=>q.1.vote) (dN ab)) | exact (congrArg (fun q=>q.1.vote) (dN ab)).symm | exact (congrArg (fun q=>q.1.log) (dN ab)) | exact (congrArg (fun q=>q.1.log) (dN ab)).symm | exact (congrArg (fun q=>q.2) (dO d ab ab)) | exact (congrArg (fun q=>q.2) (dO d ab ab)).symm | exact (congrArg (fun q=>q.1.floor) (dO d ab ab)) | exact (congrArg (fun q=>q.1.floor) (dO d ab ab)).symm | exact (congrArg (fun q=>q.1.term) (dO d ab ab)) | exact (congrArg (fun q=>q.1.term) (dO d ab ab)).symm | exact (congrArg (fun q=>q.1.vote) (dO d ab ab)) | exact (congrArg (fun q=>q.1.vote) (dO d ab ab)).symm | exact (congrArg (fun q=>q.1.log) (dO d ab ab)) | exact (congrArg (fun q=>q.1.log) (dO d ab ab)).symm | exact (congrArg (fun q=>q.2) (dP d ab ab)) | exact (congrArg (fun q=>q.2) (dP d ab ab)).symm | exact (congrArg (fun q=>q.1.floor) (dP d ab ab)) | exact (congrArg (fun q=>q.1.floor) (dP d ab ab)).symm | exact (congrArg (fun q=>q.1.term) (dP d ab ab)) | exact (congrArg (fun q=>q.1.term) (dP d ab ab)).symm | exact (congrArg (fun q=>q.1.vote) (dP d ab ab)) | exact (congrArg (fun q=>q.1.vote) (dP d ab ab)).symm | exact (congrArg (fun q=>q.1.log) (dP d ab ab)) | exact (congrArg (fun q=>q.1.log) (dP d ab ab)).symm | (have:=dj (ct.1 ab); dsimp only at this; omega) | (have h:=bM.1 (ct.1 ab); dsimp only at h; omega))
set_option maxRecDepth 8000 in
def aac (s:Stable) (a b:Int) (x:List UInt8) (e:s.log.length<=1000000):Sat Tryz.prog (aj tyT) 85 [.agg (cellsOf (.nm .stable) s),.agg (cellsOf (.nm .record) (⟨2,a,b,x⟩:Record))] [] ⟨[s.log.length<=1000000],[.agg (cellsOf (.nm .stable) (aG s (⟨2,a,b,x⟩:Record)).1),.c (.int (aG s (⟨2,a,b,x⟩:Record)).2)],none,false⟩:=by
 have d:di s (⟨2,a,b,x⟩:Record)=eT s (⟨2,a,b,x⟩:Record):=rfl;refine aq jZ [] Tryz.func85 ?_ (TX s a b x (aG s (⟨2,a,b,x⟩:Record)).1 (aG s (⟨2,a,b,x⟩:Record)).2).symm;(repeat' with_reducible first|apply bc|refine ba ?_|intro)
 all_goals (first | exact bm | exact (congrArg (fun q=>q.2) (dN ab)) | exact (congrArg (fun q=>q.2) (dN ab)).symm | exact (congrArg (fun q=>q.1.floor) (dN ab)) | exact (congrArg (fun q=>q.1.floor) (dN ab)).symm | exact (congrArg (fun q=>q.1.term) (dN ab)) | exact (congrArg (fun q=>q.1.term) (dN ab)).symm | exact (congrArg (fun q=>q.1.vote) (dN ab)) | exact (congrArg (fun q=>q.1.vote) (dN ab)).symm | exact (congrArg (fun q=>q.1.log) (dN ab)) | exact (congrArg (fun q=>q.1.log) (dN ab)).symm | exact (congrArg (fun q=>q.2) (dO d ab ab)) | exact (congrArg (fun q=>q.2) (dO d ab ab)).symm | exact (congrArg (fun q=>q.1.floor) (dO d ab ab)) | exact (congrArg (fun q=>q.1.floor) (dO d ab ab)).symm | exact (congrArg (fun q=>q.1.term) (dO d ab ab)) | exact (congrArg (fun q=>q.1.term) (dO d ab ab)).symm | exact (congrArg (fun q=>q.1.vote) (dO d ab ab)) | exact (congrArg (fun q=>q.1.vote) (dO d ab ab)).symm | exact (congrArg (fun q=>q.1.log) (dO d ab ab)) | exact (congrArg (fun q=>q.1.log) (dO d ab ab)).symm | exact (congrArg (fun q=>q.2) (dP d ab ab)) | exact (congrArg (fun q=>q.2) (dP d ab ab)).symm | exact (congrArg (fun q=>q.1.floor) (dP d ab ab)) | exact (congrArg (fun q=>q.1.floor) (dP d ab ab)).symm | exact (congrArg (fun q=>q.1.term) (dP d ab ab)) | exact (congrArg (fun q=>q.1.term) (dP d ab ab)).symm | exact (congrArg (fun q=>q.1.vote) (dP d ab ab)) | exact (congrArg (fun q=>q.1.vote) (dP d ab ab)).symm | exact (congrArg (fun q=>q.1.log) (dP d ab ab)) | exact (congrArg (fun q=>q.1.log) (dP d ab ab)).symm | (have:=dj (ct.1 ab); dsimp only at this; omega) | (have h:=bM.1 (ct.1 ab); dsimp only at h; omega))
set_option maxRecDepth 8000 in
def acb (s:Stable) (a b:Int) (x:List UInt8) (e:s.log.length<=1000000):Sat Tryz.prog (aj tyT) 85 [.agg (cellsOf (.nm .stable) s),.agg (cellsOf (.nm .record) (⟨3,a,b,x⟩:Record))] [] ⟨[s.log.length<=1000000],[.agg (cellsOf (.nm .stable) (aG s (⟨3,a,b,x⟩:Record)).1),.c (.int (aG s (⟨3,a,b,x⟩:Record)).2)],none,false⟩:=by
 have d:di s (⟨3,a,b,x⟩:Record)=du s (⟨3,a,b,x⟩:Record):=rfl;refine aq jZ [] Tryz.func85 ?_ (SF s a b x (aG s (⟨3,a,b,x⟩:Record)).1 (aG s (⟨3,a,b,x⟩:Record)).2).symm;(repeat' with_reducible first|apply bc|refine ba ?_|intro)
 all_goals (first | exact bm | exact (congrArg (fun q=>q.2) (dN ab)) | exact (congrArg (fun q=>q.2) (dN ab)).symm | exact (congrArg (fun q=>q.1.floor) (dN ab)) | exact (congrArg (fun q=>q.1.floor) (dN ab)).symm | exact (congrArg (fun q=>q.1.term) (dN ab)) | exact (congrArg (fun q=>q.1.term) (dN ab)).symm | exact (congrArg (fun q=>q.1.vote) (dN ab)) | exact (congrArg (fun q=>q.1.vote) (dN ab)).symm | exact (congrArg (fun q=>q.1.log) (dN ab)) | exact (congrArg (fun q=>q.1.log) (dN ab)).symm | exact (congrArg (fun q=>q.2) (dO d ab ab)) | exact (congrArg (fun q=>q.2) (dO d ab ab)).symm | exact (congrArg (fun q=>q.1.floor) (dO d ab ab)) | exact (congrArg (fun q=>q.1.floor) (dO d ab ab)).symm | exact (congrArg (fun q=>q.1.term) (dO d ab ab)) | exact (congrArg (fun q=>q.1.term) (dO d ab ab)).symm | exact (congrArg (fun q=>q.1.vote) (dO d ab ab)) | exact (congrArg (fun q=>q.1.vote) (dO d ab ab)).symm | exact (congrArg (fun q=>q.1.log) (dO d ab ab)) | exact (congrArg (fun q=>q.1.log) (dO d ab ab)).symm | exact (congrArg (fun q=>q.2) (dP d ab ab)) | exact (congrArg (fun q=>q.2) (dP d ab ab)).symm | exact (congrArg (fun q=>q.1.floor) (dP d ab ab)) | exact (congrArg (fun q=>q.1.floor) (dP d ab ab)).symm | exact (congrArg (fun q=>q.1.term) (dP d ab ab)) | exact (congrArg (fun q=>q.1.term) (dP d ab ab)).symm | exact (congrArg (fun q=>q.1.vote) (dP d ab ab)) | exact (congrArg (fun q=>q.1.vote) (dP d ab ab)).symm | exact (congrArg (fun q=>q.1.log) (dP d ab ab)) | exact (congrArg (fun q=>q.1.log) (dP d ab ab)).symm | (have:=dj (ct.1 ab); dsimp only at this; omega) | (have h:=bM.1 (ct.1 ab); dsimp only at h; omega))
set_option maxRecDepth 8000 in
def Zn (s:Stable) (a b:Int) (x:List UInt8) (e:s.log.length<=1000000):Sat Tryz.prog (aj tyT) 85 [.agg (cellsOf (.nm .stable) s),.agg (cellsOf (.nm .record) (⟨4,a,b,x⟩:Record))] [] ⟨[s.log.length<=1000000],[.agg (cellsOf (.nm .stable) (aG s (⟨4,a,b,x⟩:Record)).1),.c (.int (aG s (⟨4,a,b,x⟩:Record)).2)],none,false⟩:=by
 have d:di s (⟨4,a,b,x⟩:Record)=fi s (⟨4,a,b,x⟩:Record):=rfl;refine aq jZ [] Tryz.func85 ?_ (Uv s a b x (aG s (⟨4,a,b,x⟩:Record)).1 (aG s (⟨4,a,b,x⟩:Record)).2).symm;(repeat' with_reducible first|apply bc|refine ba ?_|intro)
 all_goals (first | exact bm | exact (congrArg (fun q=>q.2) (dN ab)) | exact (congrArg (fun q=>q.2) (dN ab)).symm | exact (congrArg (fun q=>q.1.floor) (dN ab)) | exact (congrArg (fun q=>q.1.floor) (dN ab)).symm | exact (congrArg (fun q=>q.1.term) (dN ab)) | exact (congrArg (fun q=>q.1.term) (dN ab)).symm | exact (congrArg (fun q=>q.1.vote) (dN ab)) | exact (congrArg (fun q=>q.1.vote) (dN ab)).symm | exact (congrArg (fun q=>q.1.log) (dN ab)) | exact (congrArg (fun q=>q.1.log) (dN ab)).symm | exact (congrArg (fun q=>q.2) (dO d ab ab)) | exact (congrArg (fun q=>q.2) (dO d ab ab)).symm | exact (congrArg (fun q=>q.1.floor) (dO d ab ab)) | exact (congrArg (fun q=>q.1.floor) (dO d ab ab)).symm | exact (congrArg (fun q=>q.1.term) (dO d ab ab)) | exact (congrArg (fun q=>q.1.term) (dO d ab ab)).symm | exact (congrArg (fun q=>q.1.vote) (dO d ab ab)) | exact (congrArg (fun q=>q.1.vote) (dO d ab ab)).symm | exact (congrArg (fun q=>q.1.log) (dO d ab ab)) | exact (congrArg (fun q=>q.1.log) (dO d ab ab)).symm | exact (congrArg (fun q=>q.2) (dP d ab ab)) | exact (congrArg (fun q=>q.2) (dP d ab ab)).symm | exact (congrArg (fun q=>q.1.floor) (dP d ab ab)) | exact (congrArg (fun q=>q.1.floor) (dP d ab ab)).symm | exact (congrArg (fun q=>q.1.term) (dP d ab ab)) | exact (congrArg (fun q=>q.1.term) (dP d ab ab)).symm | exact (congrArg (fun q=>q.1.vote) (dP d ab ab)) | exact (congrArg (fun q=>q.1.vote) (dP d ab ab)).symm | exact (congrArg (fun q=>q.1.log) (dP d ab ab)) | exact (congrArg (fun q=>q.1.log) (dP d ab ab)).symm | (have:=dj (ct.1 ab); dsimp only at this; omega) | (have h:=bM.1 (ct.1 ab); dsimp only at h; omega))
theorem NW (s:Stable) (r:Record) (d:s.log.length<=1000000):Sat Tryz.prog (aj tyT) 85 [.agg (cellsOf (.nm .stable) s),.agg (cellsOf (.nm .record) r)] [] ⟨[s.log.length<=1000000],[.agg (cellsOf (.nm .stable) (aG s r).1),.c (.int (aG s r).2)],none,false⟩:=by
 cases e:recOk r
 ·refine aq Rh [] Tryz.func85 ?_ (Sw s r (aG s r).1 (aG s r).2).symm;rw [AZ e];grind
 obtain ⟨k,a,b,x⟩:=r;rcases bM.1 e with h | h | h | h <;> (have f:=h.1; dsimp only at f; subst f)
 ·exact aaP s a b x d
 ·exact aac s a b x d
 ·exact acb s a b x d
 exact Zn s a b x d
def Cr:Kn:=aM (ae (kC (cL .u8)) ak) av fun (b,_) _=>⟨[],[.agg (cellsOf (.nm .record) ((aC b).1)),.c (.int (((aC b).2)))],none,false⟩
def NJ:CK 84 Cr:=ag fun (b,_) _ _=>by
 refine aq jZ [] Tryz.func84 (?_:(fun c=>(fun e=>(fun d=>(fun f=>b.length*1<=140737488355328->df (bG b).fst (((bG b).snd=false->f)/\((bG b).snd=true->d.fst.length*1<=140737488355328->I64 d.snd->(¬d.snd=c\/decide (d.fst=b)=false->f)/\(d.snd=c/\decide (d.fst=b)=true->kV (bG b).fst e (c=(aC b).snd))))) (c=e.kind/\c=e.a/\c=e.b/\e.x=[]/\3=(aC b).snd)) (ay (bG b).fst)) (aC b).fst) (0:Int));(repeat' with_reducible first|apply bc|refine ba ?_|intro)
 all_goals (first | exact bm | exact (congrArg (fun q=>q.2) (mF ab)) | exact (congrArg (fun q=>q.2) (mF ab)).symm | exact (congrArg (fun q=>q.1.kind) (mF ab)) | exact (congrArg (fun q=>q.1.kind) (mF ab)).symm | exact (congrArg (fun q=>q.1.a) (mF ab)) | exact (congrArg (fun q=>q.1.a) (mF ab)).symm | exact (congrArg (fun q=>q.1.b) (mF ab)) | exact (congrArg (fun q=>q.1.b) (mF ab)).symm | exact (congrArg (fun q=>q.1.x) (mF ab)) | exact (congrArg (fun q=>q.1.x) (mF ab)).symm | exact (congrArg (fun q=>q.2) (mG ab ab)) | exact (congrArg (fun q=>q.2) (mG ab ab)).symm | exact (congrArg (fun q=>q.1.kind) (mG ab ab)) | exact (congrArg (fun q=>q.1.kind) (mG ab ab)).symm | exact (congrArg (fun q=>q.1.a) (mG ab ab)) | exact (congrArg (fun q=>q.1.a) (mG ab ab)).symm | exact (congrArg (fun q=>q.1.b) (mG ab ab)) | exact (congrArg (fun q=>q.1.b) (mG ab ab)).symm | exact (congrArg (fun q=>q.1.x) (mG ab ab)) | exact (congrArg (fun q=>q.1.x) (mG ab ab)).symm | exact (congrArg (fun q=>q.2) (mC ab ab ab)) | exact (congrArg (fun q=>q.2) (mC ab ab ab)).symm | exact (congrArg (fun q=>q.1.kind) (mC ab ab ab)) | exact (congrArg (fun q=>q.1.kind) (mC ab ab ab)).symm | exact (congrArg (fun q=>q.1.a) (mC ab ab ab)) | exact (congrArg (fun q=>q.1.a) (mC ab ab ab)).symm | exact (congrArg (fun q=>q.1.b) (mC ab ab ab)) | exact (congrArg (fun q=>q.1.b) (mC ab ab ab)).symm | exact (congrArg (fun q=>q.1.x) (mC ab ab ab)) | exact (congrArg (fun q=>q.1.x) (mC ab ab ab)).symm)
def LD (s:Stable) (r:Record) (a:s.log.length<=1000000):Sat Tryz.prog (aj tyT) 85 [.agg (cellsOf (.nm .stable) s),.agg (cellsOf (.nm .record) r)] [] ⟨[s.log.length<=1000000],[.agg (cellsOf (.nm .stable) ((aG s r).1)),.c (.int (((aG s r).2)))],none,false⟩:=NW s r a
def CJ:Kn:=aM (ae (kT (.nm .stable)) (ae (kT (.nm .record)) ak)) av fun (s,r,_) _=>⟨[s.log.length<=1000000],[.agg (cellsOf (.nm .stable) ((aG s r).1)),.c (.int (((aG s r).2)))],none,false⟩
def MR:CK 85 CJ:=ag fun (s,r,_) _ a=>LD s r (cg a)
def adK:bF:=(aP 85 CJ (aP 84 Cr Et))
def Ht:aw Tryz.prog (aj tyT) adK:=(ah MR (ah NJ jZ))
structure RJ (b:List UInt8) (s:Stable) (u:Int):Prop where
 le:0<=u/\u<=b.length
 log:(s.log.length:Int)<=u
 eq:replayF b=((playB (b.length+1) s (b.drop u.toNat)).1,u+(playB (b.length+1) s (b.drop u.toNat)).2)
def adk:RJ b sta0 0:=⟨aK,aa,by simp [replayF]⟩
section
variable {b:List UInt8} {s:Stable} {u:Int}
def rP (h:RJ b s u) (a:¬ (az (b.drop u.toNat)).2.2=0):replayF b=(s,u):=by
 rw [h.eq,nh a,Int.add_zero]
def uC (h:RJ b s u) (a:(az (b.drop u.toNat)).2.2=0) (c:¬ (aC (az (b.drop u.toNat)).1).2=0):replayF b=(s,u):=by
 rw [h.eq,playB,if_neg (acY.2 a),if_pos c,Int.add_zero]
def tc (h:RJ b s u) (a:(az (b.drop u.toNat)).2.2=0) (c:(aC (az (b.drop u.toNat)).1).2=0) (d:¬ (aG s (aC (az (b.drop u.toNat)).1).1).2=0):replayF b=(s,u):=by
 rw [h.eq,playB,if_neg (acY.2 a),if_neg (acY.2 c),if_pos d,Int.add_zero]
theorem Kf {s t:Stable} (h:di s r=some t):t.log.length<=s.log.length+1:=by
 unfold di dD eT du fi at h;grind
def vu {s:Stable}:(aG s r).1.log.length<=s.log.length+1:=by
 unfold aG;split
 ·simp
 split
 ·rename_i t h; exact Kf h
 simp
theorem adl (h:RJ b s u) (a:(az (b.drop u.toNat)).2.2=0) (c:(aC (az (b.drop u.toNat)).1).2=0) (d:(aG s (aC (az (b.drop u.toNat)).1).1).2=0):RJ b (aG s (aC (az (b.drop u.toNat)).1).1).1 (u+(az (b.drop u.toNat)).2.1):=by
 have e:=de a;rw [List.length_drop] at e;have f:=vu (s:=s) (r:=(aC (az (b.drop u.toNat)).1).1);have g:=h.log;refine ⟨aK,aK,?_⟩;rw [h.eq,playB,if_neg (acY.2 a),if_neg (acY.2 c),if_neg (acY.2 d),agz,show u.toNat+(az (b.drop u.toNat)).2.1.toNat=(u+(az (b.drop u.toNat)).2.1).toNat by omega];rw [na (n:=b.length) (m:=b.length+1) (by rw [List.length_drop]; omega) (by rw [List.length_drop]; omega)];grind
def aiQ (h:RJ b s u):0<=u:=h.le.1
def akr (h:RJ b s u):u<=(b.length:Int):=h.le.2
def adn (h:RJ b s u) (a:b.length<=1000000):s.log.length<=1000000:=by
 have:=h.log; have:=h.le; omega
def ait (h:RJ b s u) (a:(az (b.drop u.toNat)).2.2=0) (c:b.length<=1000000):I64 (u+(az (b.drop u.toNat)).2.1):=by
 have:=de a; have:=h.le;rw [List.length_drop] at *;exact bz aK aK
theorem akp (h:RJ b s u) (a:(az (b.drop u.toNat)).2.2=0):((b.length:Int) - (u+(az (b.drop u.toNat)).2.1)).toNat<((b.length:Int) - u).toNat:=by
 have:=de a; have:=h.le;grind
end
variable {l:List Record}
def Ch {s:Stable} (h:(stepsF s (l.take k)).2=0) (a:l[k]? = some r):stepsF s (l.take (k+1))=stepsF (stepsF s (l.take k)).1 [r]:=by
 rw [ai a,dC h]
def uX {s:Stable} (h:(stepsF s (l.take k)).2=0) (a:l[k]? = some r) (c:(aG (stepsF s (l.take k)).1 r).2=0):(stepsF s (l.take (k+1))).2=0/\(stepsF s (l.take (k+1))).1=(aG (stepsF s (l.take k)).1 r).1:=by
 rw [Ch h a,stepsF,if_pos c,stepsF]; exact ⟨rfl,rfl⟩
def ajp {s:Stable} (h:(stepsF s (l.take k)).2=0) (a:l[k]? = some r) (c:¬ (aG (stepsF s (l.take k)).1 r).2=0):(stepsF s l).2=(aG (stepsF s (l.take k)).1 r).2:=by
 have d:=(aar.1 a);have e:l=l.take k++r :: l.drop (k+1):=by
  rw [<- d.2,List.getElem_cons_drop,List.take_append_drop]
 rw [show stepsF s l=stepsF s (l.take k++r :: l.drop (k+1)) from congrArg (stepsF s) e,dC h,stepsF,if_neg c]
theorem tW:∀ {l:List Record} {s:Stable},(stepsF s l).1.log.length<=s.log.length+l.length
 | [],s=>Nat.le_refl _
 | r :: l,s=>by
  rw [stepsF];split
  ·have:=tW (l:=l) (s:=(aG s r).1);have:=vu (s:=s) (r:=r);grind
  grind
def afD (h:(l.take k).all recOk=true) (a:l[k]? = some r) (c:recOk r=true):(l.take (k+1)).all recOk=true:=by
 rw [ai a,ahI,h]; simp [c]
theorem afC (a:l[k]? = some r) (c:recOk r=false):l.all recOk=false:=by grind
def aay (a:l[k]? = some r):encL (l.take k)++ek (recPut r)=encL (l.take (k+1)):=by
 rw [ai a,td]; simp [encL,jJ]
def DX {d:Dsk} {x:List UInt8} (h:d.OK):(d.app x).OK:=by
 obtain ⟨a,c,e⟩:=h;unfold Dsk.app;split
 ·exact ⟨a,c,e⟩
 refine ⟨a,?_,?_⟩ <;> dsimp only <;> rw [List.length_append] <;> omega
def Jk (b:List UInt8):List (Nat × LI):=[(3,{ σ:=Stable × Int,F:=fun q=>([(0,one (.fz .u8 (b))),(2,one (.ptr 1 0)),(4,one (.ptr 0 0)),(5,one (.int q.2))],[.box 64 (cellsOf (.nm .stable) (q.1)),.box 64 (cellsOf (.nm .stable) (sta0))]),J:=fun q=>RJ b q.1 q.2,μ:=fun q=>(b.length - q.2).toNat })]
def sB:Kn:=aM (ae (kC (cL .u8)) ak) av fun (b,_) _=>⟨[b.length<=1000000],[.agg (cellsOf (.nm .stable) ((replayF b).1)),.c (.int (((replayF b).2)))],none,false⟩
theorem Ee:CK 41 sB:=ag fun (b,_) _ p=>by
 have i:=cg p;refine aq Ht (Jk b) Tryz.func41 (?_:(fun (a:Int)=>b.length*1<=140737488355328->∃ (d:Stable × Int),(b=b/\a=d.snd/\a=d.fst.floor/\a=d.fst.term/\a=d.fst.vote/\d.fst.log=[]/\a=sta0.floor/\a=sta0.term/\a=sta0.vote/\sta0.log=[])/\RJ b d.fst d.snd/\∀ (s:Stable × Int),(fun (h:Prop)=>(fun (c:List UInt8 × Int × Int)=>(fun (e:Record × Int)=>(fun (f:Stable × Int)=>RJ b s.fst s.snd->a<=s.snd/\s.snd<=(↑b.length:Int)/\(c.fst.length*1<=140737488355328->I64 c.snd.fst->I64 c.snd.snd->(¬c.snd.snd=a->h)/\(c.snd.snd=a->df e.fst (I64 e.snd->(¬e.snd=a->h)/\(e.snd=a->s.fst.log.length<=1000000/\bR f.fst (I64 f.snd->(¬f.snd=a->h)/\(f.snd=a->I64 (s.snd+c.snd.fst)/\∃ (g:Stable × Int),(b=b/\s.snd+c.snd.fst=g.snd/\aD f.fst g.fst (dM sta0 sta0))/\RJ b g.fst g.snd/\((↑b.length:Int) - g.snd).toNat<((↑b.length:Int) - s.snd).toNat))))))) (aG s.fst e.fst)) (aC c.fst)) (az (List.drop s.snd.toNat b))) (aD s.fst (replayF b).fst (s.snd=(replayF b).snd))) 0);iterate 3 ((all_goals (repeat' with_reducible first|apply bc|refine ba ?_|intro)); (all_goals try (first | exact bm | (with_reducible exact adk) | (with_reducible exact aiQ ab) | (with_reducible exact akr ab) | (with_reducible exact adn ab i) | (with_reducible exact ait ab ab i) | (with_reducible exact akp ab ab) | (with_reducible exact adl ab ab ab ab) | exact (congrArg (fun q=>q.2) (rP ab ab)) | exact (congrArg (fun q=>q.2) (rP ab ab)).symm | exact (congrArg (fun q=>q.1.floor) (rP ab ab)) | exact (congrArg (fun q=>q.1.floor) (rP ab ab)).symm | exact (congrArg (fun q=>q.1.term) (rP ab ab)) | exact (congrArg (fun q=>q.1.term) (rP ab ab)).symm | exact (congrArg (fun q=>q.1.vote) (rP ab ab)) | exact (congrArg (fun q=>q.1.vote) (rP ab ab)).symm | exact (congrArg (fun q=>q.1.log) (rP ab ab)) | exact (congrArg (fun q=>q.1.log) (rP ab ab)).symm | exact (congrArg (fun q=>q.2) (uC ab ab ab)) | exact (congrArg (fun q=>q.2) (uC ab ab ab)).symm | exact (congrArg (fun q=>q.1.floor) (uC ab ab ab)) | exact (congrArg (fun q=>q.1.floor) (uC ab ab ab)).symm | exact (congrArg (fun q=>q.1.term) (uC ab ab ab)) | exact (congrArg (fun q=>q.1.term) (uC ab ab ab)).symm | exact (congrArg (fun q=>q.1.vote) (uC ab ab ab)) | exact (congrArg (fun q=>q.1.vote) (uC ab ab ab)).symm | exact (congrArg (fun q=>q.1.log) (uC ab ab ab)) | exact (congrArg (fun q=>q.1.log) (uC ab ab ab)).symm | exact (congrArg (fun q=>q.2) (tc ab ab ab ab)) | exact (congrArg (fun q=>q.2) (tc ab ab ab ab)).symm | exact (congrArg (fun q=>q.1.floor) (tc ab ab ab ab)) | exact (congrArg (fun q=>q.1.floor) (tc ab ab ab ab)).symm | exact (congrArg (fun q=>q.1.term) (tc ab ab ab ab)) | exact (congrArg (fun q=>q.1.term) (tc ab ab ab ab)).symm | exact (congrArg (fun q=>q.1.vote) (tc ab ab ab ab)) | exact (congrArg (fun q=>q.1.vote) (tc ab ab ab ab)).symm | exact (congrArg (fun q=>q.1.log) (tc ab ab ab ab)) | exact (congrArg (fun q=>q.1.log) (tc ab ab ab ab)).symm)); all_goals try first | refine ⟨((aG (‹Stable × Int›).1 (aC (az (b.drop (‹Stable × Int›).2.toNat)).1).1).1,(‹Stable × Int›).2+(az (b.drop (‹Stable × Int›).2.toNat)).2.1),?_⟩ | refine ⟨(sta0,0),?_⟩)
def age:bF:=(aP 41 sB adK)
def EY:aw Tryz.prog (aj tyT) age:=(ah Ee Ht)
section
variable {d:Dsk} {s:Stable} {l:List Record} {k:Nat} {r:Record}
def ac2 (a:l[k]? = some r) (h:¬ (ay r).2=0):saveF d s l=(d,s,(ay r).2):=by
 rw [saveF,if_pos (afC a (jv h).2),(jv h).1]
def Zz (h:(ay r).2=0):fS (ay r).1=(ek (recPut r),0):=by
 have a:=ct.1 h;have:=jw a;rw [qQ a,fS,if_neg (by dsimp only; omega)]
def afK {p:Prop} (h:(ay r).2=0) (a:¬ (fS (ay r).1).2=0):p:=absurd (by rw [Zz h]) a
def afu (a:l[k]? = some r) (h:(ay r).2=0):encL (l.take k)++(fS (ay r).1).1=encL (l.take (k+1)):=by
 rw [Zz h]; exact aay a
def Yh (h:l.length<=1000) (c:(l.take k).all recOk=true) (a:(ay r).2=0):((encL (l.take k)).length+(fS (ay r).1).1.length)*1<=140737488355328:=by
 have e:=si c;have f:=jw (ct.1 a);have g:(l.take k).length<=l.length:=by rw [List.length_take]; omega
 rw [Zz a]; dsimp only; rw [nq]; omega
def aeY (a:(l.length:Int)<=k) (h:(l.take k).all recOk=true):l.all recOk=true:=by rwa [List.take_of_length_le aK] at h
def ad_ (a:(l.length:Int)<=k):encL (l.take k)=encL l:=by rw [List.take_of_length_le aK]
theorem afx (a:s.log.length<=10000) (c:l.length<=1000):(stepsF s (l.take k)).1.log.length<=1000000:=by
 have:=tW (s:=s) (l:=l.take k);grind
def aeF (c:l.all recOk=true) (h:(stepsF s (l.take k)).2=0) (f:l[k]? = some r) (a:¬ (aG (stepsF s (l.take k)).1 r).2=0):saveF d s l=(d,s,(aG (stepsF s (l.take k)).1 r).2):=by
 have e:=ajp h f a;rw [saveF,if_neg (by rw [c]; decide),if_pos (by rw [e]; exact a),e]
def afI (a:(l.length:Int)=0):saveF d s l=(d,(stepsF s (l.take k)).1,0):=by
 rw [abL (l:=l) aK,List.take_nil]; rfl
def abh (c:(l.length:Int)<=k) (a:l.all recOk=true) (h:(stepsF s (l.take k)).2=0) (e:¬ (l.length:Int)=0):saveF d s l=if d.jM (encL l)≠0 then (d,s,d.jM (encL l)) else if (d.app (encL l)).fx≠0 then ((d.app (encL l)).sync,s,(d.app (encL l)).fx) else ((d.app (encL l)).sync,(stepsF s (l.take k)).1,0):=by
 rw [List.take_of_length_le aK] at h ⊢;rw [saveF,if_neg (by rw [a]; decide),if_neg (by rw [h]; decide),if_neg aK]
theorem aeC (a:(l.length:Int)<=k) (c:l.all recOk=true) (h:(stepsF s (l.take k)).2=0) (f:¬ (l.length:Int)=0) (g:¬ d.jM (encL l)=0):saveF d s l=(d.app (encL l),s,d.jM (encL l)):=by
 have e:d.app (encL l)=d:=by
  unfold Dsk.app Dsk.jM at *;grind
 rw [abh a c h f,if_pos g,e]
def afY (a:(l.length:Int)<=k) (c:l.all recOk=true) (h:(stepsF s (l.take k)).2=0) (e:¬ (l.length:Int)=0) (f:d.jM (encL l)=0) (g:¬ (d.app (encL l)).fx=0):saveF d s l=((d.app (encL l)).sync,s,(d.app (encL l)).fx):=by
 rw [abh a c h e,if_neg (acY.2 f),if_pos g]
def aey (a:(l.length:Int)<=k) (c:l.all recOk=true) (h:(stepsF s (l.take k)).2=0) (e:¬ (l.length:Int)=0) (f:d.jM (encL l)=0) (g:(d.app (encL l)).fx=0):saveF d s l=((d.app (encL l)).sync,(stepsF s (l.take k)).1,0):=by
 rw [abh a c h e,if_neg (acY.2 f),if_neg (acY.2 g)]
variable {x:List UInt8}
def app_1 (h:d.OK):0<=(d.app x).synced:=(DX h).1
def XC (h:d.OK):(d.app x).synced<=((d.app x).b.length:Int):=(DX h).2.1
def WY (h:d.OK):(d.app x).b.length<=65536:=(DX h).2.2
def K_ (h:(l.take k).all recOk=true) (a:l[k]? = some r) (c:(ay r).2=0):(l.take (k+1)).all recOk=true:=afD h a (ct.1 c)
end
def TD (s:Stable) (l:List Record) (a:Int) (c:Bool) (d:Bool) (e:Int) (f:List UInt8):List (Nat × LI):=[(3,{ σ:=Nat,F:=fun k=>([(0,one (.ptr 0 0)),(2,one (.fz (.nm .record) (l))),(4,one (.ptr 2 0)),(6,one (.ptr 3 0)),(8,one (.own 4)),(20,one (.fz (.nm .record) (l))),(21,one (.int (l).length)),(22,one (.int k))],[.box 147 ([.own 1,.int ((a)),.bool (.atom ((c))),.bool (.atom ((d))),.int ((e))]),.row 5 .u8 ((f)),.box 64 (cellsOf (.nm .stable) (s)),.box 64 (cellsOf (.nm .stable) (sta0)),.row 5 .u8 ((encL (l.take k)))]),J:=fun k=>k<=l.length/\(l.take k).all recOk=true,μ:=fun k=>(l).length - k }),(15,{ σ:=Nat,F:=fun k=>([(0,one (.ptr 0 0)),(2,one (.fz (.nm .record) (l))),(4,one (.ptr 2 0)),(6,one (.ptr 3 0)),(8,one (.own 4)),(14,one (.ptr 5 0)),(52,one (.fz (.nm .record) (l))),(53,one (.int (l).length)),(54,one (.int k))],[.box 147 ([.own 1,.int ((a)),.bool (.atom ((c))),.bool (.atom ((d))),.int ((e))]),.row 5 .u8 ((f)),.box 64 (cellsOf (.nm .stable) (s)),.box 64 (cellsOf (.nm .stable) (sta0)),.row 5 .u8 ((encL l)),.box 64 (cellsOf (.nm .stable) ((stepsF s (l.take k)).1))]),J:=fun k=>k<=l.length/\l.all recOk=true/\(stepsF s (l.take k)).2=0,μ:=fun k=>(l).length - k })]
def zE:Kn:=aM (ae (kC (aZ 0 0)) (ae (kT (.nm .stable)) (ae (kC (cL (.nm .record))) ak))) (aH (dQ 147 (ax (eV 1) (ax cI (ax cB (ax cB (ax cI dL)))))) (aH (e_ 5 .u8) av)) fun (_,s,l,_) ((_,a,d,e,f,_),g,_)=>⟨[(Dsk.mk g a d e f).OK,s.log.length<=10000,l.length<=1000],[.agg (cellsOf (.nm .stable) ((saveF (Dsk.mk g a d e f) s l).2.1)),.c (.int (((saveF (Dsk.mk g a d e f) s l).2.2)))],some ([.box 147 ([.own 1,.int (((saveF (Dsk.mk g a d e f) s l).1.synced)),.bool (.atom (((saveF (Dsk.mk g a d e f) s l).1.down))),.bool (.atom (((saveF (Dsk.mk g a d e f) s l).1.doomed))),.int (((saveF (Dsk.mk g a d e f) s l).1.keep))]),.row 5 .u8 (((saveF (Dsk.mk g a d e f) s l).1.b))]),false⟩
set_option maxRecDepth 8000 in
theorem KP:CK 87 zE:=ag fun (_,s,l,_) ((_,f,h,i,p,_),g,_) U=>by
 have X:=cg U;have Y:=cg (eU U);have S:=cg (eU (eU U));refine bw EY (TD s l f h i p g) Tryz.func87 (?_:(fun (J:Dsk)=>(fun (u:Prop)=>(fun (V:Prop)=>(fun (K:Prop)=>(fun (L:Prop)=>(fun (N:Prop)=>(fun (O:Int)=>(fun (T:Int)=>(fun (B:Nat)=>(fun (t:Int)=>(fun (e:Int)=>(fun (z:Dsk)=>(fun (C:Dsk)=>(fun (W:Dsk × Stable × Int)=>(fun (v:Stable)=>(fun (w:Int)=>(fun (a:Dsk)=>(fun (Q:Prop)=>(fun (F:Prop)=>bR s (l.length*48<=140737488355328->∃ (G:Nat),(u/\u/\O=t/\e=(↑G:Int)/\f=f/\h=h/\i=i/\p=p/\g=g/\aD s s (e=sta0.floor/\e=sta0.term/\e=sta0.vote/\sta0.log=[]/\encL (List.take G l)=[]))/\(G<=B/\(List.take G l).all recOk=true)/\∀ (c:Nat),c<=B/\(List.take c l).all recOk=true->((↑c:Int)<t->e<=(↑c:Int)/\(↑c:Int)<O/\∀ (x:Record),(fun (H:Int)=>(fun (y:List UInt8 × Int)=>l[c]? = some x->df x ((ay x).fst.length*1<=140737488355328->I64 H->(¬H=e->N->L->K->aD s v (H=w/\F))/\(H=e->y.fst.length*1<=140737488355328->I64 y.snd->(¬y.snd=e->N->L->K->aD s v (y.snd=w/\F))/\(y.snd=e->((encL (List.take c l)).length+y.fst.length)*1<=140737488355328/\I64 ((↑c:Int)+1)/\∃ (D:Nat),(u/\u/\t=t/\(↑c:Int)+1=(↑D:Int)/\f=f/\h=h/\i=i/\p=p/\g=g/\aD s s (aD sta0 sta0 (encL (List.take c l)++y.fst=encL (List.take D l))))/\(D <= B/\(List.take D l).all recOk=true)/\B - D < B - c)))) (fS (ay x).fst)) (ay x).snd)/\(t<=(↑c:Int)->N->L->K->∃ (G:Nat),(u/\u/\O=t/\e=(↑G:Int)/\f=f/\h=h/\i=i/\p=p/\g=g/\aD s s (aD sta0 sta0 (encL (List.take c l)=encL l/\dM s (stepsF s (List.take G l)).fst)))/\(G<=B/\V/\(stepsF s (List.take G l)).snd=e)/\∀ (q:Nat),(fun (A:Stable)=>q<=B/\V/\(stepsF s (List.take q l)).snd=e->((↑q:Int)<t->e<=(↑q:Int)/\(↑q:Int)<O/\∀ (x:Record),(fun (I:Int)=>l[q]? = some x->df x (A.log.length<=1000000/\bR (aG A x).fst (I64 I->(¬I=e->N->L->K->aD s v (I=w/\F))/\(I=e->I64 ((↑q:Int)+1)/\∃ (D:Nat),(u/\u/\t=t/\(↑q:Int)+1=(↑D:Int)/\f=f/\h=h/\i=i/\p=p/\g=g/\aD s s (aD sta0 sta0 (encL l=encL l/\dM (aG A x).fst (stepsF s (List.take D l)).fst)))/\(D <= B/\V/\(stepsF s (List.take D l)).snd=e)/\B - D < B - q)))) (aG A x).snd)/\(t<=(↑q:Int)->(O=e->aD A v (e=w/\F))/\(¬O=e->(e<=f/\f<=(↑g.length:Int)/\g.length<=65536)/\(I64 T->(¬T=e->N->L->K->aD s v (T=w/\z.synced=a.synced/\z.down=a.down/\z.doomed=a.doomed/\z.keep=a.keep/\z.b=a.b))/\(T=e->(e<=z.synced/\z.synced<=(↑z.b.length:Int)/\z.b.length<=65536)/\(I64 z.fx->(¬z.fx=e->N->L->K->aD s v (z.fx=w/\Q))/\(z.fx=e->aD A v (e=w/\Q)))))))) (stepsF s (List.take q l)).fst))) (f=a.synced/\h=a.down/\i=a.doomed/\p=a.keep/\g=a.b)) (C.synced=a.synced/\C.down=a.down/\C.doomed=a.doomed/\C.keep=a.keep/\C.b=a.b)) W.fst) W.snd.snd) W.snd.fst) (saveF J s l)) z.sync) (J.app (encL l))) 0) (↑B:Int)) l.length) (J.jM (encL l))) (↑l.length:Int)) (I64 s.floor)) (I64 s.term)) (I64 s.vote)) (l.all recOk=true)) (l=l)) (Dsk.mk g f h i p))
 have P:=X;obtain ⟨Z,j,m⟩:=X;dsimp only at Z j m;(repeat' with_reducible first|apply bc|refine ba ?_|intro)
 all_goals try (refine ⟨0,?_⟩; (repeat' with_reducible first|apply bc|refine ba ?_|intro))
 all_goals try (first | (refine ⟨‹Nat› + 1,?_⟩; (repeat' with_reducible first|apply bc|refine ba ?_|intro) <;> (first | exact bm | (with_reducible exact afu ab ab) | (with_reducible exact K_ ab ab ab) | (with_reducible exact Yh S ab ab) | (with_reducible exact aeY ab ab) | (with_reducible exact ad_ ab) | (with_reducible exact afx Y S) | (with_reducible exact afK ab ab) | (with_reducible exact (uX ab ab ab).1) | (with_reducible exact app_1 P) | (with_reducible exact XC P) | (with_reducible exact WY P) | (with_reducible exact (congrArg Stable.floor (uX ab ab ab).2).symm) | (with_reducible exact (congrArg Stable.term (uX ab ab ab).2).symm) | (with_reducible exact (congrArg Stable.vote (uX ab ab ab).2).symm) | (with_reducible exact (congrArg Stable.log (uX ab ab ab).2).symm) | (rw [ac2 (d:=Dsk.mk g f h i p) ab ab] <;> rfl) | (rw [aeF (d:=Dsk.mk g f h i p) ab ab ab ab] <;> rfl) | (rw [aeC (d:=Dsk.mk g f h i p) ab ab ab ab ab] <;> rfl) | (rw [afY (d:=Dsk.mk g f h i p) ab ab ab ab ab ab] <;> rfl) | (rw [aey (d:=Dsk.mk g f h i p) ab ab ab ab ab ab] <;> rfl) | (rw [afI (d:=Dsk.mk g f h i p) (k:=‹Nat›) ab] <;> rfl) | exact rfl); done) | (refine ⟨0,?_⟩; (repeat' with_reducible first|apply bc|refine ba ?_|intro)))
 all_goals try (refine ⟨‹Nat› + 1,?_⟩; (repeat' with_reducible first|apply bc|refine ba ?_|intro))
 all_goals (first | exact bm | (with_reducible exact afu ab ab) | (with_reducible exact K_ ab ab ab) | (with_reducible exact Yh S ab ab) | (with_reducible exact aeY ab ab) | (with_reducible exact ad_ ab) | (with_reducible exact afx Y S) | (with_reducible exact afK ab ab) | (with_reducible exact (uX ab ab ab).1) | (with_reducible exact app_1 P) | (with_reducible exact XC P) | (with_reducible exact WY P) | (with_reducible exact (congrArg Stable.floor (uX ab ab ab).2).symm) | (with_reducible exact (congrArg Stable.term (uX ab ab ab).2).symm) | (with_reducible exact (congrArg Stable.vote (uX ab ab ab).2).symm) | (with_reducible exact (congrArg Stable.log (uX ab ab ab).2).symm) | (rw [ac2 (d:=Dsk.mk g f h i p) ab ab] <;> rfl) | (rw [aeF (d:=Dsk.mk g f h i p) ab ab ab ab] <;> rfl) | (rw [aeC (d:=Dsk.mk g f h i p) ab ab ab ab ab] <;> rfl) | (rw [afY (d:=Dsk.mk g f h i p) ab ab ab ab ab ab] <;> rfl) | (rw [aey (d:=Dsk.mk g f h i p) ab ab ab ab ab ab] <;> rfl) | (rw [afI (d:=Dsk.mk g f h i p) (k:=‹Nat›) ab] <;> rfl) | exact rfl)
def afc:bF:=(aP 87 zE age)
def lO:aw Tryz.prog (aj tyT) afc:=(ah KP EY)
variable {l:List Entry}
def adv {x:Entry} (h:l[k]? = some x):l.take k++[x]=l.take (k+1):=(ai h).symm
def adC (h:(l.length:Int)<=k):l.take k=l:=List.take_of_length_le aK
def Ip (l:List Entry):List (Nat × LI):=[(3,{ σ:=Nat,F:=fun k=>([(3,one (.own 0)),(6,one (.fz (.nm .entry) (l))),(7,one (.int (l).length)),(8,one (.int k))],[.row 52 (.nm .entry) ((l.take k))]),J:=fun k=>k<=l.length,μ:=fun k=>(l).length - k })]
def BV:Kn:=aM ak av fun _ _=>⟨[],[.agg (cellsOf (.nm .state) (State.mk 1 1 0 0 [] [] []))],none,false⟩
def QT:CK 46 BV:=ag fun _ _ _=>by
 refine aq lO [] Tryz.func46 (?_:(1:Int)=1/\(1:Int)=1/\(0:Int)=0/\(0:Int)=0 /\ @Eq (List (den (Sh.nm NT.sess))) [] [] /\ @Eq (List (den (Sh.nm NT.opn))) [] [] /\ @Eq (List (den (Sh.nm NT.snap))) [] []);exact ⟨rfl,rfl,rfl,rfl,rfl,rfl,rfl⟩
def vG:Kn:=aM (ae (kC (aZ 0 0)) (ae (kC cI) (ae (kC cI) ak))) rM fun (_,kd,a,_) n=>⟨[],[.agg (cellsOf (.nm .letter) (rG n.c kd a))],none,false⟩
def Jc:CK 51 vG:=ag fun (_,kd,e,_) n _=>by
 refine aq lO [] Tryz.func51 (?_:(fun d=>I64 kd->I64 e->kd=d.kind/\n.c.me=d.frm/\e=d.to/\n.c.st.term=d.term/\0=d.a/\0=d.b/\0=d.c/\n.c.bin=d.bin/\false=d.ok/\d.l=[]) (rG n.c kd e));(repeat' with_reducible first|apply bc|refine ba ?_|intro)
 all_goals first | exact bm | rfl
def sg:Kn:=aM (ae (kC (cL (.nm .entry))) ak) av fun (l,_) _=>⟨[],[.c (.fz (.nm .entry) ((l)))],none,false⟩
theorem DJ:CK 60 sg:=ag fun (l,_) _ _=>by
 refine aq lO (Ip l) Tryz.func60 (?_:(fun (a:Nat)=>l.length*32<=140737488355328->∃ (d:Nat),(l=l/\(↑l.length:Int)=(↑a:Int)/\0=(↑d:Int)/\List.take d l=[])/\d<=a/\∀ (s:Nat),s<=a->((↑s:Int)<(↑a:Int)->0<=(↑s:Int)/\(↑s:Int)<(↑l.length:Int)/\∀ (x:Entry),(fun (e:Prop)=>l[s]? = some x->I64 x.term->e->(e->((List.take s l).length+[x].length)*32<=140737488355328)/\(e->I64 ((↑s:Int)+1)/\∃ (c:Nat),(l=l/\(↑a:Int)=(↑a:Int)/\(↑s:Int)+1=(↑c:Int)/\List.take s l++[x]=List.take c l)/\c <= a/\a - c < a - s)) (x.b.length*1<=140737488355328))/\((↑a:Int)<=(↑s:Int)->List.take s l=l)) l.length);iterate 3 ((all_goals (repeat' with_reducible first|apply bc|refine ba ?_|intro)); (all_goals try (first | exact bm | exact rfl | exact (adv ab) | exact (adC ab) | (simp only [List.length_take,List.length_cons,List.length_nil]; omega))); all_goals try first | refine ⟨‹Nat› + 1,?_⟩ | refine ⟨0,?_⟩)
def Hx:Kn:=aM (ae (kC (aZ 0 0)) (ae (kC cI) ak)) rM fun (_,k,_) n=>⟨[],[],some ((mh ({ n with d:=⟨n.d.b,n.d.synced,n.d.down,true,k⟩ }))),false⟩
def VU:CK 62 Hx:=ag fun (_,k,_) n _=>by
 refine bw lO [] Tryz.func62 (?_:I64 k->n.c.me=n.c.me/\n.c.many=n.c.many/\n.c.bin=n.c.bin/\aD n.c.st n.c.st (n.c.role=n.c.role/\n.c.commit=n.c.commit/\n.c.applied=n.c.applied/\bQ n.c.s n.c.s (n.d.synced=n.d.synced/\n.d.down=n.d.down/\true=true/\k=k/\n.d.b=n.d.b/\n.rp=n.rp/\n.vs=n.vs/\n.bn=n.bn/\n.nx=n.nx/\n.mt=n.mt)));(repeat' with_reducible first|apply bc|refine ba ?_|intro)
 all_goals first | exact bm | rfl
def Ab:Kn:=aM (ae (kC (aZ 0 0)) (ae (kC cI) ak)) rM fun (_,k,_) n=>⟨[n.d.OK],[],some ((mh ({ n with d:=n.d.cM k }))),false⟩
def QL:CK 30 Ab:=ag fun (_,k,_) n e=>by
 have f:=cg e;refine bw lO [] Tryz.func30 (?_:(fun a=>I64 k->(0<=n.d.synced/\n.d.synced<=(↑n.d.b.length:Int)/\n.d.b.length<=65536)/\n.c.me=n.c.me/\n.c.many=n.c.many/\n.c.bin=n.c.bin/\aD n.c.st n.c.st (n.c.role=n.c.role/\n.c.commit=n.c.commit/\n.c.applied=n.c.applied/\bQ n.c.s n.c.s (a.synced=a.synced/\a.down=a.down/\a.doomed=a.doomed/\a.keep=a.keep/\a.b=a.b/\n.rp=n.rp/\n.vs=n.vs/\n.bn=n.bn/\n.nx=n.nx/\n.mt=n.mt))) (n.d.cM k));obtain ⟨g,h,i⟩:=id f;(repeat' with_reducible first|apply bc|refine ba ?_|intro)
 all_goals first | exact bm | rfl
def WS:bF:=(aP 30 Ab (aP 62 Hx (aP 60 sg (aP 51 vG (aP 46 BV afc)))))
def oN:aw Tryz.prog (aj tyT) WS:=(ah QL (ah VU (ah DJ (ah Jc (ah QT lO)))))
variable {n:NdC}
def ad4 (h:¬ (k:Int)=n.me):jW n k++[(k:Int)]=jW n (k+1):=by
 simp [jW,List.range_succ,h]
def ae5 (h:(k:Int)=n.me):jW n k=jW n (k+1):=by
 simp [jW,List.range_succ,h]
def agf (a:k<=n.many.toNat) (h:n.many<=k):jW n k=cR n:=by
 unfold cR; congr 1; omega
def qW:(jW n k).length<=k:=by
 unfold jW;refine Nat.le_trans (List.length_filter_le _ _) ?_;simp
def QC (n:Nd):List (Nat × LI):=[(3,{ σ:=Nat,F:=fun k=>([(0,one (.ptr 0 0)),(3,one (.own 8)),(8,one (.int n.c.many)),(9,one (.int k))],(mh (n)++[.row 3 .int ((jW n.c k))])),J:=fun k=>k<=n.c.many.toNat,μ:=fun k=>n.c.many.toNat - k })]
def vr:Kn:=aM (ae (kC (cL .int)) ak) av fun (l,_) _=>⟨[],[.c (.own 0)],some ([.row 3 .int ((l))]),true⟩
def vT:CK 75 vr:=ag fun (l,_) _ _=>by
 refine dF oN [] Tryz.func75 (?_:(fun a=>a->∀ (b:Bool),(b=true->l=[])->(b=true->l=[])/\(b=false->a/\l=l)) (l.length*8<=140737488355328));exact fun h b c=>⟨c,fun _=>⟨h,rfl⟩⟩
def Ii (l:List Int):Sat Tryz.prog (aj tyT) 75 [.c (.fz .int (l))] [] ⟨[],[.c (.own 0)],some ([.row 3 .int ((l))]),true⟩:=vT _ _ _ rfl aa
def Oa:Kn:=aM (ae (kT (.nm .letter)) ak) av fun (x,_) _=>⟨[],[.agg (cellsOf (.nm .letter) (x))],none,false⟩
def aak:CK 59 Oa:=ag fun (x,_) _ _=>by
 refine aq oN [] Tryz.func59 (?_:aS x (x.l.length*32<=140737488355328->za x x));(repeat' with_reducible first|apply bc|refine ba ?_|intro)
 all_goals first | exact bm | rfl
def vC:Kn:=aM (ae (kC (aZ 0 0)) ak) rM fun _ n=>⟨[n.c.many<=5],[.c (.fz .int ((cR n.c)))],none,false⟩
theorem IX:CK 50 vC:=ag fun _ n h=>by
 have i:=cg h;refine aq oN (QC n) Tryz.func50 (?_:(fun (a:Int)=>(fun (e:Nat)=>∃ (g:Nat),(a=a/\0=(↑g:Int)/\Pz n n (jW n.c g=[]))/\g<=e/\∀ (s:Nat),(fun (f:Int)=>s<=e->((↑s:Int)<a->(¬(↑s:Int)=n.c.me->((jW n.c s).length+[(↑s:Int)].length)*8<=140737488355328/\I64 f/\∃ (d:Nat),(a=a/\f=(↑d:Int)/\Pz n n (jW n.c s++[(↑s:Int)]=jW n.c d))/\d <= e/\e - d < e - s)/\((↑s:Int)=n.c.me->I64 f/\∃ (d:Nat),(a=a/\f=(↑d:Int)/\Pz n n (jW n.c s=jW n.c d))/\d <= e/\e - d < e - s))/\(a<=(↑s:Int)->jW n.c s=cR n.c)) ((↑s:Int)+1)) a.toNat) n.c.many);iterate 3 ((all_goals (repeat' with_reducible first|apply bc|refine ba ?_|intro)); (all_goals try (first | exact bm | exact rfl | exact (ad4 ab) | exact (ae5 ab) | exact (agf ab ab) | (have:=qW (n:=n.c) (k:=‹Nat›); simp only [List.length_cons,List.length_nil]; omega))); all_goals try first | refine ⟨‹Nat› + 1,?_⟩ | refine ⟨0,?_⟩)
def Yk:bF:=(aP 50 vC (aP 59 Oa (aP 75 vr WS)))
def LP:aw Tryz.prog (aj tyT) Yk:=(ah IX (ah aak (ah vT oN)))
end Go.Proofs.YticbaadnibdbkaaGreat
namespace Go.Proofs.YticbaadnibdbkaaGreat
open Go.RowKit Go.Proofs Go.Shelf Go.Sort
def ye (w a:World) (l:List Int) (g:Nat) (b:List Value):Prop:=Kp [] w a/\w.heap.size<=g/\a.heap[g]? = some (.cells (List.toArray (l.map (Value.int .i64)++b)) 3 (0,0))
variable {w:World} {l:List Int}
theorem DB {G:Gl} {f:List RE} {v:Value} (u:G.shp=aj tyT) (q:Rep G f [] w) (x:Rd (cx G f w) f (.fz .int l) v) (H:l.length≠0) :
  jI Tryz.prog 75 #[v] w fun r s=>∃ g c k,r = .slice (some ⟨g,0,none⟩) l.length c/\ye w s l g k:=by
 have m:f=[]:=abL q.obj.length.symm;subst m;refine ((Ii l).2 G [] w [v] u q (.cons x .nil)).mono fun r s ⟨I,e,y,n,z,t,o,A⟩=>?_;have B:getO [AO.row 3 .int l] 0 = .row 3 .int l:=rfl;cases o with | cons a b=>?_
 cases b;rcases bE n B with ⟨_,j⟩ | ⟨g,c,p,k,j,C,D,J,K,F⟩
 ·grind
 rcases a with ⟨_,_,_,_,d,rfl⟩ | ⟨d,_⟩;case inr=>rw [j] at d; cases d
 rw [j] at d; cases d;obtain ⟨rfl,L⟩:=nb D;refine ⟨g,c,k,e,(A rfl).1,?_,C⟩;rcases Nat.lt_or_ge g w.heap.size with h | h
 ·exact absurd ⟨0,_,j,rfl⟩ (z.old g h (fun ⟨i,r,h,_⟩=>by simp at h)).1
 exact h
variable {sp:List Value} {w1:World}
def Dz {g d:Nat} (h:ye w w1 l g sp) (j:l.length<=12) :
  Calls Tryz.prog 265 #[.slice (some ⟨g,0,none⟩) l.length d,.func (.func 266) #[] #[]] w1 fun e f=>e = .returned (.tuple #[])/\ye w f (nT l) g sp:=by
 obtain ⟨c,k,m⟩:=h;refine (NL j m).mono fun e f ⟨n,a,o⟩=>⟨n,⟨a.os.trans c.os,a.tape.trans c.tape,a.output.trans c.output,Nat.le_trans c.size a.size,fun b i p=>?_⟩,k,o⟩;exact (a.block b (acU i c.size) (by simp; omega)).trans (c.block b i p)
def Ef {g i:Nat} (h:ye w w1 l g sp) (a:i<l.length):w1.cell? ⟨g,i,none⟩=some (.int .i64 (l.getD i 0)):=by
 rw [Lib.cell_of_heap h.2.2,List.getElem?_toArray,List.getElem?_append_left (by simpa using a),List.getElem?_map,List.getElem?_eq_getElem a,List.getD_eq_getElem?_getD,List.getElem?_eq_getElem a]; rfl
def Ij (l:List Int) (s:l.length<=12):Sat Tryz.prog (aj tyT) 228 [.c (.fz .int l)] [] ⟨[l.length<=12],[.c (.int (gJ l))],none,false⟩:=by
 refine ⟨⟨_,Tryz.func228,am,by kernel_rfl⟩,fun G n w B t u d=>?_⟩;cases d with | cons j d=>?_
 cases d;have m:=DB (l:=l) t u j;replace j:Pd (cx G n w) (.fz .int l) _:=j;cases j with | fz C D F v H=>?_
 rename_i a k o;have x:=(nb v).2;by_cases p:l.length=0
 ·clear m;go_enter Tryz.func228,Tryz.ntmps228
  have q:(l.length:Int)=0:=by omega
  go_wp2
  go_ret
  refine ⟨_,rfl,[_],rfl,?_,?_⟩
  ·exact Kp.refl w
  refine .cons ?_ .nil;have e:gJ l=0:=if_pos p;show Pd (cx G n w) (.int (gJ l)) (.int .i64 0);rw [e]; exact .int ⟨am,am⟩
 replace m:=m p;go_enter Tryz.func228,Tryz.ntmps228
 have q:¬ (l.length:Int)=0:=by omega
 have I:(l.length:Int).tdiv 2=((l.length / 2:Nat):Int):=by rw [Int.tdiv_eq_ediv_of_nonneg aK]; omega
 have J:0<=(l.length:Int).tdiv 2:=by omega
 have K:(l.length:Int).tdiv 2<(l.length:Int):=by omega
 have L:I64 ((l.length:Int).tdiv 2):=bz aK aK;go_wp2_with (first | (go_at_call 75; refine ak0 m ?_; rintro e w1 ⟨_,rfl,g,y,sp,rfl,r⟩) | (go_at_call 265; refine ak0 (Dz r s) ?_; rintro e z ⟨rfl,f⟩; have A:=Ef (i:=l.length / 2) f (by rw [qb]; omega)))
 go_ret
 refine ⟨_,rfl,[_],rfl,f.1,.cons ?_ .nil⟩;have e:gJ l=(nT l).getD (l.length / 2) 0:=if_neg p;show Pd (cx G n z) (.int (gJ l)) (.int .i64 ((nT l).getD (l.length / 2) 0));rw [e];refine .int (x _ ((List.mergeSort_perm l (fun a b=>decide (b<=a))).mem_iff.1 (show _ ∈ nT l from ?_)));have h:l.length / 2<(nT l).length:=by rw [qb]; omega
 rw [List.getD_eq_getElem?_getD,List.getElem?_eq_getElem h];exact agy h
end Go.Proofs.YticbaadnibdbkaaGreat
namespace Go.Proofs.YticbaadnibdbkaaGreat
open Go.RowKit
def RR (l:List Int) (a:l.length<=12):Sat Tryz.prog (aj tyT) 228 [.c (.fz .int (l))] [] ⟨[l.length<=12],[.c (.int ((gJ l)))],none,false⟩:=Ij l a
def Bs:Kn:=aM (ae (kC (cL .int)) ak) av fun (l,_) _=>⟨[l.length<=12],[.c (.int ((gJ l)))],none,false⟩
def Pq:CK 228 Bs:=ag fun (l,_) _ a=>RR l (cg a)
def XZ:bF:=(aP 228 Bs Yk)
def sD:aw Tryz.prog (aj tyT) XZ:=(ah Pq LP)
def gz {d:Dsk} {s:Stable} {l:List Record} (h:¬ (saveF d s l).2.2=0):(saveF d s l).2.1=s:=by
 revert h;unfold saveF;repeat' split
 all_goals first | (intro _; rfl) | (intro h; exact absurd rfl h)
def vS:Kn:=aM (ae (kT (.nm .stable)) (ae (kC (cL .int)) (ae (kC cI) ak))) av fun (s,l,k,_) _=>⟨[l.length<=12],[.c (.int ((mi s l k)))],none,false⟩
def Ky:CK 173 vS:=ag fun (s,l,k,_) _ b=>by
 have c:=cg b;refine aq sD [] Tryz.func173 (?_:(fun a=>bR s (l.length*8<=140737488355328->I64 k->l.length<=12/\(I64 (gJ l)->(k<a->I64 (cV s.log a))->(k<a/\cV s.log a=s.term->a=mi s l k)/\(a<=k\/¬cV s.log a=s.term->k=mi s l k)))) (min (gJ l) (↑s.log.length:Int)));(repeat' with_reducible first|apply bc|refine ba ?_|intro)
 all_goals (first | exact bm | (rw [mi,if_pos ⟨ab,ab⟩]) | (rw [mi,if_neg aK]))
def EZ:Kn:=aM (ae (kC (aZ 0 0)) (ae (kC (cL (.nm .record))) ak)) rM fun (_,l,_) n=>⟨[n.d.OK,n.c.st.log.length<=10000,l.length<=1000],[.c (.int ((n.aQ l)))],some ((mh ((n.save l)))),false⟩
def VN:CK 47 EZ:=ag fun (_,l,_) n e=>by
 have f:=cg e;have g:=cg (eU e);have h:=cg (eU (eU e));refine bw sD [] Tryz.func47 (?_:(fun a=>l.length*48<=140737488355328->((0<=n.d.synced/\n.d.synced<=(↑n.d.b.length:Int)/\n.d.b.length<=65536)/\n.c.st.log.length<=10000/\l.length<=1000)/\bR a.snd.fst (I64 a.snd.snd->(¬a.snd.snd=0->a.snd.snd=n.aQ l/\bV (Nd.mk n.c a.fst n.rp n.vs n.bn n.nx n.mt) (n.save l))/\(a.snd.snd=0->0=n.aQ l/\bV (Nd.mk (NdC.mk n.c.me n.c.many n.c.bin a.snd.fst n.c.role n.c.commit n.c.applied n.c.s) a.fst n.rp n.vs n.bn n.nx n.mt) (n.save l)))) (saveF n.d n.c.st l));obtain ⟨i,j,k⟩:=id f;(repeat' with_reducible first|apply bc|refine ba ?_|intro)
 all_goals (first | exact bm | exact rfl | exact (Eq.symm ab) | exact (congrArg Stable.floor (gz ab)).symm | exact (congrArg Stable.term (gz ab)).symm | exact (congrArg Stable.vote (gz ab)).symm | exact (congrArg Stable.log (gz ab)).symm)
def YW:bF:=(aP 47 EZ (aP 173 vS XZ))
def kU:aw Tryz.prog (aj tyT) YW:=(ah VN (ah Ky sD))
structure AJ (n q:Nd):Prop where
 eq:n.apply=q.apply
 le:0<=q.c.applied/\q.c.commit<=(q.c.st.log.length:Int)/\(q.rp.length:Int)<=q.c.applied/\q.c.st.log.length<=10000
def Nd.ap1 (q:Nd):Nd:={ q with c:={ q.c with s:=plS q.c.bin q.c.s ((q.c.st.log.drop q.c.applied.toNat).take ((q.c.applied+1).toNat - q.c.applied.toNat)),applied:=q.c.applied+1 },rp:=q.rp++plR q.c.bin q.c.s ((q.c.st.log.drop q.c.applied.toNat).take ((q.c.applied+1).toNat - q.c.applied.toNat)) }
section
variable {n q:Nd}
def akl (h:(0<=n.c.applied/\n.c.commit<=(n.c.st.log.length:Int))/\(n.rp.length:Int)<=n.c.applied/\n.c.st.log.length<=10000):AJ n n:=⟨rfl,aK⟩
def Ss (h:AJ n q):(q.c.applied+1).toNat - q.c.applied.toNat=1:=by have:=h.le; omega
def PY (h:AJ n q):(plR q.c.bin q.c.s ((q.c.st.log.drop q.c.applied.toNat).take ((q.c.applied+1).toNat - q.c.applied.toNat))).length<=1:=by
 rw [Ss h,plR,Er,List.length_take,List.length_take]; omega
theorem ajD (h:AJ n q) (d:q.c.applied<q.c.commit) (a:pE q.c.bin ((q.c.st.log.drop q.c.applied.toNat).take ((q.c.applied+1).toNat - q.c.applied.toNat))=0):AJ n q.ap1:=by
 have b:=h.le;have e:=PY h;refine ⟨?_,?_,b.2.1,?_,b.2.2.2⟩
 ·rw [h.eq,Nd.apply,show (q.c.commit - q.c.applied).toNat=(q.c.commit - (q.c.applied+1)).toNat+1 by omega,Nd.dw,if_pos d];rw [Ss h] at a;rw [if_pos a,Nd.apply,Nd.ap1,Ss h]
 ·show 0<=q.c.applied+1;omega
 show (((q.rp++_).length:Nat):Int)<=q.c.applied+1;grind
def ajj (a:q.c.applied<q.c.commit):(q.c.commit - (q.c.applied+1)).toNat<(q.c.commit - q.c.applied).toNat:=by omega
def ah3 (h:AJ n q) (b:q.c.applied<q.c.commit) (a:¬ pE q.c.bin ((q.c.st.log.drop q.c.applied.toNat).take ((q.c.applied+1).toNat - q.c.applied.toNat))=0):n.apply=q:=by
 rw [Ss h] at a;rw [h.eq,Nd.apply,show (q.c.commit - q.c.applied).toNat=(q.c.commit - (q.c.applied+1)).toNat+1 by omega,Nd.dw,if_pos b,if_neg a]
def ahx (h:AJ n q) (a:q.c.commit<=q.c.applied):n.apply=q:=by
 rw [h.eq,Nd.apply,show (q.c.commit - q.c.applied).toNat=0 by omega,Nd.dw]
def aiv (h:AJ n q):0<=q.c.applied:=h.le.1
def aiN (h:AJ n q) (a:q.c.applied<q.c.commit):q.c.applied+1<=(q.c.st.log.length:Int):=by have:=h.le; omega
def akt (h:AJ n q) (a:q.c.applied<q.c.commit):I64 (q.c.applied+1):=by have:=h.le; exact bz aK aK
def ajr (h:AJ n q) (a:q.c.applied<q.c.commit):(q.rp.length+(plR q.c.bin q.c.s ((q.c.st.log.drop q.c.applied.toNat).take ((q.c.applied+1).toNat - q.c.applied.toNat))).length)*16<=140737488355328:=by
 have:=h.le; have:=PY h; omega
end
def cr (n:Nd):Site:=if n.d.down=true then ⟨false,0,0,0,0,0,0,0,[],⟨0,0,0,0,[],[],[]⟩⟩ else ⟨true,n.c.role,n.c.bin,n.c.st.floor,n.c.st.term,n.c.st.vote,n.c.commit,n.c.applied,n.c.st.log,n.c.s⟩
variable {n:Nd}
def Sb (h:n.d.down=true):cr n=⟨false,0,0,0,0,0,0,0,[],⟨0,0,0,0,[],[],[]⟩⟩:=if_pos h
def De (h:n.d.down=false):cr n=⟨true,n.c.role,n.c.bin,n.c.st.floor,n.c.st.term,n.c.st.vote,n.c.commit,n.c.applied,n.c.st.log,n.c.s⟩:=if_neg (by rw [h]; decide)
theorem kQ {s:Stable} {r:Route} (h:¬ (gu s r).2=0):(gu s r).1=cK:=by
 revert h;unfold gu;grind
section
variable {n:Nd} {k t:Int}
end
def VX (n:Nd):List (Nat × LI):=[(0,{ σ:=Nd,F:=fun q=>([(0,one (.ptr 0 0))],(mh (q))),J:=fun q=>AJ n q,μ:=fun q=>(q.c.commit - q.c.applied).toNat })]
def vK:Kn:=aM (ae (kC (aZ 0 0)) (ae (kC cI) ak)) rM fun (_,k,_) n=>⟨[0<=k/\k<(n.nx.length:Int)],[.agg (cellsOf (.nm .letter) ((jf n k).1)),.c (.int (((jf n k).2)))],none,false⟩
def Ix:CK 71 vK:=ag fun (_,k,_) n g=>by
 have h:=cg g;refine aq kU [] Tryz.func71 (?_:(fun d=>(fun e=>(fun f=>I64 k->(d<=k/\k<(↑n.nx.length:Int))/\(I64 (n.nx.getD k.toNat (ao Sh.int))->aS f.fst (I64 f.snd->(¬f.snd=d->d=e.kind/\d=e.frm/\d=e.to/\d=e.term/\d=e.a/\d=e.b/\d=e.c/\d=e.bin/\false=e.ok/\e.l=[]/\f.snd=(jf n k).snd)/\(f.snd=d->aS f.fst (iH f.fst e (d=(jf n k).snd)))))) (gu n.c.st (Route.mk n.c.me k (n.nx.getD k.toNat (ao Sh.int)) n.c.commit n.c.bin))) (jf n k).fst) (0:Int));(repeat' with_reducible first|apply bc|refine ba ?_|intro)
 all_goals (first | exact bm | exact rfl | exact (congrArg Letter.kind (kQ ap)).symm | exact (congrArg Letter.frm (kQ ap)).symm | exact (congrArg Letter.to (kQ ap)).symm | exact (congrArg Letter.term (kQ ap)).symm | exact (congrArg Letter.a (kQ ap)).symm | exact (congrArg Letter.b (kQ ap)).symm | exact (congrArg Letter.c (kQ ap)).symm | exact (congrArg Letter.bin (kQ ap)).symm | exact (congrArg Letter.ok (kQ ap)).symm | exact (congrArg Letter.l (kQ ap)).symm | exact (Eq.symm ap) | exact (congrArg Letter.l (kQ ap)))
def ER:Kn:=aM (ae (kC (aZ 0 0)) ak) rM fun _ n=>⟨[],[.agg (cellsOf (.nm .site) (cr n))],none,false⟩
def Ud:CK 17 ER:=ag fun _ n _=>by
 refine aq kU [] Tryz.func17 (?_:(fun a=>(fun b=>(fun e=>(n.d.down=true->false=b.up/\a=b.role/\a=b.binary/\a=b.floor/\a=b.term/\a=b.vote/\a=b.commit/\a=b.applied/\b.log=[]/\a=e.version/\a=e.next/\a=e.keep/\a=e.quota/\e.sess=[]/\e.opens=[]/\e.snaps=[])/\(n.d.down=false->n.c.st.log.length*32<=140737488355328->I64 n.c.s.version->I64 n.c.s.next->I64 n.c.s.keep->I64 n.c.s.quota->acK (Site.mk true n.c.role n.c.bin n.c.st.floor n.c.st.term n.c.st.vote n.c.commit n.c.applied n.c.st.log n.c.s) b)) b.state) (cr n)) (0:Int));(repeat' with_reducible first|apply bc|refine ba ?_|intro)
 all_goals (first | exact bm | (rw [Sb (n:=n) ab] <;> rfl) | (rw [De (n:=n) ab] <;> rfl))
def GA:Kn:=aM (ae (kC (aZ 0 0)) ak) rM fun _ n=>⟨[n.d.OK],[.c (.fz .u8 ((n.d.b)))],none,false⟩
def Ux:CK 20 GA:=ag fun _ n a=>by
 have c:=cg a;refine aq kU [] Tryz.func20 (?_:(0<=n.d.synced/\n.d.synced<=(↑n.d.b.length:Int)/\n.d.b.length<=65536)/\n.d.b=n.d.b);obtain ⟨e,f,g⟩:=id c;(repeat' with_reducible first|apply bc|refine ba ?_|intro)
 all_goals (first | exact bm | exact rfl)
def z_:Kn:=aM (ae (kC (aZ 0 0)) ak) rM fun _ n=>⟨[(0<=n.c.applied/\n.c.commit<=(n.c.st.log.length:Int))/\(n.rp.length:Int)<=n.c.applied/\n.c.st.log.length<=10000],[],some ((mh ((n.apply)))),false⟩
theorem PI:CK 99 z_:=ag fun _ n l=>by
 have j:=cg l;refine bw kU (VX n) Tryz.func99 (?_:(fun m=>∃ k,bV n k/\AJ n k/\∀ (s:Nd),(fun a=>(fun e=>(fun b=>(fun f=>(fun g=>(fun h=>AJ n s->(b<a.commit->I64 f/\(0<=b/\b<=f/\f<=(↑a.st.log.length:Int))/\(I64 h.version->I64 h.next->I64 h.keep->I64 h.quota->I64 (pE e g)->(¬pE e g=0->bV s n.apply)/\(pE e g=0->(s.rp.length+(plR e a.s g).length)*16<=140737488355328/\I64 f/\∃ i,bV (Nd.mk (NdC.mk a.me a.many e a.st a.role a.commit f h) s.d (s.rp++plR e a.s g) s.vs s.bn s.nx s.mt) i /\ AJ n i /\ (i.c.commit - i.c.applied).toNat<(a.commit - b).toNat)))/\(a.commit<=b->bV s n.apply)) (plS e a.s g)) (List.take (f.toNat - b.toNat) (List.drop b.toNat a.st.log))) (b+m)) a.applied) a.bin) s.c) (1:Int));obtain ⟨o,p⟩:=id j;(repeat' with_reducible first|apply bc|refine ba ?_|intro)
 all_goals try ( refine ⟨n,?_⟩; (repeat' with_reducible first|apply bc|refine ba ?_|intro))
 all_goals try ( refine ⟨(‹Nd›).ap1,?_⟩; (repeat' with_reducible first|apply bc|refine ba ?_|intro))
 all_goals (first | exact bm | exact rfl | exact (akl (n:=n) j) | exact aiv ab | exact (aiN ab ab) | exact (akt ab ab) | exact (ajr ab ab) | exact (ajj ab) | exact (ajD ab ab ab) | (rw [ah3 ab ab ab] <;> rfl) | (rw [ahx ab ab] <;> rfl))
def XN:bF:=(aP 99 z_ (aP 20 GA (aP 17 ER (aP 71 vK YW))))
def om:aw Tryz.prog (aj tyT) XN:=(ah PI (ah Ux (ah Ud (ah Ix kU))))
section
variable {n:Nd} {l:List Int} {x:Int} {k:Nat}
theorem abu:∀ {l:List Int},(cu n l).2=0->cu n (l++[x])=if (jf n x).2=0 then ((cu n l).1++[(jf n x).1],0) else ([],(jf n x).2)
 | [],_=>by
  by_cases h:(jf n x).2=0
  ·rw [if_pos h]; simp [cu,h]
  rw [if_neg h]; simp [cu,h]
 | t :: l,h=>by
  unfold cu at h;split at h
  ·rename_i a;split at h
   ·rename_i b;rw [List.cons_append,cu,if_pos a,abu b];by_cases c:(jf n x).2=0
    ·rw [if_pos c,if_pos c,if_pos rfl,cu,if_pos a,if_pos b]; rfl
    grind
   grind
  grind
theorem ac3:∀ {l m:List Int},¬ (cu n l).2=0->cu n (l++m)=([],(cu n l).2)
 | t :: l,m,h=>by
  unfold cu at h ⊢;rw [List.cons_append];dsimp only;split at h
  ·rename_i b;split at h
   ·grind
   rename_i a;rw [if_neg a,ac3 a,if_neg a,if_pos b]
  grind
theorem Mh:∀ {l:List Int},(cu n l).1.length<=l.length
 | []=>Nat.le_refl _
 | t :: l=>by
  have:=Mh (l:=l);unfold cu;grind
def ag4 (h:n.d.down=true):cc n=([],30):=if_pos h
def ahP (h:n.d.down=false) (a:¬ n.c.role=2):cc n=([],33):=by
 rw [cc,if_neg (by rw [h]; decide),if_neg a]
def af7 (h:n.d.down=false) (a:n.c.role=2):cc n=cu n (cR n.c):=by
 rw [cc,if_neg (by rw [h]; decide),if_pos a]
def aj9 (h:n.d.down=false) (f:n.c.role=2) (g:(cu n ((cR n.c).take k)).2=0) (i:(cR n.c)[k]? = some x) (b:¬ (jf n x).2=0):cc n=([],(jf n x).2):=by
 have e:cR n.c=(cR n.c).take k++[x]++(cR n.c).drop (k+1):=by
  rw [<- ai i,List.take_append_drop]
 have a:=abu (x:=x) g;rw [if_neg b] at a;rw [af7 h f,e,ac3 (by rw [a]; exact b),a]
theorem ahk (h:n.d.down=false) (a:n.c.role=2) (b:(cu n ((cR n.c).take k)).2=0) (e:((cR n.c).length:Int)<=k):cc n=((cu n ((cR n.c).take k)).1,0):=by
 rw [af7 h a,List.take_of_length_le aK] at *;grind
def adE (a:(cu n ((cR n.c).take k)).2=0) (b:(cR n.c)[k]? = some x) (d:(jf n x).2=0):(cu n ((cR n.c).take k)).1++[(jf n x).1]=(cu n ((cR n.c).take (k+1))).1/\(cu n ((cR n.c).take (k+1))).2=0:=by
 rw [ai b,abu a,if_pos d]; exact ⟨rfl,rfl⟩
theorem ai_ {y:Letter} (a:n.c.many<=5):((cu n ((cR n.c).take k)).1.length+[y].length)*96<=140737488355328:=by
 have b:=Mh (n:=n) (l:=(cR n.c).take k);have d:(cR n.c).length<=n.c.many.toNat:=qW;grind
def YM {n:NdC} (a:(cR n)[k]? = some x):x≠n.me/\0<=x/\x<n.many:=xB (List.mem_iff_getElem?.2 ⟨k,a⟩)
def aiu (h:n.c.role=0\/(n.nx.length:Int)=n.c.many) (b:n.c.role=2) (a:(cR n.c)[k]? = some x):x<(n.nx.length:Int):=by
 have:=YM a; omega
end
section
variable {n:Nd} {c:Command}
def mb {b:Bool} (h:b=false):¬ b=true:=by rw [h]; decide
def aij (h:n.d.down=true):dg n c=⟨n,0,0,30⟩:=if_pos h
def ahf (h:n.d.down=false) (a:¬ n.c.role=2):dg n c=⟨n,0,0,33⟩:=by rw [dg,if_neg (mb h),if_pos a]
def ahl (h:n.d.down=false) (b:n.c.role=2) (a:¬ bL c n.c.s.version=0):dg n c=⟨n,0,0,bL c n.c.s.version⟩:=by rw [dg,if_neg (mb h),if_neg aK,if_pos a]
variable (h:n.d.down=false) (h1:n.c.role=2) (h2:bL c n.c.s.version=0)
include h h1 h2
def air (a:c.kind=8) (b:¬ c.n=n.c.s.version+1):dg n c=⟨n,0,0,1⟩:=by rw [dg,if_neg (mb h),if_neg aK,if_neg aK,if_pos ⟨a,b⟩]
def akc (d:¬ c.kind=8\/c.n=n.c.s.version+1) (a:c.kind=8) (b:kY n.c.s.version n.bn=false):dg n c=⟨n,0,0,34⟩:=by rw [dg,if_neg (mb h),if_neg aK,if_neg aK,if_neg aK,if_pos ⟨a,b⟩]
variable (h3:¬ c.kind=8\/c.n=n.c.s.version+1) (h4:¬ c.kind=8\/kY n.c.s.version n.bn=true)
include h3 h4
theorem UU:dg n c=if 64<(n.c.st.log.length:Int)+1 then ⟨n,0,0,20⟩ else if ¬ (ez c n.c.st.term n.c.s.version).2=0 then ⟨n,0,0,(ez c n.c.st.term n.c.s.version).2⟩
 else let l:=[⟨3,(n.c.st.log.length:Int)+1,(ez c n.c.st.term n.c.s.version).1.term,(ez c n.c.st.term n.c.s.version).1.b⟩]
  if n.aQ l=0 then ⟨n.save l,(n.c.st.log.length:Int)+1,n.c.st.term,0⟩ else ⟨n.save l,0,0,n.aQ l⟩:=by
 rw [dg,if_neg (mb h),if_neg aK,if_neg aK,if_neg aK,if_neg];grind
def ahW (a:64<(n.c.st.log.length:Int)+1):dg n c=⟨n,0,0,20⟩:=by rw [UU h h1 h2 h3 h4,if_pos a]
variable (h5:(n.c.st.log.length:Int)+1<=64)
include h5
def ajB (a:¬ (ez c n.c.st.term n.c.s.version).2=0):dg n c=⟨n,0,0,(ez c n.c.st.term n.c.s.version).2⟩:=by rw [UU h h1 h2 h3 h4,if_neg aK,if_pos a]
def aiV (d:(ez c n.c.st.term n.c.s.version).2=0) (a:¬ n.aQ [⟨3,(n.c.st.log.length:Int)+1,(ez c n.c.st.term n.c.s.version).1.term,(ez c n.c.st.term n.c.s.version).1.b⟩]=0):dg n c=⟨n.save [⟨3,(n.c.st.log.length:Int)+1,(ez c n.c.st.term n.c.s.version).1.term,(ez c n.c.st.term n.c.s.version).1.b⟩],0,0,n.aQ [⟨3,(n.c.st.log.length:Int)+1,(ez c n.c.st.term n.c.s.version).1.term,(ez c n.c.st.term n.c.s.version).1.b⟩]⟩:=by rw [UU h h1 h2 h3 h4,if_neg aK,if_neg aK]; exact if_neg a
def ako (d:(ez c n.c.st.term n.c.s.version).2=0) (a:n.aQ [⟨3,(n.c.st.log.length:Int)+1,(ez c n.c.st.term n.c.s.version).1.term,(ez c n.c.st.term n.c.s.version).1.b⟩]=0):dg n c=⟨n.save [⟨3,(n.c.st.log.length:Int)+1,(ez c n.c.st.term n.c.s.version).1.term,(ez c n.c.st.term n.c.s.version).1.b⟩],(n.c.st.log.length:Int)+1,n.c.st.term,0⟩:=by rw [UU h h1 h2 h3 h4,if_neg aK,if_neg aK]; exact if_pos a
end
section
variable {n:Nd} {x:Letter}
def ahG (h:¬ (aO n.c.st x).2.2=0):cS n x=⟨n,[],(aO n.c.st x).2.2⟩:=if_pos h
def ai2 (h:(aO n.c.st x).2.2=0) (a:¬ n.aQ (aO n.c.st x).1=0):cS n x=⟨n.save (aO n.c.st x).1,[],n.aQ (aO n.c.st x).1⟩:=by rw [cS,if_neg aK,if_pos a]
def agG (h:(aO n.c.st x).2.2=0) (a:n.aQ (aO n.c.st x).1=0):cS n x=⟨n.save (aO n.c.st x).1,[{ rG (n.save (aO n.c.st x).1).c 2 x.frm with ok:=(aO n.c.st x).2.1 }],0⟩:=by rw [cS,if_neg aK,if_neg aK]
theorem Vz {s:Stable}:(aO s x).1.length<=1000:=by
 have h:=gk (s:=s) (t:=x.term);unfold aO;grind
end
def acz (n:Nd):List (Nat × LI):=[(7,{ σ:=Nat,F:=fun k=>([(0,one (.ptr 0 0)),(4,one (.own 8)),(21,one (.fz .int (cR n.c))),(22,one (.int (cR n.c).length)),(23,one (.int k))],(mh (n)++[.row 40 (.nm .letter) (((cu n ((cR n.c).take k)).1))])),J:=fun k=>k<=(cR n.c).length/\(cu n ((cR n.c).take k)).2=0,μ:=fun k=>(cR n.c).length - k })]
def Fx:Kn:=aM (ae (kC (aZ 0 0)) ak) rM fun _ n=>⟨[n.c.many<=5,n.c.role=0\/(n.nx.length:Int)=n.c.many],[.c (.fz (.nm .letter) (((cc n).1))),.c (.int (((cc n).2)))],none,false⟩
theorem TZ:CK 31 Fx:=ag fun _ n k=>by
 have l:=cg k;have m:=cg (eU k);refine aq om (acz n) Tryz.func31 (?_:(fun (i:Prop)=>(fun (e:Int)=>(fun (a:List Int)=>(fun (b:Nat)=>(n.d.down=true->i/\30=(cc n).snd)/\(n.d.down=false->(¬n.c.role=2->i/\33=(cc n).snd)/\(n.c.role=2->n.c.many<=5/\(a.length*8<=140737488355328->∃ (g:Nat),(a=a/\(↑a.length:Int)=(↑b:Int)/\e=(↑g:Int)/\Pz n n ((cu n (List.take g a)).fst=[]))/\(g<=b/\(cu n (List.take g a)).snd=e)/\∀ (s:Nat),(fun (j:List Letter)=>s<=b/\(cu n (List.take s a)).snd=e->((↑s:Int)<(↑b:Int)->e<=(↑s:Int)/\(↑s:Int)<(↑a.length:Int)/\∀ (x:Int),(fun (h:Int)=>a[s]? = some x->I64 x->(e<=x/\x<(↑n.nx.length:Int))/\aS (jf n x).fst (I64 h->(¬h=e->i/\h=(cc n).snd)/\(h=e->(j.length+[(jf n x).fst].length)*96<=140737488355328/\I64 ((↑s:Int)+1)/\∃ (f:Nat),(a=a/\(↑b:Int)=(↑b:Int)/\(↑s:Int)+1=(↑f:Int)/\Pz n n (j++[(jf n x).fst]=(cu n (List.take f a)).fst))/\(f <= b/\(cu n (List.take f a)).snd=e)/\b - f < b - s))) (jf n x).snd)/\((↑b:Int)<=(↑s:Int)->j=(cc n).fst/\e=(cc n).snd)) (cu n (List.take s a)).fst)))) a.length) (cR n.c)) 0) ((cc n).fst=[]));iterate 3 ((all_goals (repeat' with_reducible first|apply bc|refine ba ?_|intro)); (all_goals try (first | exact bm | exact rfl | exact (adE ab ab ab).1 | exact (adE ab ab ab).2 | exact (ai_ l) | exact (YM ab).2.1 | exact (aiu m ab ab) | (rw [ag4 (n:=n) ab] <;> rfl) | (rw [ahP (n:=n) ab ab] <;> rfl) | (rw [aj9 (n:=n) ab ab ab ab ab] <;> rfl) | (rw [ahk (n:=n) ab ab ab ab] <;> rfl))); all_goals try first | refine ⟨‹Nat› + 1,?_⟩ | refine ⟨0,?_⟩)
def Ge:Kn:=aM (ae (kC (aZ 0 0)) (ae (kT (.nm .command)) ak)) rM fun (_,c,_) n=>⟨[NdOK n],[.c (.int (((dg n c).a))),.c (.int (((dg n c).b))),.c (.int (((dg n c).e)))],some ((mh ((dg n c).n))),false⟩
theorem Wd:CK 15 Ge:=ag fun (_,c,_) n t=>by
 have r:=cg t;refine bw om [] Tryz.func15 (?_:(fun o=>(fun j=>(fun q=>(fun p=>(fun h=>(fun i=>(fun f=>(fun g=>(fun k=>(fun l=>(fun m=>bH c ((n.d.down=true->l/\k/\30=f.e/\g)/\(n.d.down=false->(¬n.c.role=2->l/\k/\33=f.e/\g)/\(n.c.role=2->I64 (bL c j)->(¬bL c j=h->l/\k/\bL c j=f.e/\g)/\(bL c j=h->(o->I64 q)/\(o/\¬c.n=q->l/\k/\1=f.e/\g)/\(¬o\/c.n=q->(o/\kY j n.bn=false->l/\k/\34=f.e/\g)/\(¬o\/kY j n.bn=true->I64 p/\(64<p->l/\k/\20=f.e/\g)/\(p<=64->I64 i.fst.term->i.fst.b.length*1<=140737488355328->I64 i.snd->(¬i.snd=h->l/\k/\i.snd=f.e/\g)/\(i.snd=h->(h<=n.d.synced/\n.d.synced<=(↑n.d.b.length:Int)/\n.d.b.length<=65536)/\n.c.st.log.length<=10000/\m.length<=1000/\(I64 (n.aQ m)->(¬n.aQ m=h->l/\k/\n.aQ m=f.e/\bV (n.save m) f.n)/\(n.aQ m=h->p=f.a/\n.c.st.term=f.b/\h=f.e/\bV (n.save m) f.n))))))))))) [Record.mk 3 p i.fst.term i.fst.b]) (h=f.a)) (h=f.b)) (bV n f.n)) (dg n c)) (ez c n.c.st.term j)) (0:Int)) ((↑n.c.st.log.length:Int)+1)) (j+1)) n.c.s.version) (c.kind=8));obtain ⟨u,v,w⟩:=id r.d;have x:=r.log;(repeat' with_reducible first|apply bc|refine ba ?_|intro)
 all_goals (first | exact bm | (simp only [List.length_cons,List.length_nil]; omega) | (have i:=(VY (by with_reducible assumption:bL c n.c.s.version=0)).1; exact bz aK aK) | (rw [aij (n:=n) ab] <;> rfl) | (rw [ahf (n:=n) ab ab] <;> rfl) | (rw [ahl (n:=n) ab ab ab] <;> rfl) | (rw [air (n:=n) ab ab ab ab ab] <;> rfl) | (rw [akc (n:=n) ab ab ab ab ab ab] <;> rfl) | (rw [ahW (n:=n) ab ab ab ab ab ab] <;> rfl) | (rw [ajB (n:=n) ab ab ab ab ab ab ab] <;> rfl) | (rw [aiV (n:=n) ab ab ab ab ab ab ab ab] <;> rfl) | (rw [ako (n:=n) ab ab ab ab ab ab ab ab] <;> rfl))
def Bu:Kn:=aM (ae (kC (aZ 0 0)) (ae (kT (.nm .letter)) ak)) rM fun (_,x,_) n=>⟨[NdOK n],[.c (.fz (.nm .letter) (((cS n x).l))),.c (.int (((cS n x).e)))],some ((mh ((cS n x).n))),false⟩
def MD:CK 56 Bu:=ag fun (_,x,_) n m=>by
 have k:=cg m;refine bw om [] Tryz.func56 (?_:(fun i=>(fun h=>(fun f=>(fun j=>(fun g=>aS x (f.fst.length*48<=140737488355328->I64 f.snd.snd->(¬f.snd.snd=i->h.l=[]/\f.snd.snd=h.e/\bV n h.n)/\(f.snd.snd=i->(i<=n.d.synced/\n.d.synced<=(↑n.d.b.length:Int)/\n.d.b.length<=65536)/\n.c.st.log.length<=10000/\f.fst.length<=1000/\(I64 j->(¬j=i->h.l=[]/\j=h.e/\bV (n.save f.fst) h.n)/\(j=i->aS g ([Letter.mk g.kind g.frm g.to g.term g.a g.b g.c g.bin f.snd.fst g.l]=h.l/\i=h.e/\bV (n.save f.fst) h.n)))))) (rG (n.save f.fst).c 2 x.frm)) (n.aQ f.fst)) (aO n.c.st x)) (cS n x)) (0:Int));obtain ⟨o,p,q⟩:=id k.d;have r:=k.log;(repeat' with_reducible first|apply bc|refine ba ?_|intro)
 all_goals (first | exact bm | exact Vz | (rw [ahG (n:=n) ab] <;> rfl) | (rw [ai2 (n:=n) ab ab] <;> rfl) | (rw [agG (n:=n) ab ab] <;> rfl))
def Yv:bF:=(aP 56 Bu (aP 15 Ge (aP 31 Fx XN)))
def rX:aw Tryz.prog (aj tyT) Yv:=(ah MD (ah Wd (ah TZ om)))
section
variable {n:Nd} {k:Nat} {y:Int}
theorem JE {s:Stable} {m:Int}:(aV s m).1.length<=1000:=by
 unfold aV;grind
def aiW (h:n.d.down=true):bq n=⟨n,[],30⟩:=if_pos h
variable (h:n.d.down=false)
include h
def aiA (a:n.c.role=2):bq n=⟨n,[],0⟩:=by rw [bq,if_neg (mb h),if_pos a]
variable (h1:¬ n.c.role=2)
include h1
def aie (a:¬ (aV n.c.st n.c.me).2=0):bq n=⟨n,[],(aV n.c.st n.c.me).2⟩:=by rw [bq,if_neg (mb h),if_neg h1,if_pos a]
variable (h2:(aV n.c.st n.c.me).2=0)
include h2
def ake (a:¬ n.aQ (aV n.c.st n.c.me).1=0):bq n=⟨n.save (aV n.c.st n.c.me).1,[],n.aQ (aV n.c.st n.c.me).1⟩:=by rw [bq,if_neg (mb h),if_neg h1,if_neg aK,if_pos a]
variable (h3:n.aQ (aV n.c.st n.c.me).1=0)
include h3
def afZ:bq n=⟨(n.save (aV n.c.st n.c.me).1).eB,gC (n.save (aV n.c.st n.c.me).1).eB.c,0⟩:=by rw [bq,if_neg (mb h),if_neg h1,if_neg aK,if_neg aK]
def aiY (a:((cR (n.save (aV n.c.st n.c.me).1).eB.c).length:Int)<=k):(gC (n.save (aV n.c.st n.c.me).1).eB.c).take k=(bq n).l:=by
 rw [afZ h h1 h2 h3];exact List.take_of_length_le (by unfold gC; rw [List.length_map]; omega)
end
section
variable {c:NdC} {k:Nat} {y:Int} {z:Letter}
theorem aiD (a:c.many<=5):(((gC c).take k).length+[z].length)*96<=140737488355328:=by
 have b:(cR c).length<=c.many.toNat:=qW;rw [List.length_take,gC,List.length_map];grind
def aj8 (a:(k:Int)<((cR c).length:Nat)) (b:c.many<=5):I64 ((k:Int)+1):=by
 have d:(cR c).length<=c.many.toNat:=qW;exact bz aK aK
def ajQ (d:(cR c)[k]? = some y):(gC c).take k++[Letter.mk (rG c 1 y).kind (rG c 1 y).frm (rG c 1 y).to (rG c 1 y).term c.st.log.length (iu c.st.log) (rG c 1 y).c (rG c 1 y).bin (rG c 1 y).ok (rG c 1 y).l]=(gC c).take (k+1):=by
 have:(gC c)[k]? = some { rG c 1 y with a:=c.st.log.length,b:=iu c.st.log }:=by
  unfold gC; rw [List.getElem?_map,d]; rfl
 rw [ai this]
end
section
variable {n:Nd} {x:Letter}
def ahC (h:¬ (aE n.c.st x).2.2.2=0):bZ n x=⟨n,[],(aE n.c.st x).2.2.2⟩:=if_pos h
variable (h:(aE n.c.st x).2.2.2=0)
include h
def ajV (a:¬ n.aQ (aE n.c.st x).1=0):bZ n x=⟨n.save (aE n.c.st x).1,[],n.aQ (aE n.c.st x).1⟩:=by rw [bZ,if_neg aK,if_pos a]
variable (h1:n.aQ (aE n.c.st x).1=0)
include h1
def ahQ (b:x.term=(n.save (aE n.c.st x).1).c.st.term) (d:(aE n.c.st x).2.1=true):bZ n x=⟨({ (n.save (aE n.c.st x).1) with c:={ (n.save (aE n.c.st x).1).c with role:=0,commit:=max (n.save (aE n.c.st x).1).c.commit (min x.c (aE n.c.st x).2.2.1) } }:Nd).apply,[{ rG { (n.save (aE n.c.st x).1).c with role:=0 } 4 x.frm with ok:=(aE n.c.st x).2.1,a:=(aE n.c.st x).2.2.1 }],0⟩:=by
 rw [bZ,if_neg aK,if_neg aK,d];dsimp only;rw [if_pos b]; rfl
theorem akw (d:¬ x.term=(n.save (aE n.c.st x).1).c.st.term) (b:(aE n.c.st x).2.1=true):bZ n x=⟨({ (n.save (aE n.c.st x).1) with c:={ (n.save (aE n.c.st x).1).c with commit:=max (n.save (aE n.c.st x).1).c.commit (min x.c (aE n.c.st x).2.2.1) } }:Nd).apply,[{ rG (n.save (aE n.c.st x).1).c 4 x.frm with ok:=(aE n.c.st x).2.1,a:=(aE n.c.st x).2.2.1 }],0⟩:=by
 rw [bZ,if_neg aK,if_neg aK,b];grind
def aiS (b:x.term=(n.save (aE n.c.st x).1).c.st.term) (d:(aE n.c.st x).2.1=false):bZ n x=⟨(n.save (aE n.c.st x).1).follow,[{ rG { (n.save (aE n.c.st x).1).c with role:=0 } 4 x.frm with ok:=(aE n.c.st x).2.1,a:=min 64 ((n.save (aE n.c.st x).1).c.st.log.length:Int) }],0⟩:=by
 rw [bZ,if_neg aK,if_neg aK,d];dsimp only;rw [if_pos b,if_neg am];split
 ·rfl
 rename_i q; exact absurd b q
theorem ajH (b:¬ x.term=(n.save (aE n.c.st x).1).c.st.term) (a:(aE n.c.st x).2.1=false):bZ n x=⟨n.save (aE n.c.st x).1,[{ rG (n.save (aE n.c.st x).1).c 4 x.frm with ok:=(aE n.c.st x).2.1 }],0⟩:=by
 rw [bZ,if_neg aK,if_neg aK,a];dsimp only;split
 ·grind
 rfl
end
theorem JW {s:Stable} {x:Letter}:(aE s x).1.length<=1000:=by
 by_cases h:(aE s x).2.2.2=0
 ·obtain ⟨⟨a,_⟩,b⟩:=gg h;rcases b with ⟨_,e⟩ | ⟨_,_,e⟩ | ⟨_,_,e⟩ <;> rw [e]
  ·simp
  ·have:=wu (s:=s) a; dsimp only; omega
  have:=gk (s:=s) (t:=x.term); dsimp only; omega
 have e:aE s x=([],false,0,1):=by
  unfold aE at h ⊢;grind
 rw [e]; simp
def Ik (n:Nd):List (Nat × LI):=[(17,{ σ:=Nat,F:=fun k=>([(0,one (.ptr 0 0)),(7,one (.int (n.save (aV n.c.st n.c.me).1).c.st.log.length)),(8,one (.int (iu (n.save (aV n.c.st n.c.me).1).c.st.log))),(9,one (.own 12)),(113,one (.fz .int (cR (n.save (aV n.c.st n.c.me).1).eB.c))),(114,one (.int (cR (n.save (aV n.c.st n.c.me).1).eB.c).length)),(115,one (.int k))],[.box 103 (noF 0 (((n.save (aV n.c.st n.c.me).1).eB.c))++[.own 3,.own 8,.own 9,.own 10,.own 11]),.box 147 ([.own 2,.int (((n.save (aV n.c.st n.c.me).1).eB.d.synced)),.bool (.atom (((n.save (aV n.c.st n.c.me).1).eB.d.down))),.bool (.atom (((n.save (aV n.c.st n.c.me).1).eB.d.doomed))),.int (((n.save (aV n.c.st n.c.me).1).eB.d.keep))]),.row 5 .u8 (((n.save (aV n.c.st n.c.me).1).eB.d.b)),.row 78 (.nm .reply) ((n.rp)),.row 4 .bool ((n.vs)),.row 3 .int ((n.bn)),.row 3 .int ((n.nx)),.row 3 .int ((n.mt)),.row 4 .bool (((n.save (aV n.c.st n.c.me).1).eB.vs)),.row 3 .int (((n.save (aV n.c.st n.c.me).1).eB.bn)),.row 3 .int (((n.save (aV n.c.st n.c.me).1).eB.nx)),.row 3 .int (((n.save (aV n.c.st n.c.me).1).eB.mt)),.row 40 (.nm .letter) (((gC (n.save (aV n.c.st n.c.me).1).eB.c).take k))]),J:=fun k=>k<=(cR (n.save (aV n.c.st n.c.me).1).eB.c).length,μ:=fun k=>(cR (n.save (aV n.c.st n.c.me).1).eB.c).length - k })]
def rT:Kn:=aM (ae (kC (aZ 0 0)) ak) rM fun _ n=>⟨[NdOK n],[.c (.fz (.nm .letter) (((bq n).l))),.c (.int (((bq n).e)))],some ((mh ((bq n).n))),false⟩
theorem Dl:CK 14 rT:=ag fun _ n I=>by
 have w:=cg I;refine bw rX (Ik n) Tryz.func14 (?_:(fun (p:Int)=>(fun (k:NdR)=>(fun (A:Int)=>(fun (v:List Record × Int)=>(fun (C:Int)=>(fun (q:Nd)=>(fun (m:NdC)=>(fun (h:Int)=>(fun (D:List Entry)=>(fun (r:Int)=>(fun (u:Int)=>(fun (o:Int)=>(fun (t:List (den Sh.int))=>(fun (y:List Int)=>(fun (z:Prop)=>(fun (j:Nd)=>(fun (f:Dsk)=>(fun (a:NdC)=>(fun (g:Nat)=>(n.d.down=true->k.l=[]/\(30:Int)=k.e/\bV n k.n)/\(n.d.down=false->(n.c.role=(2:Int)->k.l=[]/\p=k.e/\bV n k.n)/\(¬n.c.role=(2:Int)->n.c.st.term<=(1048576:Int)/\(v.fst.length*(48:Nat)<=(140737488355328:Nat)->I64 v.snd->(¬v.snd=p->k.l=[]/\v.snd=k.e/\bV n k.n)/\(v.snd=p->(p<=n.d.synced/\n.d.synced<=(↑n.d.b.length:Int)/\n.d.b.length<=(65536:Nat))/\n.c.st.log.length<=(10000:Nat)/\v.fst.length<=(1000:Nat)/\(I64 C->(¬C=p->k.l=[]/\C=k.e/\bV q k.n)/\(C=p->(p<=o/\o*(↑(1:Nat):Int)<=(140737488355328:Int)/\o=o)/\z/\z/\z/\p<=h/\h<(↑(List.replicate o.toNat (ao Sh.bool)).length:Int)/\p<=h/\h<(↑t.length:Int)/\(I64 (t.getD h.toNat (ao Sh.int))->I64 (↑D.length:Int)->I64 r->o<=(5:Int)/\(y.length*(8:Nat)<=(140737488355328:Nat)->∃ (G:Nat),((↑D.length:Int)=u/\r=r/\y=cR a/\(↑y.length:Int)=(↑g:Int)/\p=(↑G:Int)/\h=a.me/\o=a.many/\m.bin=a.bin/\aD m.st a.st (A=a.role/\m.commit=a.commit/\m.applied=a.applied/\bQ m.s a.s (q.d.synced=f.synced/\q.d.down=f.down/\q.d.doomed=f.doomed/\q.d.keep=f.keep/\q.d.b=f.b/\q.rp=n.rp/\q.vs=n.vs/\q.bn=n.bn/\q.nx=n.nx/\q.mt=n.mt/\(List.replicate o.toNat (ao Sh.bool)).set h.toNat true=j.vs/\t.set h.toNat m.bin=j.bn/\t=j.nx/\t=j.mt/\List.take G (gC a)=[])))/\G<=g/\∀ (s:Nat),s<=g->((↑s:Int)<(↑g:Int)->p<=(↑s:Int)/\(↑s:Int)<(↑(cR a).length:Int)/\∀ (x:Int),(fun (i:Letter)=>(fun (B:Letter)=>(cR a)[s]? = some x->I64 x->aS i (((List.take s (gC a)).length+[B].length)*(96:Nat)<=(140737488355328:Nat)/\I64 ((↑s:Int)+A)/\∃ (F:Nat),(u=u/\r=r/\cR a=cR a/\(↑g:Int)=(↑g:Int)/\(↑s:Int)+A=(↑F:Int)/\a.me=a.me/\a.many=a.many/\a.bin=a.bin/\aD a.st a.st (a.role=a.role/\a.commit=a.commit/\a.applied=a.applied/\bQ a.s a.s (f.synced=f.synced/\f.down=f.down/\f.doomed=f.doomed/\f.keep=f.keep/\f.b=f.b/\n.rp=n.rp/\n.vs=n.vs/\n.bn=n.bn/\n.nx=n.nx/\n.mt=n.mt/\j.vs=j.vs/\j.bn=j.bn/\j.nx=j.nx/\j.mt=j.mt/\List.take s (gC a)++[B]=List.take F (gC a))))/\F <= g/\g - F < g - s)) (Letter.mk i.kind i.frm i.to i.term u r i.c i.bin i.ok i.l)) (rG a A x))/\((↑g:Int)<=(↑s:Int)->List.take s (gC a)=k.l/\p=k.e/\bV (Nd.mk a f n.rp j.vs j.bn j.nx j.mt) k.n)))))))))) (cR a).length) j.c) j.d) q.eB) (p<=o/\o*(↑(8:Nat):Int)<=(140737488355328:Int)/\o=o)) (cR (NdC.mk h o m.bin m.st A m.commit m.applied m.s))) (List.replicate o.toNat (ao Sh.int))) m.many) (↑D.length:Int)) (iu D)) m.st.log) m.me) q.c) (n.save v.fst)) (n.aQ v.fst)) (aV n.c.st n.c.me)) (1:Int)) (bq n)) (0:Int))
 obtain ⟨J,K,L⟩:=id w.d;have N:=w.log;have H:=w.many;have O:=w.me;have o7:=w.com;have P:=w.term;have Q:=w.rp;iterate 3 ((all_goals (repeat' with_reducible first|apply bc|refine ba ?_|intro)); (all_goals try (first | exact bm | exact rfl | exact JE | exact (aiY ab ab ab ab ab) | exact (ajQ ab) | exact (aiD H.2) | exact (aj8 (c:=(n.save (aV n.c.st n.c.me).1).eB.c) ab H.2) | (dsimp only [Nd.save]; omega) | (rw [agt]; dsimp only [Nd.save]; omega) | (rw [aiW (n:=n) ab] <;> rfl) | (rw [aiA (n:=n) ab ab] <;> rfl) | (rw [aie (n:=n) ab ab ab] <;> rfl) | (rw [ake (n:=n) ab ab ab ab] <;> rfl) | (rw [afZ (n:=n) ab ab ab ab] <;> rfl))); all_goals try first | refine ⟨‹Nat› + 1,?_⟩ | refine ⟨0,?_⟩)
def vi:Kn:=aM (ae (kC (aZ 0 0)) (ae (kT (.nm .letter)) ak)) rM fun (_,x,_) n=>⟨[NdOK n,dr n.c x=true,x.kind=3],[.c (.fz (.nm .letter) (((bZ n x).l))),.c (.int (((bZ n x).e)))],some ((mh ((bZ n x).n))),false⟩
def JY:CK 57 vi:=ag fun (_,x,_) n D=>by
 have u:=cg D;have B:=cg (eU D);have C:=cg (eU (eU D));refine bw rX [] Tryz.func57 (?_:(fun r=>(fun F=>(fun j=>(fun p=>(fun v=>(fun q=>(fun o=>(fun H=>(fun G=>(fun i=>(fun h=>(fun t=>(fun m=>(fun w=>(fun k=>(fun y=>(fun z=>(fun A=>(fun f=>(fun g=>aS x (r.length*48<=140737488355328->I64 q.snd.fst->I64 q.snd.snd->(¬q.snd.snd=p->j.l=[]/\q.snd.snd=j.e/\bV n j.n)/\(q.snd.snd=p->(p<=n.d.synced/\n.d.synced<=(↑n.d.b.length:Int)/\n.d.b.length<=65536)/\n.c.st.log.length<=10000/\r.length<=1000/\(I64 (n.aQ r)->(¬n.aQ r=p->j.l=[]/\n.aQ r=j.e/\bV i j.n)/\(n.aQ r=p->(k->aS g ((o=true->y/\[Letter.mk g.kind g.frm g.to g.term q.snd.fst g.b g.c g.bin o g.l]=j.l/\v/\bV (Nd.mk (NdC.mk h.me h.many h.bin h.st p t m h.s) i.d i.rp i.vs i.bn i.nx i.mt).apply j.n)/\(o=false->(k->[Letter.mk g.kind g.frm g.to g.term w g.b g.c g.bin o g.l]=j.l/\A)/\(¬k->[Letter.mk g.kind g.frm g.to g.term g.a g.b g.c g.bin o g.l]=j.l/\A))))/\(¬k->aS f ((o=true->y/\[Letter.mk f.kind f.frm f.to f.term q.snd.fst f.b f.c f.bin o f.l]=j.l/\v/\bV (Nd.mk (NdC.mk h.me h.many h.bin h.st h.role t m h.s) i.d i.rp i.vs i.bn i.nx i.mt).apply j.n)/\(o=false->(k->[Letter.mk f.kind f.frm f.to f.term w f.b f.c f.bin o f.l]=j.l/\v/\bV i j.n)/\(¬k->[Letter.mk f.kind f.frm f.to f.term f.a f.b f.c f.bin o f.l]=j.l/\v/\bV i j.n))))))))) (rG z G F)) (rG h G F)) (v/\bV (Nd.mk z i.d i.rp i.vs i.bn i.nx i.mt) j.n)) (NdC.mk h.me h.many h.bin h.st p h.commit m h.s)) ((p<=m/\t<=(↑h.st.log.length:Int))/\(↑i.rp.length:Int)<=m/\h.st.log.length<=10000)) (x.term=h.st.term)) (min 64 (↑h.st.log.length:Int))) h.applied) (max h.commit H)) i.c) (n.save r)) (4:Int)) (min x.c q.snd.fst)) q.fst) (aE n.c.st x).snd) (p=j.e)) (0:Int)) (bZ n x)) x.frm) (aE n.c.st x).fst);obtain ⟨I,J,K⟩:=id u.d;have L:=u.log;(repeat' with_reducible first|apply bc|refine ba ?_|intro)
 all_goals (first | exact bm | exact JW | exact (Hq u B C ab ab).1.1 | exact (Hq u B C ab ab).1.2 | exact (Hq u B C ab ab).2.1 | exact (Hq u B C ab ab).2.2 | (rw [ahC (n:=n) ab] <;> rfl) | (rw [ajV (n:=n) ab ab] <;> rfl) | (rw [ahQ (n:=n) ab ab ab ab] <;> rfl) | (rw [akw (n:=n) ab ab ab ab] <;> rfl) | (rw [aiS (n:=n) ab ab ab ab] <;> rfl) | (rw [ajH (n:=n) ab ab ab ab] <;> rfl))
def Yq:bF:=(aP 57 vi (aP 14 rT Yv))
def rY:aw Tryz.prog (aj tyT) Yq:=(ah JY (ah Dl rX))
theorem Sat.ahD {P:Program} {shp:TypeId->Option Sh} {f:Nat} {args m:List TV1} {q C:AH} {pre:List Prop} (K:gS q [0,1,2] [0,1,2]=true) (L:pX (posOf · [0,1,2]) (lB q [0,1,2])=C) (u:∀ (c N:Cx) (x a:List RE) o,All2 (dk c x) m o->All2 (dk N a) m o) (h:Sat P shp f args (mh n) ⟨pre,m,some q,false⟩):Sat P shp f args (mh n) ⟨pre,m,some C,false⟩:=by
 refine ⟨h.1,fun G x w O Q y S=>(h.2 G x w O Q y S).mono ?_⟩;rintro v w' ⟨o,T,a,A,k,U,V,k5⟩;obtain ⟨D,m2⟩:=A.sub (σ:=[0,1,2]) (Z':=G.Z) rfl K A.z (fun _ h _=>h) (fun b p=>by
  obtain ⟨i,r,d,F⟩:=gH p;exact (A.bnd i r b d F).2.2)
 rw [L] at D;refine ⟨o,T,dt a [0,1,2],D,⟨k.os,k.tape,k.output,k.size,fun b H p=>⟨fun h=>(k.old b H p).1 (gH h),(k.old b H p).2⟩⟩,fun i g h=>?_,u _ _ _ _ _ V,fun h=>by cases h⟩;have l:∀ (j:Nat) (t:TypeId) (s:Sh) (I:List (den s)),(mh n)[j]? = some (.row t s I)->i≠j:=fun j t s I W e=>by
  subst e;obtain ⟨r,J,d⟩:=y.at_ W;rw [h] at J; cases J;obtain ⟨_,_,d | ⟨_,_,_,_,d,_⟩⟩:=d
  ·grind
  cases d
 have X:i<8:=by
  have d:=(aar.1 h).1;have F:(mh n).length=8:=rfl;have Y:=y.obj.length;omega
 have Y:=l 3 _ _ _ rfl;have h4:=l 4 _ _ _ rfl;have h5:=l 5 _ _ _ rfl;have h6:=l 6 _ _ _ rfl;have h7:=l 7 _ _ _ rfl;have B:=U i g h;have:i=0\/i=1\/i=2:=by omega
 rcases this with rfl | rfl | rfl
 ·exact (oc (j:=0) (i:=0) rfl).trans (congrArg some (getD_some B))
 ·exact (oc (j:=1) (i:=1) rfl).trans (congrArg some (getD_some B))
 exact (oc (j:=2) (i:=2) rfl).trans (congrArg some (getD_some B))
def acq {e:Int} (c b:Cx) (f a:List RE) (d:List Value) (h:All2 (dk c f) [.c (.int e)] d):All2 (dk b a) [.c (.int e)] d:=by
 cases h with | cons g i=>?_
 cases i;cases g with | int j=>exact .cons (show Pd b (.int e) _ from .int j) .nil
def iv (me a:Int):Nd:=⟨⟨me,a,0,sta0,0,0,0,⟨0,0,0,0,[],[],[]⟩⟩,⟨[],0,true,false,0⟩,[],[],[],[],[]⟩
def TS:(Dsk.mk [] 0 false false 0).cM 0=⟨[],0,true,false,0⟩:=by decide
def FI:Kn:=aM (ae (kC cI) (ae (kC cI) ak)) av fun (me,a,_) _=>⟨[3<=a/\a<=5/\0<=me/\me<a],[.c (.ptr 0 0),.c (.int ((0)))],some ([.box 103 (noF 0 (((iv me a).c))++[.em true,.em true,.em true,.em true,.em true]),.box 147 ([.own 2,.int (((iv me a).d.synced)),.bool (.atom (((iv me a).d.down))),.bool (.atom (((iv me a).d.doomed))),.int (((iv me a).d.keep))]),.row 5 .u8 (((iv me a).d.b))]),true⟩
def ET:CK 12 FI:=ag fun (me,a,_) _ i=>by
 have j:=cg i;refine dF rY [] Tryz.func12 (?_:(fun (e:Int)=>(fun (h:Dsk)=>(fun (g:Nd)=>(fun (f:NdC)=>I64 me->I64 a->(((a<(3:Int)\/(5:Int)<a)\/me<e)\/a<=me->False/\(1:Int)=e/\False/\False/\g.d.b=[])/\((((3:Int)<=a/\a<=(5:Int))/\e<=me)/\me<a->(e<=e/\e<=(↑(0:Nat):Int)/\(0:Nat)<=(65536:Nat))/\e=e/\me=f.me/\a=f.many/\e=f.bin/\e=f.st.floor/\e=f.st.term/\e=f.st.vote/\f.st.log=[]/\e=f.role/\e=f.commit/\e=f.applied/\e=f.s.version/\e=f.s.next/\e=f.s.keep/\e=f.s.quota/\f.s.sess=[]/\f.s.opens=[]/\f.s.snaps=[]/\h.synced=g.d.synced/\h.down=g.d.down/\h.doomed=g.d.doomed/\h.keep=g.d.keep/\h.b=g.d.b)) g.c) (iv me a)) ((Dsk.mk [] e false false e).cM e)) (0:Int));(repeat' with_reducible first|apply bc|refine ba ?_|intro)
 all_goals (first | exact bm | exact rfl | (rw [TS] <;> rfl) | (exfalso; omega))
def Vl (me:Int) (a:Int) (f:3<=a/\a<=5/\0<=me/\me<a):Sat Tryz.prog (aj tyT) 12 [.c (.int (me)),.c (.int (a))] [] ⟨[3<=a/\a<=5/\0<=me/\me<a],[.c (.ptr 0 0),.c (.int ((0)))],some ([.box 103 (noF 0 (((iv me a).c))++[.em true,.em true,.em true,.em true,.em true]),.box 147 ([.own 2,.int (((iv me a).d.synced)),.bool (.atom (((iv me a).d.down))),.bool (.atom (((iv me a).d.doomed))),.int (((iv me a).d.keep))]),.row 5 .u8 (((iv me a).d.b))]),true⟩:=ET _ _ _ rfl (by intro p e; simp only [acV,aj5,or_false] at e; subst e; exact f)
def ZF (me:Int) (a:Int) (b:3<=a/\a<=5/\0<=me/\me<a):Sat Tryz.prog (aj tyT) 12 [.c (.int (me)),.c (.int (a))] [] ⟨[3<=a/\a<=5/\0<=me/\me<a],[.c (.ptr 0 0),.c (.int ((0)))],some ((mh ((iv me a)))),true⟩:=Sat.Ps 0 22 3 .int bN rfl rfl (Sat.Ps 0 21 3 .int bN rfl rfl (Sat.Ps 0 20 3 .int bN rfl rfl (Sat.Ps 0 19 4 .bool bN rfl rfl (Sat.Ps 0 18 78 (.nm .reply) bN rfl rfl (Vl me a b) rfl) rfl) rfl) rfl) rfl
def RD:Kn:=aM (ae (kC cI) (ae (kC cI) ak)) av fun (me,a,_) _=>⟨[3<=a/\a<=5/\0<=me/\me<a],[.c (.ptr 0 0),.c (.int ((0)))],some ((mh ((iv me a)))),true⟩
def Zm:CK 12 RD:=ag fun (me,a,_) _ b=>ZF me a (cg b)
def Cj:Kn:=aM (ae (kC (aZ 0 0)) (ae (kC (cL (.nm .record))) ak)) (aH (dQ 103 (lNd 0 (ax (cEm true) (ax (cEm true) (ax (cEm true) (ax (cEm true) (ax (cEm true) dL))))))) (aH (dQ 147 (ax (eV 2) (ax cI (ax cB (ax cB (ax cI dL)))))) (aH (e_ 5 .u8) av))) fun (_,l,_) ((a,_,_,_,_,_,_),(_,e,f,g,h,_),i,_)=>⟨[(Dsk.mk i e f g h).OK,a.st.log.length<=10000,l.length<=1000],[.c (.int (((Nd.mk a ⟨i,e,f,g,h⟩ [] [] [] [] []).aQ l)))],some ([.box 103 (noF 0 ((((Nd.mk a ⟨i,e,f,g,h⟩ [] [] [] [] []).save l).c))++[.em true,.em true,.em true,.em true,.em true]),.box 147 ([.own 2,.int ((((Nd.mk a ⟨i,e,f,g,h⟩ [] [] [] [] []).save l).d.synced)),.bool (.atom ((((Nd.mk a ⟨i,e,f,g,h⟩ [] [] [] [] []).save l).d.down))),.bool (.atom ((((Nd.mk a ⟨i,e,f,g,h⟩ [] [] [] [] []).save l).d.doomed))),.int ((((Nd.mk a ⟨i,e,f,g,h⟩ [] [] [] [] []).save l).d.keep))]),.row 5 .u8 ((((Nd.mk a ⟨i,e,f,g,h⟩ [] [] [] [] []).save l).d.b))]),false⟩
def OO:CK 47 Cj:=ag fun (_,l,_) ((e,_,_,_,_,_,_),(_,h,m,o,p,_),i,_) j=>by
 have r:=cg j;have t:=cg (eU j);have u:=cg (eU (eU j));refine bw rY [] Tryz.func47 (?_:(fun k=>(fun f=>(fun g=>(fun a=>(fun q=>l.length*48<=140737488355328->((0<=h/\h<=(↑i.length:Int)/\i.length<=65536)/\e.st.log.length<=10000/\l.length<=1000)/\bR f.snd.fst (I64 f.snd.snd->(¬f.snd.snd=0->f.snd.snd=k.aQ l/\e.me=a.c.me/\e.many=a.c.many/\e.bin=a.c.bin/\aD e.st a.c.st q)/\(f.snd.snd=0->0=k.aQ l/\e.me=a.c.me/\e.many=a.c.many/\e.bin=a.c.bin/\aD f.snd.fst a.c.st q))) (e.role=a.c.role/\e.commit=a.c.commit/\e.applied=a.c.applied/\bQ e.s a.c.s (g.synced=a.d.synced/\g.down=a.d.down/\g.doomed=a.d.doomed/\g.keep=a.d.keep/\g.b=a.d.b))) (k.save l)) f.fst) (saveF (Dsk.mk i h m o p) e.st l)) (Nd.mk e (Dsk.mk i h m o p) [] [] [] [] []));obtain ⟨v,w,x⟩:=id r;(repeat' with_reducible first|apply bc|refine ba ?_|intro)
 all_goals (first | exact bm | exact rfl | exact (Eq.symm ab) | exact (congrArg Stable.floor (gz ab)).symm | exact (congrArg Stable.term (gz ab)).symm | exact (congrArg Stable.vote (gz ab)).symm | exact (congrArg Stable.log (gz ab)).symm)
def Yy:bF:=(aP 47 Cj (aP 12 RD (aP 12 FI Yq)))
def sU:aw Tryz.prog (aj tyT) Yy:=(ah OO (ah Zm (ah ET rY)))
theorem ah8 {m:Nd} (a:m.rp=[]) (b:m.vs=[]) (e:m.bn=[]) (f:m.nx=[]) (g:m.mt=[]):mh m=mh ⟨m.c,m.d,[],[],[],[],[]⟩:=by
 cases m;grind
def ai1 {p:Prop} {x:Bool} (h:x=true) (a:x=false):p:=by rw [h] at a; cases a
def aes {b:List UInt8}:(replayF b).1.log.length<=10000:=by have:=mZ b; omega
def aev {r:Record}:[r].length<=1000:=by simp
section
variable {n:Nd} {b:Int}
def aaE (a:NdOK n) (h:n.d.down=true):((if n.d.down=true then n.d.up else n.d).cut (replayF n.d.b).2).OK:=(xk h a.d).1
def aa7 (a:NdOK n):(if n.d.down=true then n.d.up else n.d).OK:=by
 split
 ·exact YQ a.d
 exact a.d
def aeh {p:Prop} (a:NdOK n) (h:n.d.down=true) (c:¬ (if n.d.down=true then n.d.up else n.d).kM (replayF n.d.b).2=0):p:=absurd (xk h a.d).2.1 c
def afG {p:Prop} (h:n.d.down=true) (a:¬ (if n.d.down=true then (0:Int) else 31)=0):p:=absurd (if_pos h) a
def abp (a:NdOK n) (h:n.d.down=true):((n.fr b).save [⟨1,b,0,[]⟩]).d.OK:=rz (xk h a.d).1
theorem afa {p:Prop} (h:n.d.down=false\/¬ b_ b (max (replayF n.d.b).1.floor 1)=0) (a:n.d.down=true) (c:b_ b (max (replayF n.d.b).1.floor 1)=0):p:=by grind
end
def vE:Kn:=aM (ae (kC (aZ 0 0)) (ae (kC cI) ak)) rM fun (_,b,_) n=>⟨[NdOK n,n.d.down=true,b_ b (max (replayF n.d.b).1.floor 1)=0],[.c (.int (((aY n b).e)))],some ([.box 103 (noF 0 (((aY n b).n.c))++[.em true,.em true,.em true,.em true,.em true]),.box 147 ([.own 2,.int (((aY n b).n.d.synced)),.bool (.atom (((aY n b).n.d.down))),.bool (.atom (((aY n b).n.d.doomed))),.int (((aY n b).n.d.keep))]),.row 5 .u8 (((aY n b).n.d.b)),.row 78 (.nm .reply) ((n.rp)),.row 4 .bool ((n.vs)),.row 3 .int ((n.bn)),.row 3 .int ((n.nx)),.row 3 .int ((n.mt))]),false⟩
def vD:CK 13 vE:=ag fun (_,b,_) n P=>by
 have m:=cg P;have o:=cg (eU P);have O:=cg (eU (eU P));refine bw sU [] Tryz.func13 (?_:(fun (p:Bool)=>(fun (j:NdC)=>(fun (C:Int)=>(fun (A:Int)=>(fun (h:Int)=>(fun (v:Int)=>(fun (D:List (den (Sh.nm NT.record)))=>(fun (B:Stable × Int)=>(fun (w:Int)=>(fun (l:Int)=>(fun (S:NdC)=>(fun (J:Prop)=>(fun (Q:Nd)=>(fun (f:Dsk)=>(fun (q:Bool)=>(fun (r:Int)=>(fun (a:NdC)=>(fun (F:Prop)=>(fun (G:Prop)=>(fun (H:Prop)=>(fun (x:Prop)=>(fun (I:Prop)=>(fun (y:Prop)=>(fun (K:Prop)=>(fun (k:Dsk)=>(fun (i:Dsk)=>(fun (L:Nd)=>(fun (z:Int)=>(fun (N:Prop)=>(fun (t:Nd)=>(fun (g:NdC)=>(fun (u:Dsk)=>I64 b->(p=false->(31:Int)=C/\K)/\(p=true->(h<=n.d.synced/\n.d.synced<=(↑n.d.b.length:Int)/\n.d.b.length<=(65536:Nat))/\n.d.b.length<=(1000000:Nat)/\bR B.fst (I64 l->I64 w->(¬w=h->w=C/\K)/\(w=h->I64 v->(¬v=h->v=C/\x/\y/\F/\aD j.st a.st (G/\H/\I/\bQ j.s a.s (False/\False/\False/\False/\False/\k.synced=r/\k.down=f.down/\k.doomed=q/\k.keep=f.keep/\k.b=f.b/\J)))/\(v=h->(h<=k.synced/\k.synced<=(↑k.b.length:Int)/\k.b.length<=(65536:Nat))/\(I64 (k.kM l)->(¬k.kM l=h->k.kM l=C/\x/\y/\F/\aD j.st a.st (G/\H/\I/\bQ j.s a.s (False/\False/\False/\False/\False/\N)))/\(k.kM l=h->I64 A->I64 A->I64 h->I64 h->(0:Nat)*(32:Nat)<=(140737488355328:Nat)->(0:Nat)*(16:Nat)<=(140737488355328:Nat)->(0:Nat)*(64:Nat)<=(140737488355328:Nat)->(B.fst.floor<b->(h<=i.synced/\i.synced<=(↑i.b.length:Int)/\i.b.length<=(65536:Nat))/\B.fst.log.length<=(10000:Nat)/\D.length<=(1000:Nat)/\(I64 z->(¬z=h->(h<=t.d.synced/\t.d.synced<=(↑t.d.b.length:Int)/\t.d.b.length<=(65536:Nat))/\z=C/\g.me=a.me/\g.many=a.many/\g.bin=a.bin/\aD g.st a.st (g.role=a.role/\g.commit=a.commit/\g.applied=a.applied/\bQ g.s a.s (u.synced=r/\u.down=f.down/\u.doomed=q/\u.keep=f.keep/\u.b=f.b/\J)))/\(z=h->h=C/\g.me=a.me/\g.many=a.many/\g.bin=a.bin/\aD g.st a.st (g.role=a.role/\g.commit=a.commit/\g.applied=a.applied/\bQ g.s a.s (t.d.synced=r/\t.d.down=f.down/\t.d.doomed=q/\t.d.keep=f.keep/\t.d.b=f.b/\J)))))/\(b<=B.fst.floor->h=C/\x/\y/\b=a.bin/\aD B.fst a.st (h=a.role/\h=a.commit/\h=a.applied/\bQ (State.mk A A h h [] [] []) a.s N))))))))) (t.d.cM h)) t.c) (L.save D)) (i.synced=r/\i.down=f.down/\i.doomed=q/\i.keep=f.keep/\i.b=f.b/\J)) (L.aQ D)) (Nd.mk S i [] [] [] [] [])) (k.cut l)) (if p=true then n.d.up else n.d)) (x/\y/\F/\aD j.st a.st (G/\H/\I/\bQ j.s a.s (False/\False/\False/\False/\False/\n.d.synced=r/\p=f.down/\n.d.doomed=q/\n.d.keep=f.keep/\n.d.b=f.b/\J)))) (j.many=a.many)) (j.applied=a.applied)) (j.me=a.me)) (j.commit=a.commit)) (j.role=a.role)) (j.bin=a.bin)) Q.c) f.synced) f.doomed) Q.d) (aY n b).n) (n.rp=n.rp/\n.vs=n.vs/\n.bn=n.bn/\n.nx=n.nx/\n.mt=n.mt)) (NdC.mk j.me j.many b B.fst h h h (State.mk A A h h [] [] []))) B.snd) (b_ b (max B.fst.floor A))) (replayF n.d.b)) [Record.mk A b h []]) (if p=true then h else (31:Int))) (0:Int)) (1:Int)) (aY n b).e) n.c) n.d.down)
 obtain ⟨T,U,V⟩:=id m.d;have W:=m.log;(repeat' with_reducible first|apply bc|refine ba ?_|intro)
 all_goals (first | exact bm | exact (ai1 o ab) | exact (absurd O ab) | exact (aeh m o ab) | exact (afG o ab) | exact aes | exact aev | exact (aaE m o).1 | exact (aaE m o).2.1 | exact (aaE m o).2.2 | exact (aa7 m).1 | exact (aa7 m).2.1 | exact (aa7 m).2.2 | exact (abp m o).1 | exact (abp m o).2.1 | exact (abp m o).2.2 | (rw [acn (n:=n) (b:=b) o O ab ab] <;> rfl) | (rw [aaH (n:=n) (b:=b) o O ab ab] <;> rfl) | (rw [abQ (n:=n) (b:=b) o O ab] <;> rfl))
theorem Kl (b:Int) (n:Nd) (f:NdOK n) (g:n.d.down=true) (h:b_ b (max (replayF n.d.b).1.floor 1)=0):Sat Tryz.prog (aj tyT) 13 [.c (.ptr 0 0),.c (.int (b))] (mh n) ⟨[NdOK n,n.d.down=true,b_ b (max (replayF n.d.b).1.floor 1)=0],[.c (.int (((aY n b).e)))],some ([.box 103 (noF 0 (((aY n b).n.c))++[.em true,.em true,.em true,.em true,.em true]),.box 147 ([.own 2,.int (((aY n b).n.d.synced)),.bool (.atom (((aY n b).n.d.down))),.bool (.atom (((aY n b).n.d.doomed))),.int (((aY n b).n.d.keep))]),.row 5 .u8 (((aY n b).n.d.b)),.row 78 (.nm .reply) ((n.rp)),.row 4 .bool ((n.vs)),.row 3 .int ((n.bn)),.row 3 .int ((n.nx)),.row 3 .int ((n.mt))]),false⟩:=vD _ _ _ rfl (by intro p a; simp only [acV,aj5,or_false] at a; rcases a with rfl | rfl | rfl <;> assumption)
def wK:Kn:=aM (ae (kC (aZ 0 0)) (ae (kC cI) ak)) rM fun (_,b,_) n=>⟨[NdOK n,n.d.down=false\/¬ b_ b (max (replayF n.d.b).1.floor 1)=0],[.c (.int (((aY n b).e)))],some ((mh ((aY n b).n))),false⟩
def wz:CK 13 wK:=ag fun (_,b,_) n z=>by
 have A:=cg z;have B:=cg (eU z);refine bw sU [] Tryz.func13 (?_:(fun (y:Bool)=>(fun (u:Int)=>(fun (r:Int)=>(fun (h:Int)=>(fun (p:Int)=>(fun (w:List (den (Sh.nm NT.record)))=>(fun (t:Stable × Int)=>(fun (j:Int)=>(fun (q:Int)=>(fun (o:Dsk)=>(fun (i:Dsk)=>(fun (k:Nd)=>(fun (g:Dsk)=>(fun (a:NdC)=>(fun (v:Prop)=>(fun (x:Nd)=>(fun (l:Nd)=>(fun (f:NdC)=>(fun (m:Dsk)=>I64 b->(y=false->(31:Int)=u/\bV n k)/\(y=true->(h<=n.d.synced/\n.d.synced<=(↑n.d.b.length:Int)/\n.d.b.length<=(65536:Nat))/\n.d.b.length<=(1000000:Nat)/\bR t.fst (I64 j->I64 q->(¬q=h->q=u/\bV n k)/\(q=h->I64 p->(¬p=h->p=u/\bV (Nd.mk n.c o n.rp n.vs n.bn n.nx n.mt) k)/\(p=h->(h<=o.synced/\o.synced<=(↑o.b.length:Int)/\o.b.length<=(65536:Nat))/\(I64 (o.kM j)->(¬o.kM j=h->o.kM j=u/\bV (Nd.mk n.c i n.rp n.vs n.bn n.nx n.mt) k)/\(o.kM j=h->I64 r->I64 r->I64 h->I64 h->(0:Nat)*(32:Nat)<=(140737488355328:Nat)->(0:Nat)*(16:Nat)<=(140737488355328:Nat)->(0:Nat)*(64:Nat)<=(140737488355328:Nat)->(t.fst.floor<b->(h<=i.synced/\i.synced<=(↑i.b.length:Int)/\i.b.length<=(65536:Nat))/\t.fst.log.length<=(10000:Nat)/\w.length<=(1000:Nat)/\(I64 (x.aQ w)->(¬x.aQ w=h->(h<=l.d.synced/\l.d.synced<=(↑l.d.b.length:Int)/\l.d.b.length<=(65536:Nat))/\x.aQ w=u/\f.me=a.me/\f.many=a.many/\f.bin=a.bin/\aD f.st a.st (f.role=a.role/\f.commit=a.commit/\f.applied=a.applied/\bQ f.s a.s (False/\False/\False/\False/\False/\m.synced=g.synced/\m.down=g.down/\m.doomed=g.doomed/\m.keep=g.keep/\m.b=g.b/\v)))/\(x.aQ w=h->h=u/\f.me=a.me/\f.many=a.many/\f.bin=a.bin/\aD f.st a.st (f.role=a.role/\f.commit=a.commit/\f.applied=a.applied/\bQ f.s a.s (False/\False/\False/\False/\False/\l.d.synced=g.synced/\l.d.down=g.down/\l.d.doomed=g.doomed/\l.d.keep=g.keep/\l.d.b=g.b/\v)))))/\(b<=t.fst.floor->h=u/\n.c.me=a.me/\n.c.many=a.many/\b=a.bin/\aD t.fst a.st (h=a.role/\h=a.commit/\h=a.applied/\bQ (State.mk r r h h [] [] []) a.s (False/\False/\False/\False/\False/\i.synced=g.synced/\i.down=g.down/\i.doomed=g.doomed/\i.keep=g.keep/\i.b=g.b/\v)))))))))) (l.d.cM h)) l.c) (x.save w)) (Nd.mk (NdC.mk n.c.me n.c.many b t.fst h h h (State.mk r r h h [] [] [])) i [] [] [] [] [])) (n.rp=k.rp/\n.vs=k.vs/\n.bn=k.bn/\n.nx=k.nx/\n.mt=k.mt)) k.c) k.d) (aY n b).n) (o.cut j)) (if y=true then n.d.up else n.d)) (b_ b (max t.fst.floor r))) t.snd) (replayF n.d.b)) [Record.mk r b h []]) (if y=true then h else (31:Int))) (0:Int)) (1:Int)) (aY n b).e) n.d.down);obtain ⟨C,D,F⟩:=id A.d;have G:=A.log;(repeat' with_reducible first|apply bc|refine ba ?_|intro)
 all_goals (first | exact bm | exact (afa B ab ab) | (rw [afU (n:=n) (b:=b) ab] <;> rfl) | (rw [Zp (n:=n) (b:=b) ab ab] <;> rfl))
theorem wW (b:Int) (n:Nd) (f:NdOK n) (g:n.d.down=false\/¬ b_ b (max (replayF n.d.b).1.floor 1)=0):Sat Tryz.prog (aj tyT) 13 [.c (.ptr 0 0),.c (.int (b))] (mh n) ⟨[NdOK n,n.d.down=false\/¬ b_ b (max (replayF n.d.b).1.floor 1)=0],[.c (.int (((aY n b).e)))],some ((mh ((aY n b).n))),false⟩:=wz _ _ _ rfl (by intro p a; simp only [acV,aj5,or_false] at a; rcases a with rfl | rfl <;> assumption)
def MF (b:Int) (n:Nd) (a:NdOK n):Sat Tryz.prog (aj tyT) 13 [.c (.ptr 0 0),.c (.int (b))] (mh n) ⟨[NdOK n],[.c (.int (((aY n b).e)))],some ((mh ((aY n b).n))),false⟩:=by
 by_cases f:n.d.down=true
 ·by_cases g:b_ b (max (replayF n.d.b).1.floor 1)=0
  ·have h:=Sat.Ps 0 22 3 .int bN rfl rfl (Sat.Ps 0 21 3 .int bN rfl rfl (Sat.Ps 0 20 3 .int bN rfl rfl (Sat.Ps 0 19 4 .bool bN rfl rfl (Sat.Ps 0 18 78 (.nm .reply) bN rfl rfl (Sat.ahD bN rfl acq (Kl b n a f g)) rfl) rfl) rfl) rfl) rfl;obtain ⟨i,j,k,l,m⟩:=ajC f g;rw [ah8 i j k l m];exact ⟨h.1,h.2⟩
  have h:=wW b n a (.inr g);exact ⟨h.1,h.2⟩
 have h:=wW b n a (.inl (by simpa using f));exact ⟨h.1,h.2⟩
def BW:Kn:=aM (ae (kC (aZ 0 0)) (ae (kC cI) ak)) rM fun (_,b,_) n=>⟨[NdOK n],[.c (.int (((aY n b).e)))],some ((mh ((aY n b).n))),false⟩
def Ng:CK 13 BW:=ag fun (_,b,_) n a=>MF b n (cg a)
def Xm:bF:=(aP 13 BW (aP 13 wK (aP 13 vE Yy)))
def Aq:aw Tryz.prog (aj tyT) Xm:=(ah Ng (ah wz (ah vD sU)))
