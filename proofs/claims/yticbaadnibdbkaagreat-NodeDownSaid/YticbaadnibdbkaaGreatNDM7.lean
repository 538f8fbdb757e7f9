/- What leads to the law, part 7. Conditions: each lemma's own. -/
import Derived.Test.YticbaadnibdbkaaGreatNDM6
set_option linter.unusedVariables false
set_option linter.unusedSimpArgs false
set_option maxHeartbeats 2000000
set_option linter.defProp false
noncomputable section
namespace Go.Proofs.YticbaadnibdbkaaGreat
open Go.RowKit
section
variable {v:Int} {s:State} {l:List Entry} {k:Nat} {x:Entry}
end
def Uq (st:State) (l:List Entry) (v:Int):Sat Tryz.prog (ak tyT) 171 [.agg (cellsOf (.nm .state) st),.c (.fz (.nm .entry) (l)),.c (.int (v))] [] ⟨[],[.agg ([.int (((plS v st l).version)),.int (((plS v st l).next)),.int (((plS v st l).keep)),.int (((plS v st l).quota)),.own 0,.own 1,.own 2]),.c (.own 3),.c (.int ((pE v l)))],some ([.row 137 (.nm .sess) (((plS v st l).sess)),.row 139 (.nm .opn) (((plS v st l).opens)),.row 172 (.nm .snap) (((plS v st l).snaps)),.row 78 (.nm .reply) ((plR v st l))]),true⟩:=MU st l v
def FD:Kn:=aO (ae (kT (.nm .state)) (ae (kC (cL (.nm .entry))) (ae (kC cI) al))) av fun (st,l,v,_) _=>⟨[],[.agg ([.int (((plS v st l).version)),.int (((plS v st l).next)),.int (((plS v st l).keep)),.int (((plS v st l).quota)),.own 0,.own 1,.own 2]),.c (.own 3),.c (.int ((pE v l)))],some ([.row 137 (.nm .sess) (((plS v st l).sess)),.row 139 (.nm .opn) (((plS v st l).opens)),.row 172 (.nm .snap) (((plS v st l).snaps)),.row 78 (.nm .reply) ((plR v st l))]),true⟩
def Wr:CK 171 FD:=ah fun (st,l,v,_) _ _=>Uq st l v
def ae1:bH:=(aP 171 FD agY)
def gO:aw Tryz.prog (ak tyT) ae1:=(ag Wr VG)
def afT (O:bH):bH:=fun g a H=>bif Nat.beq g 1000000003 then some ⟨[False],[],none,false⟩ else O g a H
variable {shp:TypeId->Option Sh} {P:Program}
def xm {O:bH} (b:aw P shp O):aw P shp (afT O):=fun g args H r h a=>by
 unfold afT at h;cases c:Nat.beq g 1000000003 <;> rw [c] at h
 ·exact b g args H r h a
 cases h; exact (a False aa).elim
def cWp:AV->Option Nat
 | .xx (.w n) []=>some n
 | _=>none
def cW:PC Nat:=⟨cWp,fun n=>.xx (.w n) [],fun a y h c d v b=>by
 unfold cWp at h
 split at h
 ·cases h; exact b
 ·cases h⟩
theorem Sat.Lm {f:Nat} {args J:List TV1} {H m:AH} {pre:List Prop} {d b:Bool} (i k:Nat) (e:TypeId) (s:Sh) {t:TypeId} {p:List AV} {K:AH} (Q:shp e=some s) (n:m[i]? = some (.box t p)) (y:p[k]? = some (.em b)) (h:Sat P shp f args H ⟨pre,J,some m,d⟩) (S:K=m.set i (.box t (p.set k (.own m.length)))++[.row e s []]):Sat P shp f args H ⟨pre,J,some K,d⟩:=by
 subst S;refine ⟨h.1,fun G ρ w T j U V=>(h.2 G ρ w T j U V).mono ?_⟩;rintro v A ⟨W,X,c,B,Y,Z,k4,L⟩;have C:=(Ext.app (ρ:=c) (r:=.emp) (Kp.refl A) fun g j=>by cases j).le B.lo;have q:=B.obj.length;have l:=B.app (r:=.emp) (o:=.row e s []) (Kp.refl A) (fun g j=>by cases j) ⟨by show G.shp e=some s; rw [j]; exact Q,aa,.inl ⟨rfl,rfl⟩⟩;have x:=(aad.1 n).1;refine ⟨W,X,c ++ [.emp],⟨?_,l.inj,l.bnd,l.z,l.b0,l.tb⟩,Y.trans (Ext.app (Kp.refl A) fun g j=>by cases j),fun i g n=>by
  rw [List.getElem?_append_left]
  ·grind
  ·exact (aad.1 (Z i g n)).1,k4.imp fun _ _ h=>h.carry C (gu _ _),fun y=>⟨(L y).1,fun i rr n=>by
  rw [List.getElem?_append_left]
  ·grind
  exact (aad.1 ((L y).2 i rr n)).1⟩⟩
 obtain ⟨r,hr,g,D,rfl,h1,N⟩:=l.at_ (i:=i) (o:=.box t p) (by rw [List.getElem?_append_left x]; exact n);have O:=l.obj.set i (a:=.box t (p.set k (.own m.length))) (b:=.blk g) ⟨g,D,rfl,h1,?_⟩
 ·rw [List.set_append_left _ _ x] at O;have:(c ++ [RE.emp]).set i (.blk g)=c ++ [RE.emp]:=by
   obtain ⟨hj,F⟩:=aad.1 hr;rw [<- F,List.set_getElem_self]
  rwa [this] at O
 obtain ⟨u,hu,I⟩:=dT N k _ y;have k8:=N.set k (a:=.own m.length) (b:=u) (.inr ⟨by rw [q]; simp,?_⟩)
 ·have:D.set k u=D:=by
   obtain ⟨hj,F⟩:=aad.1 hu;rw [<- F,List.set_getElem_self]
  rwa [this] at k8
 have I:Pd _ _ _:=I;cases I with | em _=>exact ⟨_,rfl⟩
def za:Kn:=aO (ae (kC (ba 0 0)) al) (aH (dN 147 (ax (fg 1) (ax cI (ax cB (ax cB (ax cI dK)))))) (aH (e_ 5 .u8) av)) fun _ ((_,b,a,d,e,_),f,_)=>⟨[],[.c (.bool (.atom ((a))))],none,false⟩
def LS:CK 40 za:=ah fun _ ((_,b,a,c,d,_),e,_) _=>by
 refine ao gO [] Tryz.func40 (?_:a=a);try rfl
def Bi:Kn:=aO (ae (kC (ba 0 0)) (ae (kC cI) al)) (aH (dN 147 (ax (fg 1) (ax cI (ax cB (ax cB (ax cI dK)))))) (aH (e_ 5 .u8) av)) fun (_,k,_) ((_,a,c,e,f,_),d,_)=>⟨[],[],some ([.box 147 ([.own 1,.int (((Dsk.mk d a c true k).synced)),.bool (.atom (((Dsk.mk d a c true k).down))),.bool (.atom (((Dsk.mk d a c true k).doomed))),.int (((Dsk.mk d a c true k).keep))]),.row 5 .u8 (((Dsk.mk d a c true k).b))]),false⟩
theorem Ri:CK 108 Bi:=ah fun (_,k,_) ((_,a,b,d,e,_),c,_) _=>by
 refine bA gO [] Tryz.func108 (?_:I64 k->a=a/\b=b/\true=true/\k=k/\c=c);(repeat' with_reducible first|apply a_|refine aY ?_|intro) <;> (first | with_reducible rfl | with_reducible assumption | omega | (refine bw ?_ ?_ <;> omega))
def PW:Kn:=aO (ae (kC (ba 0 0)) al) (aH (dN 147 (ax (fg 1) (ax cI (ax cB (ax cB (ax cI dK)))))) (aH (e_ 5 .u8) av)) fun _ ((_,d,a,e,f,_),g,_)=>⟨[],[.c (.int ((if a=true then 0 else 31)))],some ([.box 147 ([.own 1,.int (((if a=true then (Dsk.mk g d a e f).up else (Dsk.mk g d a e f)).synced)),.bool (.atom (((if a=true then (Dsk.mk g d a e f).up else (Dsk.mk g d a e f)).down))),.bool (.atom (((if a=true then (Dsk.mk g d a e f).up else (Dsk.mk g d a e f)).doomed))),.int (((if a=true then (Dsk.mk g d a e f).up else (Dsk.mk g d a e f)).keep))]),.row 5 .u8 (((if a=true then (Dsk.mk g d a e f).up else (Dsk.mk g d a e f)).b))]),false⟩
theorem acg:CK 44 PW:=ah fun _ ((_,d,c,f,g,_),e,_) _=>by
 refine bA gO [] Tryz.func44 (?_:(fun h=>(fun a=>(c=false->31=h/\d=a.synced/\c=a.down/\f=a.doomed/\g=a.keep/\e=a.b)/\(c=true->0=h/\d=a.synced/\false=a.down/\false=a.doomed/\0=a.keep/\e=a.b)) (if c=true then (Dsk.mk e d c f g).up else Dsk.mk e d c f g)) (if c=true then (0:Int) else (31:Int)));(repeat' with_reducible first|apply a_|refine aY ?_|intro) <;> grind [Dsk.up]
def wP:Kn:=aO (ae (kC (ba 0 0)) (ae (kC cI) al)) (aH (dN 147 (ax (fg 1) (ax cI (ax cB (ax cB (ax cI dK)))))) (aH (e_ 5 .u8) av)) fun (_,k,_) ((_,a,c,d,e,_),f,_)=>⟨[(Dsk.mk f a c d e).OK],[],some ([.box 147 ([.own 1,.int ((((Dsk.mk f a c d e).ck k).synced)),.bool (.atom ((((Dsk.mk f a c d e).ck k).down))),.bool (.atom ((((Dsk.mk f a c d e).ck k).doomed))),.int ((((Dsk.mk f a c d e).ck k).keep))]),.row 5 .u8 ((((Dsk.mk f a c d e).ck k).b))]),false⟩
theorem Jr:CK 39 wP:=ah fun (_,k,_) ((_,e,f,g,h,_),a,_) i=>by
 have j:=cg i;refine bA (xm gO) [] Tryz.func39 (?_:(fun c=>(fun d=>I64 k->I64 ((↑a.length:Int) - e)/\I64 d/\(0<=d/\d<=(↑a.length:Int))/\(↑(List.take d.toNat a).length:Int)=c.synced/\true=c.down/\false=c.doomed/\0=c.keep/\List.take d.toNat a=c.b) (e+min (max k 0) ((↑a.length:Int) - e))) ((Dsk.mk a e f g h).ck k));obtain ⟨l,m,n⟩:=j;dsimp only at l m n;(repeat' with_reducible first|apply a_|refine aY ?_|intro) <;> first | (first | with_reducible rfl | with_reducible assumption | omega | (refine bw ?_ ?_ <;> omega)) | (simp only [Dsk.ck,Dsk.at_]; first | done | (first | with_reducible rfl | with_reducible assumption | omega | (refine bw ?_ ?_ <;> omega)) | (rw [List.length_take]; omega))
def HA:Kn:=aO (ae (kC (ba 0 0)) (ae (kC cI) al)) (aH (dN 147 (ax (fg 1) (ax cI (ax cB (ax cB (ax cI dK)))))) (aH (e_ 5 .u8) av)) fun (_,k,_) ((_,a,d,e,f,_),g,_)=>⟨[(Dsk.mk g a d e f).OK],[.c (.int (((Dsk.mk g a d e f).lh k)))],some ([.box 147 ([.own 1,.int ((((Dsk.mk g a d e f).cut k).synced)),.bool (.atom ((((Dsk.mk g a d e f).cut k).down))),.bool (.atom ((((Dsk.mk g a d e f).cut k).doomed))),.int ((((Dsk.mk g a d e f).cut k).keep))]),.row 5 .u8 ((((Dsk.mk g a d e f).cut k).b))]),false⟩
theorem Wz:CK 45 HA:=ah fun (_,k,_) ((_,h,d,f,g,_),c,_) j=>by
 have l:=cg j;refine bA (xm gO) [] Tryz.func45 (?_:(fun e=>(fun a=>(fun i=>I64 k->(d=true->30=e.lh k/\i)/\(d=false->(k<0\/(↑c.length:Int)<k->1=e.lh k/\i)/\(0<=k/\k<=(↑c.length:Int)->0<=k/\k<=(↑c.length:Int)/\0=e.lh k/\k=a.synced/\d=a.down/\f=a.doomed/\g=a.keep/\List.take k.toNat c=a.b))) (h=a.synced/\d=a.down/\f=a.doomed/\g=a.keep/\c=a.b)) (e.cut k)) (Dsk.mk c h d f g));obtain ⟨m,n,o⟩:=l;dsimp only at m n o;(repeat' with_reducible first|apply a_|refine aY ?_|intro) <;> first | (first | with_reducible rfl | with_reducible assumption | omega | (refine bw ?_ ?_ <;> omega)) | grind [Dsk.cut,Dsk.lh]
def Gy:Kn:=aO (ae (kC (ba 0 0)) (ae (kC (cL .u8)) al)) (aH (dN 147 (ax (fg 1) (ax cI (ax cB (ax cB (ax cI dK)))))) (aH (e_ 5 .u8) av)) fun (_,x,_) ((_,a,d,e,f,_),g,_)=>⟨[(Dsk.mk g a d e f).OK],[.c (.int (((Dsk.mk g a d e f).je x)))],some ([.box 147 ([.own 1,.int ((((Dsk.mk g a d e f).app x).synced)),.bool (.atom ((((Dsk.mk g a d e f).app x).down))),.bool (.atom ((((Dsk.mk g a d e f).app x).doomed))),.int ((((Dsk.mk g a d e f).app x).keep))]),.row 5 .u8 ((((Dsk.mk g a d e f).app x).b))]),false⟩
theorem Tg:CK 150 Gy:=ah fun (_,x,_) ((_,f,c,g,h,_),d,_) k=>by
 have l:=cg k;refine bA gO [] Tryz.func150 (?_:(fun e=>(fun i=>(fun a=>(fun j=>x.length*1<=140737488355328->(c=true->30=e.je x/\j)/\(c=false->I64 i/\(i<(↑x.length:Int)->20=e.je x/\j)/\((↑x.length:Int)<=i->(d.length+x.length)*1<=140737488355328/\0=e.je x/\f=a.synced/\c=a.down/\g=a.doomed/\h=a.keep/\d++x=a.b))) (f=a.synced/\c=a.down/\g=a.doomed/\h=a.keep/\d=a.b)) (e.app x)) (65536 - (↑d.length:Int))) (Dsk.mk d f c g h));obtain ⟨m,n,o⟩:=l;dsimp only at m n o;(repeat' with_reducible first|apply a_|refine aY ?_|intro) <;> first | (first | with_reducible rfl | with_reducible assumption | omega | (refine bw ?_ ?_ <;> omega)) | grind [Dsk.app,Dsk.je]
def wU:Kn:=aO (ae (kC (ba 0 0)) al) (aH (dN 147 (ax (fg 1) (ax cI (ax cB (ax cB (ax cI dK)))))) (aH (e_ 5 .u8) av)) fun _ ((_,b,d,e,f,_),a,_)=>⟨[(Dsk.mk a b d e f).OK],[.c (.own 2)],some ([.box 147 ([.own 1,.int ((b)),.bool (.atom ((d))),.bool (.atom ((e))),.int ((f))]),.row 5 .u8 ((a)),.row 5 .u8 ((a))]),true⟩
theorem KJ:CK 42 wU:=ah fun _ ((_,c,d,e,f,_),b,_) g=>by
 have h:=cg g;refine dF gO [] Tryz.func42 (?_:(fun (a:Nat)=>(0:Int)<=(↑a:Int)/\(↑a:Int)*(↑(1:Nat):Int)<=(140737488355328:Int)/\(↑a:Int)=(↑a:Int)/\c=c/\d=d/\e=e/\f=f/\b=b/\List.take (List.replicate a (aj Sh.u8)).length b++List.drop a (List.replicate a (aj Sh.u8))=b) b.length);obtain ⟨i,j,k⟩:=h;dsimp only at i j k;(repeat' with_reducible first|apply a_|refine aY ?_|intro) <;> first | (first | with_reducible rfl | with_reducible assumption | omega | (refine bw ?_ ?_ <;> omega)) | simp
def It:Kn:=aO al av fun _ _=>⟨[],[.c (.ptr 0 0)],some ([.box 147 ([.em true,.int ((0)),.bool (.atom ((false))),.bool (.atom ((false))),.int ((0))])]),true⟩
theorem Is:CK 38 It:=ah fun _ _ _=>by
 refine dF gO [] Tryz.func38 (?_:(0:Int)=0/\false=false/\false=false/\(0:Int)=0);(repeat' with_reducible first|apply a_|refine aY ?_|intro) <;> (first | with_reducible rfl | with_reducible assumption | omega | (refine bw ?_ ?_ <;> omega))
def TU :Sat Tryz.prog (ak tyT) 38 [] [] ⟨[],[.c (.ptr 0 0)],some ([.box 147 ([.em true,.int ((0)),.bool (.atom ((false))),.bool (.atom ((false))),.int ((0))])]),true⟩:=Is _ _ _ rfl aa
def aeW:bH:=(aP 38 It (aP 42 wU (aP 150 Gy (aP 45 HA (aP 39 wP (aP 44 PW (aP 108 Bi (aP 40 za ae1))))))))
def gr:aw Tryz.prog (ak tyT) aeW:=(ag Is (ag KJ (ag Tg (ag Wz (ag Jr (ag acg (ag Ri (ag LS gO))))))))
variable {k:Nat} {x:UInt8}
def wD {q:Nat × Nat} {l:List UInt8} (h:l[k]? = some x):fI q (l.take (k+1))=Re (fI q (l.take k)) x:=by
 rw [ai h,fI,List.foldl_append]; rfl
variable {b:List UInt8}
def LD {s:Nat} (h:b[k]? = some x):((fI (s % 65536 % 65521,s / 65536 % 65521) (b.take k)).1+x.toNat) % 4294967296 % 65521=(fI (s % 65536 % 65521,s / 65536 % 65521) (b.take (k+1))).1:=by
 have:=(rO (s:=s) (b.take k)).1;have:=x.toNat_lt;rw [wD h,Re];omega
def Mt {s:Nat} (h:b[k]? = some x):((fI (s % 65536 % 65521,s / 65536 % 65521) (b.take k)).2+((fI (s % 65536 % 65521,s / 65536 % 65521) (b.take k)).1+x.toNat) % 4294967296 % 65521) % 4294967296 % 65521=(fI (s % 65536 % 65521,s / 65536 % 65521) (b.take (k+1))).2:=by
 have:=(rO (s:=s) (b.take k));have:=x.toNat_lt;rw [wD h,Re];omega
def MQ {s:Nat} (h:(b.length:Int)<=k):(65536*(fI (s % 65536 % 65521,s / 65536 % 65521) (b.take k)).2 % 4294967296+(fI (s % 65536 % 65521,s / 65536 % 65521) (b.take k)).1) % 4294967296=cz s b:=by
 have:=(rO (s:=s) b);rw [List.take_of_length_le aI,cz];omega
variable {l:List Bool} {x:Bool}
def aiu (h:l[k]? = some x) (a:x=true):(((l.take k).countP id:Nat):Int)+1=((l.take (k+1)).countP id:Nat):=by
 rw [ai h,List.countP_append,a]; simp
def aje (h:l[k]? = some x) (a:x=false):(((l.take k).countP id:Nat):Int)=((l.take (k+1)).countP id:Nat):=by
 rw [ai h,List.countP_append,a]; simp
def akH (h:(l.length:Int)<=k):decide ((l.length:Int).tdiv 2<((l.take k).countP id:Nat))=decide ((l.length:Int).tdiv 2<(l.countP id:Nat)):=by
 rw [List.take_of_length_le aI]
def ajL (h:l.length*1<=140737488355328):I64 (((l.take k).countP id:Nat)+1):=by
 have a:(l.take k).countP id<=(l.take k).length:=List.countP_le_length;rw [List.length_take] at a;exact bw aI aI
variable {l:List Entry}
def S_ (h:(l.length:Int)=0):(0:Int)=iw l:=by
 rw [abb (l:=l) aI]; rfl
def WE (h:¬ (l.length:Int)=0):(l.getD ((l.length:Int) - 1).toNat (aj (Sh.nm NT.entry))).term=iw l:=by
 rw [show ((l.length:Int) - 1).toNat=l.length - 1 by omega]; rfl
variable {k:Int}
def TX {x:Entry} (a:¬ k=0) (c:0<=k) (d:k<=(l.length:Int)) (h:l[(k - 1).toNat]? = some x):x.term=cX l k:=by
 rw [cX,if_neg a,if_neg aI,List.getD_eq_getElem?_getD,h]; rfl
def abi (s:Nat) (b:List UInt8):List (Nat × LI):=[(3,{ σ:=Nat,F:=fun k=>([(5,one (.ptr 0 0)),(15,one (.fz .u8 (b))),(16,one (.int (b).length)),(17,one (.int k))],[.box 286 ([.xx (.w (((fI (s % 65536 % 65521,s / 65536 % 65521) (b.take k)).1))) [],.xx (.w (((fI (s % 65536 % 65521,s / 65536 % 65521) (b.take k)).2))) []])]),J:=fun k=>k<=b.length,μ:=fun k=>(b).length - k })]
def acD (l:List Bool):List (Nat × LI):=[(3,{ σ:=Nat,F:=fun k=>([(0,one (.fz .bool (l))),(3,one (.int ((l.take k).countP id))),(6,one (.fz .bool (l))),(7,one (.int (l).length)),(8,one (.int k))],[]),J:=fun k=>k<=l.length,μ:=fun k=>(l).length - k })]
def BK:Kn:=aO (ae (kC (ba 0 0)) al) (aH (dN 147 (ax (fg 1) (ax cI (ax cB (ax cB (ax cI dK)))))) (aH (e_ 5 .u8) av)) fun _ ((_,a,d,e,f,_),g,_)=>⟨[(Dsk.mk g a d e f).OK],[.c (.int (((Dsk.mk g a d e f).eV)))],some ([.box 147 ([.own 1,.int ((((Dsk.mk g a d e f).sync).synced)),.bool (.atom ((((Dsk.mk g a d e f).sync).down))),.bool (.atom ((((Dsk.mk g a d e f).sync).doomed))),.int ((((Dsk.mk g a d e f).sync).keep))]),.row 5 .u8 ((((Dsk.mk g a d e f).sync).b))]),false⟩
theorem QN:CK 151 BK:=ah fun _ ((_,f,g,h,i,_),c,_) m=>by
 have n:=cg m;refine bA gr [] Tryz.func151 (?_:(fun d=>(fun e=>(fun a=>(fun j=>(g=true->30=d.eV/\f=a.synced/\j)/\(g=false->(h=true->(0<=f/\f<=(↑c.length:Int)/\c.length<=65536)/\30=d.eV/\e.synced=a.synced/\e.down=a.down/\e.doomed=a.doomed/\e.keep=a.keep/\e.b=a.b)/\(h=false->0=d.eV/\(↑c.length:Int)=a.synced/\j))) (g=a.down/\h=a.doomed/\i=a.keep/\c=a.b)) d.sync) (d.ck i)) (Dsk.mk c f g h i));obtain ⟨o,p,q⟩:=n;dsimp only at o p q;(repeat' with_reducible first|apply a_|refine aY ?_|intro) <;> first | (first | with_reducible rfl | with_reducible assumption | omega | (refine bw ?_ ?_ <;> omega)) | grind [Dsk.sync,Dsk.eV]
def Rh :Sat Tryz.prog (ak tyT) 38 [] [] ⟨[],[.c (.ptr 0 0)],some ([.box 147 ([.own 1,.int ((0)),.bool (.atom ((false))),.bool (.atom ((false))),.int ((0))]),.row 5 .u8 (([]))]),true⟩:=Sat.Lm 0 0 5 .u8 bP rfl rfl TU rfl
def zt:Kn:=aO al av fun _ _=>⟨[],[.c (.ptr 0 0)],some ([.box 147 ([.own 1,.int ((0)),.bool (.atom ((false))),.bool (.atom ((false))),.int ((0))]),.row 5 .u8 (([]))]),true⟩
def Rr:CK 38 zt:=ah fun _ _ _=>Rh
def Hj:Kn:=aO (ae (kC cW) (ae (kC (cL .u8)) al)) av fun (s,b,_) _=>⟨[],[.c (.xx (.w ((cz s b))) [])],none,false⟩
theorem Wm:CK 252 Hj:=ah fun (s,b,_) _ _=>by
 refine ao gr (abi s b) Tryz.func252 (?_:(fun (i:Nat)=>(fun (g:Nat)=>(fun (f:Int)=>(fun (d:Nat)=>(fun (e:Nat)=>(fun (h:Int)=>(fun (c:Int)=>(fun (j:Nat × Nat)=>b.length*(1:Nat)<=(140737488355328:Nat)->i<g/\i<e/\i<g/\i<e/\∃ (n:Nat),(b=b/\(↑b.length:Int)=(↑d:Int)/\c=(↑n:Int)/\s % g % e=(fI j (List.take n b)).fst/\s / g % e=(fI j (List.take n b)).snd)/\n<=d/\∀ (a:Nat),(fun (o:Nat × Nat)=>a<=d->((↑a:Int)<(↑d:Int)->c<=(↑a:Int)/\(↑a:Int)<(↑b.length:Int)/\∀ (x:UInt8),(fun (p:Nat)=>b[a]? = some x->c<=c/\c<h/\i<e/\c<=c/\c<h/\c<=f/\f<h/\c<=c/\c<h/\i<e/\c<=f/\f<h/\I64 ((↑a:Int)+f)/\∃ (m:Nat),(b=b/\(↑d:Int)=(↑d:Int)/\(↑a:Int)+f=(↑m:Int)/\p=(fI j (List.take m b)).fst/\(o.snd+p) % (4294967296:Nat) % e=(fI j (List.take m b)).snd)/\m <= d/\d - m < d - a) ((o.fst+x.toNat) % (4294967296:Nat) % e))/\((↑d:Int)<=(↑a:Int)->c<=f/\f<h/\c<=c/\c<h/\(g*o.snd % (4294967296:Nat)+o.fst) % (4294967296:Nat)=cz s b)) (fI j (List.take a b))) (s % g % e,s / g % e)) (0:Int)) (↑(2:Nat):Int)) (65521:Nat)) b.length) (1:Int)) (65536:Nat)) (0:Nat));(repeat' with_reducible first|apply a_|refine aY ?_|intro)
 all_goals try ( refine ⟨0,?_⟩; (repeat' with_reducible first|apply a_|refine aY ?_|intro))
 all_goals try ( refine ⟨‹Nat› + 1,?_⟩; (repeat' with_reducible first|apply a_|refine aY ?_|intro))
 all_goals (first | exact bq | exact rfl | exact (LD ab) | exact (Mt ab) | exact (MQ ab))
def qI:Kn:=aO (ae (kC (cL .u8)) al) av fun (l,_) _=>⟨[],[.c (.fz .u8 ((l)))],none,false⟩
theorem Bu:CK 104 qI:=ah fun (l,_) _ _=>by
 refine ao gr [] Tryz.func104 (?_:(fun a=>a->∀ (b:Bool),(b=true->l=[])->(b=true->l=[])/\(b=false->a/\l=l)) (l.length*1<=140737488355328));grind
def Ht:Kn:=aO (ae (kC (cL (.nm .entry))) al) av fun (l,_) _=>⟨[],[.c (.int (((l.length:Int)))),.c (.int ((iw l)))],none,false⟩
def TD:CK 49 Ht:=ah fun (l,_) _ _=>by
 refine ao gr [] Tryz.func49 (?_:(fun a=>(fun c=>(fun d=>l.length*32<=140737488355328->(a=0->0=(↑l.length:Int)/\0=iw l)/\(¬a=0->I64 c/\(0<=c/\c<a)/\(I64 d.term->d.b.length*1<=140737488355328->a=(↑l.length:Int)/\d.term=iw l))) (l.getD c.toNat (aj (Sh.nm NT.entry)))) (a - 1)) (↑l.length:Int));(repeat' with_reducible first|apply a_|refine aY ?_|intro)
 all_goals (first | exact bq | exact (S_ ab) | exact (WE ab))
def FI:Kn:=aO (ae (kC (cL (.nm .entry))) (ae (kC cI) al)) av fun (l,k,_) _=>⟨[],[.c (.int ((cX l k)))],none,false⟩
def Uu:CK 193 FI:=ah fun (l,k,_) _ _=>by
 refine ao gr [] Tryz.func193 (?_:(fun a=>(fun c=>l.length*32<=140737488355328->I64 k->(k=a->a=cX l k)/\(¬k=a->(k<a\/(↑l.length:Int)<k -> -1=cX l k)/\(a<=k/\k<=(↑l.length:Int)->I64 c/\a<=c/\c<(↑l.length:Int)/\∀ (x:Entry),l[c.toNat]? = some x->I64 x.term->x.b.length*1<=140737488355328->x.term=cX l k))) (k - 1)) (0:Int));(repeat' with_reducible first|apply a_|refine aY ?_|intro)
 all_goals (first | exact bq | exact (TX ab ab ab ab) | (rw [cX,if_pos ab]) | (rw [cX,if_neg ab,if_pos ab]))
def EW:Kn:=aO (ae (kC cI) (ae (kT (.nm .letter)) al)) av fun (n,x,_) _=>⟨[0<=x.a/\x.a<=64],[.c (.int ((jC n x)))],none,false⟩
theorem UG:CK 172 EW:=ah fun (n,x,_) _ e=>by
 have f:=cg e;refine ao gr [] Tryz.func172 (?_:(fun c=>(fun d=>I64 n->aT x ((x.ok=true->I64 d/\d=jC n x)/\(x.ok=false->(c<n->I64 (n - c)/\I64 d/\min (n - c) d=jC n x)/\(n<=c->c=jC n x)))) (x.a+c)) (1:Int));(repeat' with_reducible first|apply a_|refine aY ?_|intro)
 all_goals first | exact bq | (simp only [jC]; grind) | (have q:=(by with_reducible assumption:I64 n); exact bw (by have:=q.1; omega) (by have:=q.2; omega))
def FM:Kn:=aO (ae (kC cI) (ae (kC cI) al)) av fun (t,v,_) _=>⟨[],[.c (.own 0)],some ([.row 108 (.nm .record) (([⟨2,t,v,[]⟩]))]),true⟩
def VK:CK 88 FM:=ah fun (t,v,_) _ _=>by
 refine dF gr [] Tryz.func88 (?_:I64 t->I64 v->[Record.mk 2 t v []]=[Record.mk 2 t v []]);intros; rfl
def Hb:Kn:=aO (ae (kC (cL .bool)) al) av fun (l,_) _=>⟨[],[.c (.bool (.atom ((qy l))))],none,false⟩
theorem Te:CK 101 Hb:=ah fun (l,_) _ _=>by
 refine ao gr (acD l) Tryz.func101 (?_:(fun e=>(fun h=>(fun a=>(fun d=>l.length*(1:Nat)<=(140737488355328:Nat)->∃ i,(l=l/\(0:Int)=(↑(List.countP id (List.take i l)):Int)/\l=l/\e=d/\(0:Int)=(↑i:Int))/\i<=a/\∀ (s:Nat),(fun f=>(fun g=>s<=a->((↑s:Int)<d->(0:Int)<=(↑s:Int)/\(↑s:Int)<e/\∀ (x:Bool),l[s]? = some x->(x=true->I64 (g+h)/\I64 f/\∃ c,(l=l/\g+h=(↑(List.countP id (List.take c l)):Int)/\l=l/\d=d/\f=(↑c:Int))/\c <= a/\a - c < a - s)/\(x=false->I64 f/\∃ c,(l=l/\g=(↑(List.countP id (List.take c l)):Int)/\l=l/\d=d/\f=(↑c:Int))/\c <= a/\a - c < a - s))/\(d<=(↑s:Int)->(0:Int)<=e/\(0:Int)<(2:Int)/\decide (e.tdiv (2:Int)<g)=qy l)) (↑(List.countP id (List.take s l)):Int)) ((↑s:Int)+h)) (↑a:Int)) l.length) (1:Int)) (↑l.length:Int));iterate 3 ((all_goals (repeat' with_reducible first|apply a_|refine aY ?_|intro)); (all_goals try (first | exact bq | exact rfl | exact (aiu ab ab) | exact (aje ab ab) | exact (ajL ab) | exact (akH ab))); all_goals try first | refine ⟨‹Nat› + 1,?_⟩ | refine ⟨0,?_⟩)
def Rs:Kn:=aO (ae (kC cI) (ae (kC cI) (ae (kC cI) al))) av fun (n,a,b,_) _=>⟨[],[.c (.bool (.atom ((cn n a b))))],none,false⟩
theorem ZF:CK 165 Rs:=ah fun (n,a,b,_) _ _=>by
 refine ao gr [] Tryz.func165 (?_:I64 n->I64 a->I64 b->(decide (a<=n) && decide (n<=b))=cn n a b);grind [cn]
def afL:bH:=(aP 165 Rs (aP 101 Hb (aP 88 FM (aP 172 EW (aP 193 FI (aP 49 Ht (aP 104 qI (aP 252 Hj (aP 38 zt (aP 151 BK aeW))))))))))
def jZ:aw Tryz.prog (ak tyT) afL:=(ag ZF (ag Te (ag VK (ag UG (ag Uu (ag TD (ag Bu (ag Wm (ag Rr (ag QN gr))))))))))
def Ae:Kn:=aO (ae (kC (cL .u8)) al) av fun (b,_) _=>⟨[],[.c (.xx (.w ((cz 1 b))) [])],none,false⟩
def Mm:CK 209 Ae:=ah fun (b,_) _ _=>by
 refine ao jZ [] Tryz.func209 (?_:b.length*1<=140737488355328->cz 1 b=cz 1 b);intros; rfl
def MM:Kn:=aO (ae (kC (cL .u8)) al) av fun (b,_) _=>⟨[],[.c (.fz .u8 ((b)))],none,false⟩
def abl:CK 211 MM:=ah fun (b,_) _ _=>by
 refine ao jZ [] Tryz.func211 (?_:(fun a=>a->((↑b.length:Int)=0->b=[])/\(¬(↑b.length:Int)=0->a->b=b)) (b.length*1<=140737488355328));(repeat' with_reducible first|apply a_|refine aY ?_|intro)
 all_goals (first | exact bq | exact (abb aI).symm | exact (abb aI))
def mw:Kn:=aO (ae (kC (cL (.nm .entry))) al) av fun (l,_) _=>⟨[],[.c (.own 0)],some ([.row 52 (.nm .entry) ((l))]),true⟩
def uX:CK 213 mw:=ah fun (l,_) _ _=>by
 refine dF jZ [] Tryz.func213 (?_:(fun a=>a->∀ (b:Bool),(b=true->l=[])->(b=true->l=[])/\(b=false->a/\l=l)) (l.length*32<=140737488355328));exact fun h b c=>⟨c,fun _=>⟨h,rfl⟩⟩
def Af:Kn:=aO (ae (kC (cL (.nm .entry))) (ae (kC cI) (ae (kC cI) al))) av fun (l,k,m,_) _=>⟨[],[.c (.bool (.atom ((decide (cX l k=m)))))],none,false⟩
def LX:CK 166 Af:=ah fun (l,k,m,_) _ _=>by
 refine ao jZ [] Tryz.func166 (?_:l.length*32<=140737488355328->I64 k->I64 m->I64 (cX l k)->decide (cX l k=m)=decide (cX l k=m));intros; rfl
def Cn:Kn:=aO (ae (kC (cL (.nm .entry))) (ae (kC cI) (ae (kC cI) al))) av fun (l,k,m,_) _=>⟨[],[.c (.bool (.atom ((kg l k m))))],none,false⟩
def Ni:CK 170 Cn:=ah fun (l,k,m,_) _ _=>by
 refine ao jZ [] Tryz.func170 (?_:l.length*32<=140737488355328->I64 k->I64 m->I64 (↑l.length:Int)->I64 (iw l)->(decide (iw l<m) || decide (m=iw l) && decide ((↑l.length:Int)<=k))=kg l k m);intros; rfl
def zU:Kn:=aO (ae (kC cI) (ae (kC cI) (ae (kC cB) al))) av fun (n,m,a,_) _=>⟨[],[.c (.bool (.atom ((dZ n m a))))],none,false⟩
theorem Pk:CK 164 zU:=ah fun (n,m,a,_) _ _=>by
 refine ao jZ [] Tryz.func164 (?_:I64 n->I64 m->(a=false->cn n 0 0=dZ n m a)/\(a=true->cn n 0 m=dZ n m a));(repeat' with_reducible first|apply a_|refine aY ?_|intro)
 all_goals first | exact bq | (simp only [dZ]; grind)
def agQ:bH:=(aP 164 zU (aP 170 Cn (aP 166 Af (aP 213 mw (aP 211 MM (aP 209 Ae afL))))))
def iO:aw Tryz.prog (ak tyT) agQ:=(ag Pk (ag Ni (ag LX (ag uX (ag abl (ag Mm jZ))))))
theorem rH (n:Nat):Dg (n:Int)=UInt8.ofNat n:=by
 apply UInt8.toNat_inj.1;rw [Dg,ofNat_toNat,ofNat_toNat]; omega
variable {m:Int}
def QT (h:(k<0\/(l.length:Int)<k)\/m<1):fN l k m=[]:=if_pos h
def No (a:0<=k) (c:k<=(l.length:Int)) (d:1<=m):(l.drop k.toNat).take (min m ((l.drop k.toNat).length:Int)).toNat=fN l k m:=by
 rw [fN,if_neg aI]
variable {m:List Entry}
def adh (h:k<0\/(l.length:Int)<k):bl l k m=(0,[]):=if_pos h
variable {j:Nat}
def Zm (c:j<=g_ (l.drop k.toNat) m) (d:0<=k) (f:k<=(l.length:Int)) (g:j<m.length) (i:(((l.drop k.toNat).length:Nat):Int)<=j):bl l k m=(0,m.drop j):=by
 have:=nF (h:=l.drop k.toNat) (a:=m);have e:g_ (l.drop k.toNat) m=j:=by omega
 rw [bl,if_neg aI,e,if_neg aI,if_pos aI]
theorem Yr {y:Entry} (c:j<=g_ (l.drop k.toNat) m) (f:0<=k) (g:k<=(l.length:Int)) (h:(j:Int)<((l.drop k.toNat).length:Nat)) (a:m[j]? = some y) (i:¬ ((l.drop k.toNat).getD j (aj (Sh.nm NT.entry))).term=y.term):bl l k m=(k+j+1,m.drop j):=by
 have d:(l.drop k.toNat)[j]? = some ((l.drop k.toNat).getD j (aj (Sh.nm NT.entry))):=by
  grind
 have:=ph c d a;have n:=(aad.1 a).1;have e:g_ (l.drop k.toNat) m=j:=by
  grind
 rw [bl,if_neg aI,e,if_neg aI,if_neg aI]
theorem aeG {y:Entry} (a:j<=g_ (l.drop k.toNat) m) (f:(j:Int)<((l.drop k.toNat).length:Nat)) (c:m[j]? = some y) (d:((l.drop k.toNat).getD j (aj (Sh.nm NT.entry))).term=y.term):j+1<=g_ (l.drop k.toNat) m:=by
 have e:(l.drop k.toNat)[j]? = some ((l.drop k.toNat).getD j (aj (Sh.nm NT.entry))):=by
  grind
 exact (ph a e c).1 d
def adj (a:j<=g_ (l.drop k.toNat) m) (c:0<=k) (d:k<=(l.length:Int)) (e:(m.length:Int)<=j):bl l k m=(0,[]):=by
 rw [bl,if_neg aI,if_pos aI]
variable {x:Letter}
theorem aaV (h:((((((((((((¬x.kind=1/\¬x.kind=2)/\¬x.kind=3)/\¬x.kind=4)\/cn x.frm 0 4=false)\/cn x.to 0 4=false)\/x.frm=x.to)\/cn x.term 1 1048576=false)\/cn x.bin 1 3=false)\/dZ x.a 64 (decide (x.kind=1) || decide (x.kind=3) || decide (x.kind=4))=false)\/dZ x.b 1048576 (decide (x.kind=1) || decide (x.kind=3))=false)\/dZ x.c 64 (decide (x.kind=3))=false)\/(x.ok=true/\¬x.kind=2)/\¬x.kind=4)\/dZ (x.l.length:Int) 4 (decide (x.kind=3))=false):oJ x=false:=by
 unfold oJ;grind
theorem aaE (e:((x.kind=1\/x.kind=2)\/x.kind=3)\/x.kind=4) (f:cn x.frm 0 4=true) (g:cn x.to 0 4=true) (h:¬x.frm=x.to) (i:cn x.term 1 1048576=true) (n:cn x.bin 1 3=true) (o:dZ x.a 64 (decide (x.kind=1) || decide (x.kind=3) || decide (x.kind=4))=true) (p:dZ x.b 1048576 (decide (x.kind=1) || decide (x.kind=3))=true) (q:dZ x.c 64 (decide (x.kind=3))=true) (r:(x.ok=false\/x.kind=2)\/x.kind=4) (d:dZ (x.l.length:Int) 4 (decide (x.kind=3))=true):oJ x=true:=by
 unfold oJ;grind
theorem Tu {y:Entry} (h:cn y.term 1 1048576=false\/200<(y.b.length:Int)):eU y=false:=by
 unfold eU;grind
def Wh {y:Entry} (h:cn y.term 1 1048576=true) (a:(y.b.length:Int)<=200):eU y=true:=by
 unfold eU; rw [h,decide_eq_true a]; rfl
variable {k:Nat}
def agF (h:oJ x=true) (c:(x.l.length:Int)<=k) (a:(x.l.take k).all eU=true):0=mayL x:=by
 rw [List.take_of_length_le aI] at a;rw [mayL,if_pos ⟨h,a⟩]
theorem adp {y:Entry} (a:x.l[k]? = some y) (h:eU y=false):1=mayL x:=by
 rw [mayL,if_neg];grind
def agK {y:Entry} (a:x.l[k]? = some y) (h:eU y=true) (c:(x.l.take k).all eU=true):(x.l.take (k+1)).all eU=true:=by
 rw [ai a,aiU,c]; simp [h]
def ait:(x.l.take 0).all eU=true:=rfl
def agN (h:oJ x=false):1=mayL x:=by
 rw [mayL,if_neg (by rintro ⟨a,_⟩; rw [h] at a; cases a)]
def aba (x:Letter):List (Nat × LI):=[(7,{ σ:=Nat,F:=fun k=>([(112,one (.fz (.nm .entry) x.l)),(113,one (.int x.l.length)),(114,one (.int k))],[]),J:=fun k=>k<=x.l.length/\oJ x=true/\(x.l.take k).all eU=true,μ:=fun k=>x.l.length - k })]
def Tj (l:List Entry) (k:Int) (m:List Entry):List (Nat × LI):=[(5,{ σ:=Nat,F:=fun j=>([(1,one (.int (k))),(2,one (.fz (.nm .entry) (m))),(8,one (.fz (.nm .entry) (l.drop k.toNat))),(22,one (.fz (.nm .entry) (m))),(23,one (.int (m).length)),(24,one (.int j))],[]),J:=fun j=>j<=m.length/\j<=g_ (l.drop k.toNat) m,μ:=fun j=>(m).length - j })]
def Hl:Kn:=aO (ae (kC (cL .u8)) (ae (kC cW) al)) av fun (b,s,_) _=>⟨[],[.c (.bool (.atom ((decide (cz 1 b=s)))))],none,false⟩
theorem UJ:CK 143 Hl:=ah fun (b,s,_) _ _=>by
 refine ao iO [] Tryz.func143 (?_:b.length*1<=140737488355328->decide ((↑(cz 1 b):Int)=(↑s:Int))=decide (cz 1 b=s));(repeat' with_reducible first|apply a_|refine aY ?_|intro) <;> first | (first | with_reducible rfl | with_reducible assumption | omega | (refine bw ?_ ?_ <;> omega)) | (simp only [decide_eq_decide]; omega)
def QV:Kn:=aO (ae (kC (cL .u8)) al) av fun (x,_) _=>⟨[],[.c (.fz .u8 (((fS x).1))),.c (.int (((fS x).2)))],none,false⟩
theorem acF:CK 149 QV:=ah fun (x,_) _ _=>by
 refine ao (yE iO) [] Tryz.func149 (?_:(fun (g:Nat)=>(fun (a:Nat)=>(fun (c:Int)=>(fun (e:Int)=>(fun (f:List (den Sh.u8))=>(fun (d:List (den Sh.u8))=>(fun (h:List (den Sh.u8))=>x.length*a<=(140737488355328:Nat)->(c=(0:Int)\/(4096:Int)<c->(fS x).fst=[]/\(4:Int)=(fS x).snd)/\(¬c=(0:Int)/\c<=(4096:Int)->I64 ((2:Int)+c)/\I64 e/\(0:Int)<=e/\e*(↑a:Int)<=(140737488355328:Int)/\(0:Int)<=c/\(8:Nat)<(64:Nat)/\((0:Nat)+f.length)*a<=(140737488355328:Nat)/\(([]++f).length+x.length)*a<=(140737488355328:Nat)/\(24:Nat)<(32:Nat)/\(16:Nat)<(32:Nat)/\(8:Nat)<(32:Nat)/\(d.length+h.length)*a<=(140737488355328:Nat)/\d++h=(fS x).fst/\(0:Int)=(fS x).snd)) [UInt8.ofNat (cz a d / (2:Nat) ^ (24:Nat)),UInt8.ofNat (cz a d / (2:Nat) ^ (16:Nat)),UInt8.ofNat (cz a d / g),UInt8.ofNat (cz a d)]) ([]++f++x)) [Dg (↑(x.length / g):Int),Dg c]) ((2:Int)+c+(4:Int))) (↑x.length:Int)) (1:Nat)) ((2:Nat) ^ (8:Nat)));(repeat' with_reducible first|apply a_|refine aY ?_|intro)
 all_goals first | exact bq | (simp only [fS,eh,fJ,pP,rH,ak_] at *; grind)
def vZ:Kn:=aO (ae (kC (cL (.nm .entry))) (ae (kC cI) (ae (kC cI) al))) av fun (l,k,m,_) _=>⟨[],[.c (.fz (.nm .entry) ((fN l k m)))],none,false⟩
def Jf:CK 194 vZ:=ah fun (l,k,m,_) _ _=>by
 refine ao iO [] Tryz.func194 (?_:(fun a=>l.length*32<=140737488355328->I64 k->I64 m->((k<0\/(↑l.length:Int)<k)\/m<1->fN l k m=[])/\((0<=k/\k<=(↑l.length:Int))/\1<=m->0<=k/\k<=(↑l.length:Int)/\0<=min m a/\min m a<=a/\List.take (min m a).toNat (List.drop k.toNat l)=fN l k m)) (↑(List.drop k.toNat l).length:Int));(repeat' with_reducible first|apply a_|refine aY ?_|intro)
 all_goals (first | exact bq | exact (QT ab) | exact (No ab ab ab))
def Hz:Kn:=aO (ae (kT (.nm .stable)) al) av fun (s,_) _=>⟨[],[.agg ([.int ((s.floor)),.int ((s.term)),.int ((s.vote)),.own 0])],some ([.row 52 (.nm .entry) ((s.log))]),true⟩
def Vn:CK 147 Hz:=ah fun (s,_) _ _=>by
 refine dF iO [] Tryz.func147 (?_:bS s (dJ s s));(repeat' with_reducible first|apply a_|refine aY ?_|intro)
 all_goals (first | exact bq | exact rfl)
def BP:Kn:=aO (ae (kT (.nm .stable)) (ae (kC cI) al)) av fun (s,t,_) _=>⟨[],[.c (.own 0)],some ([.row 108 (.nm .record) ((aB s t))]),true⟩
def Ro:CK 100 BP:=ah fun (s,t,_) _ _=>by
 refine dF iO [] Tryz.func100 (?_:bS s (I64 t->(t<=s.term->aB s t=[])/\(s.term<t->[Record.mk 2 t 0 []]=aB s t)));(repeat' with_reducible first|apply a_|refine aY ?_|intro)
 all_goals (first | exact bq | (rw [aB,if_pos ab]) | (rw [aB,if_neg aI]) | (simp; done))
def FG:Kn:=aO (ae (kT (.nm .letter)) al) av fun (x,_) _=>⟨[],[.c (.int ((mayL x)))],none,false⟩
theorem TP:CK 94 FG:=ah fun (x,_) _ _=>by
 refine ao iO (aba x) Tryz.func94 (?_:(fun (n:Int)=>(fun (i:Int)=>(fun (p:Int)=>(fun (g:Int)=>(fun (h:Nat)=>(fun (f:Int)=>(fun (q:Prop)=>(fun (e:Int)=>(fun (t:Bool)=>(fun (q0:Bool)=>(fun (o:Bool)=>aT x (((((((((((((¬f=e/\¬q)/\¬f=3)/\¬f=g\/cn x.frm i g=false)\/cn x.to i g=false)\/x.frm=x.to)\/cn x.term e n=false)\/cn x.bin e 3=false)\/o=false)\/dZ x.b n (t || q0)=false)\/dZ x.c 64 q0=false)\/(x.ok=true/\¬q)/\¬f=g)\/dZ p g q0=false->e=mayL x)/\(((((((((((((f=e\/q)\/f=3)\/f=g)/\cn x.frm i g=true)/\cn x.to i g=true)/\¬x.frm=x.to)/\cn x.term e n=true)/\cn x.bin e 3=true)/\o=true)/\dZ x.b n (t || q0)=true)/\dZ x.c 64 q0=true)/\((x.ok=false\/q)\/f=g))/\dZ p g q0=true->∃ (u:Nat),(x.l=x.l/\p=(↑h:Int)/\i=(↑u:Int))/\(u<=h/\oJ x=true/\(List.take u x.l).all eU=true)/\∀ (s:Nat),s<=h/\oJ x=true/\(List.take s x.l).all eU=true->((↑s:Int)<(↑h:Int)->i<=(↑s:Int)/\(↑s:Int)<p/\∀ (d:Entry),x.l[s]? = some d->I64 d.term->d.b.length*1<=140737488355328->(cn d.term e n=false\/200<(↑d.b.length:Int)->e=mayL x)/\(cn d.term e n=true/\(↑d.b.length:Int)<=200->I64 ((↑s:Int)+e)/\∃ (r:Nat),(x.l=x.l/\(↑h:Int)=(↑h:Int)/\(↑s:Int)+e=(↑r:Int))/\(r <= h/\oJ x=true/\(List.take r x.l).all eU=true)/\h - r < h - s))/\((↑h:Int)<=(↑s:Int)->i=mayL x)))) (dZ x.a 64 (t || q0 || decide (f=g)))) (decide (f=3))) (decide (f=e))) 1) (f=2)) x.kind) x.l.length) 4) (↑x.l.length:Int)) 0) 1048576);iterate 3 ((all_goals (repeat' with_reducible first|apply a_|refine aY ?_|intro)); (all_goals try (first | exact bq | exact ait | exact (agF ab ab ab) | exact (agN (aaV ab)) | exact (aaE ab ab ab ab ab ab ab ab ab ab ab) | exact (agK ab (Wh ab ab) ab) | exact (adp ab (Tu ab)))); all_goals try first | refine ⟨‹Nat› + 1,?_⟩ | refine ⟨0,?_⟩)
def zV:Kn:=aO (ae (kC (cL (.nm .entry))) (ae (kC cI) (ae (kC (cL (.nm .entry))) al))) av fun (l,k,m,_) _=>⟨[],[.c (.int (((bl l k m).1))),.c (.fz (.nm .entry) (((bl l k m).2)))],none,false⟩
theorem PS:CK 167 zV:=ah fun (l,k,m,_) _ _=>by
 refine ao iO (Tj l k m) Tryz.func167 (?_:(fun (g:Int)=>(fun (n:Nat)=>(fun (d:Nat)=>(fun (e:Int × List Entry)=>(fun (c:Int)=>(fun (f:List (den (Sh.nm NT.entry)))=>l.length*32<=140737488355328->I64 k->m.length*32<=140737488355328->(k<c\/(↑l.length:Int)<k->c=e.fst/\e.snd=[])/\(c<=k/\k<=(↑l.length:Int)->c<=k/\k<=(↑l.length:Int)/\∃ (o:Nat),(k=k/\m=m/\f=f/\m=m/\g=(↑d:Int)/\c=(↑o:Int))/\(o<=d/\o<=n)/\∀ (s:Nat),(fun (h:den (Sh.nm NT.entry))=>(fun (a:Int)=>s<=d/\s<=n->(a<(↑d:Int)->c<=a/\a<g/\∀ (x:Entry),m[s]? = some x->I64 x.term->x.b.length*1<=140737488355328->((↑f.length:Int)<=a->c<=a/\a<=g/\c=e.fst/\List.drop s m=e.snd)/\(a<(↑f.length:Int)->c<=a/\a<(↑f.length:Int)/\(I64 h.term->h.b.length*1<=140737488355328->(¬h.term=x.term->I64 (k+a)/\I64 (k+a+1)/\c<=a/\a<=g/\k+a+1=e.fst/\List.drop s m=e.snd)/\(h.term=x.term->I64 (a+1)/\∃ (i:Nat),(k=k/\m=m/\f=f/\m=m/\(↑d:Int)=(↑d:Int)/\a+1=(↑i:Int))/\(i <= d/\i <= n)/\d - i < d - s))))/\((↑d:Int)<=a->c=e.fst/\e.snd=[])) (↑s:Int)) (f.getD s (aj (Sh.nm NT.entry))))) (List.drop k.toNat l)) 0) (bl l k m)) m.length) (g_ (List.drop k.toNat l) m)) (↑m.length:Int));iterate 3 ((all_goals (repeat' with_reducible first|apply a_|refine aY ?_|intro)); (all_goals try (first | exact bq | exact (congrArg Prod.fst (adh ab)).symm | exact (congrArg Prod.fst (Zm ab ab ab aI ab)).symm | exact (congrArg Prod.fst (Yr ab ab ab ab ab ab)).symm | exact (congrArg Prod.fst (adj ab ab ab ab)).symm | exact (congrArg Prod.snd (adh ab)).symm | exact (congrArg Prod.snd (Zm ab ab ab aI ab)).symm | exact (congrArg Prod.snd (Yr ab ab ab ab ab ab)).symm | exact (congrArg Prod.snd (adj ab ab ab ab)).symm | exact (congrArg Prod.snd (adh ab)) | exact (congrArg Prod.snd (adj ab ab ab ab)) | exact (aeG ab ab ab ab))); all_goals try first | refine ⟨‹Nat› + 1,?_⟩ | refine ⟨0,?_⟩)
def adW:bH:=(aP 167 zV (aP 94 FG (aP 100 BP (aP 147 Hz (aP 194 vZ (aP 149 QV (aP 143 Hl agQ)))))))
def gQ:aw Tryz.prog (ak tyT) adW:=(ag PS (ag TP (ag Ro (ag Vn (ag Jf (ag acF (ag UJ iO)))))))
variable {r:Route}
def qY {s:Stable} (h:r.next<1\/(s.log.length:Int)+1<r.next):gI s r=(cr,1):=if_pos h
def qV {s:Stable} (a:1<=r.next) (c:r.next<=(s.log.length:Int)+1) (h:¬ mayL (Letter.mk 3 r.frm r.to s.term (r.next - 1) (cX s.log (r.next - 1)) r.commit r.bin false (fN s.log (r.next - 1) 4))=0):gI s r=(cr,mayL (qR s r)):=by
 rw [gI,if_neg aI,if_pos (show ¬ mayL (qR s r)=0 from h)]
def sd {s:Stable} (a:1<=r.next) (c:r.next<=(s.log.length:Int)+1) (h:mayL (Letter.mk 3 r.frm r.to s.term (r.next - 1) (cX s.log (r.next - 1)) r.commit r.bin false (fN s.log (r.next - 1) 4))=0):gI s r=(qR s r,0):=by
 rw [gI,if_neg aI,if_neg (adv.2 (show mayL (qR s r)=0 from h))]
def Uz (h:(b.length:Int)<2):az b=([],0,2):=if_pos aI
def Vx (h:2<=(b.length:Int)) (a:bF b=0\/4096<bF b):az b=([],0,3):=by rw [az,if_neg aI,if_pos a]
def VX (h:2<=(b.length:Int)) (c:¬ bF b=0) (d:bF b<=4096) (a:(b.length:Int)<2+bF b+4):az b=([],0,2):=by rw [az,if_neg aI,if_neg aI,if_pos a]
variable {x:UInt8}
def Qf {l:List UInt8} (h:l[k]? = some x):(yX (l.take k)*2 ^ 8) % 4294967296 ||| x.toNat=yX (l.take (k+1)):=by
 rw [ai h]; simp only [yX,List.foldl_append]; rfl
variable {n:Int}
def aif (a:0<=n):(b.drop (2+n).toNat).take ((2+n+4).toNat - (2+n).toNat)=(b.drop (2+n).toNat).take 4:=by
 congr 1; omega
def ah0 (a:0<=n) (h:2+n+4<=(b.length:Int)):(((b.drop (2+n).toNat).take ((2+n+4).toNat - (2+n).toNat)).length:Int)=4:=by
 rw [List.length_take,List.length_drop]; omega
def aiL (a:(k:Int)<4) (c:0<=n) (h:2+n+4<=(b.length:Int)):(k:Int)<(((b.drop (2+n).toNat).take 4).length:Nat):=by
 rw [List.length_take,List.length_drop]; omega
def Vi (a:decide (cz 1 ((b.drop 0).take ((2+bF b).toNat - 0))=yX (((b.drop (2+bF b).toNat).take 4).take k))=false) (c:(4:Int)<=k) (h:2<=(b.length:Int)) (d:¬ bF b=0) (e:bF b<=4096) (f:2+bF b+4<=(b.length:Int)):az b=([],0,3):=by
 have a:=akI a;rw [alM,alF,alC,alq aI] at a;rw [az,if_neg aI,if_neg aI,if_neg aI,if_neg a]
def aaQ (a:decide (cz 1 ((b.drop 0).take ((2+bF b).toNat - 0))=yX (((b.drop (2+bF b).toNat).take 4).take k))=true) (c:(4:Int)<=k) (h:2<=(b.length:Int)) (d:¬ bF b=0) (e:bF b<=4096) (f:2+bF b+4<=(b.length:Int)):az b=((b.drop 2).take ((2+bF b).toNat - 2),2+bF b+4,0):=by
 have a:=adw a;rw [alM,alF,alC,alq aI] at a;rw [az,if_neg aI,if_neg aI,if_neg aI,if_pos a]
def aaY (b:List UInt8):List (Nat × LI):=[(11,{ σ:=Nat,F:=fun k=>([(0,one (.fz .u8 (b))),(6,one (.int (2+bF b))),(7,one (.xx (.w (yX (((b.drop (2+bF b).toNat).take 4).take k))) [])),(40,one (.fz .u8 ((b.drop (2+bF b).toNat).take 4))),(41,one (.int 4)),(42,one (.int k))],[]),J:=fun k=>k<=4,μ:=fun k=>4 - k })]
def GB:Kn:=aO (ae (kC (cL .u8)) al) av fun (b,_) _=>⟨[],[.c (.fz .u8 (((az b).1))),.c (.int (((az b).2.1))),.c (.int (((az b).2.2)))],none,false⟩
theorem Vc:CK 83 GB:=ah fun (b,_) _ _=>by
 refine ao gQ (aaY b) Tryz.func83 (?_:(fun i=>(fun o=>(fun y=>(fun J=>(fun K=>(fun w=>(fun p=>(fun g=>(fun t=>(fun a=>(fun z=>(fun u=>(fun v=>(fun A=>(fun c=>(fun B=>(fun C=>(fun f=>(fun h=>(fun D=>(fun d=>(fun e=>(fun F=>b.length*1<=140737488355328->(p<u->A)/\(u<=p->a<=a/\a<p/\i<64/\I64 v/\a<=1/\1<p/\a<=v/\a<=y/\(D=a\/4096<D->z)/\(¬D=a/\D<=4096->I64 d/\I64 e/\(p<e->A)/\(e<=p->I64 e/\a<=d/\d<=e/\e<=p/\∃ I,(b=b/\d=c/\o=yX (List.take I h)/\F=List.take g f/\(↑F.length:Int)=t/\a=(↑I:Int))/\I<=g/\∀ (s:Nat),s<=g->((↑s:Int)<t->a<=(↑s:Int)/\(↑s:Int)<(↑(List.take g f).length:Int)/\∀ (x:UInt8),(List.take g f)[s]? = some x->i<32/\I64 ((↑s:Int)+1)/\∃ G,(b=b/\c=c/\yX (List.take s h)*2 ^ i % 4294967296 ||| x.toNat=yX (List.take G h)/\List.take g f=List.take g f/\t=t/\(↑s:Int)+1=(↑G:Int))/\G <= g/\g - G < g - s)/\(t<=(↑s:Int)->a<=a/\a<=c/\c<=c/\c<=p/\(decide (C=yX (List.take s h))=false->z)/\(decide (C=yX (List.take s h))=true->a<=u/\u<=c/\c<=c/\c<=p/\(B.length*1<=140737488355328->I64 (c+t)/\B=(az b).fst/\c+t=w.fst/\a=w.snd))))))) (List.take (e.toNat - d.toNat) (List.drop d.toNat b))) (d+t)) (u+D)) (Vp v y)) (List.take g f)) (List.drop c.toNat b)) (cz 1 (List.take (c.toNat - o) (List.drop o b)))) (List.take (c.toNat - 2) (List.drop 2 b))) (u+bF b)) (J/\a=w.fst/\u=w.snd)) (K*u ^ i)) (2:Int)) (J/\a=w.fst/\3=w.snd)) (0:Int)) (4:Int)) (4:Nat)) (↑b.length:Int)) (az b).snd) (↑(UInt8.toNat (b.getD o (aj Sh.u8))):Int)) ((az b).fst=[])) (↑(UInt8.toNat (b.getD 1 (aj Sh.u8))):Int)) (0:Nat)) (8:Nat));have H:=ow b;have L:=(b.getD 0 (aj .u8):UInt8).toNat_lt;have N:=(b.getD 1 (aj .u8):UInt8).toNat_lt;dsimp only [bF] at H;iterate 3 ((all_goals (repeat' with_reducible first|apply a_|refine aY ?_|intro)); (all_goals try (first | exact bq | exact (congrArg Prod.fst (Uz ab)).symm | exact (congrArg (fun q=>q.2.1) (Uz ab)).symm | exact (congrArg (fun q=>q.2.2) (Uz ab)).symm | exact (congrArg Prod.fst (Vx ab ab)).symm | exact (congrArg (fun q=>q.2.1) (Vx ab ab)).symm | exact (congrArg (fun q=>q.2.2) (Vx ab ab)).symm | exact (congrArg Prod.fst (VX ab ab ab ab)).symm | exact (congrArg (fun q=>q.2.1) (VX ab ab ab ab)).symm | exact (congrArg (fun q=>q.2.2) (VX ab ab ab ab)).symm | exact (congrArg Prod.fst (Vi ab ab ab ab ab ab)).symm | exact (congrArg (fun q=>q.2.1) (Vi ab ab ab ab ab ab)).symm | exact (congrArg (fun q=>q.2.2) (Vi ab ab ab ab ab ab)).symm | exact (congrArg Prod.fst (aaQ ab ab ab ab ab ab)).symm | exact (congrArg (fun q=>q.2.1) (aaQ ab ab ab ab ab ab)).symm | exact (congrArg (fun q=>q.2.2) (aaQ ab ab ab ab ab ab)).symm | exact (congrArg Prod.fst (Uz ab)) | exact (congrArg Prod.fst (Vx ab ab)) | exact (congrArg Prod.fst (VX ab ab ab ab)) | exact (congrArg Prod.fst (Vi ab ab ab ab ab ab)) | exact rfl | exact (aif H) | exact (ah0 H ab) | exact (aiL ab H ab) | exact (Qf ab) | (dsimp only [bF]; omega) | (refine bw ?_ ?_ <;> dsimp only [bF] <;> omega) | (rw [List.length_take,List.length_drop]; omega))); all_goals try first | refine ⟨‹Nat› + 1,?_⟩ | refine ⟨0,?_⟩)
def vH:Kn:=aO (ae (kC (ba 0 0)) (ae (kT (.nm .record)) al)) (aH (dN 64 (ax cI (ax cI (ax cI (ax (fg 1) dK))))) (aH (e_ 52 (.nm .entry)) av)) fun (_,r,_) ((a,d,e,_,_),f,_)=>⟨[],[.c (.bool (.atom (((du (Stable.mk a d e f) r).isSome))))],some ([.box 64 ([.int ((((du (Stable.mk a d e f) r).getD (Stable.mk a d e f)).floor)),.int ((((du (Stable.mk a d e f) r).getD (Stable.mk a d e f)).term)),.int ((((du (Stable.mk a d e f) r).getD (Stable.mk a d e f)).vote)),.own 1]),.row 52 (.nm .entry) ((((du (Stable.mk a d e f) r).getD (Stable.mk a d e f)).log))]),false⟩
theorem KP:CK 214 vH:=ah fun (_,r,_) ((d,e,f,_,_),g,_) _=>by
 refine bA gQ [] Tryz.func214 (?_:(fun c=>de r ((r.a<d->false=(du c r).isSome/\dJ c ((du c r).getD c))/\(d<=r.a->true=(du c r).isSome/\dJ (Stable.mk r.a e f g) ((du c r).getD c)))) (Stable.mk d e f g));(repeat' with_reducible first|apply a_|refine aY ?_|intro)
 all_goals first | exact bq | (simp only [du]; grind) | (simp only [List.length_cons,List.length_nil]; omega)
def zr:Kn:=aO (ae (kC (ba 0 0)) (ae (kT (.nm .record)) al)) (aH (dN 64 (ax cI (ax cI (ax cI (ax (fg 1) dK))))) (aH (e_ 52 (.nm .entry)) av)) fun (_,r,_) ((a,d,e,_,_),f,_)=>⟨[],[.c (.bool (.atom (((eB (Stable.mk a d e f) r).isSome))))],some ([.box 64 ([.int ((((eB (Stable.mk a d e f) r).getD (Stable.mk a d e f)).floor)),.int ((((eB (Stable.mk a d e f) r).getD (Stable.mk a d e f)).term)),.int ((((eB (Stable.mk a d e f) r).getD (Stable.mk a d e f)).vote)),.own 1]),.row 52 (.nm .entry) ((((eB (Stable.mk a d e f) r).getD (Stable.mk a d e f)).log))]),false⟩
theorem QP:CK 215 zr:=ah fun (_,r,_) ((f,d,e,_,_),g,_) _=>by
 refine bA gQ [] Tryz.func215 (?_:(fun c=>de r ((r.a<d\/(r.a=d/\¬e=0)/\¬e=r.b->false=(eB c r).isSome/\dJ c ((eB c r).getD c))/\(d<=r.a/\((¬r.a=d\/e=0)\/e=r.b)->true=(eB c r).isSome/\dJ (Stable.mk f r.a r.b g) ((eB c r).getD c)))) (Stable.mk f d e g));(repeat' with_reducible first|apply a_|refine aY ?_|intro)
 all_goals first | exact bq | (simp only [eB]; grind) | (simp only [List.length_cons,List.length_nil]; omega)
def HV:Kn:=aO (ae (kC (ba 0 0)) (ae (kT (.nm .record)) al)) (aH (dN 64 (ax cI (ax cI (ax cI (ax (fg 1) dK))))) (aH (e_ 52 (.nm .entry)) av)) fun (_,r,_) ((d,e,f,_,_),g,_)=>⟨[1<=r.a/\r.a<=64],[.c (.bool (.atom (((eX (Stable.mk d e f g) r).isSome))))],some ([.box 64 ([.int ((((eX (Stable.mk d e f g) r).getD (Stable.mk d e f g)).floor)),.int ((((eX (Stable.mk d e f g) r).getD (Stable.mk d e f g)).term)),.int ((((eX (Stable.mk d e f g) r).getD (Stable.mk d e f g)).vote)),.own 1]),.row 52 (.nm .entry) ((((eX (Stable.mk d e f g) r).getD (Stable.mk d e f g)).log))]),false⟩
theorem Ts:CK 217 HV:=ah fun (_,r,_) ((f,g,h,_,_),d,_) i=>by
 have o:=cg i;refine bA (xm gQ) [] Tryz.func217 (?_:(fun e=>(fun c=>de r (((↑d.length:Int)<r.a->false=(eX c r).isSome/\dJ c ((eX c r).getD c))/\(r.a<=(↑d.length:Int)->I64 e/\(0<=e/\e<=(↑d.length:Int))/\true=(eX c r).isSome/\dJ (Stable.mk f g h (List.take e.toNat d)) ((eX c r).getD c)))) (Stable.mk f g h d)) (r.a - 1));(repeat' with_reducible first|apply a_|refine aY ?_|intro)
 all_goals first | exact bq | (simp only [eX]; grind) | (simp only [List.length_cons,List.length_nil]; omega)
def vq:Kn:=aO (ae (kC (ba 0 0)) (ae (kT (.nm .record)) al)) (aH (dN 64 (ax cI (ax cI (ax cI (ax (fg 1) dK))))) (aH (e_ 52 (.nm .entry)) av)) fun (_,r,_) ((d,e,f,_,_),a,_)=>⟨[a.length<=1000000,r.x.length<=200],[.c (.bool (.atom (((df (Stable.mk d e f a) r).isSome))))],some ([.box 64 ([.int ((((df (Stable.mk d e f a) r).getD (Stable.mk d e f a)).floor)),.int ((((df (Stable.mk d e f a) r).getD (Stable.mk d e f a)).term)),.int ((((df (Stable.mk d e f a) r).getD (Stable.mk d e f a)).vote)),.own 1]),.row 52 (.nm .entry) ((((df (Stable.mk d e f a) r).getD (Stable.mk d e f a)).log))]),false⟩
theorem IT:CK 216 vq:=ah fun (_,r,_) ((f,g,h,_,_),d,_) i=>by
 have p:=cg i;have q:=cg (eW i);refine bA gQ [] Tryz.func216 (?_:(fun o=>(fun e=>(fun c=>de r (I64 e/\(¬r.a=e->false=(df c r).isSome/\dJ c ((df c r).getD c))/\(r.a=e->(o->(d.length+[Entry.mk r.b r.x].length)*32<=140737488355328)/\(o->true=(df c r).isSome/\dJ (Stable.mk f g h (d++[Entry.mk r.b r.x])) ((df c r).getD c))))) (Stable.mk f g h d)) ((↑d.length:Int)+1)) (r.x.length*1<=140737488355328));(repeat' with_reducible first|apply a_|refine aY ?_|intro)
 all_goals first | exact bq | (simp only [df]; grind) | (simp only [List.length_cons,List.length_nil]; omega)
def UO :Sat Tryz.prog (ak tyT) 148 [] [] ⟨[],[.c (.xx (.km bT) [])],none,false⟩:=Jy
def Ge:Kn:=aO al av fun _ _=>⟨[],[.c (.xx (.km bT) [])],none,false⟩
def Uc:CK 148 Ge:=ah fun _ _ _=>UO
def Gi:Kn:=aO (ae (kC (ba 0 0)) (ae (kC (ba 1 0)) (ae (kC (ba 2 0)) al))) (aH (yW 40 (.nm .letter)) (aH (yW 64 (.nm .stable)) (aH (dN 3 (ax cI dK)) av))) fun _ (x,s,(a,_),_)=>⟨[],[.c (.bool (.atom ((decide (s.term<x.term) || decide (s.vote=0) || decide (s.vote=a)))))],none,false⟩
def SZ:CK 169 Gi:=ah fun _ (x,s,(a,_),_) _=>by
 refine ao gQ [] Tryz.func169 (?_:(fun c=>c=c) (decide (s.term<x.term) || decide (s.vote=0) || decide (s.vote=a)));(repeat' with_reducible first|apply a_|refine aY ?_|intro)
 all_goals first | exact bq | rfl
def zo:Kn:=aO (ae (kT (.nm .stable)) (ae (kC cI) al)) av fun (s,t,_) _=>⟨[s.term<=1048576],[.c (.fz (.nm .record) (((aX s t).1))),.c (.int (((aX s t).2)))],none,false⟩
theorem MW:CK 48 zo:=ah fun (s,t,_) _ a=>by
 have c:=cg a;refine ao gQ [] Tryz.func48 (?_:bS s (I64 t->(t<0\/5<=t->(aX s t).fst=[]/\1=(aX s t).snd)/\(0<=t/\t<5->(1048576<=s.term->(aX s t).fst=[]/\4=(aX s t).snd)/\(s.term<1048576->I64 (s.term+1)/\I64 (t+1)/\[Record.mk 2 (s.term+1) (t+1) []]=(aX s t).fst/\0=(aX s t).snd))));(repeat' with_reducible first|apply a_|refine aY ?_|intro)
 all_goals first | exact bq | (simp only [aX]; grind) | (have q:=(by with_reducible assumption:I64 s.term); exact bw (by have:=q.1; omega) (by have:=q.2; omega)) | (simp only [List.length_cons,List.length_nil]; omega)
def GS:Kn:=aO (ae (kT (.nm .stable)) (ae (kT (.nm .route)) al)) av fun (s,r,_) _=>⟨[],[.agg (cellsOf (.nm .letter) ((gI s r).1)),.c (.int (((gI s r).2)))],none,false⟩
def VD:CK 120 GS:=ah fun (s,r,_) _ _=>by
 refine ao gQ [] Tryz.func120 (?_:(fun f=>(fun i=>(fun g=>(fun e=>(fun d=>(fun h=>bS s (UI r ((f<=r.next->I64 i)/\(r.next<f\/i<r.next->e=d.kind/\e=d.frm/\e=d.to/\e=d.term/\e=d.a/\e=d.b/\e=d.c/\e=d.bin/\false=d.ok/\d.l=[]/\f=(gI s r).snd)/\(f<=r.next/\r.next<=i->I64 g/\(I64 (cX s.log g)->(fN s.log g 4).length*32<=140737488355328->I64 (mayL h)->(¬mayL h=e->e=d.kind/\e=d.frm/\e=d.to/\e=d.term/\e=d.a/\e=d.b/\e=d.c/\e=d.bin/\false=d.ok/\d.l=[]/\mayL h=(gI s r).snd)/\(mayL h=e->iK h d (e=(gI s r).snd))))))) (Letter.mk 3 r.frm r.to s.term g (cX s.log g) r.commit r.bin false (fN s.log g 4))) (gI s r).fst) (0:Int)) (r.next - f)) ((↑s.log.length:Int)+f)) (1:Int));(repeat' with_reducible first|apply a_|refine aY ?_|intro)
 all_goals (first | exact bq | exact (congrArg (fun q=>q.2) (qY ab)).symm | exact (congrArg (fun q=>q.1.kind) (qY ab)).symm | exact (congrArg (fun q=>q.1.frm) (qY ab)).symm | exact (congrArg (fun q=>q.1.to) (qY ab)).symm | exact (congrArg (fun q=>q.1.term) (qY ab)).symm | exact (congrArg (fun q=>q.1.a) (qY ab)).symm | exact (congrArg (fun q=>q.1.b) (qY ab)).symm | exact (congrArg (fun q=>q.1.c) (qY ab)).symm | exact (congrArg (fun q=>q.1.bin) (qY ab)).symm | exact (congrArg (fun q=>q.1.ok) (qY ab)).symm | exact (congrArg (fun q=>q.1.l) (qY ab)).symm | exact (congrArg (fun q=>q.2) (qV ab ab ab)).symm | exact (congrArg (fun q=>q.1.kind) (qV ab ab ab)).symm | exact (congrArg (fun q=>q.1.frm) (qV ab ab ab)).symm | exact (congrArg (fun q=>q.1.to) (qV ab ab ab)).symm | exact (congrArg (fun q=>q.1.term) (qV ab ab ab)).symm | exact (congrArg (fun q=>q.1.a) (qV ab ab ab)).symm | exact (congrArg (fun q=>q.1.b) (qV ab ab ab)).symm | exact (congrArg (fun q=>q.1.c) (qV ab ab ab)).symm | exact (congrArg (fun q=>q.1.bin) (qV ab ab ab)).symm | exact (congrArg (fun q=>q.1.ok) (qV ab ab ab)).symm | exact (congrArg (fun q=>q.1.l) (qV ab ab ab)).symm | exact (congrArg (fun q=>q.2) (sd ab ab ab)).symm | exact (congrArg (fun q=>q.1.kind) (sd ab ab ab)).symm | exact (congrArg (fun q=>q.1.frm) (sd ab ab ab)).symm | exact (congrArg (fun q=>q.1.to) (sd ab ab ab)).symm | exact (congrArg (fun q=>q.1.term) (sd ab ab ab)).symm | exact (congrArg (fun q=>q.1.a) (sd ab ab ab)).symm | exact (congrArg (fun q=>q.1.b) (sd ab ab ab)).symm | exact (congrArg (fun q=>q.1.c) (sd ab ab ab)).symm | exact (congrArg (fun q=>q.1.bin) (sd ab ab ab)).symm | exact (congrArg (fun q=>q.1.ok) (sd ab ab ab)).symm | exact (congrArg (fun q=>q.1.l) (sd ab ab ab)).symm | exact (congrArg (fun q=>q.1.l) (qY ab)) | exact (congrArg (fun q=>q.1.l) (qV ab ab ab)))
def ags:bH:=(aP 120 GS (aP 48 zo (aP 169 Gi (aP 148 Ge (aP 216 vq (aP 217 HV (aP 215 zr (aP 214 vH (aP 83 GB adW)))))))))
def oH:aw Tryz.prog (ak tyT) ags:=(ag VD (ag MW (ag SZ (ag Uc (ag IT (ag Ts (ag QP (ag KP (ag Vc gQ)))))))))
variable {r:Record}
theorem TN (h:((((((dU bT r.kind).isSome=false\/r.a<(((dU bT r.kind).getD kz).getD 0 KC.nf).int)\/(((dU bT r.kind).getD kz).getD 1 KC.nf).int<r.a)\/r.b<0)\/(((dU bT r.kind).getD kz).getD 3 KC.nf).int<r.b)\/(((dU bT r.kind).getD kz).getD 4 KC.nf).int<(r.x.length:Int))):ay r=([],1):=by
 rw [ay,if_neg];intro e;simp only [recOk,Bool.and_eq_true] at e;obtain ⟨⟨⟨⟨⟨i,c⟩,d⟩,o⟩,f⟩,g⟩:=e;unfold YL at c d f g;grind
def zZ (c:(dU bT r.kind).isSome=true) (d:(((dU bT r.kind).getD kz).getD 0 KC.nf).int<=r.a) (e:r.a<=(((dU bT r.kind).getD kz).getD 1 KC.nf).int) (f:0<=r.b) (g:r.b<=(((dU bT r.kind).getD kz).getD 3 KC.nf).int) (h:(r.x.length:Int)<=(((dU bT r.kind).getD kz).getD 4 KC.nf).int):recOk r=true:=by
 simp only [recOk,Bool.and_eq_true,decide_eq_true_eq];exact ⟨⟨⟨⟨⟨c,d⟩,e⟩,f⟩,g⟩,h⟩
def dg (h:recOk r=true):1<=r.kind/\r.kind<=4/\0<=r.a/\r.a<=1048576/\0<=r.b/\r.b<=1048576/\r.x.length<=200/\(bk r.a.toNat).length<=10/\(bk r.b.toNat).length<=10:=by
 have c:=cN (n:=r.a.toNat) (by rcases bR.1 h with h | h | h | h <;> omega);have d:=cN (n:=r.b.toNat) (by rcases bR.1 h with h | h | h | h <;> omega);have e:r.x.length<=200:=by rcases bR.1 h with h | h | h | h <;> first | omega | simp [h]
 rcases bR.1 h with h | h | h | h <;> omega
def qS (h:recOk r=true):ay r=(recPut r,0):=by rw [ay,if_pos h]
def aic (h:recOk r=true) (c:(((dU bT r.kind).getD kz).getD 2 KC.nf).bool=true):[UInt8.ofNat r.kind.toNat]++bk r.a.toNat++bk r.b.toNat++r.x=(ay r).1:=by
 rw [qS h,recPut,if_pos (show qX r.kind=true from c)]
def akj (h:recOk r=true) (c:(((dU bT r.kind).getD kz).getD 2 KC.nf).bool=false):[UInt8.ofNat r.kind.toNat]++bk r.a.toNat++r.x=(ay r).1:=by
 rw [qS h,recPut,if_neg (by rw [show qX r.kind=false from c]; decide),adD]
def Pf (b:List UInt8):(((takeF b).2.1:Nat):Int)<=(b.length:Nat):=by
 have:=(oV (l:=b) (k:=0) (n:=0) aI).2;show (((bL 0 0 b).2.1:Nat):Int)<=_;omega
def ZY (a:b[0]? = some x):(b.getD 0 (aj .u8):UInt8)=x:=by
 rw [List.getD_eq_getElem?_getD,a]; rfl
def TR (a:b[0]? = some x):¬ b.length=0:=by
 have:=(aad.1 a).1; omega
def uW (h:(b.length:Int)=0):bI b=(kv,false):=if_pos aI
def uU (a:b[0]? = some x) (c:¬ (takeF (b.drop 1)).2.2=0):bI b=(kv,false):=by
 rw [bI,if_neg (TR a),if_pos c]
def vn (a:b[0]? = some x) (c:(takeF (b.drop 1)).2.2=0) (d:(((dU bT (x.toNat:Int)).getD kz).getD 2 KC.nf).bool=true) (e:¬ (takeF ((b.drop 1).drop (takeF (b.drop 1)).2.1)).2.2=0):bI b=(kv,false):=by
 rw [bI,if_neg (TR a),if_neg (adv.2 c),ZY a,if_pos (show qX (x.toNat:Int)=true from d),if_pos e]
def vd (a:b[0]? = some x) (c:(takeF (b.drop 1)).2.2=0) (d:(((dU bT (x.toNat:Int)).getD kz).getD 2 KC.nf).bool=true) (e:(takeF ((b.drop 1).drop (takeF (b.drop 1)).2.1)).2.2=0):bI b=(⟨(x.toNat:Int),dp (takeF (b.drop 1)).1,dp (takeF ((b.drop 1).drop (takeF (b.drop 1)).2.1)).1,((b.drop 1).drop (takeF (b.drop 1)).2.1).drop (takeF ((b.drop 1).drop (takeF (b.drop 1)).2.1)).2.1⟩,true):=by
 rw [bI,if_neg (TR a),if_neg (adv.2 c),ZY a,if_pos (show qX (x.toNat:Int)=true from d),if_neg (adv.2 e)]
def uQ (a:b[0]? = some x) (c:(takeF (b.drop 1)).2.2=0) (d:(((dU bT (x.toNat:Int)).getD kz).getD 2 KC.nf).bool=false):bI b=(⟨(x.toNat:Int),dp (takeF (b.drop 1)).1,0,(b.drop 1).drop (takeF (b.drop 1)).2.1⟩,true):=by
 rw [bI,if_neg (TR a),if_neg (adv.2 c),ZY a,if_neg (by rw [show qX (x.toNat:Int)=false from d]; decide)]
variable {x:Letter}
def IC {s:Stable} (h:¬ mayL x=0\/¬ x.kind=1):aQ s x=([],false,1):=if_pos h
def Kl {s:Stable} (c:mayL x=0) (d:x.kind=1) (h:(x.term<s.term\/(decide (s.term<x.term) || decide (s.vote=0) || decide (s.vote=x.frm+1))=false)\/kg s.log x.a x.b=false):aQ s x=(aB s x.term,false,0):=by
 rw [aQ,if_neg aI]; exact if_pos h
theorem agl {s:Stable} (d:mayL x=0) (e:x.kind=1) (f:s.term<=x.term) (c:(decide (s.term<x.term) || decide (s.vote=0) || decide (s.vote=x.frm+1))=true) (g:kg s.log x.a x.b=true):aQ s x=if x.term=s.term/\s.vote=x.frm+1 then ([],true,0) else ([⟨2,x.term,x.frm+1,[]⟩],true,0):=by
 rw [aQ,if_neg aI,if_neg];rintro ((h | h) | h)
 ·omega
 ·rw [show Fh s x=true from c] at h; cases h
 grind
def JO {s:Stable} (c:mayL x=0) (d:x.kind=1) (e:s.term<=x.term) (f:(decide (s.term<x.term) || decide (s.vote=0) || decide (s.vote=x.frm+1))=true) (g:kg s.log x.a x.b=true) (h:x.term=s.term) (i:s.vote=x.frm+1):aQ s x=([],true,0):=by
 rw [agl c d e f g,if_pos ⟨h,i⟩]
def IS {s:Stable} (c:mayL x=0) (d:x.kind=1) (e:s.term<=x.term) (f:(decide (s.term<x.term) || decide (s.vote=0) || decide (s.vote=x.frm+1))=true) (g:kg s.log x.a x.b=true) (h:¬ x.term=s.term\/¬ s.vote=x.frm+1):aQ s x=([⟨2,x.term,x.frm+1,[]⟩],true,0):=by
 rw [agl c d e f g,if_neg aI]
def ew (s:Stable) (x:Letter) (k:Nat):List Record:=aB s x.term++(if (bl s.log x.a x.l).1=0 then [] else [⟨4,(bl s.log x.a x.l).1,0,[]⟩])++fi (x.a+x.l.length - (bl s.log x.a x.l).2.length+1) ((bl s.log x.a x.l).2.take k)
theorem sa:∀ {n:Int} {l:List Entry} {y:Entry},fi n (l++[y])=fi n l++[⟨3,n+l.length,y.term,y.b⟩]
 | n,[],y=>by simp [fi]
 | n,z :: l,y=>by
  rw [List.cons_append,fi,sa,fi,List.cons_append,List.length_cons];simp; omega
theorem vA:∀ {n:Int} {l:List Entry},(fi n l).length=l.length
 | _,[]=>rfl
 | n,_ :: l=>by rw [fi,List.length_cons,List.length_cons,vA]
def aii {s:Stable} (h:¬ (bl s.log x.a x.l).1=0):aB s x.term++[Record.mk 4 (bl s.log x.a x.l).1 0 []]=ew s x 0:=by
 rw [ew,if_neg h,alN,fi,adD]
def ajV {s:Stable} (h:(bl s.log x.a x.l).1=0):aB s x.term=ew s x 0:=by
 rw [ew,if_pos h,alN,fi,adD,adD]
def ahS {s:Stable} {y:Entry} (h:(bl s.log x.a x.l).2[k]? = some y):ew s x k++[Record.mk 3 (x.a+x.l.length - (bl s.log x.a x.l).2.length+k+1) y.term y.b]=ew s x (k+1):=by
 have c:=(aad.1 h).1;rw [ew,ew,ai h,sa,List.append_assoc,List.length_take,ag3 aI];congr 4; omega
def At {s:Stable} (h:(¬ mayL x=0\/¬ x.kind=3)\/64<x.a+x.l.length):aE s x=([],false,0,1):=if_pos h
def BC {s:Stable} (d:mayL x=0) (e:x.kind=3) (f:x.a+x.l.length<=64) (c:x.term<s.term):aE s x=([],false,0,0):=by
 rw [aE,if_neg aI,if_pos c]
def De {s:Stable} (d:mayL x=0) (e:x.kind=3) (f:x.a+x.l.length<=64) (g:s.term<=x.term) (c:decide (cX s.log x.a=x.b)=false):aE s x=(aB s x.term,false,0,0):=by
 rw [aE,if_neg aI,if_neg aI,if_neg (akI c)]
def Cj {s:Stable} (d:mayL x=0) (e:x.kind=3) (f:x.a+x.l.length<=64) (g:s.term<=x.term) (c:decide (cX s.log x.a=x.b)=true) (h:((bl s.log x.a x.l).2.length:Int)<=k):aE s x=(ew s x k,true,x.a+x.l.length,0):=by
 rw [aE,if_neg aI,if_neg aI,if_pos (adw c),ew,List.take_of_length_le aI]; rfl
theorem vY {k:Int}:(bl l k m).2.length<=m.length/\0<=(bl l k m).1/\(bl l k m).1<=l.length+1:=by
 unfold bl;grind
theorem acN {s:Stable}:(ew s x k).length<=2+x.l.length:=by
 have:=(vY (l:=s.log) (m:=x.l) (k:=x.a)).1;simp only [ew,List.length_append,vA];have c:(aB s x.term).length<=1:=by unfold aB; split <;> simp
 grind
theorem aeX {s:Stable} (h:mayL x=0):((ew s x k).length+[r].length)*48<=140737488355328:=by
 have:=fK h;have:=acN (s:=s) (x:=x) (k:=k);grind
theorem agx {s:Stable}:((aB s n).length+[r].length)*48<=140737488355328:=by
 have a:(aB s n).length<=1:=by unfold aB; split <;> simp
 grind
def abu (s:Stable) (x:Letter):List (Nat × LI):=[(13,{ σ:=Nat,F:=fun k=>([(4,one (.own 0)),(6,one (.int (x.a+x.l.length))),(9,one (.fz (.nm .entry) (bl s.log x.a x.l).2)),(70,one (.fz (.nm .entry) (bl s.log x.a x.l).2)),(71,one (.int (bl s.log x.a x.l).2.length)),(72,one (.int k))],[.row 108 (.nm .record) ((ew s x k))]),J:=fun k=>k<=(bl s.log x.a x.l).2.length,μ:=fun k=>(bl s.log x.a x.l).2.length - k })]
def Gr:Kn:=aO (ae (kT (.nm .record)) al) av fun (r,_) _=>⟨[],[.c (.fz .u8 (((ay r).1))),.c (.int (((ay r).2)))],none,false⟩
def GN:CK 145 Gr:=ah fun (r,_) _ _=>by
 refine ao oH [] Tryz.func145 (?_:(fun e=>(fun c=>(fun f=>(fun d=>de r (((((((dU bT r.kind).isSome=false\/r.a<(d.getD 0 KC.nf).int)\/(d.getD e KC.nf).int<r.a)\/r.b<c)\/(d.getD 3 KC.nf).int<r.b)\/(d.getD 4 KC.nf).int<(↑r.x.length:Int)->(ay r).fst=[]/\1=(ay r).snd)/\((((((dU bT r.kind).isSome=true/\(d.getD 0 KC.nf).int<=r.a)/\r.a<=(d.getD e KC.nf).int)/\c<=r.b)/\r.b<=(d.getD 3 KC.nf).int)/\(↑r.x.length:Int)<=(d.getD 4 KC.nf).int->c<=r.kind/\c<=r.a/\([UInt8.ofNat r.kind.toNat].length+(bk r.a.toNat).length)*e<=140737488355328/\((d.getD 2 KC.nf).bool=true->c<=r.b/\(f.length+(bk r.b.toNat).length)*e<=140737488355328/\((f++bk r.b.toNat).length+r.x.length)*e<=140737488355328/\f++bk r.b.toNat++r.x=(ay r).fst/\c=(ay r).snd)/\((d.getD 2 KC.nf).bool=false->(f.length+r.x.length)*e<=140737488355328/\f++r.x=(ay r).fst/\c=(ay r).snd)))) ((dU bT r.kind).getD [KC.i c,KC.i c,KC.b false,KC.i c,KC.i c,KC.nf])) ([UInt8.ofNat r.kind.toNat]++bk r.a.toNat)) (0:Int)) (1:Nat));(repeat' with_reducible first|apply a_|refine aY ?_|intro)
 all_goals (first | exact bq | exact (congrArg (fun q=>q.1) (TN ab)) | exact (congrArg (fun q=>q.1) (TN ab)).symm | exact (congrArg (fun q=>q.2) (TN ab)) | exact (congrArg (fun q=>q.2) (TN ab)).symm | exact (congrArg (fun q=>q.1) (qS (zZ ab ab ab ab ab ab))) | exact (congrArg (fun q=>q.1) (qS (zZ ab ab ab ab ab ab))).symm | exact (congrArg (fun q=>q.2) (qS (zZ ab ab ab ab ab ab))) | exact (congrArg (fun q=>q.2) (qS (zZ ab ab ab ab ab ab))).symm | exact (aic (zZ ab ab ab ab ab ab) ab) | exact (akj (zZ ab ab ab ab ab ab) ab) | (have g:=dg (zZ ab ab ab ab ab ab); omega) | (have g:=dg (zZ ab ab ab ab ab ab); simp only [List.length_append,List.length_cons,List.length_nil]; omega))
def VC (r:Record):Sat Tryz.prog (ak tyT) 145 [.agg (cellsOf (.nm .record) r)] [] ⟨[],[.c (.fz .u8 (((ay r).1))),.c (.int (((ay r).2)))],none,false⟩:=GN _ _ _ rfl aa
def xf:Kn:=aO (ae (kC (cL .u8)) al) av fun (b,_) _=>⟨[],[.agg (cellsOf (.nm .record) ((bI b).1)),.c (.bool (.atom (((bI b).2))))],none,false⟩
def Kc:CK 144 xf:=ah fun (b,_) _ _=>by
 refine ao oH [] Tryz.func144 (?_:(fun o=>(fun g=>(fun h=>(fun c=>(fun t=>(fun d=>(fun p=>(fun e=>(fun f=>b.length*g<=140737488355328->(o=c->p)/\(¬o=c->c<=c/\c<o/\∀ (x:UInt8),(fun s=>b[(0:Nat)]? = some x->c<=1/\1<=o/\(d.fst<18446744073709551616->I64 (↑d.snd.fst:Int)->I64 d.snd.snd->(¬d.snd.snd=c->p)/\(d.snd.snd=c->(c<=(↑d.snd.fst:Int)/\(↑d.snd.fst:Int)<=(↑(List.drop g b).length:Int))/\(s=true->(takeF e).fst<18446744073709551616->I64 (↑f.fst:Int)->I64 f.snd->(¬f.snd=c->p)/\(f.snd=c->(c<=(↑f.fst:Int)/\(↑f.fst:Int)<=(↑e.length:Int))/\((List.drop f.fst e).length*g<=140737488355328->lG (Record.mk (↑x.toNat:Int) (dp d.fst) (dp (takeF e).fst) (List.drop f.fst e)) h (true=(bI b).snd))))/\(s=false->e.length*g<=140737488355328->lG (Record.mk (↑x.toNat:Int) (dp d.fst) c e) h (true=(bI b).snd))))) (((dU bT (↑x.toNat:Int)).getD t).getD 2 KC.nf).bool)) (takeF e).snd) (List.drop d.snd.fst (List.drop g b))) (c=h.kind/\c=h.a/\c=h.b/\h.x=[]/\false=(bI b).snd)) (takeF (List.drop g b))) [KC.i c,KC.i c,KC.b false,KC.i c,KC.i c,KC.nf]) (0:Int)) (bI b).fst) (1:Nat)) (↑b.length:Int));(repeat' with_reducible first|apply a_|refine aY ?_|intro)
 all_goals (first | exact bq | exact (congrArg (fun q=>q.2) (uW ab)) | exact (congrArg (fun q=>q.2) (uW ab)).symm | exact (congrArg (fun q=>q.1.kind) (uW ab)) | exact (congrArg (fun q=>q.1.kind) (uW ab)).symm | exact (congrArg (fun q=>q.1.a) (uW ab)) | exact (congrArg (fun q=>q.1.a) (uW ab)).symm | exact (congrArg (fun q=>q.1.b) (uW ab)) | exact (congrArg (fun q=>q.1.b) (uW ab)).symm | exact (congrArg (fun q=>q.1.x) (uW ab)) | exact (congrArg (fun q=>q.1.x) (uW ab)).symm | exact (congrArg (fun q=>q.2) (uU ab ab)) | exact (congrArg (fun q=>q.2) (uU ab ab)).symm | exact (congrArg (fun q=>q.1.kind) (uU ab ab)) | exact (congrArg (fun q=>q.1.kind) (uU ab ab)).symm | exact (congrArg (fun q=>q.1.a) (uU ab ab)) | exact (congrArg (fun q=>q.1.a) (uU ab ab)).symm | exact (congrArg (fun q=>q.1.b) (uU ab ab)) | exact (congrArg (fun q=>q.1.b) (uU ab ab)).symm | exact (congrArg (fun q=>q.1.x) (uU ab ab)) | exact (congrArg (fun q=>q.1.x) (uU ab ab)).symm | exact (congrArg (fun q=>q.2) (vn ab ab ab ab)) | exact (congrArg (fun q=>q.2) (vn ab ab ab ab)).symm | exact (congrArg (fun q=>q.1.kind) (vn ab ab ab ab)) | exact (congrArg (fun q=>q.1.kind) (vn ab ab ab ab)).symm | exact (congrArg (fun q=>q.1.a) (vn ab ab ab ab)) | exact (congrArg (fun q=>q.1.a) (vn ab ab ab ab)).symm | exact (congrArg (fun q=>q.1.b) (vn ab ab ab ab)) | exact (congrArg (fun q=>q.1.b) (vn ab ab ab ab)).symm | exact (congrArg (fun q=>q.1.x) (vn ab ab ab ab)) | exact (congrArg (fun q=>q.1.x) (vn ab ab ab ab)).symm | exact (congrArg (fun q=>q.2) (vd ab ab ab ab)) | exact (congrArg (fun q=>q.2) (vd ab ab ab ab)).symm | exact (congrArg (fun q=>q.1.kind) (vd ab ab ab ab)) | exact (congrArg (fun q=>q.1.kind) (vd ab ab ab ab)).symm | exact (congrArg (fun q=>q.1.a) (vd ab ab ab ab)) | exact (congrArg (fun q=>q.1.a) (vd ab ab ab ab)).symm | exact (congrArg (fun q=>q.1.b) (vd ab ab ab ab)) | exact (congrArg (fun q=>q.1.b) (vd ab ab ab ab)).symm | exact (congrArg (fun q=>q.1.x) (vd ab ab ab ab)) | exact (congrArg (fun q=>q.1.x) (vd ab ab ab ab)).symm | exact (congrArg (fun q=>q.2) (uQ ab ab ab)) | exact (congrArg (fun q=>q.2) (uQ ab ab ab)).symm | exact (congrArg (fun q=>q.1.kind) (uQ ab ab ab)) | exact (congrArg (fun q=>q.1.kind) (uQ ab ab ab)).symm | exact (congrArg (fun q=>q.1.a) (uQ ab ab ab)) | exact (congrArg (fun q=>q.1.a) (uQ ab ab ab)).symm | exact (congrArg (fun q=>q.1.b) (uQ ab ab ab)) | exact (congrArg (fun q=>q.1.b) (uQ ab ab ab)).symm | exact (congrArg (fun q=>q.1.x) (uQ ab ab ab)) | exact (congrArg (fun q=>q.1.x) (uQ ab ab ab)).symm | exact (Pf _))
def wN:Kn:=aO (ae (kT (.nm .stable)) (ae (kT (.nm .letter)) al)) av fun (s,x,_) _=>⟨[],[.c (.fz (.nm .record) (((aQ s x).1))),.c (.bool (.atom (((aQ s x).2.1)))),.c (.int (((aQ s x).2.2)))],none,false⟩
def KB:CK 98 wN:=ah fun (s,x,_) _ _=>by
 refine ao oH [] Tryz.func98 (?_:(fun f=>(fun d=>(fun e=>(fun c=>(fun g=>(fun h=>bS s (aT x (I64 (mayL x)->(¬mayL x=d\/¬x.kind=1->f=[]/\false=c.fst/\1=c.snd)/\(mayL x=d/\x.kind=1->I64 e/\((x.term<s.term\/h=false)\/kg s.log x.a x.b=false->aB s x.term=f/\false=c.fst/\d=c.snd)/\((s.term<=x.term/\h=true)/\kg s.log x.a x.b=true->(x.term=s.term/\s.vote=e->f=[]/\g)/\(¬x.term=s.term\/¬s.vote=e->[Record.mk 2 x.term e []]=f/\g)))))) (decide (s.term<x.term) || decide (s.vote=d) || decide (s.vote=e))) (true=c.fst/\d=c.snd)) (aQ s x).snd) (x.frm+1)) (0:Int)) (aQ s x).fst);(repeat' with_reducible first|apply a_|refine aY ?_|intro)
 all_goals (first | exact bq | exact (congrArg (fun q=>q.1) (IC ab)) | exact (congrArg (fun q=>q.1) (IC ab)).symm | exact (congrArg (fun q=>q.2.1) (IC ab)) | exact (congrArg (fun q=>q.2.1) (IC ab)).symm | exact (congrArg (fun q=>q.2.2) (IC ab)) | exact (congrArg (fun q=>q.2.2) (IC ab)).symm | exact (congrArg (fun q=>q.1) (Kl ab ab ab)) | exact (congrArg (fun q=>q.1) (Kl ab ab ab)).symm | exact (congrArg (fun q=>q.2.1) (Kl ab ab ab)) | exact (congrArg (fun q=>q.2.1) (Kl ab ab ab)).symm | exact (congrArg (fun q=>q.2.2) (Kl ab ab ab)) | exact (congrArg (fun q=>q.2.2) (Kl ab ab ab)).symm | exact (congrArg (fun q=>q.1) (JO ab ab ab ab ab ab ab)) | exact (congrArg (fun q=>q.1) (JO ab ab ab ab ab ab ab)).symm | exact (congrArg (fun q=>q.2.1) (JO ab ab ab ab ab ab ab)) | exact (congrArg (fun q=>q.2.1) (JO ab ab ab ab ab ab ab)).symm | exact (congrArg (fun q=>q.2.2) (JO ab ab ab ab ab ab ab)) | exact (congrArg (fun q=>q.2.2) (JO ab ab ab ab ab ab ab)).symm | exact (congrArg (fun q=>q.1) (IS ab ab ab ab ab ab)) | exact (congrArg (fun q=>q.1) (IS ab ab ab ab ab ab)).symm | exact (congrArg (fun q=>q.2.1) (IS ab ab ab ab ab ab)) | exact (congrArg (fun q=>q.2.1) (IS ab ab ab ab ab ab)).symm | exact (congrArg (fun q=>q.2.2) (IS ab ab ab ab ab ab)) | exact (congrArg (fun q=>q.2.2) (IS ab ab ab ab ab ab)).symm | (have:=fK ab; exact bw aI aI))
def Fu:Kn:=aO (ae (kT (.nm .stable)) (ae (kT (.nm .letter)) al)) av fun (s,x,_) _=>⟨[],[.c (.fz (.nm .record) (((aE s x).1))),.c (.bool (.atom (((aE s x).2.1)))),.c (.int (((aE s x).2.2.1))),.c (.int (((aE s x).2.2.2)))],none,false⟩
set_option maxRecDepth 8000 in
theorem Xc:CK 95 Fu:=ah fun (s,x,_) _ _=>by
 refine ao oH (abu s x) Tryz.func95 (?_:(fun (t:List Record)=>(fun (F:Nat)=>(fun (H:List Record)=>(fun (y:Int)=>(fun (z:Int)=>(fun (I:Int)=>(fun (i:Int)=>(fun (G:Int)=>(fun (u:Bool × Int × Int)=>(fun (J:Prop)=>(fun (w:Int)=>(fun (K:Prop)=>(fun (A:List Entry)=>(fun (g:Prop)=>(fun (p:Int)=>(fun (e:Nat)=>(fun (f:Int)=>(fun (o:Int)=>bS s (aT x (I64 (mayL x)->(mayL x=i/\x.kind=y->I64 G)/\((¬mayL x=i\/¬x.kind=y)\/64<G->H=[]/\false=u.fst/\i=u.snd.fst/\z=u.snd.snd)/\((mayL x=i/\x.kind=y)/\G<=64->(x.term<s.term->H=[]/\J)/\(s.term<=x.term->(decide (cX s.log x.a=x.b)=false->t=H/\J)/\(decide (cX s.log x.a=x.b)=true->I64 G/\(I64 I->A.length*32<=F->(¬I=i->(t.length+[Record.mk 4 I i []].length)*48<=F/\∃ (B:Nat),(G=w/\g/\g/\p=f/\i=(↑B:Int)/\t++[Record.mk 4 I i []]=ew s x B)/\B<=e/\∀ (c:Nat),(fun (C:Int)=>c<=e->((↑c:Int)<f->i<=(↑c:Int)/\(↑c:Int)<p/\∀ (d:Entry),A[c]? = some d->I64 d.term->d.b.length*1<=F->I64 o/\I64 (o+(↑c:Int))/\I64 C/\((ew s x c).length+[Record.mk y C d.term d.b].length)*48<=F/\I64 ((↑c:Int)+z)/\∃ (v:Nat),(w=w/\g/\g/\f=f/\(↑c:Int)+z=(↑v:Int)/\ew s x c++[Record.mk y C d.term d.b]=ew s x v)/\v <= e/\e - v < e - c)/\(f<=(↑c:Int)->ew s x c=H/\K)) (o+(↑c:Int)+z))/\(I=i->∃ (B:Nat),(G=w/\g/\g/\p=f/\i=(↑B:Int)/\t=ew s x B)/\B<=e/\∀ (c:Nat),(fun (D:Int)=>c<=e->((↑c:Int)<f->i<=(↑c:Int)/\(↑c:Int)<p/\∀ (d:Entry),A[c]? = some d->I64 d.term->d.b.length*1<=F->I64 o/\I64 (o+(↑c:Int))/\I64 D/\((ew s x c).length+[Record.mk y D d.term d.b].length)*48<=F/\I64 ((↑c:Int)+z)/\∃ (v:Nat),(w=w/\g/\g/\f=f/\(↑c:Int)+z=(↑v:Int)/\ew s x c++[Record.mk y D d.term d.b]=ew s x v)/\v <= e/\e - v < e - c)/\(f<=(↑c:Int)->ew s x c=H/\K)) (o+(↑c:Int)+z))))))))) (w - p)) (↑e:Int)) A.length) (↑A.length:Int)) (A=A)) (bl s.log x.a x.l).snd) (true=u.fst/\w=u.snd.fst/\i=u.snd.snd)) (x.a+(↑x.l.length:Int))) (false=u.fst/\i=u.snd.fst/\i=u.snd.snd)) (aE s x).snd) (x.a+(↑x.l.length:Int))) 0) (bl s.log x.a x.l).fst) 1) 3) (aE s x).fst) 140737488355328) (aB s x.term));iterate 3 ((all_goals (repeat' with_reducible first|apply a_|refine aY ?_|intro)); (all_goals try (first | exact bq | (with_reducible exact aii ab) | (with_reducible exact ajV ab) | (with_reducible exact ahS ab) | (with_reducible exact aeX ab) | (with_reducible exact agx) | (with_reducible exact (congrArg (fun q=>q.1) (At ab))) | (with_reducible exact (congrArg (fun q=>q.1) (At ab)).symm) | (with_reducible exact (congrArg (fun q=>q.2.1) (At ab))) | (with_reducible exact (congrArg (fun q=>q.2.1) (At ab)).symm) | (with_reducible exact (congrArg (fun q=>q.2.2.1) (At ab))) | (with_reducible exact (congrArg (fun q=>q.2.2.1) (At ab)).symm) | (with_reducible exact (congrArg (fun q=>q.2.2.2) (At ab))) | (with_reducible exact (congrArg (fun q=>q.2.2.2) (At ab)).symm) | (with_reducible exact (congrArg (fun q=>q.1) (BC ab ab ab ab))) | (with_reducible exact (congrArg (fun q=>q.1) (BC ab ab ab ab)).symm) | (with_reducible exact (congrArg (fun q=>q.2.1) (BC ab ab ab ab))) | (with_reducible exact (congrArg (fun q=>q.2.1) (BC ab ab ab ab)).symm) | (with_reducible exact (congrArg (fun q=>q.2.2.1) (BC ab ab ab ab))) | (with_reducible exact (congrArg (fun q=>q.2.2.1) (BC ab ab ab ab)).symm) | (with_reducible exact (congrArg (fun q=>q.2.2.2) (BC ab ab ab ab))) | (with_reducible exact (congrArg (fun q=>q.2.2.2) (BC ab ab ab ab)).symm) | (with_reducible exact (congrArg (fun q=>q.1) (De ab ab ab ab ab))) | (with_reducible exact (congrArg (fun q=>q.1) (De ab ab ab ab ab)).symm) | (with_reducible exact (congrArg (fun q=>q.2.1) (De ab ab ab ab ab))) | (with_reducible exact (congrArg (fun q=>q.2.1) (De ab ab ab ab ab)).symm) | (with_reducible exact (congrArg (fun q=>q.2.2.1) (De ab ab ab ab ab))) | (with_reducible exact (congrArg (fun q=>q.2.2.1) (De ab ab ab ab ab)).symm) | (with_reducible exact (congrArg (fun q=>q.2.2.2) (De ab ab ab ab ab))) | (with_reducible exact (congrArg (fun q=>q.2.2.2) (De ab ab ab ab ab)).symm) | (with_reducible exact (congrArg (fun q=>q.1) (Cj ab ab ab ab ab ab))) | (with_reducible exact (congrArg (fun q=>q.1) (Cj ab ab ab ab ab ab)).symm) | (with_reducible exact (congrArg (fun q=>q.2.1) (Cj ab ab ab ab ab ab))) | (with_reducible exact (congrArg (fun q=>q.2.1) (Cj ab ab ab ab ab ab)).symm) | (with_reducible exact (congrArg (fun q=>q.2.2.1) (Cj ab ab ab ab ab ab))) | (with_reducible exact (congrArg (fun q=>q.2.2.1) (Cj ab ab ab ab ab ab)).symm) | (with_reducible exact (congrArg (fun q=>q.2.2.2) (Cj ab ab ab ab ab ab))) | (with_reducible exact (congrArg (fun q=>q.2.2.2) (Cj ab ab ab ab ab ab)).symm) | (have h:=fK ab; have L:=vY (l:=s.log) (m:=x.l) (k:=x.a); refine bw ?_ ?_ <;> omega))); all_goals try first | refine ⟨‹Nat› + 1,?_⟩ | refine ⟨0,?_⟩)
def DG:bH:=(aP 95 Fu (aP 98 wN (aP 144 xf (aP 145 Gr ags))))
def jP:aw Tryz.prog (ak tyT) DG:=(ag Xc (ag KB (ag Kc (ag GN oH))))
def Mo (r:Record) (a:recOk r=false):Sat Tryz.prog (ak tyT) 145 [.agg (cellsOf (.nm .record) r)] [] ⟨[recOk r=false],[.c (.fz .u8 (([]))),.c (.int ((1)))],none,false⟩:=by
 have e:ay r=([],1):=by rw [ay,if_neg (by rw [a]; decide)]
 have h:=VC r;rw [e] at h; exact ⟨h.1,h.2⟩
def Av:Kn:=aO (ae (kT (.nm .record)) al) av fun (r,_) _=>⟨[recOk r=false],[.c (.fz .u8 (([]))),.c (.int ((1)))],none,false⟩
def QK:CK 145 Av:=ah fun (r,_) _ a=>Mo r (cg a)
def Px  (a:False):Sat Tryz.prog (ak tyT) 148 [] [] ⟨[False],[.c (.xx (.km []) [])],none,false⟩:=a.elim
def BB:Kn:=aO al av fun _ _=>⟨[False],[.c (.xx (.km []) [])],none,false⟩
def Rl:CK 148 BB:=ah fun _ _ a=>Px  (cg a)
def Zb:bH:=(aP 148 BB (aP 145 Av DG))
def Qi:aw Tryz.prog (ak tyT) Zb:=(ag Rl (ag QK jP))
def mS (h:(bI b).2=false):aC b=(kv,3):=if_pos h
theorem mO (h:(bI b).2=true) (a:¬ (ay (bI b).1).2=0\/decide ((ay (bI b).1).1=b)=false):aC b=(kv,3):=by
 rw [aC,if_neg (by rw [h]; decide),if_pos];grind
theorem mQ (h:(bI b).2=true) (a:(ay (bI b).1).2=0) (c:decide ((ay (bI b).1).1=b)=true):aC b=((bI b).1,0):=by
 rw [aC,if_neg (by rw [h]; decide),if_neg];grind
theorem cu:(ay r).2=0↔recOk r=true:=by
 unfold ay;grind
theorem ji (h:¬ (ay r).2=0):(ay r).2=1/\recOk r=false:=by
 unfold ay at h ⊢;grind
def VU (s:Stable) (a b:Int) (x:List UInt8) (e:Stable) (f:Int):XN tyT DG [] Tryz.f85 [.agg (cellsOf (.nm .stable) s),.agg [.int 1,.int a,.int b,.fz .u8 x]] [] [.agg (cellsOf (.nm .stable) e),.c (.int f)]=((fun d=>(fun g=>bS s (I64 1->I64 a->I64 b->x.length*1<=140737488355328->(ay d).fst.length*1<=140737488355328->I64 g->(¬g=0->I64 s.floor->I64 s.term->I64 s.vote->aD s e (g=f))/\(g=0->I64 s.floor->I64 s.term->I64 s.vote->((du s d).isSome=false->I64 s.floor->I64 s.term->I64 s.vote->aD s e (5=f))/\((du s d).isSome=true->aD ((du s d).getD s) e (0=f))))) (ay d).snd) (Record.mk 1 a b x)):=bP
def U_ (s:Stable) (a b:Int) (x:List UInt8) (e:Stable) (f:Int):XN tyT DG [] Tryz.f85 [.agg (cellsOf (.nm .stable) s),.agg [.int 2,.int a,.int b,.fz .u8 x]] [] [.agg (cellsOf (.nm .stable) e),.c (.int f)]=((fun d=>(fun g=>bS s (I64 2->I64 a->I64 b->x.length*1<=140737488355328->(ay d).fst.length*1<=140737488355328->I64 g->(¬g=0->I64 s.floor->I64 s.term->I64 s.vote->aD s e (g=f))/\(g=0->I64 s.floor->I64 s.term->I64 s.vote->((eB s d).isSome=false->I64 s.floor->I64 s.term->I64 s.vote->aD s e (5=f))/\((eB s d).isSome=true->aD ((eB s d).getD s) e (0=f))))) (ay d).snd) (Record.mk 2 a b x)):=bP
def Vg (s:Stable) (a b:Int) (x:List UInt8) (e:Stable) (f:Int):XN tyT DG [] Tryz.f85 [.agg (cellsOf (.nm .stable) s),.agg [.int 3,.int a,.int b,.fz .u8 x]] [] [.agg (cellsOf (.nm .stable) e),.c (.int f)]=((fun d=>(fun g=>bS s (I64 3->I64 a->I64 b->x.length*1<=140737488355328->(ay d).fst.length*1<=140737488355328->I64 g->(¬g=0->I64 s.floor->I64 s.term->I64 s.vote->aD s e (g=f))/\(g=0->I64 s.floor->I64 s.term->I64 s.vote->s.log.length<=1000000/\x.length<=200/\((df s d).isSome=false->I64 s.floor->I64 s.term->I64 s.vote->aD s e (5=f))/\((df s d).isSome=true->aD ((df s d).getD s) e (0=f))))) (ay d).snd) (Record.mk 3 a b x)):=bP
def Wl (s:Stable) (a b:Int) (x:List UInt8) (e:Stable) (f:Int):XN tyT DG [] Tryz.f85 [.agg (cellsOf (.nm .stable) s),.agg [.int 4,.int a,.int b,.fz .u8 x]] [] [.agg (cellsOf (.nm .stable) e),.c (.int f)]=((fun d=>(fun g=>bS s (I64 4->I64 a->I64 b->x.length*1<=140737488355328->(ay d).fst.length*1<=140737488355328->I64 g->(¬g=0->I64 s.floor->I64 s.term->I64 s.vote->aD s e (g=f))/\(g=0->I64 s.floor->I64 s.term->I64 s.vote->(1<=a/\a<=64)/\((eX s d).isSome=false->I64 s.floor->I64 s.term->I64 s.vote->aD s e (5=f))/\((eX s d).isSome=true->aD ((eX s d).getD s) e (0=f))))) (ay d).snd) (Record.mk 4 a b x)):=bP
def Xa (s:Stable) (r:Record) (a:Stable) (d:Int):XN tyT Zb [] Tryz.f85 [.agg (cellsOf (.nm .stable) s),.agg (cellsOf (.nm .record) r)] [] [.agg (cellsOf (.nm .stable) a),.c (.int d)]=(bS s (de r (recOk r=false/\((0:Nat)*(1:Nat)<=(140737488355328:Nat)->I64 (1:Int)->(¬(1:Int)=(0:Int)->I64 s.floor->I64 s.term->I64 s.vote->aD s a ((1:Int)=d))/\((1:Int)=(0:Int)->I64 s.floor->I64 s.term->I64 s.vote->False/\False))))):=bP
def BS {s:Stable} (h:recOk r=false):aG s r=(s,1):=if_pos h
def dM {s:Stable} (h:¬ (ay r).2=0):aG s r=(s,(ay r).2):=by
 rw [BS (ji h).2,(ji h).1]
variable {o:Option Stable}
theorem dO {s:Stable} (e:cV s r=o) (h:(ay r).2=0) (a:o.isSome=false):aG s r=(s,5):=by
 rw [aG,if_neg (by rw [cu.1 h]; decide),e];grind
theorem dP {s:Stable} (e:cV s r=o) (h:(ay r).2=0) (a:o.isSome=true):aG s r=(o.getD s,0):=by
 rw [aG,if_neg (by rw [cu.1 h]; decide),e];grind
set_option maxRecDepth 8000 in
def aaz (s:Stable) (a b:Int) (x:List UInt8) (e:s.log.length<=1000000):Sat Tryz.prog (ak tyT) 85 [.agg (cellsOf (.nm .stable) s),.agg (cellsOf (.nm .record) (⟨1,a,b,x⟩:Record))] [] ⟨[s.log.length<=1000000],[.agg (cellsOf (.nm .stable) (aG s (⟨1,a,b,x⟩:Record)).1),.c (.int (aG s (⟨1,a,b,x⟩:Record)).2)],none,false⟩:=by
 have d:cV s (⟨1,a,b,x⟩:Record)=du s (⟨1,a,b,x⟩:Record):=rfl;refine ao jP [] Tryz.func85 ?_ (VU s a b x (aG s (⟨1,a,b,x⟩:Record)).1 (aG s (⟨1,a,b,x⟩:Record)).2).symm;(repeat' with_reducible first|apply a_|refine aY ?_|intro)
 all_goals (first | exact bq | exact (congrArg (fun q=>q.2) (dM ab)) | exact (congrArg (fun q=>q.2) (dM ab)).symm | exact (congrArg (fun q=>q.1.floor) (dM ab)) | exact (congrArg (fun q=>q.1.floor) (dM ab)).symm | exact (congrArg (fun q=>q.1.term) (dM ab)) | exact (congrArg (fun q=>q.1.term) (dM ab)).symm | exact (congrArg (fun q=>q.1.vote) (dM ab)) | exact (congrArg (fun q=>q.1.vote) (dM ab)).symm | exact (congrArg (fun q=>q.1.log) (dM ab)) | exact (congrArg (fun q=>q.1.log) (dM ab)).symm | exact (congrArg (fun q=>q.2) (dO d ab ab)) | exact (congrArg (fun q=>q.2) (dO d ab ab)).symm | exact (congrArg (fun q=>q.1.floor) (dO d ab ab)) | exact (congrArg (fun q=>q.1.floor) (dO d ab ab)).symm | exact (congrArg (fun q=>q.1.term) (dO d ab ab)) | exact (congrArg (fun q=>q.1.term) (dO d ab ab)).symm | exact (congrArg (fun q=>q.1.vote) (dO d ab ab)) | exact (congrArg (fun q=>q.1.vote) (dO d ab ab)).symm | exact (congrArg (fun q=>q.1.log) (dO d ab ab)) | exact (congrArg (fun q=>q.1.log) (dO d ab ab)).symm | exact (congrArg (fun q=>q.2) (dP d ab ab)) | exact (congrArg (fun q=>q.2) (dP d ab ab)).symm | exact (congrArg (fun q=>q.1.floor) (dP d ab ab)) | exact (congrArg (fun q=>q.1.floor) (dP d ab ab)).symm | exact (congrArg (fun q=>q.1.term) (dP d ab ab)) | exact (congrArg (fun q=>q.1.term) (dP d ab ab)).symm | exact (congrArg (fun q=>q.1.vote) (dP d ab ab)) | exact (congrArg (fun q=>q.1.vote) (dP d ab ab)).symm | exact (congrArg (fun q=>q.1.log) (dP d ab ab)) | exact (congrArg (fun q=>q.1.log) (dP d ab ab)).symm | (have:=dg (cu.1 ab); dsimp only at this; omega) | (have h:=bR.1 (cu.1 ab); dsimp only at h; omega))
set_option maxRecDepth 8000 in
def abn (s:Stable) (a b:Int) (x:List UInt8) (e:s.log.length<=1000000):Sat Tryz.prog (ak tyT) 85 [.agg (cellsOf (.nm .stable) s),.agg (cellsOf (.nm .record) (⟨2,a,b,x⟩:Record))] [] ⟨[s.log.length<=1000000],[.agg (cellsOf (.nm .stable) (aG s (⟨2,a,b,x⟩:Record)).1),.c (.int (aG s (⟨2,a,b,x⟩:Record)).2)],none,false⟩:=by
 have d:cV s (⟨2,a,b,x⟩:Record)=eB s (⟨2,a,b,x⟩:Record):=rfl;refine ao jP [] Tryz.func85 ?_ (U_ s a b x (aG s (⟨2,a,b,x⟩:Record)).1 (aG s (⟨2,a,b,x⟩:Record)).2).symm;(repeat' with_reducible first|apply a_|refine aY ?_|intro)
 all_goals (first | exact bq | exact (congrArg (fun q=>q.2) (dM ab)) | exact (congrArg (fun q=>q.2) (dM ab)).symm | exact (congrArg (fun q=>q.1.floor) (dM ab)) | exact (congrArg (fun q=>q.1.floor) (dM ab)).symm | exact (congrArg (fun q=>q.1.term) (dM ab)) | exact (congrArg (fun q=>q.1.term) (dM ab)).symm | exact (congrArg (fun q=>q.1.vote) (dM ab)) | exact (congrArg (fun q=>q.1.vote) (dM ab)).symm | exact (congrArg (fun q=>q.1.log) (dM ab)) | exact (congrArg (fun q=>q.1.log) (dM ab)).symm | exact (congrArg (fun q=>q.2) (dO d ab ab)) | exact (congrArg (fun q=>q.2) (dO d ab ab)).symm | exact (congrArg (fun q=>q.1.floor) (dO d ab ab)) | exact (congrArg (fun q=>q.1.floor) (dO d ab ab)).symm | exact (congrArg (fun q=>q.1.term) (dO d ab ab)) | exact (congrArg (fun q=>q.1.term) (dO d ab ab)).symm | exact (congrArg (fun q=>q.1.vote) (dO d ab ab)) | exact (congrArg (fun q=>q.1.vote) (dO d ab ab)).symm | exact (congrArg (fun q=>q.1.log) (dO d ab ab)) | exact (congrArg (fun q=>q.1.log) (dO d ab ab)).symm | exact (congrArg (fun q=>q.2) (dP d ab ab)) | exact (congrArg (fun q=>q.2) (dP d ab ab)).symm | exact (congrArg (fun q=>q.1.floor) (dP d ab ab)) | exact (congrArg (fun q=>q.1.floor) (dP d ab ab)).symm | exact (congrArg (fun q=>q.1.term) (dP d ab ab)) | exact (congrArg (fun q=>q.1.term) (dP d ab ab)).symm | exact (congrArg (fun q=>q.1.vote) (dP d ab ab)) | exact (congrArg (fun q=>q.1.vote) (dP d ab ab)).symm | exact (congrArg (fun q=>q.1.log) (dP d ab ab)) | exact (congrArg (fun q=>q.1.log) (dP d ab ab)).symm | (have:=dg (cu.1 ab); dsimp only at this; omega) | (have h:=bR.1 (cu.1 ab); dsimp only at h; omega))
set_option maxRecDepth 8000 in
def abp (s:Stable) (a b:Int) (x:List UInt8) (e:s.log.length<=1000000):Sat Tryz.prog (ak tyT) 85 [.agg (cellsOf (.nm .stable) s),.agg (cellsOf (.nm .record) (⟨3,a,b,x⟩:Record))] [] ⟨[s.log.length<=1000000],[.agg (cellsOf (.nm .stable) (aG s (⟨3,a,b,x⟩:Record)).1),.c (.int (aG s (⟨3,a,b,x⟩:Record)).2)],none,false⟩:=by
 have d:cV s (⟨3,a,b,x⟩:Record)=df s (⟨3,a,b,x⟩:Record):=rfl;refine ao jP [] Tryz.func85 ?_ (Vg s a b x (aG s (⟨3,a,b,x⟩:Record)).1 (aG s (⟨3,a,b,x⟩:Record)).2).symm;(repeat' with_reducible first|apply a_|refine aY ?_|intro)
 all_goals (first | exact bq | exact (congrArg (fun q=>q.2) (dM ab)) | exact (congrArg (fun q=>q.2) (dM ab)).symm | exact (congrArg (fun q=>q.1.floor) (dM ab)) | exact (congrArg (fun q=>q.1.floor) (dM ab)).symm | exact (congrArg (fun q=>q.1.term) (dM ab)) | exact (congrArg (fun q=>q.1.term) (dM ab)).symm | exact (congrArg (fun q=>q.1.vote) (dM ab)) | exact (congrArg (fun q=>q.1.vote) (dM ab)).symm | exact (congrArg (fun q=>q.1.log) (dM ab)) | exact (congrArg (fun q=>q.1.log) (dM ab)).symm | exact (congrArg (fun q=>q.2) (dO d ab ab)) | exact (congrArg (fun q=>q.2) (dO d ab ab)).symm | exact (congrArg (fun q=>q.1.floor) (dO d ab ab)) | exact (congrArg (fun q=>q.1.floor) (dO d ab ab)).symm | exact (congrArg (fun q=>q.1.term) (dO d ab ab)) | exact (congrArg (fun q=>q.1.term) (dO d ab ab)).symm | exact (congrArg (fun q=>q.1.vote) (dO d ab ab)) | exact (congrArg (fun q=>q.1.vote) (dO d ab ab)).symm | exact (congrArg (fun q=>q.1.log) (dO d ab ab)) | exact (congrArg (fun q=>q.1.log) (dO d ab ab)).symm | exact (congrArg (fun q=>q.2) (dP d ab ab)) | exact (congrArg (fun q=>q.2) (dP d ab ab)).symm | exact (congrArg (fun q=>q.1.floor) (dP d ab ab)) | exact (congrArg (fun q=>q.1.floor) (dP d ab ab)).symm | exact (congrArg (fun q=>q.1.term) (dP d ab ab)) | exact (congrArg (fun q=>q.1.term) (dP d ab ab)).symm | exact (congrArg (fun q=>q.1.vote) (dP d ab ab)) | exact (congrArg (fun q=>q.1.vote) (dP d ab ab)).symm | exact (congrArg (fun q=>q.1.log) (dP d ab ab)) | exact (congrArg (fun q=>q.1.log) (dP d ab ab)).symm | (have:=dg (cu.1 ab); dsimp only at this; omega) | (have h:=bR.1 (cu.1 ab); dsimp only at h; omega))
set_option maxRecDepth 8000 in
def Z_ (s:Stable) (a b:Int) (x:List UInt8) (e:s.log.length<=1000000):Sat Tryz.prog (ak tyT) 85 [.agg (cellsOf (.nm .stable) s),.agg (cellsOf (.nm .record) (⟨4,a,b,x⟩:Record))] [] ⟨[s.log.length<=1000000],[.agg (cellsOf (.nm .stable) (aG s (⟨4,a,b,x⟩:Record)).1),.c (.int (aG s (⟨4,a,b,x⟩:Record)).2)],none,false⟩:=by
 have d:cV s (⟨4,a,b,x⟩:Record)=eX s (⟨4,a,b,x⟩:Record):=rfl;refine ao jP [] Tryz.func85 ?_ (Wl s a b x (aG s (⟨4,a,b,x⟩:Record)).1 (aG s (⟨4,a,b,x⟩:Record)).2).symm;(repeat' with_reducible first|apply a_|refine aY ?_|intro)
 all_goals (first | exact bq | exact (congrArg (fun q=>q.2) (dM ab)) | exact (congrArg (fun q=>q.2) (dM ab)).symm | exact (congrArg (fun q=>q.1.floor) (dM ab)) | exact (congrArg (fun q=>q.1.floor) (dM ab)).symm | exact (congrArg (fun q=>q.1.term) (dM ab)) | exact (congrArg (fun q=>q.1.term) (dM ab)).symm | exact (congrArg (fun q=>q.1.vote) (dM ab)) | exact (congrArg (fun q=>q.1.vote) (dM ab)).symm | exact (congrArg (fun q=>q.1.log) (dM ab)) | exact (congrArg (fun q=>q.1.log) (dM ab)).symm | exact (congrArg (fun q=>q.2) (dO d ab ab)) | exact (congrArg (fun q=>q.2) (dO d ab ab)).symm | exact (congrArg (fun q=>q.1.floor) (dO d ab ab)) | exact (congrArg (fun q=>q.1.floor) (dO d ab ab)).symm | exact (congrArg (fun q=>q.1.term) (dO d ab ab)) | exact (congrArg (fun q=>q.1.term) (dO d ab ab)).symm | exact (congrArg (fun q=>q.1.vote) (dO d ab ab)) | exact (congrArg (fun q=>q.1.vote) (dO d ab ab)).symm | exact (congrArg (fun q=>q.1.log) (dO d ab ab)) | exact (congrArg (fun q=>q.1.log) (dO d ab ab)).symm | exact (congrArg (fun q=>q.2) (dP d ab ab)) | exact (congrArg (fun q=>q.2) (dP d ab ab)).symm | exact (congrArg (fun q=>q.1.floor) (dP d ab ab)) | exact (congrArg (fun q=>q.1.floor) (dP d ab ab)).symm | exact (congrArg (fun q=>q.1.term) (dP d ab ab)) | exact (congrArg (fun q=>q.1.term) (dP d ab ab)).symm | exact (congrArg (fun q=>q.1.vote) (dP d ab ab)) | exact (congrArg (fun q=>q.1.vote) (dP d ab ab)).symm | exact (congrArg (fun q=>q.1.log) (dP d ab ab)) | exact (congrArg (fun q=>q.1.log) (dP d ab ab)).symm | (have:=dg (cu.1 ab); dsimp only at this; omega) | (have h:=bR.1 (cu.1 ab); dsimp only at h; omega))
theorem LP (s:Stable) (r:Record) (d:s.log.length<=1000000):Sat Tryz.prog (ak tyT) 85 [.agg (cellsOf (.nm .stable) s),.agg (cellsOf (.nm .record) r)] [] ⟨[s.log.length<=1000000],[.agg (cellsOf (.nm .stable) (aG s r).1),.c (.int (aG s r).2)],none,false⟩:=by
 cases e:recOk r
 ·refine ao Qi [] Tryz.func85 ?_ (Xa s r (aG s r).1 (aG s r).2).symm;rw [BS e];grind
 obtain ⟨k,a,b,x⟩:=r;rcases bR.1 e with h | h | h | h <;> (have f:=h.1; dsimp only at f; subst f)
 ·exact aaz s a b x d
 ·exact abn s a b x d
 ·exact abp s a b x d
 exact Z_ s a b x d
def AX:Kn:=aO (ae (kC (cL .u8)) al) av fun (b,_) _=>⟨[],[.agg (cellsOf (.nm .record) ((aC b).1)),.c (.int (((aC b).2)))],none,false⟩
def Ln:CK 84 AX:=ah fun (b,_) _ _=>by
 refine ao jP [] Tryz.func84 (?_:(fun c=>(fun e=>(fun d=>(fun f=>b.length*1<=140737488355328->de (bI b).fst (((bI b).snd=false->f)/\((bI b).snd=true->d.fst.length*1<=140737488355328->I64 d.snd->(¬d.snd=c\/decide (d.fst=b)=false->f)/\(d.snd=c/\decide (d.fst=b)=true->lG (bI b).fst e (c=(aC b).snd))))) (c=e.kind/\c=e.a/\c=e.b/\e.x=[]/\3=(aC b).snd)) (ay (bI b).fst)) (aC b).fst) (0:Int));(repeat' with_reducible first|apply a_|refine aY ?_|intro)
 all_goals (first | exact bq | exact (congrArg (fun q=>q.2) (mS ab)) | exact (congrArg (fun q=>q.2) (mS ab)).symm | exact (congrArg (fun q=>q.1.kind) (mS ab)) | exact (congrArg (fun q=>q.1.kind) (mS ab)).symm | exact (congrArg (fun q=>q.1.a) (mS ab)) | exact (congrArg (fun q=>q.1.a) (mS ab)).symm | exact (congrArg (fun q=>q.1.b) (mS ab)) | exact (congrArg (fun q=>q.1.b) (mS ab)).symm | exact (congrArg (fun q=>q.1.x) (mS ab)) | exact (congrArg (fun q=>q.1.x) (mS ab)).symm | exact (congrArg (fun q=>q.2) (mO ab ab)) | exact (congrArg (fun q=>q.2) (mO ab ab)).symm | exact (congrArg (fun q=>q.1.kind) (mO ab ab)) | exact (congrArg (fun q=>q.1.kind) (mO ab ab)).symm | exact (congrArg (fun q=>q.1.a) (mO ab ab)) | exact (congrArg (fun q=>q.1.a) (mO ab ab)).symm | exact (congrArg (fun q=>q.1.b) (mO ab ab)) | exact (congrArg (fun q=>q.1.b) (mO ab ab)).symm | exact (congrArg (fun q=>q.1.x) (mO ab ab)) | exact (congrArg (fun q=>q.1.x) (mO ab ab)).symm | exact (congrArg (fun q=>q.2) (mQ ab ab ab)) | exact (congrArg (fun q=>q.2) (mQ ab ab ab)).symm | exact (congrArg (fun q=>q.1.kind) (mQ ab ab ab)) | exact (congrArg (fun q=>q.1.kind) (mQ ab ab ab)).symm | exact (congrArg (fun q=>q.1.a) (mQ ab ab ab)) | exact (congrArg (fun q=>q.1.a) (mQ ab ab ab)).symm | exact (congrArg (fun q=>q.1.b) (mQ ab ab ab)) | exact (congrArg (fun q=>q.1.b) (mQ ab ab ab)).symm | exact (congrArg (fun q=>q.1.x) (mQ ab ab ab)) | exact (congrArg (fun q=>q.1.x) (mQ ab ab ab)).symm)
def QL (s:Stable) (r:Record) (a:s.log.length<=1000000):Sat Tryz.prog (ak tyT) 85 [.agg (cellsOf (.nm .stable) s),.agg (cellsOf (.nm .record) r)] [] ⟨[s.log.length<=1000000],[.agg (cellsOf (.nm .stable) ((aG s r).1)),.c (.int (((aG s r).2)))],none,false⟩:=LP s r a
def CL:Kn:=aO (ae (kT (.nm .stable)) (ae (kT (.nm .record)) al)) av fun (s,r,_) _=>⟨[s.log.length<=1000000],[.agg (cellsOf (.nm .stable) ((aG s r).1)),.c (.int (((aG s r).2)))],none,false⟩
def LM:CK 85 CL:=ah fun (s,r,_) _ a=>QL s r (cg a)
def afa:bH:=(aP 85 CL (aP 84 AX DG))
def Hn:aw Tryz.prog (ak tyT) afa:=(ag LM (ag Ln jP))
structure RJ (b:List UInt8) (s:Stable) (u:Int):Prop where
 le:0<=u/\u<=b.length
 log:(s.log.length:Int)<=u
 eq:replayF b=((playB (b.length+1) s (b.drop u.toNat)).1,u+(playB (b.length+1) s (b.drop u.toNat)).2)
def agW:RJ b sta0 0:=⟨aI,aa,by simp [replayF]⟩
section
variable {b:List UInt8} {s:Stable} {u:Int}
def tG (h:RJ b s u) (a:¬ (az (b.drop u.toNat)).2.2=0):replayF b=(s,u):=by
 rw [h.eq,nu a,Int.add_zero]
def uk (h:RJ b s u) (a:(az (b.drop u.toNat)).2.2=0) (c:¬ (aC (az (b.drop u.toNat)).1).2=0):replayF b=(s,u):=by
 rw [h.eq,playB,if_neg (adv.2 a),if_pos c,Int.add_zero]
def sf (h:RJ b s u) (a:(az (b.drop u.toNat)).2.2=0) (c:(aC (az (b.drop u.toNat)).1).2=0) (d:¬ (aG s (aC (az (b.drop u.toNat)).1).1).2=0):replayF b=(s,u):=by
 rw [h.eq,playB,if_neg (adv.2 a),if_neg (adv.2 c),if_pos d,Int.add_zero]
theorem Jm {s t:Stable} (h:cV s r=some t):t.log.length<=s.log.length+1:=by
 unfold cV du eB df eX at h;grind
def vT {s:Stable}:(aG s r).1.log.length<=s.log.length+1:=by
 unfold aG;split
 ·simp
 split
 ·rename_i t h; exact Jm h
 simp
theorem aec (h:RJ b s u) (a:(az (b.drop u.toNat)).2.2=0) (c:(aC (az (b.drop u.toNat)).1).2=0) (d:(aG s (aC (az (b.drop u.toNat)).1).1).2=0):RJ b (aG s (aC (az (b.drop u.toNat)).1).1).1 (u+(az (b.drop u.toNat)).2.1):=by
 have e:=db a;rw [List.length_drop] at e;have f:=vT (s:=s) (r:=(aC (az (b.drop u.toNat)).1).1);have g:=h.log;refine ⟨aI,aI,?_⟩;rw [h.eq,playB,if_neg (adv.2 a),if_neg (adv.2 c),if_neg (adv.2 d),ahb,show u.toNat+(az (b.drop u.toNat)).2.1.toNat=(u+(az (b.drop u.toNat)).2.1).toNat by omega];rw [nj (n:=b.length) (m:=b.length+1) (by rw [List.length_drop]; omega) (by rw [List.length_drop]; omega)];grind
def aiE (h:RJ b s u):0<=u:=h.le.1
def ahR (h:RJ b s u):u<=(b.length:Int):=h.le.2
def aeL (h:RJ b s u) (a:b.length<=1000000):s.log.length<=1000000:=by
 have:=h.log; have:=h.le; omega
def ahC (h:RJ b s u) (a:(az (b.drop u.toNat)).2.2=0) (c:b.length<=1000000):I64 (u+(az (b.drop u.toNat)).2.1):=by
 have:=db a; have:=h.le;rw [List.length_drop] at *;exact bw aI aI
theorem alh (h:RJ b s u) (a:(az (b.drop u.toNat)).2.2=0):((b.length:Int) - (u+(az (b.drop u.toNat)).2.1)).toNat<((b.length:Int) - u).toNat:=by
 have:=db a; have:=h.le;grind
end
variable {l:List Record}
def Cl {s:Stable} (h:(stepsF s (l.take k)).2=0) (a:l[k]? = some r):stepsF s (l.take (k+1))=stepsF (stepsF s (l.take k)).1 [r]:=by
 rw [ai a,dC h]
def u_ {s:Stable} (h:(stepsF s (l.take k)).2=0) (a:l[k]? = some r) (c:(aG (stepsF s (l.take k)).1 r).2=0):(stepsF s (l.take (k+1))).2=0/\(stepsF s (l.take (k+1))).1=(aG (stepsF s (l.take k)).1 r).1:=by
 rw [Cl h a,stepsF,if_pos c,stepsF]; exact ⟨rfl,rfl⟩
def ajw {s:Stable} (h:(stepsF s (l.take k)).2=0) (a:l[k]? = some r) (c:¬ (aG (stepsF s (l.take k)).1 r).2=0):(stepsF s l).2=(aG (stepsF s (l.take k)).1 r).2:=by
 have d:=(aad.1 a);have e:l=l.take k++r :: l.drop (k+1):=by
  rw [<- d.2,List.getElem_cons_drop,List.take_append_drop]
 rw [show stepsF s l=stepsF s (l.take k++r :: l.drop (k+1)) from congrArg (stepsF s) e,dC h,stepsF,if_neg c]
theorem rW:∀ {l:List Record} {s:Stable},(stepsF s l).1.log.length<=s.log.length+l.length
 | [],s=>Nat.le_refl _
 | r :: l,s=>by
  rw [stepsF];split
  ·have:=rW (l:=l) (s:=(aG s r).1);have:=vT (s:=s) (r:=r);grind
  grind
def agT (h:(l.take k).all recOk=true) (a:l[k]? = some r) (c:recOk r=true):(l.take (k+1)).all recOk=true:=by
 rw [ai a,aiU,h]; simp [c]
theorem adR (a:l[k]? = some r) (c:recOk r=false):l.all recOk=false:=by grind
def aac (a:l[k]? = some r):encL (l.take k)++eh (recPut r)=encL (l.take (k+1)):=by
 rw [ai a,ue]; simp [encL,kn]
def DT {d:Dsk} {x:List UInt8} (h:d.OK):(d.app x).OK:=by
 obtain ⟨a,c,e⟩:=h;unfold Dsk.app;split
 ·exact ⟨a,c,e⟩
 refine ⟨a,?_,?_⟩ <;> dsimp only <;> rw [List.length_append] <;> omega
def JU (b:List UInt8):List (Nat × LI):=[(3,{ σ:=Stable × Int,F:=fun q=>([(0,one (.fz .u8 (b))),(2,one (.ptr 1 0)),(4,one (.ptr 0 0)),(5,one (.int q.2))],[.box 64 (cellsOf (.nm .stable) (q.1)),.box 64 (cellsOf (.nm .stable) (sta0))]),J:=fun q=>RJ b q.1 q.2,μ:=fun q=>(b.length - q.2).toNat })]
def tM:Kn:=aO (ae (kC (cL .u8)) al) av fun (b,_) _=>⟨[b.length<=1000000],[.agg (cellsOf (.nm .stable) ((replayF b).1)),.c (.int (((replayF b).2)))],none,false⟩
theorem Dq:CK 41 tM:=ah fun (b,_) _ p=>by
 have i:=cg p;refine ao Hn (JU b) Tryz.func41 (?_:(fun (a:Int)=>b.length*1<=140737488355328->∃ (d:Stable × Int),(b=b/\a=d.snd/\a=d.fst.floor/\a=d.fst.term/\a=d.fst.vote/\d.fst.log=[]/\a=sta0.floor/\a=sta0.term/\a=sta0.vote/\sta0.log=[])/\RJ b d.fst d.snd/\∀ (s:Stable × Int),(fun (h:Prop)=>(fun (c:List UInt8 × Int × Int)=>(fun (e:Record × Int)=>(fun (f:Stable × Int)=>RJ b s.fst s.snd->a<=s.snd/\s.snd<=(↑b.length:Int)/\(c.fst.length*1<=140737488355328->I64 c.snd.fst->I64 c.snd.snd->(¬c.snd.snd=a->h)/\(c.snd.snd=a->de e.fst (I64 e.snd->(¬e.snd=a->h)/\(e.snd=a->s.fst.log.length<=1000000/\bS f.fst (I64 f.snd->(¬f.snd=a->h)/\(f.snd=a->I64 (s.snd+c.snd.fst)/\∃ (g:Stable × Int),(b=b/\s.snd+c.snd.fst=g.snd/\aD f.fst g.fst (dJ sta0 sta0))/\RJ b g.fst g.snd/\((↑b.length:Int) - g.snd).toNat<((↑b.length:Int) - s.snd).toNat))))))) (aG s.fst e.fst)) (aC c.fst)) (az (List.drop s.snd.toNat b))) (aD s.fst (replayF b).fst (s.snd=(replayF b).snd))) 0);iterate 3 ((all_goals (repeat' with_reducible first|apply a_|refine aY ?_|intro)); (all_goals try (first | exact bq | (with_reducible exact agW) | (with_reducible exact aiE ab) | (with_reducible exact ahR ab) | (with_reducible exact aeL ab i) | (with_reducible exact ahC ab ab i) | (with_reducible exact alh ab ab) | (with_reducible exact aec ab ab ab ab) | exact (congrArg (fun q=>q.2) (tG ab ab)) | exact (congrArg (fun q=>q.2) (tG ab ab)).symm | exact (congrArg (fun q=>q.1.floor) (tG ab ab)) | exact (congrArg (fun q=>q.1.floor) (tG ab ab)).symm | exact (congrArg (fun q=>q.1.term) (tG ab ab)) | exact (congrArg (fun q=>q.1.term) (tG ab ab)).symm | exact (congrArg (fun q=>q.1.vote) (tG ab ab)) | exact (congrArg (fun q=>q.1.vote) (tG ab ab)).symm | exact (congrArg (fun q=>q.1.log) (tG ab ab)) | exact (congrArg (fun q=>q.1.log) (tG ab ab)).symm | exact (congrArg (fun q=>q.2) (uk ab ab ab)) | exact (congrArg (fun q=>q.2) (uk ab ab ab)).symm | exact (congrArg (fun q=>q.1.floor) (uk ab ab ab)) | exact (congrArg (fun q=>q.1.floor) (uk ab ab ab)).symm | exact (congrArg (fun q=>q.1.term) (uk ab ab ab)) | exact (congrArg (fun q=>q.1.term) (uk ab ab ab)).symm | exact (congrArg (fun q=>q.1.vote) (uk ab ab ab)) | exact (congrArg (fun q=>q.1.vote) (uk ab ab ab)).symm | exact (congrArg (fun q=>q.1.log) (uk ab ab ab)) | exact (congrArg (fun q=>q.1.log) (uk ab ab ab)).symm | exact (congrArg (fun q=>q.2) (sf ab ab ab ab)) | exact (congrArg (fun q=>q.2) (sf ab ab ab ab)).symm | exact (congrArg (fun q=>q.1.floor) (sf ab ab ab ab)) | exact (congrArg (fun q=>q.1.floor) (sf ab ab ab ab)).symm | exact (congrArg (fun q=>q.1.term) (sf ab ab ab ab)) | exact (congrArg (fun q=>q.1.term) (sf ab ab ab ab)).symm | exact (congrArg (fun q=>q.1.vote) (sf ab ab ab ab)) | exact (congrArg (fun q=>q.1.vote) (sf ab ab ab ab)).symm | exact (congrArg (fun q=>q.1.log) (sf ab ab ab ab)) | exact (congrArg (fun q=>q.1.log) (sf ab ab ab ab)).symm)); all_goals try first | refine ⟨((aG (‹Stable × Int›).1 (aC (az (b.drop (‹Stable × Int›).2.toNat)).1).1).1,(‹Stable × Int›).2+(az (b.drop (‹Stable × Int›).2.toNat)).2.1),?_⟩ | refine ⟨(sta0,0),?_⟩)
def adO:bH:=(aP 41 tM afa)
def GY:aw Tryz.prog (ak tyT) adO:=(ag Dq Hn)
section
variable {d:Dsk} {s:Stable} {l:List Record} {k:Nat} {r:Record}
def aeJ (a:l[k]? = some r) (h:¬ (ay r).2=0):saveF d s l=(d,s,(ay r).2):=by
 rw [saveF,if_pos (adR a (ji h).2),(ji h).1]
def ac8 (h:(ay r).2=0):fS (ay r).1=(eh (recPut r),0):=by
 have a:=cu.1 h;have:=ju a;rw [qS a,fS,if_neg (by dsimp only; omega)]
def afn {p:Prop} (h:(ay r).2=0) (a:¬ (fS (ay r).1).2=0):p:=absurd (by rw [ac8 h]) a
def afb (a:l[k]? = some r) (h:(ay r).2=0):encL (l.take k)++(fS (ay r).1).1=encL (l.take (k+1)):=by
 rw [ac8 h]; exact aac a
def Zl (h:l.length<=1000) (c:(l.take k).all recOk=true) (a:(ay r).2=0):((encL (l.take k)).length+(fS (ay r).1).1.length)*1<=140737488355328:=by
 have e:=oI c;have f:=ju (cu.1 a);have g:(l.take k).length<=l.length:=by rw [List.length_take]; omega
 rw [ac8 a]; dsimp only; rw [nz]; omega
def af5 (a:(l.length:Int)<=k) (h:(l.take k).all recOk=true):l.all recOk=true:=by rwa [List.take_of_length_le aI] at h
def af9 (a:(l.length:Int)<=k):encL (l.take k)=encL l:=by rw [List.take_of_length_le aI]
theorem afx (a:s.log.length<=10000) (c:l.length<=1000):(stepsF s (l.take k)).1.log.length<=1000000:=by
 have:=rW (s:=s) (l:=l.take k);grind
def afc (c:l.all recOk=true) (h:(stepsF s (l.take k)).2=0) (f:l[k]? = some r) (a:¬ (aG (stepsF s (l.take k)).1 r).2=0):saveF d s l=(d,s,(aG (stepsF s (l.take k)).1 r).2):=by
 have e:=ajw h f a;rw [saveF,if_neg (by rw [c]; decide),if_pos (by rw [e]; exact a),e]
def afI (a:(l.length:Int)=0):saveF d s l=(d,(stepsF s (l.take k)).1,0):=by
 rw [abb (l:=l) aI,List.take_nil]; rfl
def acY (c:(l.length:Int)<=k) (a:l.all recOk=true) (h:(stepsF s (l.take k)).2=0) (e:¬ (l.length:Int)=0):saveF d s l=if d.je (encL l)≠0 then (d,s,d.je (encL l)) else if (d.app (encL l)).eV≠0 then ((d.app (encL l)).sync,s,(d.app (encL l)).eV) else ((d.app (encL l)).sync,(stepsF s (l.take k)).1,0):=by
 rw [List.take_of_length_le aI] at h ⊢;rw [saveF,if_neg (by rw [a]; decide),if_neg (by rw [h]; decide),if_neg aI]
theorem agG (a:(l.length:Int)<=k) (c:l.all recOk=true) (h:(stepsF s (l.take k)).2=0) (f:¬ (l.length:Int)=0) (g:¬ d.je (encL l)=0):saveF d s l=(d.app (encL l),s,d.je (encL l)):=by
 have e:d.app (encL l)=d:=by
  unfold Dsk.app Dsk.je at *;grind
 rw [acY a c h f,if_pos g,e]
def agI (a:(l.length:Int)<=k) (c:l.all recOk=true) (h:(stepsF s (l.take k)).2=0) (e:¬ (l.length:Int)=0) (f:d.je (encL l)=0) (g:¬ (d.app (encL l)).eV=0):saveF d s l=((d.app (encL l)).sync,s,(d.app (encL l)).eV):=by
 rw [acY a c h e,if_neg (adv.2 f),if_pos g]
def adU (a:(l.length:Int)<=k) (c:l.all recOk=true) (h:(stepsF s (l.take k)).2=0) (e:¬ (l.length:Int)=0) (f:d.je (encL l)=0) (g:(d.app (encL l)).eV=0):saveF d s l=((d.app (encL l)).sync,(stepsF s (l.take k)).1,0):=by
 rw [acY a c h e,if_neg (adv.2 f),if_neg (adv.2 g)]
variable {x:List UInt8}
def app_1 (h:d.OK):0<=(d.app x).synced:=(DT h).1
def Xo (h:d.OK):(d.app x).synced<=((d.app x).b.length:Int):=(DT h).2.1
def YS (h:d.OK):(d.app x).b.length<=65536:=(DT h).2.2
def Rm (h:(l.take k).all recOk=true) (a:l[k]? = some r) (c:(ay r).2=0):(l.take (k+1)).all recOk=true:=agT h a (cu.1 c)
end
def WY (s:Stable) (l:List Record) (a:Int) (c:Bool) (d:Bool) (e:Int) (f:List UInt8):List (Nat × LI):=[(3,{ σ:=Nat,F:=fun k=>([(0,one (.ptr 0 0)),(2,one (.fz (.nm .record) (l))),(4,one (.ptr 2 0)),(6,one (.ptr 3 0)),(8,one (.own 4)),(20,one (.fz (.nm .record) (l))),(21,one (.int (l).length)),(22,one (.int k))],[.box 147 ([.own 1,.int ((a)),.bool (.atom ((c))),.bool (.atom ((d))),.int ((e))]),.row 5 .u8 ((f)),.box 64 (cellsOf (.nm .stable) (s)),.box 64 (cellsOf (.nm .stable) (sta0)),.row 5 .u8 ((encL (l.take k)))]),J:=fun k=>k<=l.length/\(l.take k).all recOk=true,μ:=fun k=>(l).length - k }),(15,{ σ:=Nat,F:=fun k=>([(0,one (.ptr 0 0)),(2,one (.fz (.nm .record) (l))),(4,one (.ptr 2 0)),(6,one (.ptr 3 0)),(8,one (.own 4)),(14,one (.ptr 5 0)),(52,one (.fz (.nm .record) (l))),(53,one (.int (l).length)),(54,one (.int k))],[.box 147 ([.own 1,.int ((a)),.bool (.atom ((c))),.bool (.atom ((d))),.int ((e))]),.row 5 .u8 ((f)),.box 64 (cellsOf (.nm .stable) (s)),.box 64 (cellsOf (.nm .stable) (sta0)),.row 5 .u8 ((encL l)),.box 64 (cellsOf (.nm .stable) ((stepsF s (l.take k)).1))]),J:=fun k=>k<=l.length/\l.all recOk=true/\(stepsF s (l.take k)).2=0,μ:=fun k=>(l).length - k })]
def Au:Kn:=aO (ae (kC (ba 0 0)) (ae (kT (.nm .stable)) (ae (kC (cL (.nm .record))) al))) (aH (dN 147 (ax (fg 1) (ax cI (ax cB (ax cB (ax cI dK)))))) (aH (e_ 5 .u8) av)) fun (_,s,l,_) ((_,a,d,e,f,_),g,_)=>⟨[(Dsk.mk g a d e f).OK,s.log.length<=10000,l.length<=1000],[.agg (cellsOf (.nm .stable) ((saveF (Dsk.mk g a d e f) s l).2.1)),.c (.int (((saveF (Dsk.mk g a d e f) s l).2.2)))],some ([.box 147 ([.own 1,.int (((saveF (Dsk.mk g a d e f) s l).1.synced)),.bool (.atom (((saveF (Dsk.mk g a d e f) s l).1.down))),.bool (.atom (((saveF (Dsk.mk g a d e f) s l).1.doomed))),.int (((saveF (Dsk.mk g a d e f) s l).1.keep))]),.row 5 .u8 (((saveF (Dsk.mk g a d e f) s l).1.b))]),false⟩
set_option maxRecDepth 8000 in
theorem NQ:CK 87 Au:=ah fun (_,s,l,_) ((_,f,h,i,p,_),g,_) V=>by
 have Y:=cg V;have Z:=cg (eW V);have T:=cg (eW (eW V));refine bA GY (WY s l f h i p g) Tryz.func87 (?_:(fun (J:Dsk)=>(fun (u:Prop)=>(fun (W:Prop)=>(fun (K:Prop)=>(fun (L:Prop)=>(fun (N:Prop)=>(fun (O:Int)=>(fun (U:Int)=>(fun (B:Nat)=>(fun (t:Int)=>(fun (e:Int)=>(fun (z:Dsk)=>(fun (C:Dsk)=>(fun (X:Dsk × Stable × Int)=>(fun (v:Stable)=>(fun (w:Int)=>(fun (a:Dsk)=>(fun (S:Prop)=>(fun (F:Prop)=>bS s (l.length*48<=140737488355328->∃ (G:Nat),(u/\u/\O=t/\e=(↑G:Int)/\f=f/\h=h/\i=i/\p=p/\g=g/\aD s s (e=sta0.floor/\e=sta0.term/\e=sta0.vote/\sta0.log=[]/\encL (List.take G l)=[]))/\(G<=B/\(List.take G l).all recOk=true)/\∀ (c:Nat),c<=B/\(List.take c l).all recOk=true->((↑c:Int)<t->e<=(↑c:Int)/\(↑c:Int)<O/\∀ (x:Record),(fun (H:Int)=>(fun (y:List UInt8 × Int)=>l[c]? = some x->de x ((ay x).fst.length*1<=140737488355328->I64 H->(¬H=e->N->L->K->aD s v (H=w/\F))/\(H=e->y.fst.length*1<=140737488355328->I64 y.snd->(¬y.snd=e->N->L->K->aD s v (y.snd=w/\F))/\(y.snd=e->((encL (List.take c l)).length+y.fst.length)*1<=140737488355328/\I64 ((↑c:Int)+1)/\∃ (D:Nat),(u/\u/\t=t/\(↑c:Int)+1=(↑D:Int)/\f=f/\h=h/\i=i/\p=p/\g=g/\aD s s (aD sta0 sta0 (encL (List.take c l)++y.fst=encL (List.take D l))))/\(D <= B/\(List.take D l).all recOk=true)/\B - D < B - c)))) (fS (ay x).fst)) (ay x).snd)/\(t<=(↑c:Int)->N->L->K->∃ (G:Nat),(u/\u/\O=t/\e=(↑G:Int)/\f=f/\h=h/\i=i/\p=p/\g=g/\aD s s (aD sta0 sta0 (encL (List.take c l)=encL l/\dJ s (stepsF s (List.take G l)).fst)))/\(G<=B/\W/\(stepsF s (List.take G l)).snd=e)/\∀ (q:Nat),(fun (A:Stable)=>q<=B/\W/\(stepsF s (List.take q l)).snd=e->((↑q:Int)<t->e<=(↑q:Int)/\(↑q:Int)<O/\∀ (x:Record),(fun (I:Int)=>l[q]? = some x->de x (A.log.length<=1000000/\bS (aG A x).fst (I64 I->(¬I=e->N->L->K->aD s v (I=w/\F))/\(I=e->I64 ((↑q:Int)+1)/\∃ (D:Nat),(u/\u/\t=t/\(↑q:Int)+1=(↑D:Int)/\f=f/\h=h/\i=i/\p=p/\g=g/\aD s s (aD sta0 sta0 (encL l=encL l/\dJ (aG A x).fst (stepsF s (List.take D l)).fst)))/\(D <= B/\W/\(stepsF s (List.take D l)).snd=e)/\B - D < B - q)))) (aG A x).snd)/\(t<=(↑q:Int)->(O=e->aD A v (e=w/\F))/\(¬O=e->(e<=f/\f<=(↑g.length:Int)/\g.length<=65536)/\(I64 U->(¬U=e->N->L->K->aD s v (U=w/\z.synced=a.synced/\z.down=a.down/\z.doomed=a.doomed/\z.keep=a.keep/\z.b=a.b))/\(U=e->(e<=z.synced/\z.synced<=(↑z.b.length:Int)/\z.b.length<=65536)/\(I64 z.eV->(¬z.eV=e->N->L->K->aD s v (z.eV=w/\S))/\(z.eV=e->aD A v (e=w/\S)))))))) (stepsF s (List.take q l)).fst))) (f=a.synced/\h=a.down/\i=a.doomed/\p=a.keep/\g=a.b)) (C.synced=a.synced/\C.down=a.down/\C.doomed=a.doomed/\C.keep=a.keep/\C.b=a.b)) X.fst) X.snd.snd) X.snd.fst) (saveF J s l)) z.sync) (J.app (encL l))) 0) (↑B:Int)) l.length) (J.je (encL l))) (↑l.length:Int)) (I64 s.floor)) (I64 s.term)) (I64 s.vote)) (l.all recOk=true)) (l=l)) (Dsk.mk g f h i p))
 have Q:=Y;obtain ⟨j,m,n⟩:=Y;dsimp only at j m n;(repeat' with_reducible first|apply a_|refine aY ?_|intro)
 all_goals try (refine ⟨0,?_⟩; (repeat' with_reducible first|apply a_|refine aY ?_|intro))
 all_goals try (first | (refine ⟨‹Nat› + 1,?_⟩; (repeat' with_reducible first|apply a_|refine aY ?_|intro) <;> (first | exact bq | (with_reducible exact afb ab ab) | (with_reducible exact Rm ab ab ab) | (with_reducible exact Zl T ab ab) | (with_reducible exact af5 ab ab) | (with_reducible exact af9 ab) | (with_reducible exact afx Z T) | (with_reducible exact afn ab ab) | (with_reducible exact (u_ ab ab ab).1) | (with_reducible exact app_1 Q) | (with_reducible exact Xo Q) | (with_reducible exact YS Q) | (with_reducible exact (congrArg Stable.floor (u_ ab ab ab).2).symm) | (with_reducible exact (congrArg Stable.term (u_ ab ab ab).2).symm) | (with_reducible exact (congrArg Stable.vote (u_ ab ab ab).2).symm) | (with_reducible exact (congrArg Stable.log (u_ ab ab ab).2).symm) | (rw [aeJ (d:=Dsk.mk g f h i p) ab ab] <;> rfl) | (rw [afc (d:=Dsk.mk g f h i p) ab ab ab ab] <;> rfl) | (rw [agG (d:=Dsk.mk g f h i p) ab ab ab ab ab] <;> rfl) | (rw [agI (d:=Dsk.mk g f h i p) ab ab ab ab ab ab] <;> rfl) | (rw [adU (d:=Dsk.mk g f h i p) ab ab ab ab ab ab] <;> rfl) | (rw [afI (d:=Dsk.mk g f h i p) (k:=‹Nat›) ab] <;> rfl) | exact rfl); done) | (refine ⟨0,?_⟩; (repeat' with_reducible first|apply a_|refine aY ?_|intro)))
 all_goals try (refine ⟨‹Nat› + 1,?_⟩; (repeat' with_reducible first|apply a_|refine aY ?_|intro))
 all_goals (first | exact bq | (with_reducible exact afb ab ab) | (with_reducible exact Rm ab ab ab) | (with_reducible exact Zl T ab ab) | (with_reducible exact af5 ab ab) | (with_reducible exact af9 ab) | (with_reducible exact afx Z T) | (with_reducible exact afn ab ab) | (with_reducible exact (u_ ab ab ab).1) | (with_reducible exact app_1 Q) | (with_reducible exact Xo Q) | (with_reducible exact YS Q) | (with_reducible exact (congrArg Stable.floor (u_ ab ab ab).2).symm) | (with_reducible exact (congrArg Stable.term (u_ ab ab ab).2).symm) | (with_reducible exact (congrArg Stable.vote (u_ ab ab ab).2).symm) | (with_reducible exact (congrArg Stable.log (u_ ab ab ab).2).symm) | (rw [aeJ (d:=Dsk.mk g f h i p) ab ab] <;> rfl) | (rw [afc (d:=Dsk.mk g f h i p) ab ab ab ab] <;> rfl) | (rw [agG (d:=Dsk.mk g f h i p) ab ab ab ab ab] <;> rfl) | (rw [agI (d:=Dsk.mk g f h i p) ab ab ab ab ab ab] <;> rfl) | (rw [adU (d:=Dsk.mk g f h i p) ab ab ab ab ab ab] <;> rfl) | (rw [afI (d:=Dsk.mk g f h i p) (k:=‹Nat›) ab] <;> rfl) | exact rfl)
def afF:bH:=(aP 87 Au adO)
def lR:aw Tryz.prog (ak tyT) afF:=(ag NQ GY)
variable {l:List Entry}
def agC {x:Entry} (h:l[k]? = some x):l.take k++[x]=l.take (k+1):=(ai h).symm
def afC (h:(l.length:Int)<=k):l.take k=l:=List.take_of_length_le aI
def Jq (l:List Entry):List (Nat × LI):=[(3,{ σ:=Nat,F:=fun k=>([(3,one (.own 0)),(6,one (.fz (.nm .entry) (l))),(7,one (.int (l).length)),(8,one (.int k))],[.row 52 (.nm .entry) ((l.take k))]),J:=fun k=>k<=l.length,μ:=fun k=>(l).length - k })]
def BI:Kn:=aO al av fun _ _=>⟨[],[.agg (cellsOf (.nm .state) (State.mk 1 1 0 0 [] [] []))],none,false⟩
def SE:CK 46 BI:=ah fun _ _ _=>by
 refine ao lR [] Tryz.func46 (?_:(1:Int)=1/\(1:Int)=1/\(0:Int)=0/\(0:Int)=0 /\ @Eq (List (den (Sh.nm NT.sess))) [] [] /\ @Eq (List (den (Sh.nm NT.opn))) [] [] /\ @Eq (List (den (Sh.nm NT.snap))) [] []);exact ⟨rfl,rfl,rfl,rfl,rfl,rfl,rfl⟩
def xb:Kn:=aO (ae (kC (ba 0 0)) (ae (kC cI) (ae (kC cI) al))) rk fun (_,kd,a,_) n=>⟨[],[.agg (cellsOf (.nm .letter) (rA n.c kd a))],none,false⟩
def Je:CK 51 xb:=ah fun (_,kd,e,_) n _=>by
 refine ao lR [] Tryz.func51 (?_:(fun d=>I64 kd->I64 e->kd=d.kind/\n.c.me=d.frm/\e=d.to/\n.c.st.term=d.term/\0=d.a/\0=d.b/\0=d.c/\n.c.bin=d.bin/\false=d.ok/\d.l=[]) (rA n.c kd e));(repeat' with_reducible first|apply a_|refine aY ?_|intro)
 all_goals first | exact bq | rfl
def uj:Kn:=aO (ae (kC (cL (.nm .entry))) al) av fun (l,_) _=>⟨[],[.c (.fz (.nm .entry) ((l)))],none,false⟩
theorem Dl:CK 60 uj:=ah fun (l,_) _ _=>by
 refine ao lR (Jq l) Tryz.func60 (?_:(fun (a:Nat)=>l.length*32<=140737488355328->∃ (d:Nat),(l=l/\(↑l.length:Int)=(↑a:Int)/\0=(↑d:Int)/\List.take d l=[])/\d<=a/\∀ (s:Nat),s<=a->((↑s:Int)<(↑a:Int)->0<=(↑s:Int)/\(↑s:Int)<(↑l.length:Int)/\∀ (x:Entry),(fun (e:Prop)=>l[s]? = some x->I64 x.term->e->(e->((List.take s l).length+[x].length)*32<=140737488355328)/\(e->I64 ((↑s:Int)+1)/\∃ (c:Nat),(l=l/\(↑a:Int)=(↑a:Int)/\(↑s:Int)+1=(↑c:Int)/\List.take s l++[x]=List.take c l)/\c <= a/\a - c < a - s)) (x.b.length*1<=140737488355328))/\((↑a:Int)<=(↑s:Int)->List.take s l=l)) l.length);iterate 3 ((all_goals (repeat' with_reducible first|apply a_|refine aY ?_|intro)); (all_goals try (first | exact bq | exact rfl | exact (agC ab) | exact (afC ab) | (simp only [List.length_take,List.length_cons,List.length_nil]; omega))); all_goals try first | refine ⟨‹Nat› + 1,?_⟩ | refine ⟨0,?_⟩)
def Im:Kn:=aO (ae (kC (ba 0 0)) (ae (kC cI) al)) rk fun (_,k,_) n=>⟨[],[],some ((mW ({ n with d:=⟨n.d.b,n.d.synced,n.d.down,true,k⟩ }))),false⟩
def V_:CK 62 Im:=ah fun (_,k,_) n _=>by
 refine bA lR [] Tryz.func62 (?_:I64 k->n.c.me=n.c.me/\n.c.many=n.c.many/\n.c.bin=n.c.bin/\aD n.c.st n.c.st (n.c.role=n.c.role/\n.c.commit=n.c.commit/\n.c.applied=n.c.applied/\bJ n.c.s n.c.s (n.d.synced=n.d.synced/\n.d.down=n.d.down/\true=true/\k=k/\n.d.b=n.d.b/\n.rp=n.rp/\n.vs=n.vs/\n.bn=n.bn/\n.nx=n.nx/\n.mt=n.mt)));(repeat' with_reducible first|apply a_|refine aY ?_|intro)
 all_goals first | exact bq | rfl
def BY:Kn:=aO (ae (kC (ba 0 0)) (ae (kC cI) al)) rk fun (_,k,_) n=>⟨[n.d.OK],[],some ((mW ({ n with d:=n.d.ck k }))),false⟩
def N_:CK 30 BY:=ah fun (_,k,_) n e=>by
 have f:=cg e;refine bA lR [] Tryz.func30 (?_:(fun a=>I64 k->(0<=n.d.synced/\n.d.synced<=(↑n.d.b.length:Int)/\n.d.b.length<=65536)/\n.c.me=n.c.me/\n.c.many=n.c.many/\n.c.bin=n.c.bin/\aD n.c.st n.c.st (n.c.role=n.c.role/\n.c.commit=n.c.commit/\n.c.applied=n.c.applied/\bJ n.c.s n.c.s (a.synced=a.synced/\a.down=a.down/\a.doomed=a.doomed/\a.keep=a.keep/\a.b=a.b/\n.rp=n.rp/\n.vs=n.vs/\n.bn=n.bn/\n.nx=n.nx/\n.mt=n.mt))) (n.d.ck k));obtain ⟨g,h,i⟩:=id f;(repeat' with_reducible first|apply a_|refine aY ?_|intro)
 all_goals first | exact bq | rfl
def XI:bH:=(aP 30 BY (aP 62 Im (aP 60 uj (aP 51 xb (aP 46 BI afF)))))
def nK:aw Tryz.prog (ak tyT) XI:=(ag N_ (ag V_ (ag Dl (ag Je (ag SE lR)))))
variable {n:NdC}
def aeH (h:¬ (k:Int)=n.me):jV n k++[(k:Int)]=jV n (k+1):=by
 simp [jV,List.range_succ,h]
def aeI (h:(k:Int)=n.me):jV n k=jV n (k+1):=by
 simp [jV,List.range_succ,h]
def afY (a:k<=n.many.toNat) (h:n.many<=k):jV n k=cP n:=by
 unfold cP; congr 1; omega
def rB:(jV n k).length<=k:=by
 unfold jV;refine Nat.le_trans (List.length_filter_le _ _) ?_;simp
def QU (n:Nd):List (Nat × LI):=[(3,{ σ:=Nat,F:=fun k=>([(0,one (.ptr 0 0)),(3,one (.own 8)),(8,one (.int n.c.many)),(9,one (.int k))],(mW (n)++[.row 3 .int ((jV n.c k))])),J:=fun k=>k<=n.c.many.toNat,μ:=fun k=>n.c.many.toNat - k })]
def vv:Kn:=aO (ae (kC (cL .int)) al) av fun (l,_) _=>⟨[],[.c (.own 0)],some ([.row 3 .int ((l))]),true⟩
def wT:CK 75 vv:=ah fun (l,_) _ _=>by
 refine dF nK [] Tryz.func75 (?_:(fun a=>a->∀ (b:Bool),(b=true->l=[])->(b=true->l=[])/\(b=false->a/\l=l)) (l.length*8<=140737488355328));exact fun h b c=>⟨c,fun _=>⟨h,rfl⟩⟩
def Ke (l:List Int):Sat Tryz.prog (ak tyT) 75 [.c (.fz .int (l))] [] ⟨[],[.c (.own 0)],some ([.row 3 .int ((l))]),true⟩:=wT _ _ _ rfl aa
def Rf:Kn:=aO (ae (kT (.nm .letter)) al) av fun (x,_) _=>⟨[],[.agg (cellsOf (.nm .letter) (x))],none,false⟩
def abd:CK 59 Rf:=ah fun (x,_) _ _=>by
 refine ao nK [] Tryz.func59 (?_:aT x (x.l.length*32<=140737488355328->AI x x));(repeat' with_reducible first|apply a_|refine aY ?_|intro)
 all_goals first | exact bq | rfl
def wE:Kn:=aO (ae (kC (ba 0 0)) al) rk fun _ n=>⟨[n.c.many<=5],[.c (.fz .int ((cP n.c)))],none,false⟩
theorem IU:CK 50 wE:=ah fun _ n h=>by
 have i:=cg h;refine ao nK (QU n) Tryz.func50 (?_:(fun (a:Int)=>(fun (e:Nat)=>∃ (g:Nat),(a=a/\0=(↑g:Int)/\PJ n n (jV n.c g=[]))/\g<=e/\∀ (s:Nat),(fun (f:Int)=>s<=e->((↑s:Int)<a->(¬(↑s:Int)=n.c.me->((jV n.c s).length+[(↑s:Int)].length)*8<=140737488355328/\I64 f/\∃ (d:Nat),(a=a/\f=(↑d:Int)/\PJ n n (jV n.c s++[(↑s:Int)]=jV n.c d))/\d <= e/\e - d < e - s)/\((↑s:Int)=n.c.me->I64 f/\∃ (d:Nat),(a=a/\f=(↑d:Int)/\PJ n n (jV n.c s=jV n.c d))/\d <= e/\e - d < e - s))/\(a<=(↑s:Int)->jV n.c s=cP n.c)) ((↑s:Int)+1)) a.toNat) n.c.many);iterate 3 ((all_goals (repeat' with_reducible first|apply a_|refine aY ?_|intro)); (all_goals try (first | exact bq | exact rfl | exact (aeH ab) | exact (aeI ab) | exact (afY ab ab) | (have:=rB (n:=n.c) (k:=‹Nat›); simp only [List.length_cons,List.length_nil]; omega))); all_goals try first | refine ⟨‹Nat› + 1,?_⟩ | refine ⟨0,?_⟩)
def YW:bH:=(aP 50 wE (aP 59 Rf (aP 75 vv XI)))
def Sy:aw Tryz.prog (ak tyT) YW:=(ag IU (ag abd (ag wT nK)))
end Go.Proofs.YticbaadnibdbkaaGreat
namespace Go.Proofs.YticbaadnibdbkaaGreat
open Go.RowKit Go.Proofs Go.Shelf Go.Sort
def xF (w a:World) (l:List Int) (g:Nat) (b:List Value):Prop:=Kp [] w a/\w.heap.size<=g/\a.heap[g]? = some (.cells (List.toArray (l.map (Value.int .i64)++b)) 3 (0,0))
variable {w:World} {l:List Int}
theorem EC {G:Gl} {f:List RE} {v:Value} (u:G.shp=ak tyT) (q:Rep G f [] w) (x:Rd (cx G f w) f (.fz .int l) v) (H:l.length≠0) :
  jS Tryz.prog 75 #[v] w fun r s=>∃ g c k,r = .slice (some ⟨g,0,none⟩) l.length c/\xF w s l g k:=by
 have m:f=[]:=abb q.obj.length.symm;subst m;refine ((Ke l).2 G [] w [v] u q (.cons x .nil)).mono fun r s ⟨I,e,y,n,z,t,o,A⟩=>?_;have B:getO [AO.row 3 .int l] 0 = .row 3 .int l:=rfl;cases o with | cons a b=>?_
 cases b;rcases bE n B with ⟨_,j⟩ | ⟨g,c,p,k,j,C,D,J,K,F⟩
 ·grind
 rcases a with ⟨_,_,_,_,d,rfl⟩ | ⟨d,_⟩;case inr=>rw [j] at d; cases d
 rw [j] at d; cases d;obtain ⟨rfl,L⟩:=nt D;refine ⟨g,c,k,e,(A rfl).1,?_,C⟩;rcases Nat.lt_or_ge g w.heap.size with h | h
 ·exact absurd ⟨0,_,j,rfl⟩ (z.old g h (fun ⟨i,r,h,_⟩=>by simp at h)).1
 exact h
variable {sp:List Value} {w1:World}
def EE {g d:Nat} (h:xF w w1 l g sp) (j:l.length<=12) :
  Calls Tryz.prog 265 #[.slice (some ⟨g,0,none⟩) l.length d,.func (.func 266) #[] #[]] w1 fun e f=>e = .returned (.tuple #[])/\xF w f (oz l) g sp:=by
 obtain ⟨c,k,m⟩:=h;refine (Lt j m).mono fun e f ⟨n,a,o⟩=>⟨n,⟨a.os.trans c.os,a.tape.trans c.tape,a.output.trans c.output,Nat.le_trans c.size a.size,fun b i p=>?_⟩,k,o⟩;exact (a.block b (ac2 i c.size) (by simp; omega)).trans (c.block b i p)
def El {g i:Nat} (h:xF w w1 l g sp) (a:i<l.length):w1.cell? ⟨g,i,none⟩=some (.int .i64 (l.getD i 0)):=by
 rw [Lib.cell_of_heap h.2.2,List.getElem?_toArray,List.getElem?_append_left (by simpa using a),List.getElem?_map,List.getElem?_eq_getElem a,List.getD_eq_getElem?_getD,List.getElem?_eq_getElem a]; rfl
def Iw (l:List Int) (s:l.length<=12):Sat Tryz.prog (ak tyT) 228 [.c (.fz .int l)] [] ⟨[l.length<=12],[.c (.int (gK l))],none,false⟩:=by
 refine ⟨⟨_,Tryz.func228,am,by kernel_rfl⟩,fun G n w B t u d=>?_⟩;cases d with | cons j d=>?_
 cases d;have m:=EC (l:=l) t u j;replace j:Pd (cx G n w) (.fz .int l) _:=j;cases j with | fz C D F v H=>?_
 rename_i a k o;have x:=(nt v).2;by_cases p:l.length=0
 ·clear m;go_enter Tryz.func228,Tryz.ntmps228
  have q:(l.length:Int)=0:=by omega
  go_wp2
  go_ret
  refine ⟨_,rfl,[_],rfl,?_,?_⟩
  ·exact Kp.refl w
  refine .cons ?_ .nil;have e:gK l=0:=if_pos p;show Pd (cx G n w) (.int (gK l)) (.int .i64 0);rw [e]; exact .int ⟨am,am⟩
 replace m:=m p;go_enter Tryz.func228,Tryz.ntmps228
 have q:¬ (l.length:Int)=0:=by omega
 have I:(l.length:Int).tdiv 2=((l.length / 2:Nat):Int):=by rw [Int.tdiv_eq_ediv_of_nonneg aI]; omega
 have J:0<=(l.length:Int).tdiv 2:=by omega
 have K:(l.length:Int).tdiv 2<(l.length:Int):=by omega
 have L:I64 ((l.length:Int).tdiv 2):=bw aI aI;go_wp2_with (first | (go_at_call 75; refine alJ m ?_; rintro e w1 ⟨_,rfl,g,y,sp,rfl,r⟩) | (go_at_call 265; refine alJ (EE r s) ?_; rintro e z ⟨rfl,f⟩; have A:=El (i:=l.length / 2) f (by rw [pB]; omega)))
 go_ret
 refine ⟨_,rfl,[_],rfl,f.1,.cons ?_ .nil⟩;have e:gK l=(oz l).getD (l.length / 2) 0:=if_neg p;show Pd (cx G n z) (.int (gK l)) (.int .i64 ((oz l).getD (l.length / 2) 0));rw [e];refine .int (x _ ((List.mergeSort_perm l (fun a b=>decide (b<=a))).mem_iff.1 (show _ ∈ oz l from ?_)));have h:l.length / 2<(oz l).length:=by rw [pB]; omega
 rw [List.getD_eq_getElem?_getD,List.getElem?_eq_getElem h];exact aha h
end Go.Proofs.YticbaadnibdbkaaGreat
namespace Go.Proofs.YticbaadnibdbkaaGreat
open Go.RowKit
def Mu (l:List Int) (a:l.length<=12):Sat Tryz.prog (ak tyT) 228 [.c (.fz .int (l))] [] ⟨[l.length<=12],[.c (.int ((gK l)))],none,false⟩:=Iw l a
def Dc:Kn:=aO (ae (kC (cL .int)) al) av fun (l,_) _=>⟨[l.length<=12],[.c (.int ((gK l)))],none,false⟩
def Py:CK 228 Dc:=ah fun (l,_) _ a=>Mu l (cg a)
def ZA:bH:=(aP 228 Dc YW)
def tu:aw Tryz.prog (ak tyT) ZA:=(ag Py Sy)
def gH {d:Dsk} {s:Stable} {l:List Record} (h:¬ (saveF d s l).2.2=0):(saveF d s l).2.1=s:=by
 revert h;unfold saveF;repeat' split
 all_goals first | (intro _; rfl) | (intro h; exact absurd rfl h)
def wm:Kn:=aO (ae (kT (.nm .stable)) (ae (kC (cL .int)) (ae (kC cI) al))) av fun (s,l,k,_) _=>⟨[l.length<=12],[.c (.int ((mh s l k)))],none,false⟩
def JR:CK 173 wm:=ah fun (s,l,k,_) _ b=>by
 have c:=cg b;refine ao tu [] Tryz.func173 (?_:(fun a=>bS s (l.length*8<=140737488355328->I64 k->l.length<=12/\(I64 (gK l)->(k<a->I64 (cX s.log a))->(k<a/\cX s.log a=s.term->a=mh s l k)/\(a<=k\/¬cX s.log a=s.term->k=mh s l k)))) (min (gK l) (↑s.log.length:Int)));(repeat' with_reducible first|apply a_|refine aY ?_|intro)
 all_goals (first | exact bq | (rw [mh,if_pos ⟨ab,ab⟩]) | (rw [mh,if_neg aI]))
def Fa:Kn:=aO (ae (kC (ba 0 0)) (ae (kC (cL (.nm .record))) al)) rk fun (_,l,_) n=>⟨[n.d.OK,n.c.st.log.length<=10000,l.length<=1000],[.c (.int ((n.aR l)))],some ((mW ((n.save l)))),false⟩
def UD:CK 47 Fa:=ah fun (_,l,_) n e=>by
 have f:=cg e;have g:=cg (eW e);have h:=cg (eW (eW e));refine bA tu [] Tryz.func47 (?_:(fun a=>l.length*48<=140737488355328->((0<=n.d.synced/\n.d.synced<=(↑n.d.b.length:Int)/\n.d.b.length<=65536)/\n.c.st.log.length<=10000/\l.length<=1000)/\bS a.snd.fst (I64 a.snd.snd->(¬a.snd.snd=0->a.snd.snd=n.aR l/\bZ (Nd.mk n.c a.fst n.rp n.vs n.bn n.nx n.mt) (n.save l))/\(a.snd.snd=0->0=n.aR l/\bZ (Nd.mk (NdC.mk n.c.me n.c.many n.c.bin a.snd.fst n.c.role n.c.commit n.c.applied n.c.s) a.fst n.rp n.vs n.bn n.nx n.mt) (n.save l)))) (saveF n.d n.c.st l));obtain ⟨i,j,k⟩:=id f;(repeat' with_reducible first|apply a_|refine aY ?_|intro)
 all_goals (first | exact bq | exact rfl | exact (Eq.symm ab) | exact (congrArg Stable.floor (gH ab)).symm | exact (congrArg Stable.term (gH ab)).symm | exact (congrArg Stable.vote (gH ab)).symm | exact (congrArg Stable.log (gH ab)).symm)
def Zy:bH:=(aP 47 Fa (aP 173 wm ZA))
def jm:aw Tryz.prog (ak tyT) Zy:=(ag UD (ag JR tu))
structure AJ (n q:Nd):Prop where
 eq:n.apply=q.apply
 le:0<=q.c.applied/\q.c.commit<=(q.c.st.log.length:Int)/\(q.rp.length:Int)<=q.c.applied/\q.c.st.log.length<=10000
def Nd.ap1 (q:Nd):Nd:={ q with c:={ q.c with s:=plS q.c.bin q.c.s ((q.c.st.log.drop q.c.applied.toNat).take ((q.c.applied+1).toNat - q.c.applied.toNat)),applied:=q.c.applied+1 },rp:=q.rp++plR q.c.bin q.c.s ((q.c.st.log.drop q.c.applied.toNat).take ((q.c.applied+1).toNat - q.c.applied.toNat)) }
section
variable {n q:Nd}
def ajT (h:(0<=n.c.applied/\n.c.commit<=(n.c.st.log.length:Int))/\(n.rp.length:Int)<=n.c.applied/\n.c.st.log.length<=10000):AJ n n:=⟨rfl,aI⟩
def Vv (h:AJ n q):(q.c.applied+1).toNat - q.c.applied.toNat=1:=by have:=h.le; omega
def Rb (h:AJ n q):(plR q.c.bin q.c.s ((q.c.st.log.drop q.c.applied.toNat).take ((q.c.applied+1).toNat - q.c.applied.toNat))).length<=1:=by
 rw [Vv h,plR,DY,List.length_take,List.length_take]; omega
theorem ajg (h:AJ n q) (d:q.c.applied<q.c.commit) (a:pE q.c.bin ((q.c.st.log.drop q.c.applied.toNat).take ((q.c.applied+1).toNat - q.c.applied.toNat))=0):AJ n q.ap1:=by
 have b:=h.le;have e:=Rb h;refine ⟨?_,?_,b.2.1,?_,b.2.2.2⟩
 ·rw [h.eq,Nd.apply,show (q.c.commit - q.c.applied).toNat=(q.c.commit - (q.c.applied+1)).toNat+1 by omega,Nd.dx,if_pos d];rw [Vv h] at a;rw [if_pos a,Nd.apply,Nd.ap1,Vv h]
 ·show 0<=q.c.applied+1;omega
 show (((q.rp++_).length:Nat):Int)<=q.c.applied+1;grind
def ah8 (a:q.c.applied<q.c.commit):(q.c.commit - (q.c.applied+1)).toNat<(q.c.commit - q.c.applied).toNat:=by omega
def ah4 (h:AJ n q) (b:q.c.applied<q.c.commit) (a:¬ pE q.c.bin ((q.c.st.log.drop q.c.applied.toNat).take ((q.c.applied+1).toNat - q.c.applied.toNat))=0):n.apply=q:=by
 rw [Vv h] at a;rw [h.eq,Nd.apply,show (q.c.commit - q.c.applied).toNat=(q.c.commit - (q.c.applied+1)).toNat+1 by omega,Nd.dx,if_pos b,if_neg a]
def aiz (h:AJ n q) (a:q.c.commit<=q.c.applied):n.apply=q:=by
 rw [h.eq,Nd.apply,show (q.c.commit - q.c.applied).toNat=0 by omega,Nd.dx]
def ahI (h:AJ n q):0<=q.c.applied:=h.le.1
def ahT (h:AJ n q) (a:q.c.applied<q.c.commit):q.c.applied+1<=(q.c.st.log.length:Int):=by have:=h.le; omega
def ahY (h:AJ n q) (a:q.c.applied<q.c.commit):I64 (q.c.applied+1):=by have:=h.le; exact bw aI aI
def ajn (h:AJ n q) (a:q.c.applied<q.c.commit):(q.rp.length+(plR q.c.bin q.c.s ((q.c.st.log.drop q.c.applied.toNat).take ((q.c.applied+1).toNat - q.c.applied.toNat))).length)*16<=140737488355328:=by
 have:=h.le; have:=Rb h; omega
end
def fC (n:Nd):Site:=if n.d.down=true then ⟨false,0,0,0,0,0,0,0,[],⟨0,0,0,0,[],[],[]⟩⟩ else ⟨true,n.c.role,n.c.bin,n.c.st.floor,n.c.st.term,n.c.st.vote,n.c.commit,n.c.applied,n.c.st.log,n.c.s⟩
variable {n:Nd}
def abq (h:n.d.down=true):fC n=⟨false,0,0,0,0,0,0,0,[],⟨0,0,0,0,[],[],[]⟩⟩:=if_pos h
def EG (h:n.d.down=false):fC n=⟨true,n.c.role,n.c.bin,n.c.st.floor,n.c.st.term,n.c.st.vote,n.c.commit,n.c.applied,n.c.st.log,n.c.s⟩:=if_neg (by rw [h]; decide)
theorem lD {s:Stable} {r:Route} (h:¬ (gI s r).2=0):(gI s r).1=cr:=by
 revert h;unfold gI;grind
section
variable {n:Nd} {k t:Int}
def ai_ (h:n.d.down=true):iz n k t=(⟨0,0⟩,30):=if_pos h
def ais (h:n.d.down=false) (a:(k<1\/n.c.applied<k)\/¬ (n.c.st.log.getD (k - 1).toNat (aj (Sh.nm NT.entry))).term=t):iz n k t=(⟨0,0⟩,15):=by
 rw [iz,if_neg (by rw [h]; decide)]; exact if_pos a
def akl (h:n.d.down=false) (b:1<=k) (e:k<=n.c.applied) (a:(n.c.st.log.getD (k - 1).toNat (aj (Sh.nm NT.entry))).term=t):iz n k t=(n.rp.getD (k - 1).toNat ⟨0,0⟩,0):=by
 rw [iz,if_neg (by rw [h]; decide)]; exact if_neg (by rintro ((h4 | h4) | h4) <;> first | omega | exact h4 a)
end
def Tf (n:Nd):List (Nat × LI):=[(0,{ σ:=Nd,F:=fun q=>([(0,one (.ptr 0 0))],(mW (q))),J:=fun q=>AJ n q,μ:=fun q=>(q.c.commit - q.c.applied).toNat })]
def vM:Kn:=aO (ae (kC (ba 0 0)) (ae (kC cI) al)) rk fun (_,k,_) n=>⟨[0<=k/\k<(n.nx.length:Int)],[.agg (cellsOf (.nm .letter) ((jt n k).1)),.c (.int (((jt n k).2)))],none,false⟩
def JM:CK 71 vM:=ah fun (_,k,_) n g=>by
 have h:=cg g;refine ao jm [] Tryz.func71 (?_:(fun d=>(fun e=>(fun f=>I64 k->(d<=k/\k<(↑n.nx.length:Int))/\(I64 (n.nx.getD k.toNat (aj Sh.int))->aT f.fst (I64 f.snd->(¬f.snd=d->d=e.kind/\d=e.frm/\d=e.to/\d=e.term/\d=e.a/\d=e.b/\d=e.c/\d=e.bin/\false=e.ok/\e.l=[]/\f.snd=(jt n k).snd)/\(f.snd=d->aT f.fst (iK f.fst e (d=(jt n k).snd)))))) (gI n.c.st (Route.mk n.c.me k (n.nx.getD k.toNat (aj Sh.int)) n.c.commit n.c.bin))) (jt n k).fst) (0:Int));(repeat' with_reducible first|apply a_|refine aY ?_|intro)
 all_goals (first | exact bq | exact rfl | exact (congrArg Letter.kind (lD ap)).symm | exact (congrArg Letter.frm (lD ap)).symm | exact (congrArg Letter.to (lD ap)).symm | exact (congrArg Letter.term (lD ap)).symm | exact (congrArg Letter.a (lD ap)).symm | exact (congrArg Letter.b (lD ap)).symm | exact (congrArg Letter.c (lD ap)).symm | exact (congrArg Letter.bin (lD ap)).symm | exact (congrArg Letter.ok (lD ap)).symm | exact (congrArg Letter.l (lD ap)).symm | exact (Eq.symm ap) | exact (congrArg Letter.l (lD ap)))
def Hc:Kn:=aO (ae (kC (ba 0 0)) al) rk fun _ n=>⟨[],[.agg (cellsOf (.nm .site) (fC n))],none,false⟩
def UY:CK 17 Hc:=ah fun _ n _=>by
 refine ao jm [] Tryz.func17 (?_:(fun a=>(fun b=>(fun e=>(n.d.down=true->false=b.up/\a=b.role/\a=b.binary/\a=b.floor/\a=b.term/\a=b.vote/\a=b.commit/\a=b.applied/\b.log=[]/\a=e.version/\a=e.next/\a=e.keep/\a=e.quota/\e.sess=[]/\e.opens=[]/\e.snaps=[])/\(n.d.down=false->n.c.st.log.length*32<=140737488355328->I64 n.c.s.version->I64 n.c.s.next->I64 n.c.s.keep->I64 n.c.s.quota->adm (Site.mk true n.c.role n.c.bin n.c.st.floor n.c.st.term n.c.st.vote n.c.commit n.c.applied n.c.st.log n.c.s) b)) b.state) (fC n)) (0:Int));(repeat' with_reducible first|apply a_|refine aY ?_|intro)
 all_goals (first | exact bq | (rw [abq (n:=n) ab] <;> rfl) | (rw [EG (n:=n) ab] <;> rfl))
def AF:Kn:=aO (ae (kC (ba 0 0)) (ae (kC cI) (ae (kC cI) al))) rk fun (_,k,t,_) n=>⟨[n.c.applied<=n.c.st.log.length,n.c.applied<=n.rp.length],[.agg (cellsOf (.nm .reply) ((iz n k t).1)),.c (.int (((iz n k t).2)))],none,false⟩
theorem Pv:CK 29 AF:=ah fun (_,k,t,_) n j=>by
 have m:=cg j;have o:=cg (eW j);refine ao jm [] Tryz.func29 (?_:(fun l=>(fun f=>(fun i=>(fun a=>(fun e=>(fun g=>(fun h=>I64 k->I64 t->(n.d.down=true->f=a.fst.code/\f=a.fst.n/\30=a.snd)/\(n.d.down=false->(i->I64 e/\f<=e/\e<(↑l.length:Int))/\((i->I64 g.term/\g.b.length*1<=140737488355328)->((k<1\/n.c.applied<k)\/¬g.term=t->f=a.fst.code/\f=a.fst.n/\15=a.snd)/\(i/\g.term=t->I64 e/\f<=e/\e<(↑n.rp.length:Int)/\(I64 h.code->I64 h.n->h.code=a.fst.code/\h.n=a.fst.n/\f=a.snd))))) (n.rp.getD e.toNat (aj (Sh.nm NT.reply)))) (l.getD e.toNat (aj (Sh.nm NT.entry)))) (k - 1)) (iz n k t)) (1<=k/\k<=n.c.applied)) (0:Int)) n.c.st.log);(repeat' with_reducible first|apply a_|refine aY ?_|intro)
 all_goals (first | exact bq | (exact bw aI (by have q:=(by with_reducible assumption:I64 k).2; omega)) | (rw [ai_ (n:=n) ab] <;> rfl) | (rw [ais (n:=n) ab ab] <;> rfl) | (rw [akl (n:=n) ab ab ab ab] <;> rfl))
def HL:Kn:=aO (ae (kC (ba 0 0)) al) rk fun _ n=>⟨[n.d.OK],[.c (.fz .u8 ((n.d.b)))],none,false⟩
def To:CK 20 HL:=ah fun _ n a=>by
 have c:=cg a;refine ao jm [] Tryz.func20 (?_:(0<=n.d.synced/\n.d.synced<=(↑n.d.b.length:Int)/\n.d.b.length<=65536)/\n.d.b=n.d.b);obtain ⟨e,f,g⟩:=id c;(repeat' with_reducible first|apply a_|refine aY ?_|intro)
 all_goals (first | exact bq | exact rfl)
def Bt:Kn:=aO (ae (kC (ba 0 0)) al) rk fun _ n=>⟨[(0<=n.c.applied/\n.c.commit<=(n.c.st.log.length:Int))/\(n.rp.length:Int)<=n.c.applied/\n.c.st.log.length<=10000],[],some ((mW ((n.apply)))),false⟩
theorem RX:CK 99 Bt:=ah fun _ n l=>by
 have j:=cg l;refine bA jm (Tf n) Tryz.func99 (?_:(fun m=>∃ k,bZ n k/\AJ n k/\∀ (s:Nd),(fun a=>(fun e=>(fun b=>(fun f=>(fun g=>(fun h=>AJ n s->(b<a.commit->I64 f/\(0<=b/\b<=f/\f<=(↑a.st.log.length:Int))/\(I64 h.version->I64 h.next->I64 h.keep->I64 h.quota->I64 (pE e g)->(¬pE e g=0->bZ s n.apply)/\(pE e g=0->(s.rp.length+(plR e a.s g).length)*16<=140737488355328/\I64 f/\∃ i,bZ (Nd.mk (NdC.mk a.me a.many e a.st a.role a.commit f h) s.d (s.rp++plR e a.s g) s.vs s.bn s.nx s.mt) i /\ AJ n i /\ (i.c.commit - i.c.applied).toNat<(a.commit - b).toNat)))/\(a.commit<=b->bZ s n.apply)) (plS e a.s g)) (List.take (f.toNat - b.toNat) (List.drop b.toNat a.st.log))) (b+m)) a.applied) a.bin) s.c) (1:Int));obtain ⟨o,p⟩:=id j;(repeat' with_reducible first|apply a_|refine aY ?_|intro)
 all_goals try ( refine ⟨n,?_⟩; (repeat' with_reducible first|apply a_|refine aY ?_|intro))
 all_goals try ( refine ⟨(‹Nd›).ap1,?_⟩; (repeat' with_reducible first|apply a_|refine aY ?_|intro))
 all_goals (first | exact bq | exact rfl | exact (ajT (n:=n) j) | exact ahI ab | exact (ahT ab ab) | exact (ahY ab ab) | exact (ajn ab ab) | exact (ah8 ab) | exact (ajg ab ab ab) | (rw [ah4 ab ab ab] <;> rfl) | (rw [aiz ab ab] <;> rfl))
def Za:bH:=(aP 99 Bt (aP 20 HL (aP 29 AF (aP 17 Hc (aP 71 vM Zy)))))
def od:aw Tryz.prog (ak tyT) Za:=(ag RX (ag To (ag Pv (ag UY (ag JM jm)))))
section
variable {n:Nd} {l:List Int} {x:Int} {k:Nat}
theorem aa9:∀ {l:List Int},(ct n l).2=0->ct n (l++[x])=if (jt n x).2=0 then ((ct n l).1++[(jt n x).1],0) else ([],(jt n x).2)
 | [],_=>by
  by_cases h:(jt n x).2=0
  ·rw [if_pos h]; simp [ct,h]
  rw [if_neg h]; simp [ct,h]
 | t :: l,h=>by
  unfold ct at h;split at h
  ·rename_i a;split at h
   ·rename_i b;rw [List.cons_append,ct,if_pos a,aa9 b];by_cases c:(jt n x).2=0
    ·rw [if_pos c,if_pos c,if_pos rfl,ct,if_pos a,if_pos b]; rfl
    grind
   grind
  grind
theorem agV:∀ {l m:List Int},¬ (ct n l).2=0->ct n (l++m)=([],(ct n l).2)
 | t :: l,m,h=>by
  unfold ct at h ⊢;rw [List.cons_append];dsimp only;split at h
  ·rename_i b;split at h
   ·grind
   rename_i a;rw [if_neg a,agV a,if_neg a,if_pos b]
  grind
theorem LG:∀ {l:List Int},(ct n l).1.length<=l.length
 | []=>Nat.le_refl _
 | t :: l=>by
  have:=LG (l:=l);unfold ct;grind
def aj3 (h:n.d.down=true):bD n=([],30):=if_pos h
def ah6 (h:n.d.down=false) (a:¬ n.c.role=2):bD n=([],33):=by
 rw [bD,if_neg (by rw [h]; decide),if_neg a]
def af_ (h:n.d.down=false) (a:n.c.role=2):bD n=ct n (cP n.c):=by
 rw [bD,if_neg (by rw [h]; decide),if_pos a]
def akz (h:n.d.down=false) (f:n.c.role=2) (g:(ct n ((cP n.c).take k)).2=0) (i:(cP n.c)[k]? = some x) (b:¬ (jt n x).2=0):bD n=([],(jt n x).2):=by
 have e:cP n.c=(cP n.c).take k++[x]++(cP n.c).drop (k+1):=by
  rw [<- ai i,List.take_append_drop]
 have a:=aa9 (x:=x) g;rw [if_neg b] at a;rw [af_ h f,e,agV (by rw [a]; exact b),a]
theorem alk (h:n.d.down=false) (a:n.c.role=2) (b:(ct n ((cP n.c).take k)).2=0) (e:((cP n.c).length:Int)<=k):bD n=((ct n ((cP n.c).take k)).1,0):=by
 rw [af_ h a,List.take_of_length_le aI] at *;grind
def ad5 (a:(ct n ((cP n.c).take k)).2=0) (b:(cP n.c)[k]? = some x) (d:(jt n x).2=0):(ct n ((cP n.c).take k)).1++[(jt n x).1]=(ct n ((cP n.c).take (k+1))).1/\(ct n ((cP n.c).take (k+1))).2=0:=by
 rw [ai b,aa9 a,if_pos d]; exact ⟨rfl,rfl⟩
theorem ahE {y:Letter} (a:n.c.many<=5):((ct n ((cP n.c).take k)).1.length+[y].length)*96<=140737488355328:=by
 have b:=LG (n:=n) (l:=(cP n.c).take k);have d:(cP n.c).length<=n.c.many.toNat:=rB;grind
def Xx {n:NdC} (a:(cP n)[k]? = some x):x≠n.me/\0<=x/\x<n.many:=xv (List.mem_iff_getElem?.2 ⟨k,a⟩)
def ajb (h:n.c.role=0\/(n.nx.length:Int)=n.c.many) (b:n.c.role=2) (a:(cP n.c)[k]? = some x):x<(n.nx.length:Int):=by
 have:=Xx a; omega
end
section
variable {n:Nd} {c:Command}
def mj {b:Bool} (h:b=false):¬ b=true:=by rw [h]; decide
def ai0 (h:n.d.down=true):cE n c=⟨n,0,0,30⟩:=if_pos h
def aiy (h:n.d.down=false) (a:¬ n.c.role=2):cE n c=⟨n,0,0,33⟩:=by rw [cE,if_neg (mj h),if_pos a]
def ak2 (h:n.d.down=false) (b:n.c.role=2) (a:¬ bQ c n.c.s.version=0):cE n c=⟨n,0,0,bQ c n.c.s.version⟩:=by rw [cE,if_neg (mj h),if_neg aI,if_pos a]
variable (h:n.d.down=false) (h1:n.c.role=2) (h2:bQ c n.c.s.version=0)
include h h1 h2
def ajX (a:c.kind=8) (b:¬ c.n=n.c.s.version+1):cE n c=⟨n,0,0,1⟩:=by rw [cE,if_neg (mj h),if_neg aI,if_neg aI,if_pos ⟨a,b⟩]
def akW (d:¬ c.kind=8\/c.n=n.c.s.version+1) (a:c.kind=8) (b:lI n.c.s.version n.bn=false):cE n c=⟨n,0,0,34⟩:=by rw [cE,if_neg (mj h),if_neg aI,if_neg aI,if_neg aI,if_pos ⟨a,b⟩]
variable (h3:¬ c.kind=8\/c.n=n.c.s.version+1) (h4:¬ c.kind=8\/lI n.c.s.version n.bn=true)
include h3 h4
theorem Va:cE n c=if 64<(n.c.st.log.length:Int)+1 then ⟨n,0,0,20⟩ else if ¬ (ey c n.c.st.term n.c.s.version).2=0 then ⟨n,0,0,(ey c n.c.st.term n.c.s.version).2⟩
 else let l:=[⟨3,(n.c.st.log.length:Int)+1,(ey c n.c.st.term n.c.s.version).1.term,(ey c n.c.st.term n.c.s.version).1.b⟩]
  if n.aR l=0 then ⟨n.save l,(n.c.st.log.length:Int)+1,n.c.st.term,0⟩ else ⟨n.save l,0,0,n.aR l⟩:=by
 rw [cE,if_neg (mj h),if_neg aI,if_neg aI,if_neg aI,if_neg];grind
def aj8 (a:64<(n.c.st.log.length:Int)+1):cE n c=⟨n,0,0,20⟩:=by rw [Va h h1 h2 h3 h4,if_pos a]
variable (h5:(n.c.st.log.length:Int)+1<=64)
include h5
def aj0 (a:¬ (ey c n.c.st.term n.c.s.version).2=0):cE n c=⟨n,0,0,(ey c n.c.st.term n.c.s.version).2⟩:=by rw [Va h h1 h2 h3 h4,if_neg aI,if_pos a]
def akJ (d:(ey c n.c.st.term n.c.s.version).2=0) (a:¬ n.aR [⟨3,(n.c.st.log.length:Int)+1,(ey c n.c.st.term n.c.s.version).1.term,(ey c n.c.st.term n.c.s.version).1.b⟩]=0):cE n c=⟨n.save [⟨3,(n.c.st.log.length:Int)+1,(ey c n.c.st.term n.c.s.version).1.term,(ey c n.c.st.term n.c.s.version).1.b⟩],0,0,n.aR [⟨3,(n.c.st.log.length:Int)+1,(ey c n.c.st.term n.c.s.version).1.term,(ey c n.c.st.term n.c.s.version).1.b⟩]⟩:=by rw [Va h h1 h2 h3 h4,if_neg aI,if_neg aI]; exact if_neg a
def ak7 (d:(ey c n.c.st.term n.c.s.version).2=0) (a:n.aR [⟨3,(n.c.st.log.length:Int)+1,(ey c n.c.st.term n.c.s.version).1.term,(ey c n.c.st.term n.c.s.version).1.b⟩]=0):cE n c=⟨n.save [⟨3,(n.c.st.log.length:Int)+1,(ey c n.c.st.term n.c.s.version).1.term,(ey c n.c.st.term n.c.s.version).1.b⟩],(n.c.st.log.length:Int)+1,n.c.st.term,0⟩:=by rw [Va h h1 h2 h3 h4,if_neg aI,if_neg aI]; exact if_pos a
end
section
variable {n:Nd} {x:Letter}
def ai1 (h:¬ (aQ n.c.st x).2.2=0):cS n x=⟨n,[],(aQ n.c.st x).2.2⟩:=if_pos h
def akU (h:(aQ n.c.st x).2.2=0) (a:¬ n.aR (aQ n.c.st x).1=0):cS n x=⟨n.save (aQ n.c.st x).1,[],n.aR (aQ n.c.st x).1⟩:=by rw [cS,if_neg aI,if_pos a]
def aiI (h:(aQ n.c.st x).2.2=0) (a:n.aR (aQ n.c.st x).1=0):cS n x=⟨n.save (aQ n.c.st x).1,[{ rA (n.save (aQ n.c.st x).1).c 2 x.frm with ok:=(aQ n.c.st x).2.1 }],0⟩:=by rw [cS,if_neg aI,if_neg aI]
theorem Xe {s:Stable}:(aQ s x).1.length<=1000:=by
 have h:=fY (s:=s) (t:=x.term);unfold aQ;grind
end
def ac7 (n:Nd):List (Nat × LI):=[(7,{ σ:=Nat,F:=fun k=>([(0,one (.ptr 0 0)),(4,one (.own 8)),(21,one (.fz .int (cP n.c))),(22,one (.int (cP n.c).length)),(23,one (.int k))],(mW (n)++[.row 40 (.nm .letter) (((ct n ((cP n.c).take k)).1))])),J:=fun k=>k<=(cP n.c).length/\(ct n ((cP n.c).take k)).2=0,μ:=fun k=>(cP n.c).length - k })]
def Hu:Kn:=aO (ae (kC (ba 0 0)) al) rk fun _ n=>⟨[n.c.many<=5,n.c.role=0\/(n.nx.length:Int)=n.c.many],[.c (.fz (.nm .letter) (((bD n).1))),.c (.int (((bD n).2)))],none,false⟩
theorem VY:CK 31 Hu:=ah fun _ n k=>by
 have l:=cg k;have m:=cg (eW k);refine ao od (ac7 n) Tryz.func31 (?_:(fun (i:Prop)=>(fun (e:Int)=>(fun (a:List Int)=>(fun (b:Nat)=>(n.d.down=true->i/\30=(bD n).snd)/\(n.d.down=false->(¬n.c.role=2->i/\33=(bD n).snd)/\(n.c.role=2->n.c.many<=5/\(a.length*8<=140737488355328->∃ (g:Nat),(a=a/\(↑a.length:Int)=(↑b:Int)/\e=(↑g:Int)/\PJ n n ((ct n (List.take g a)).fst=[]))/\(g<=b/\(ct n (List.take g a)).snd=e)/\∀ (s:Nat),(fun (j:List Letter)=>s<=b/\(ct n (List.take s a)).snd=e->((↑s:Int)<(↑b:Int)->e<=(↑s:Int)/\(↑s:Int)<(↑a.length:Int)/\∀ (x:Int),(fun (h:Int)=>a[s]? = some x->I64 x->(e<=x/\x<(↑n.nx.length:Int))/\aT (jt n x).fst (I64 h->(¬h=e->i/\h=(bD n).snd)/\(h=e->(j.length+[(jt n x).fst].length)*96<=140737488355328/\I64 ((↑s:Int)+1)/\∃ (f:Nat),(a=a/\(↑b:Int)=(↑b:Int)/\(↑s:Int)+1=(↑f:Int)/\PJ n n (j++[(jt n x).fst]=(ct n (List.take f a)).fst))/\(f <= b/\(ct n (List.take f a)).snd=e)/\b - f < b - s))) (jt n x).snd)/\((↑b:Int)<=(↑s:Int)->j=(bD n).fst/\e=(bD n).snd)) (ct n (List.take s a)).fst)))) a.length) (cP n.c)) 0) ((bD n).fst=[]));iterate 3 ((all_goals (repeat' with_reducible first|apply a_|refine aY ?_|intro)); (all_goals try (first | exact bq | exact rfl | exact (ad5 ab ab ab).1 | exact (ad5 ab ab ab).2 | exact (ahE l) | exact (Xx ab).2.1 | exact (ajb m ab ab) | (rw [aj3 (n:=n) ab] <;> rfl) | (rw [ah6 (n:=n) ab ab] <;> rfl) | (rw [akz (n:=n) ab ab ab ab ab] <;> rfl) | (rw [alk (n:=n) ab ab ab ab] <;> rfl))); all_goals try first | refine ⟨‹Nat› + 1,?_⟩ | refine ⟨0,?_⟩)
def HI:Kn:=aO (ae (kC (ba 0 0)) (ae (kT (.nm .command)) al)) rk fun (_,c,_) n=>⟨[NdOK n],[.c (.int (((cE n c).a))),.c (.int (((cE n c).b))),.c (.int (((cE n c).e)))],some ((mW ((cE n c).n))),false⟩
theorem WL:CK 15 HI:=ah fun (_,c,_) n t=>by
 have r:=cg t;refine bA od [] Tryz.func15 (?_:(fun o=>(fun j=>(fun q=>(fun p=>(fun h=>(fun i=>(fun f=>(fun g=>(fun k=>(fun l=>(fun m=>bB c ((n.d.down=true->l/\k/\30=f.e/\g)/\(n.d.down=false->(¬n.c.role=2->l/\k/\33=f.e/\g)/\(n.c.role=2->I64 (bQ c j)->(¬bQ c j=h->l/\k/\bQ c j=f.e/\g)/\(bQ c j=h->(o->I64 q)/\(o/\¬c.n=q->l/\k/\1=f.e/\g)/\(¬o\/c.n=q->(o/\lI j n.bn=false->l/\k/\34=f.e/\g)/\(¬o\/lI j n.bn=true->I64 p/\(64<p->l/\k/\20=f.e/\g)/\(p<=64->I64 i.fst.term->i.fst.b.length*1<=140737488355328->I64 i.snd->(¬i.snd=h->l/\k/\i.snd=f.e/\g)/\(i.snd=h->(h<=n.d.synced/\n.d.synced<=(↑n.d.b.length:Int)/\n.d.b.length<=65536)/\n.c.st.log.length<=10000/\m.length<=1000/\(I64 (n.aR m)->(¬n.aR m=h->l/\k/\n.aR m=f.e/\bZ (n.save m) f.n)/\(n.aR m=h->p=f.a/\n.c.st.term=f.b/\h=f.e/\bZ (n.save m) f.n))))))))))) [Record.mk 3 p i.fst.term i.fst.b]) (h=f.a)) (h=f.b)) (bZ n f.n)) (cE n c)) (ey c n.c.st.term j)) (0:Int)) ((↑n.c.st.log.length:Int)+1)) (j+1)) n.c.s.version) (c.kind=8));obtain ⟨u,v,w⟩:=id r.d;have x:=r.log;(repeat' with_reducible first|apply a_|refine aY ?_|intro)
 all_goals (first | exact bq | (simp only [List.length_cons,List.length_nil]; omega) | (have i:=(Vu (by with_reducible assumption:bQ c n.c.s.version=0)).1; exact bw aI aI) | (rw [ai0 (n:=n) ab] <;> rfl) | (rw [aiy (n:=n) ab ab] <;> rfl) | (rw [ak2 (n:=n) ab ab ab] <;> rfl) | (rw [ajX (n:=n) ab ab ab ab ab] <;> rfl) | (rw [akW (n:=n) ab ab ab ab ab ab] <;> rfl) | (rw [aj8 (n:=n) ab ab ab ab ab ab] <;> rfl) | (rw [aj0 (n:=n) ab ab ab ab ab ab ab] <;> rfl) | (rw [akJ (n:=n) ab ab ab ab ab ab ab ab] <;> rfl) | (rw [ak7 (n:=n) ab ab ab ab ab ab ab ab] <;> rfl))
def CD:Kn:=aO (ae (kC (ba 0 0)) (ae (kT (.nm .letter)) al)) rk fun (_,x,_) n=>⟨[NdOK n],[.c (.fz (.nm .letter) (((cS n x).l))),.c (.int (((cS n x).e)))],some ((mW ((cS n x).n))),false⟩
def Om:CK 56 CD:=ah fun (_,x,_) n m=>by
 have k:=cg m;refine bA od [] Tryz.func56 (?_:(fun i=>(fun h=>(fun f=>(fun j=>(fun g=>aT x (f.fst.length*48<=140737488355328->I64 f.snd.snd->(¬f.snd.snd=i->h.l=[]/\f.snd.snd=h.e/\bZ n h.n)/\(f.snd.snd=i->(i<=n.d.synced/\n.d.synced<=(↑n.d.b.length:Int)/\n.d.b.length<=65536)/\n.c.st.log.length<=10000/\f.fst.length<=1000/\(I64 j->(¬j=i->h.l=[]/\j=h.e/\bZ (n.save f.fst) h.n)/\(j=i->aT g ([Letter.mk g.kind g.frm g.to g.term g.a g.b g.c g.bin f.snd.fst g.l]=h.l/\i=h.e/\bZ (n.save f.fst) h.n)))))) (rA (n.save f.fst).c 2 x.frm)) (n.aR f.fst)) (aQ n.c.st x)) (cS n x)) (0:Int));obtain ⟨o,p,q⟩:=id k.d;have r:=k.log;(repeat' with_reducible first|apply a_|refine aY ?_|intro)
 all_goals (first | exact bq | exact Xe | (rw [ai1 (n:=n) ab] <;> rfl) | (rw [akU (n:=n) ab ab] <;> rfl) | (rw [aiI (n:=n) ab ab] <;> rfl))
def Zi:bH:=(aP 56 CD (aP 15 HI (aP 31 Hu Za)))
def tI:aw Tryz.prog (ak tyT) Zi:=(ag Om (ag WL (ag VY od)))
