/- What leads to the law, part 5. Conditions: each lemma's own. -/
import Derived.Test.YticbaadnibdbkaaGreatNSM4
set_option linter.unusedVariables false
set_option linter.unusedSimpArgs false
set_option maxHeartbeats 2000000
set_option linter.defProp false
noncomputable section
open List (any_append any_cons drop length_drop map_id map_map range replicate take)
open UInt8 (ofNat toNat_inj)
namespace Go.Proofs.YticbaadnibdbkaaGreat
open Tryz
open Go.RowKit
def K2:=@List.take_succ_cons
def B4:=@Classical.not_not
variable {α:Type} {k:Nat}
theorem acz {l:List α} {d:α} (h:(k:Int)<l.length):l.set k (l.getD k d)=l:=by simp_all
variable {l:List hX} {x:hX}
def afN (h:(k:Int)<l.length) (a:l.length*64<=140737488355328):((l.take k).length+[x].length)*64<=140737488355328:=by
 rw [s9]; simp; omega
def fg (l:List hX) (k:Nat):Nat:=((range k).filter fun (i:Nat)=>decide (0<dB ((i:Int)+1) l)).length
def ez (l:List hX):Nat:=fg l 64
theorem ac8 (h:0<((dB ((k:Int)+1) l:Nat):Int)):(fg l k:Int)+1=(fg l (k+1):Int):=by
 unfold fg; rw [I7,E1,r5];grind
theorem afr (h:((dB ((k:Int)+1) l:Nat):Int)<=0):(fg l k:Int)=(fg l (k+1):Int):=by
 unfold fg; rw [I7,E1,r5];grind
def Yg:fg l k<=k:=by
 unfold fg; refine z7 (L5 _ _) ?_; simp
def agb (h:k<=64):a7 ((fg l k:Int)+1):=by
 have:=Yg (l:=l) (k:=k); constructor <;> omega
def aeE (h:k<=64) (a:64<(k:Int)+1):(fg l k:Int)=(ez l:Int):=by
 rw [show k=64 by omega]; rfl
def acL (st:b7):List (Nat × LI):=[(5,{ σ:=Nat,F:=fun k=>([(1,one (.ptr 0 0)),(2,one (.ptr 1 0)),(18,one (.int st.b6.length)),(19,one (.int k))],[.box 46 ([.int ((st.a8)),.int ((st.next)),.int ((st.dm)),.int ((st.ea)),.own 2,.own 3,.own 4]),.box 46 ([.int ((0)),.int ((0)),.int ((0)),.int ((0)),.em true,.em true,.em true]),.row 137 (.nm .b8) ((st.b8)),.row 139 (.nm .opn) ((st.c6)),.row 172 (.nm .snap) ((st.b6))]),J:=fun k=>k<=st.b6.length,μ:=fun k=>st.b6.length - k })]
def ad_ (st:b7):List (Nat × LI):=[(6,{ σ:=Nat,F:=fun k=>([(1,one (.ptr 0 0)),(2,one (.ptr 1 0)),(3,one (.ptr 2 0)),(4,one (.int k))],[.box 46 (cellsOf (.nm .eS) (st)),.box 46 ([.int ((0)),.int ((0)),.int ((0)),.int ((0)),.em true,.em true,.em true]),.box 46 ([.int ((st.a8)),.int ((st.next)),.int ((st.dm)),.int ((st.ea)),.own 3,.own 4,.own 5]),.row 137 (.nm .b8) ((st.b8)),.row 139 (.nm .opn) ((st.c6)),.row 172 (.nm .snap) ((st.b6.take k))]),J:=fun k=>k<=st.b6.length,μ:=fun k=>st.b6.length - k })]
def FR (l:List hX):List (Nat × LI):=[(3,{ σ:=Nat,F:=fun k=>([(0,one (.fz (.nm .snap) (l))),(3,one (.int (fg l k))),(4,one (.int (k+1)))],[]),J:=fun k=>k<=64,μ:=fun k=>64 - k })]
def Tx:Kn:=aH (ae (kT (.nm .eS)) (ae (kC cI) ao)) au fun (st,v,_) _=>⟨[],[.c (.int ((bJ st v)))],none,false⟩
theorem ae6:CK 276 Tx:=ag fun (st,v,_) _ _=>by
 refine aq jq [] func276 (?_:(fun c=>(fun i=>(fun s=>(fun h=>(fun g=>(fun f=>(fun j=>(fun e=>(fun d=>(fun m=>(fun n=>(fun o=>(fun p=>(fun t=>(fun u=>(fun w=>(fun y=>(fun q=>(fun r=>cw st (a7 v->(aO v f h=false->f=c)/\(aO v f h=true->(v<h->e<=g/\e<=g/\(r->j)/\((((t\/m=false)\/p)\/o)\/fR st v=false->6=c)/\(r/\fR st v=true->d=c))/\(h<=v->e<=g/\e<=g/\(q->j)/\((((t\/n=false)\/p)\/o)\/fR st v=false->6=c)/\(q/\fR st v=true->d=c))))) (((y/\m=true)/\w)/\u)) (((y/\n=true)/\w)/\u)) ((aO st.a8 f h=true/\aO st.next f g=true)/\aO st.dm d e=true)) (al eb.a6 e d st.b8=true/\i=true)) (al l8.set e d st.c6=true/\s=true)) ((aO st.a8 f h=false\/aO st.next f g=false)\/aO st.dm d e=false)) (al eb.a6 e d st.b8=false\/i=false)) (al l8.set e d st.c6=false\/s=false)) (aO st.ea d 64)) (aO st.ea d d)) (0:Int)) (8:Int)) (f<=st.next/\st.next<=g)) (1:Int)) (1048576:Int)) (3:Int)) (st.c6.all bt)) (st.b8.all bu)) (bJ st v));(repeat' with_reducible first|apply aT|refine aW ?_|intro)
 all_goals (first | exact bR | exact (vU (a:=1) (b:=1048576) ab).1 | exact (vU (a:=1) (b:=1048576) ab).2 | (simp only [bJ,fO,oy,my]; grind))
def It:Kn:=aH (ae (kT (.nm .command)) (ae (kC cI) ao)) au fun (c,v,_) _=>⟨[],[.c (.int ((aP c v)))],none,false⟩
theorem Yo:CK 52 It:=ag fun (c,v,_) _ _=>by
 refine aq jq [] func52 (?_:(fun a=>bc c (a7 v->a7 a->(dh v=false\/a=0->1=aP c v)/\(dh v=true/\¬a=0->(v<a->10=aP c v)/\(a<=v->(fL c=false->1=aP c v)/\(fL c=true->0=aP c v))))) (bk c.kind));rw [show dh v=aO v 1 3 from rfl];(repeat' with_reducible first|apply aT|refine aW ?_|intro)
 all_goals (first | (simp only [aP]; grind))
def Iz:Kn:=aH (ae (kT (.nm .eS)) ao) au fun (st,_) _=>⟨[],[.agg ([.int ((st.a8)),.int ((st.next)),.int ((st.dm)),.int ((st.ea)),.own 0,.own 1,.own 2])],some ([.row 137 (.nm .b8) ((st.b8)),.row 139 (.nm .opn) ((st.c6)),.row 172 (.nm .snap) ((st.b6))]),true⟩
theorem Xy:CK 61 Iz:=ag fun (st,_) _ _=>by
 refine cr jq (acL st) func61 (?_:(fun (b:List hX)=>(fun (a:Nat)=>(fun (c:Prop)=>cw st (∃ (f:Nat),((b.length:Int)=(a:Int)/\0=(f:Int)/\st.a8=st.a8/\st.next=st.next/\st.dm=st.dm/\st.ea=st.ea/\c/\c/\c/\c/\st.b8=st.b8/\st.c6=st.c6/\b=b)/\f<=a/\∀ (s:Nat),(fun (d:l5 (Sh.nm NT.snap))=>s<=a->((s:Int)<(a:Int)->0<=(s:Int)/\(s:Int)<(b.length:Int)/\0<=(s:Int)/\(s:Int)<(b.length:Int)/\bY d (d.b9.length*8<=140737488355328->bY d (a7 ((s:Int)+1)/\∃ (e:Nat),((a:Int)=(a:Int)/\(s:Int)+1=(e:Int)/\st.a8=st.a8/\st.next=st.next/\st.dm=st.dm/\st.ea=st.ea/\c/\c/\c/\c/\st.b8=st.b8/\st.c6=st.c6/\b.set s d=b)/\e <= a/\a - e < a - s)))/\((a:Int)<=(s:Int)->cd st st)) (b.getD s (c5 (Sh.nm NT.snap))))) ((0:Int)=0)) b.length) st.b6);iterate 3 ((all_goals (repeat' with_reducible first|apply aT|refine aW ?_|intro)); (all_goals try (first | exact bR | exact (acz az))); all_goals try first | refine ⟨‹Nat› + 1,?_⟩ | refine ⟨0,?_⟩)
def Kw:Kn:=aH (ae (kT (.nm .eS)) ao) au fun (st,_) _=>⟨[],[.agg ([.int ((st.a8)),.int ((st.next)),.int ((st.dm)),.int ((st.ea)),.own 0,.own 1,.own 2])],some ([.row 137 (.nm .b8) ((st.b8)),.row 139 (.nm .opn) ((st.c6)),.row 172 (.nm .snap) ((st.b6))]),true⟩
theorem Yz:CK 67 Kw:=ag fun (st,_) _ _=>by
 refine cr jq (ad_ st) func67 (?_:(fun (c:Int)=>(fun (a:List hX)=>(fun (b:Prop)=>cw st (st.b8.length*32<=140737488355328/\st.c6.length*16<=140737488355328/\∃ (e:Nat),(0=(e:Int)/\bS st st (b/\b/\b/\b/\c=c/\st.next=st.next/\st.dm=st.dm/\st.ea=st.ea/\st.b8=st.b8/\st.c6=st.c6/\take e a=[]))/\e<=a.length/\∀ (s:Nat),s<=a.length->((s:Int)<(a.length:Int)->0<=(s:Int)/\(s:Int)<(a.length:Int)/\∀ (x:hX),a[s]? = some x->bY x (x.b9.length*8<=140737488355328/\((take s a).length+[x].length)*64<=140737488355328/\a7 ((s:Int)+1)/\∃ (d:Nat),((s:Int)+1=(d:Int)/\bS st st (b/\b/\b/\b/\c=c/\st.next=st.next/\st.dm=st.dm/\st.ea=st.ea/\st.b8=st.b8/\st.c6=st.c6/\take s a++[x]=take d a))/\d <= a.length/\a.length - d < a.length - s))/\((a.length:Int)<=(s:Int)->cd (b7.mk c st.next st.dm st.ea st.b8 st.c6 (take s a)) st))) ((0:Int)=0)) st.b6) st.a8);iterate 3 ((all_goals (repeat' with_reducible first|apply aT|refine aW ?_|intro)); (all_goals try (first | exact bR | exact (aj ab).symm | exact (r6 az) | exact (afN az az))); all_goals try first | refine ⟨‹Nat› + 1,?_⟩ | refine ⟨0,?_⟩)
def wK:Kn:=aH (ae (kT (.nm .snap)) (ae (kC cI) (ae (kC cI) ao))) au fun (x,n,v,_) _=>⟨[],[.c (.bool (.atom ((gX n v x))))],none,false⟩
def Mh:CK 240 wK:=ag fun (x,n,v,_) _ _=>by
 refine aq (Ky jq) [] func240 (?_:bY x (a7 n->a7 v->(bI x.b9 && aO x.id 1 (jj n 1) && aO x.set 1 8 && (!x.held || decide (2<=v)) && decide ((x.tag.b.length:Int)<=16) && (decide (x.tag=o3.mk []) || decide (3<=v)))=gX n v x));(repeat intro); rfl
def GS:Kn:=aH (ae (kT (.nm .snap)) (ae (kT (.nm .snap)) ao)) au fun (x,y,_) _=>⟨[],[.c (.bool (.atom ((decide (x=y)))))],none,false⟩
theorem Zs:CK 119 GS:=ag fun (x,y,_) _ _=>by
 refine aq jq [] func119 (?_:bY x (bY y ((decide (x.b9=y.b9) && decide (x.id=y.id) && decide (x.set=y.set) && x.held == y.held && decide (x.tag=y.tag))=decide (x=y))));intros; cases x; cases y; simp only [hX.mk.injEq]; grind
def rH:Kn:=aH (ae (kC (cL (.nm .snap))) ao) au fun (l,_) _=>⟨[r8 l<=1048576],[.c (.int (((ez l:Int))))],none,false⟩
theorem CP:CK 189 rH:=ag fun (l,_) _ g=>by
 have h:=b_ g;refine aq jq (FR l) func189 (?_:(fun b=>(fun a=>l.length*b<=140737488355328->∃ f,(l=l/\0=(↑(fg l f):Int)/\a=(f:Int)+a)/\f<=b/\∀ (s:Nat),(fun e=>(fun c=>s<=b->(c<=64->r8 l<=1048576/\(a7 (↑(dB c l):Int)->(0<(↑(dB c l):Int)->a7 (e+a)/\a7 (c+a)/\∃ d,(l=l/\e+a=(↑(fg l d):Int)/\c+a=(d:Int)+a)/\d <= b/\b - d < b - s)/\((↑(dB c l):Int)<=0->a7 (c+a)/\∃ d,(l=l/\e=(↑(fg l d):Int)/\c+a=(d:Int)+a)/\d <= b/\b - d < b - s)))/\(64<c->e=(↑(ez l):Int))) ((s:Int)+a)) (↑(fg l s):Int)) (1:Int)) (64:Nat));iterate 3 ((all_goals (repeat' with_reducible first|apply aT|refine aW ?_|intro)); (all_goals try (first | exact bR | exact (ac8 az) | exact (afr az) | exact (agb az) | exact (aeE az az))); all_goals try first | refine ⟨‹Nat› + 1,?_⟩ | refine ⟨0,?_⟩)
def aaA:ck:=(aI 189 rH (aI 119 GS (aI 240 wK (aI 67 Kw (aI 61 Iz (aI 52 It (aI 276 Tx akH)))))))
def lD:ay prog (av l6) aaA:=(ah CP (ah Zs (ah Mh (ah Yz (ah Xy (ah Yo (ah ae6 jq)))))))
def dX (l:List hX) (id:Int) (k:Nat):List Int:=((range k).filter fun (i:Nat)=>decide (0<dB ((i:Int)+1) l) && decide (dB ((i:Int)+1) (aJ id l)=0)).map fun (i:Nat)=>(i:Int)+1
def fo (a:List Int) (l:List Int):List Int:=l.foldl (fun a n=>if 1<=n/\n<=64 then a.set n.toNat (a.getD n.toNat 0+1) else a) a
variable {b a:List hX}
def ai8 (h:a.take k=b.take k) (e:decide (a.getD k (c5 (.nm .snap))=b.getD k (c5 (.nm .snap)))=true) (c:(k:Int)<a.length) (d:(k:Int)<b.length):a.take (k+1)=b.take (k+1):=DN h az az (zc e)
def ahU (e:decide (a.getD k (c5 (.nm .snap))=b.getD k (c5 (.nm .snap)))=false) (_:(k:Int)<a.length) (_:(k:Int)<b.length):false=decide (a=b):=by
 symm; apply D1; rintro rfl; simp at e
theorem Ue {id:Int} (h:r8 l<=1048576):r8 (aJ id l)<=1048576:=by
 refine z7 ?_ h;unfold r8 aJ;induction l with
 | nil=>exact sh _
 | cons x l c=>
  have d:(l.flatMap hX.b9).length<=1048576:=by unfold r8 at h; rw [H5,r5] at h; omega
  have:=c d;grind
def gD (l:List hX) (id:Int):List Int:=dX l id 64
def JU (c l:List Int):Prop:=∀ i,0<=c.getD i 0/\c.getD i 0+l.length<=4611686018427387904
variable {xs:List Int} {i:Nat}
theorem RT {j:Nat} {v:Int}:(xs.set j v).getD i 0=if j=i/\j<xs.length then v else xs.getD i 0:=by grind
theorem Fl:∀ (l xs:List Int) (i:Nat),xs.getD i 0<=(fo xs l).getD i 0/\(fo xs l).getD i 0<=xs.getD i 0+l.length
 | [],xs,i=>by simp [fo]
 | n :: l,xs,i=>by
  have h:=Fl l (if 1<=n/\n<=64 then xs.set n.toNat (xs.getD n.toNat 0+1) else xs) i;have e:fo xs (n :: l)=fo (if 1<=n/\n<=64 then xs.set n.toNat (xs.getD n.toNat 0+1) else xs) l:=rfl;have c:xs.getD i 0<=(if 1<=n/\n<=64 then xs.set n.toNat (xs.getD n.toNat 0+1) else xs).getD i 0/\(if 1<=n/\n<=64 then xs.set n.toNat (xs.getD n.toNat 0+1) else xs).getD i 0<=xs.getD i 0+1:=by
   split
   ·rw [RT]; split
    ·grind
    omega
   omega
  grind
variable {n:Int} {l:List Int}
def Ai (c:l[k]? = some n):fo xs (l.take (k+1))=if 1<=n/\n<=64 then (fo xs (l.take k)).set n.toNat ((fo xs (l.take k)).getD n.toNat 0+1) else fo xs (l.take k):=by
 rw [aj c,fo,I5]; rfl
def aj4 (c:l[k]? = some n) (h:1<=n/\n<=64):(fo xs (l.take k)).set n.toNat ((fo xs (l.take k)).getD n.toNat (c5 .int)+1)=fo xs (l.take (k+1)):=by rw [Ai c,eg h]; rfl
def akf (c:l[k]? = some n) (h:¬ (1<=n/\n<=64)):fo xs (l.take k)=fo xs (l.take (k+1)):=by rw [Ai c,dc h]
def ajg (h:JU xs l):a7 ((fo xs (l.take k)).getD n.toNat (c5 .int)+1):=by
 have c:=Fl (l.take k) xs n.toNat;have d:=h n.toNat;rw [s9] at c;show a7 ((fo xs (l.take k)).getD n.toNat 0+1);constructor <;> omega
variable {l:List hX}
theorem apQ {id:Int} (h:0<((dB ((k:Int)+1) l:Nat):Int)) (c:((dB ((k:Int)+1) (aJ id l):Nat):Int)=0):dX l id k++[(k:Int)+1]=dX l id (k+1):=by
 unfold dX; rw [I7,E1,I8];grind
theorem alW {id:Int} (h:((dB ((k:Int)+1) l:Nat):Int)<=0\/¬ ((dB ((k:Int)+1) (aJ id l):Nat):Int)=0):dX l id k=dX l id (k+1):=by
 unfold dX; rw [I7,E1,I8];grind
theorem ab_ {id:Int} (h:k<=64):((dX l id k).length+[n].length)*8<=140737488355328:=by
 unfold dX;grind
def aos {id:Int} (h:k<=64) (c:64<(k:Int)+1):dX l id k=gD l id:=by rw [show k=64 by omega]; rfl
def Lz (a:List hX) (b:List hX):List (Nat × LI):=[(4,{ σ:=Nat,F:=fun k=>([(0,one (.fz (.nm .snap) (a))),(1,one (.fz (.nm .snap) (b))),(5,one (.int k))],[]),J:=fun k=>k<=a.length/\a.length=b.length/\a.take k=b.take k,μ:=fun k=>a.length - k })]
def Xo (l:List hX) (id:Int):List (Nat × LI):=[(3,{ σ:=Nat,F:=fun k=>([(0,one (.fz (.nm .snap) (l))),(1,one (.int (id))),(5,one (.own 0)),(6,one (.int (k+1)))],[.row 3 .int ((dX l id k))]),J:=fun k=>k<=64,μ:=fun k=>64 - k })]
def anG (l:List Int) (xs:List Int):List (Nat × LI):=[(1,{ σ:=Nat,F:=fun k=>([(0,one (.ptr 0 0)),(6,one (.fz .int (l))),(7,one (.int (l).length)),(8,one (.int k))],[.y9 338 .int 65 ((fo xs (l.take k)))]),J:=fun k=>k<=l.length,μ:=fun k=>(l).length - k })]
def Sw:Kn:=aH (ae (kT (.nm .eS)) (ae (kT (.nm .command)) ao)) au fun (st,c,_) _=>⟨[],[.c (.int ((if bJ st st.a8=0 then aP c st.a8 else 1)))],none,false⟩
theorem ae9:CK 260 Sw:=ag fun (st,c,_) _ _=>by
 refine aq lD [] func260 (?_:(fun e=>(fun d=>(fun f=>cw st (bc c (a7 d->(¬d=0->1=f)/\(d=0->a7 e->e=f)))) (if d=0 then e else 1)) (bJ st st.a8)) (aP c st.a8));grind
def uL:Kn:=aH (ae (kC (cL (.nm .snap))) (ae (kC (cL (.nm .snap))) ao)) au fun (a,b,_) _=>⟨[],[.c (.bool (.atom ((decide (a=b)))))],none,false⟩
theorem Fj:CK 70 uL:=ag fun (a,b,_) _ _=>by
 refine aq lD (Lz a b) func70 (?_:(fun (c:Nat)=>(fun (f:l5 (Sh.nm NT.snap))=>(fun (d:Int)=>a.length*64<=140737488355328->b.length*64<=140737488355328->(¬d=(b.length:Int)->false=decide (a=b))/\(d=(b.length:Int)->∃ (g:Nat),(a=a/\b=b/\0=(g:Int))/\(g<=c/\c=b.length/\take g a=take g b)/\∀ (s:Nat),(fun (h:Bool)=>s<=c/\c=b.length/\take s a=take s b->((s:Int)<d->0<=(s:Int)/\(s:Int)<d/\0<=(s:Int)/\(s:Int)<(b.length:Int)/\bY (a.getD s f) (bY (b.getD s f) ((h=false->false=decide (a=b))/\(h=true->a7 ((s:Int)+1)/\∃ (e:Nat),(a=a/\b=b/\(s:Int)+1=(e:Int))/\(e <= c/\c=b.length/\take e a=take e b)/\c - e < c - s))))/\(d<=(s:Int)->true=decide (a=b))) (decide (a.getD s f=b.getD s f)))) (a.length:Int)) (c5 (Sh.nm NT.snap))) a.length);iterate 3 ((all_goals (repeat' with_reducible first|apply aT|refine aW ?_|intro)); (all_goals try (first | exact bR | exact (acd ab) | exact (ai8 ab ab ab az) | exact (ahU ab az az) | exact (SX az ab az))); all_goals try first | refine ⟨‹Nat› + 1,?_⟩ | refine ⟨0,?_⟩)
def AR:Kn:=aH (ae (kC (cL (.nm .snap))) (ae (kC cI) ao)) au fun (l,id,_) _=>⟨[r8 l<=1048576],[.c (.fz .int ((gD l id)))],none,false⟩
theorem Tm:CK 244 AR:=ag fun (l,id,_) _ p=>by
 have q:=b_ p;refine aq lD (Xo l id) func244 (?_:(fun (g:Int)=>(fun (h:List hX)=>(fun (d:Nat)=>(fun (e:Int)=>l.length*d<=140737488355328->a7 id->∃ (o:Nat),(l=l/\id=id/\e=(o:Int)+e/\dX l id o=[])/\o<=d/\∀ (s:Nat),(fun (m:List Int)=>(fun (c:Int)=>(fun (j:Int)=>s<=d->(c<=64->r8 l<=1048576/\(a7 j->(g<j->r8 h<=1048576)/\((g<j->h.length*d<=140737488355328/\a7 (↑(dB c h):Int))->(g<j/\(↑(dB c h):Int)=g->(m.length+[c].length)*8<=140737488355328/\a7 (c+e)/\∃ (f:Nat),(l=l/\id=id/\c+e=(f:Int)+e/\m++[c]=dX l id f)/\f <= d/\d - f < d - s)/\(j<=g\/¬(↑(dB c h):Int)=g->a7 (c+e)/\∃ (f:Nat),(l=l/\id=id/\c+e=(f:Int)+e/\m=dX l id f)/\f <= d/\d - f < d - s))))/\(64<c->m=gD l id)) (↑(dB c l):Int)) ((s:Int)+e)) (dX l id s)) 1) 64) (aJ id l)) 0);iterate 3 ((all_goals (repeat' with_reducible first|apply aT|refine aW ?_|intro)); (all_goals try (first | exact bR | exact (apQ az az) | exact (alW az) | exact (ab_ az) | exact (aos az az) | exact (Ue ap))); all_goals try first | refine ⟨‹Nat› + 1,?_⟩ | refine ⟨0,?_⟩)
def aaZ:Kn:=aH (ae (kC (bm 0 0)) (ae (kC (cL .int)) ao)) (aF (EG 338 .int 65) au) fun (_,l,_) (xs,_)=>⟨[JU xs l],[],some ([.y9 338 .int 65 ((fo xs l))]),false⟩
theorem aji:CK 360 aaZ:=ag fun (_,l,_) (xs,_) o=>by
 have p:=b_ o;refine bP lD (anG l xs) func360 (?_:(fun (f:Int)=>(fun (c:Nat)=>(fun (e:Int)=>l.length*(8:Nat)<=(140737488355328:Nat)->∃ (j:Nat),(l=l/\(l.length:Int)=e/\(0:Int)=(j:Int)/\xs=fo xs (take j l))/\j<=c/\∀ (s:Nat),(fun (g:Int)=>(fun (h:List Int)=>s<=c->((s:Int)<e->(0:Int)<=(s:Int)/\(s:Int)<(l.length:Int)/\∀ (x:Int),(fun (m:l5 Sh.int)=>l[s]? = some x->a7 x->(f<=x/\x<=(64:Int)->(0:Int)<=x/\x<(↑(65:Nat):Int)/\x.toNat<(65:Nat)/\a7 (m+f)/\(0:Int)<=x/\x<(↑(65:Nat):Int)/\(a7 m->x.toNat<(65:Nat)/\a7 g/\∃ (d:Nat),(l=l/\e=e/\g=(d:Int)/\h.set x.toNat (m+f)=fo xs (take d l))/\d <= c/\c - d < c - s))/\(x<f\/(64:Int)<x->a7 g/\∃ (d:Nat),(l=l/\e=e/\g=(d:Int)/\h=fo xs (take d l))/\d <= c/\c - d < c - s)) (h.getD x.toNat (c5 Sh.int)))/\(e<=(s:Int)->h=fo xs l)) (fo xs (take s l))) ((s:Int)+f)) (c:Int)) l.length) (1:Int));iterate 3 ((all_goals (repeat' with_reducible first|apply aT|refine aW ?_|intro)); (all_goals try (first | exact bR | exact (aj4 ab (by constructor <;> omega)) | exact (akf ab az) | exact (by rw [r6 az]) | exact (ajg ab))); all_goals try first | refine ⟨‹Nat› + 1,?_⟩ | refine ⟨0,?_⟩)
def aba:ck:=(aI 360 aaZ (aI 244 AR (aI 70 uL (aI 260 Sw aaA))))
def Eu:ay prog (av l6) aba:=(ah aji (ah Tm (ah Fj (ah ae9 lD))))
def tz (c:¬ (k:Int)=0) (d:(k:Int)<n) (e:n<=140737488355328):(jj (k:Int) 1).toNat=k - 1/\0<=jj (k:Int) 1/\jj (k:Int) 1<n:=by
 rw [YB ⟨az,az⟩]; omega
variable {st:b7}
def anl {v:Int}:(aO st.a8 1 3 && aO st.next 1 1048576 && aO st.dm 0 8 && aO st.ea 0 64 && (decide (st.ea=0) || decide (3<=v)) && decide ((st.b6.length:Int)<=16))=(oF st v && br bu eb.a6 8 (st.b8.take 0)):=(Bool.and_true _).symm
def apD {v:Int} (h:(st.b8.length:Int)<=k):(oF st v && br bu eb.a6 8 (st.b8.take k))=((oF st v && br bu eb.a6 8 (st.b8.take st.b8.length)) && br bt l8.set 8 (st.c6.take 0)):=by
 rw [r6 az,I2]; exact (Bool.and_true _).symm
def al0 {B:Bool} {v:Int} (h:(st.c6.length:Int)<=k):(B && br bt l8.set 8 (st.c6.take k))=((B && br bt l8.set 8 (st.c6.take st.c6.length)) && eO st v (st.b6.take 0)):=by
 rw [r6 az,I2]; exact (Bool.and_true _).symm
section
variable {B:Bool} {k:Nat}
variable {l:List eb} {x:eb}
def yJ (c:l[k]? = some x):(B && br bu eb.a6 8 (l.take (k+1)))=((((((B && br bu eb.a6 8 (l.take k)) && aO x.a6 1 8) && aO x.seq 0 1048576) && aO x.last.code 0 99) && aO x.last.n 0 1048576) && (decide ((k:Int)=0) || decide (bC eb.a6 0 (l.take k)<x.a6))):=ME c
def oV {l:List l8} {x:l8} (c:l[k]? = some x):(B && br bt l8.set 8 (l.take (k+1)))=((((B && br bt l8.set 8 (l.take k)) && aO x.set 1 8) && aO x.a6 1 8) && (decide ((k:Int)=0) || decide (bC l8.set 0 (l.take k)<x.set))):=LW c
def akk (f:l[k]? = some x) (a:(B && br bu eb.a6 8 (l.take k))=true) (b:aO x.a6 1 8=true) (c:aO x.seq 0 1048576=true) (d:aO x.last.code 0 99=true) (e:aO x.last.n 0 1048576=true) (g:(k:Int)=0):true=(B && br bu eb.a6 8 (l.take (k+1))):=by
 rw [yJ f,a,b,c,d,e,F0 g]; rfl
def akI (g:l[k]? = some x) (a:(B && br bu eb.a6 8 (l.take k))=true) (b:aO x.a6 1 8=true) (c:aO x.seq 0 1048576=true) (d:aO x.last.code 0 99=true) (e:aO x.last.n 0 1048576=true) (f:¬ (k:Int)=0) (h:(k:Int)<l.length) (j:(l.length:Int)<=140737488355328):decide ((l.getD (jj (k:Int) 1).toNat (c5 (.nm .b8))).a6<x.a6)=(B && br bu eb.a6 8 (l.take (k+1))):=by
 have m:=(tz f h j).1;rw [yJ g,a,b,c,d,e,D1 f,m,jY az (gd (d:=c5 (.nm .b8)) az)]; rfl
def anj (c:l[k]? = some x) (h:(((((B && br bu eb.a6 8 (l.take k))=false\/aO x.a6 1 8=false)\/aO x.seq 0 1048576=false)\/aO x.last.code 0 99=false)\/aO x.last.n 0 1048576=false)):false=(B && br bu eb.a6 8 (l.take (k+1))):=by
 rw [yJ c]; rcases h with (((h | h) | h) | h) | h <;> rw [h] <;> simp
variable {l:List l8} {x:l8}
def aho (d:l[k]? = some x) (a:(B && br bt l8.set 8 (l.take k))=true) (b:aO x.set 1 8=true) (c:aO x.a6 1 8=true) (e:(k:Int)=0):true=(B && br bt l8.set 8 (l.take (k+1))):=by
 rw [oV d,a,b,c,F0 e]; rfl
def agu (f:l[k]? = some x) (a:(B && br bt l8.set 8 (l.take k))=true) (b:aO x.set 1 8=true) (c:aO x.a6 1 8=true) (e:¬ (k:Int)=0) (g:(k:Int)<l.length) (h:(l.length:Int)<=140737488355328):decide ((l.getD (jj (k:Int) 1).toNat (c5 (.nm .opn))).set<x.set)=(B && br bt l8.set 8 (l.take (k+1))):=by
 have j:=(tz e g h).1;rw [oV f,a,b,c,D1 e,j,jY az (gd (d:=c5 (.nm .opn)) az)]; rfl
def aiN (c:l[k]? = some x) (h:(B && br bt l8.set 8 (l.take k))=false):false=(B && br bt l8.set 8 (l.take (k+1))):=by rw [oV c,h]; rfl
def ah0 (c:l[k]? = some x) (h:aO x.set 1 8=false):false=(B && br bt l8.set 8 (l.take (k+1))):=by rw [oV c,h]; simp
def ajq (c:l[k]? = some x) (h:aO x.a6 1 8=false):false=(B && br bt l8.set 8 (l.take (k+1))):=by rw [oV c,h]; simp
variable {st:b7} {v:Int}
def akC (c:(k:Int)<st.b6.length) (a:(B && eO st v (st.b6.take k))=true) (b:gX st.next v (st.b6.getD k (c5 (.nm .snap)))=true) (d:(k:Int)=0):true=(B && eO st v (st.b6.take (k+1))):=by
 rw [mU (gd c),a,b,F0 d]; rfl
def ajV (c:(k:Int)<st.b6.length) (a:(B && eO st v (st.b6.take k))=true) (b:gX st.next v (st.b6.getD k (c5 (.nm .snap)))=true) (e:¬ (k:Int)=0) (f:(st.b6.length:Int)<=140737488355328):decide ((st.b6.getD (jj (k:Int) 1).toNat (c5 (.nm .snap))).id<(st.b6.getD k (c5 (.nm .snap))).id)=(B && eO st v (st.b6.take (k+1))):=by
 have g:=(tz e c f).1;rw [mU (gd (d:=c5 (.nm .snap)) c),a,b,D1 e,g,jY az (gd (d:=c5 (.nm .snap)) az)]; rfl
def ah5 (c:(k:Int)<st.b6.length) (a:(B && eO st v (st.b6.take k))=false):false=(B && eO st v (st.b6.take (k+1))):=by rw [mU (gd (d:=c5 (.nm .snap)) c),a]; rfl
def ajW (c:(k:Int)<st.b6.length) (b:gX st.next v (st.b6.getD k (c5 (.nm .snap)))=false):false=(B && eO st v (st.b6.take (k+1))):=by rw [mU (gd (d:=c5 (.nm .snap)) c),b]; simp
end
def anJ {v:Int} (c:aO v 1 3=true) (h:(((oF st v && br bu eb.a6 8 (st.b8.take st.b8.length)) && br bt l8.set 8 (st.c6.take st.c6.length)) && eO st v (st.b6.take k))=false) (d:(st.b6.length:Int)<=k):6=bJ st v:=
 agG (by rw [c]; rfl) (sh _) (sh _) (by omega:st.b6.length<=k) (by rw [h]; rfl)
def alE {v:Int} (c:aO v 1 3=true) (h:(((oF st v && br bu eb.a6 8 (st.b8.take st.b8.length)) && br bt l8.set 8 (st.c6.take st.c6.length)) && eO st v (st.b6.take k))=true) (d:(st.b6.length:Int)<=k):0=bJ st v:=
 ahy (by rw [c]; rfl) (sh _) (sh _) (by omega:st.b6.length<=k) (by rw [h]; rfl)
def aqh {v:Int} (c:aO v 1 3=false):1=bJ st v:=aof (by rw [c]; rfl)
def aiq (st:b7) (v:Int):List (Nat × LI):=[(5,{ σ:=Nat,F:=fun k=>([(1,one (.int (v))),(2,one (.ptr 0 0)),(5,one (.bool (.atom (oF st v && br bu eb.a6 8 (st.b8.take k))))),(6,one (.int k))],[.box 46 (cellsOf (.nm .eS) (st))]),J:=fun k=>k<=st.b8.length,μ:=fun k=>st.b8.length - k }),(11,{ σ:=Nat,F:=fun k=>([(1,one (.int (v))),(2,one (.ptr 0 0)),(5,one (.bool (.atom ((oF st v && br bu eb.a6 8 (st.b8.take st.b8.length)) && br bt l8.set 8 (st.c6.take k))))),(8,one (.int k))],[.box 46 (cellsOf (.nm .eS) (st))]),J:=fun k=>k<=st.c6.length,μ:=fun k=>st.c6.length - k }),(16,{ σ:=Nat,F:=fun k=>([(1,one (.int (v))),(2,one (.ptr 0 0)),(5,one (.bool (.atom (((oF st v && br bu eb.a6 8 (st.b8.take st.b8.length)) && br bt l8.set 8 (st.c6.take st.c6.length)) && eO st v (st.b6.take k))))),(10,one (.int k))],[.box 46 (cellsOf (.nm .eS) (st))]),J:=fun k=>k<=st.b6.length,μ:=fun k=>st.b6.length - k })]
def ON:Kn:=aH (ae (kT (.nm .eS)) (ae (kC cI) ao)) au fun (st,v,_) _=>⟨[],[.c (.int ((bJ st v)))],none,false⟩
theorem acq:CK 184 ON:=ag fun (st,v,_) _ _=>by
 refine aq (Ky Eu) (aiq st v) func184 (?_:(fun q=>(fun K=>(fun f=>(fun h=>(fun H=>(fun F=>(fun I=>(fun y=>(fun z=>(fun p=>(fun e=>(fun G=>(fun r=>(fun j=>(fun A=>(fun g=>(fun U=>(fun S=>(fun B=>cw st (a7 v->(aO v g 3=false->g=bJ st v)/\(aO v g 3=true->∃ C,(f/\(aO st.a8 g 3 && aO st.next g 1048576 && aO st.dm e p && aO st.ea e 64 && (decide (st.ea=e) || decide (3<=v)) && decide (r<=16))=(q && br bu eb.a6 p (take C h))/\e=(C:Int)/\z)/\C<=y/\∀ (s:Nat),(fun m=>(fun t=>(fun L=>s<=y->(m<H->e<=m/\m<H/\∀ (x:eb),h[s]? = some x->dM x (((((L=true/\aO x.a6 g p=true)/\aO x.seq e 1048576=true)/\aO x.last.code e 99=true)/\aO x.last.n e 1048576=true->(m=e->a7 t/\∃ c,(f/\true=(q && br bu eb.a6 p (take c h))/\t=(c:Int)/\z)/\c <= y/\y - c < y - s)/\(¬m=e->(e<=jj m g/\jj m g<H)/\dM (h.getD (jj m g).toNat (c5 (Sh.nm NT.b8))) (a7 t/\∃ c,(f/\decide ((h.getD (jj m g).toNat (c5 (Sh.nm NT.b8))).a6<x.a6)=(q && br bu eb.a6 p (take c h))/\t=(c:Int)/\z)/\c <= y/\y - c < y - s)))/\((((L=false\/aO x.a6 g p=false)\/aO x.seq e 1048576=false)\/aO x.last.code e 99=false)\/aO x.last.n e 1048576=false->a7 t/\∃ c,(f/\false=(q && br bu eb.a6 p (take c h))/\t=(c:Int)/\z)/\c <= y/\y - c < y - s)))/\(H<=m->∃ C,(f/\L=(S && br bt l8.set p (take C F))/\e=(C:Int)/\z)/\C<=A/\∀ (s:Nat),(fun o=>(fun u=>(fun N=>(fun O=>(fun P=>s<=A->(o<I->e<=o/\o<I/\∀ (x:l8),F[s]? = some x->a7 x.set->a7 x.a6->(N=true->(aO x.set g p=true->(aO x.a6 g p=true->(o=e->a7 u/\∃ c,(f/\true=(S && br bt l8.set p (take c F))/\u=(c:Int)/\z)/\c <= A/\A - c < A - s)/\(¬o=e->(e<=jj o g/\jj o g<I)/\(a7 O.set->a7 O.a6->a7 u/\∃ c,(f/\decide (O.set<x.set)=(S && br bt l8.set p (take c F))/\u=(c:Int)/\z)/\c <= A/\A - c < A - s)))/\(aO x.a6 g p=false->P))/\(aO x.set g p=false->P))/\(N=false->P))/\(I<=o->∃ C,(f/\N=(B && eO st v (take C G))/\e=(C:Int)/\z)/\C<=j/\∀ (s:Nat),(fun D=>(fun d=>(fun w=>(fun J=>(fun T=>s<=j->(d<r->e<=d/\d<r/\bY D ((J=true->(gX st.next v D=true->(d=e->a7 w/\∃ c,(f/\true=(B && eO st v (take c G))/\w=(c:Int)/\z)/\c <= j/\j - c < j - s)/\(¬d=e->(e<=jj d g/\jj d g<r)/\(e<=d/\d<r)/\bY (G.getD (jj d g).toNat K) (bY D (a7 w/\∃ c,(f/\decide ((G.getD (jj d g).toNat K).id<D.id)=(B && eO st v (take c G))/\w=(c:Int)/\z)/\c <= j/\j - c < j - s))))/\(gX st.next v D=false->T))/\(J=false->T)))/\(r<=d->(J=false->6=bJ st v)/\(J=true->e=bJ st v))) (a7 w/\∃ c,(f/\false=(B && eO st v (take c G))/\w=(c:Int)/\z)/\c <= j/\j - c < j - s)) (B && eO st v (take s G))) (d+g)) (s:Int)) (G.getD s K))) (a7 u/\∃ c,(f/\false=(S && br bt l8.set p (take c F))/\u=(c:Int)/\z)/\c <= A/\A - c < A - s)) (F.getD (jj o g).toNat (c5 (Sh.nm NT.opn)))) (S && br bt l8.set p (take s F))) (o+g)) (s:Int))) (q && br bu eb.a6 p (take s h))) (m+g)) (s:Int)))) (S && U)) (q && br bu eb.a6 p (take y h))) (br bt l8.set p (take A F))) (1:Int)) F.length) G.length) (G.length:Int)) st.b6) (0:Int)) (8:Int)) (cd st st)) h.length) (F.length:Int)) st.c6) (h.length:Int)) st.b8) (v=v)) (c5 (Sh.nm NT.snap))) (oF st v))
 (repeat' with_reducible first|apply aT|refine aW ?_|intro)
 all_goals try (refine ⟨0,?_⟩; (repeat' with_reducible first|apply aT|refine aW ?_|intro))
 all_goals try (have Q:(‹Nat›:Int)<(st.b8.length:Int):=az; clear Q; refine ⟨‹Nat› + 1,?_⟩; (repeat' with_reducible first|apply aT|refine aW ?_|intro))
 all_goals try (have Q:((st.b8.length:Nat):Int)<=(‹Nat›:Int):=az; clear Q; refine ⟨0,?_⟩; (repeat' with_reducible first|apply aT|refine aW ?_|intro))
 all_goals try (have Q:(‹Nat›:Int)<(st.c6.length:Int):=az; clear Q; refine ⟨‹Nat› + 1,?_⟩; (repeat' with_reducible first|apply aT|refine aW ?_|intro))
 all_goals try (have Q:((st.c6.length:Nat):Int)<=(‹Nat›:Int):=az; clear Q; refine ⟨0,?_⟩; (repeat' with_reducible first|apply aT|refine aW ?_|intro))
 all_goals try (refine ⟨‹Nat› + 1,?_⟩; (repeat' with_reducible first|apply aT|refine aW ?_|intro))
 all_goals (first | exact bR | exact rfl | exact (aqh ab) | exact anl | exact (apD az) | exact (al0 az) | exact (tz ab ab az).2.1 | exact (tz ab ab az).2.2 | exact (akk ab ab ab ab ab ab ab) | exact (akI ab ab ab ab ab ab ab ab az) | exact (anj ab ab) | exact (aho ab ab ab ab ab) | exact (agu ab ab ab ab ab ab az) | exact (aiN ab ab) | exact (ah0 ab ab) | exact (ajq ab ab) | exact (akC ab ab ab ab) | exact (ajV ab ab ab ab az) | exact (ah5 ab ab) | exact (ajW ab ab) | exact (anJ ab ab az) | exact (alE ab ab az))
def abM:ck:=(aI 184 ON aba)
def vE:ay prog (av l6) abM:=(ah acq Eu)
variable {hi:Int}
theorem NG {c:b5} {lo:Int} (d:lo=(oi c.kind).1) (e:hi=(oi c.kind).2):((((((pU c.a6 (!decide (c.kind=8)) 1 8 && pU c.seq (!decide (c.kind=8) && !decide (c.kind=1)) 1 1048576) && pU c.set (aO c.kind 2 4) 1 8) && pU c.id (decide (c.kind=5) || decide (c.kind=7) || aO c.kind 9 11) 1 1048576) && pU c.n (decide (c.kind=6) || decide (c.kind=8) || decide (c.kind=12)) lo hi) && EC c) && (decide (((c.text.b.length:Nat):Int)=0) || (decide (c.kind=11) && decide (((c.text.b.length:Nat):Int)<=16))))=fL c:=by
 subst d; subst e; exact PF
def ant {c:b5} {v:Int} (h:aO v 1 3=false\/bk c.kind=0):1=aP c v:=by
 refine aiK ?_;rcases h with h | h
 ·rw [h]; rfl
 rw [F0 h,Bool.or_true]
def anS {c:b5} {v:Int} (d:aO v 1 3=true) (e:¬ bk c.kind=0):(!(aO v 1 3) || decide (bk c.kind=0))=false:=by rw [d,D1 e]; rfl
def aku {c:b5} {v:Int} (d:aO v 1 3=true) (e:¬ bk c.kind=0) (f:v<bk c.kind):10=aP c v:=adj (anS d e) f
theorem amP {c:b5} {v lo:Int} {p:Prop} (f:aO v 1 3=true) (g:¬ bk c.kind=0) (j:bk c.kind<=v) (h:((((((pU c.a6 (!decide (c.kind=8)) 1 8=false\/pU c.seq (!decide (c.kind=8) && !decide (c.kind=1)) 1 1048576=false)\/pU c.set (aO c.kind 2 4) 1 8=false)\/pU c.id (decide (c.kind=5) || decide (c.kind=7) || aO c.kind 9 11) 1 1048576=false)\/pU c.n (decide (c.kind=6) || decide (c.kind=8) || decide (c.kind=12)) lo hi=false)\/p)\/¬ ((c.text.b.length:Nat):Int)=0/\(¬ c.kind=11\/16<((c.text.b.length:Nat):Int)))) (d:lo=(oi c.kind).1) (e:hi=(oi c.kind).2) (m:p->EC c=false):1=aP c v:=by grind [ac0,NG]
theorem al2 {c:b5} {v lo:Int} (f:aO v 1 3=true) (g:¬ bk c.kind=0) (h:bk c.kind<=v) (j:pU c.a6 (!decide (c.kind=8)) 1 8=true) (m:pU c.seq (!decide (c.kind=8) && !decide (c.kind=1)) 1 1048576=true) (o:pU c.set (aO c.kind 2 4) 1 8=true) (p:pU c.id (decide (c.kind=5) || decide (c.kind=7) || aO c.kind 9 11) 1 1048576=true) (q:pU c.n (decide (c.kind=6) || decide (c.kind=8) || decide (c.kind=12)) lo hi=true) (r:EC c=true) (s:((c.text.b.length:Nat):Int)=0\/c.kind=11/\((c.text.b.length:Nat):Int)<=16) (d:lo=(oi c.kind).1) (e:hi=(oi c.kind).2):0=aP c v:=by grind [agq,NG]
def agz {c:b5} {b:Bool} (h:c.kind=3) (k:bI c.b9=b):EC c=b:=by rw [EC,eg h]; exact k
def ahV {c:b5} (h:¬ c.kind=3) (k:¬ ((c.b9.length:Nat):Int)=0):EC c=false:=by rw [EC,dc h]; exact D1 k
def aip {c:b5} (h:¬ c.kind=3) (k:((c.b9.length:Nat):Int)=0):EC c=true:=by rw [EC,dc h]; exact F0 k
variable {b a:b7}
def aoD (h:((((¬ a.a8=b.a8\/¬ a.next=b.next)\/¬ a.dm=b.dm)\/¬ a.ea=b.ea)\/¬ ((a.b8.length:Nat):Int)=(b.b8.length:Nat))\/¬ ((a.c6.length:Nat):Int)=(b.c6.length:Nat)):false=decide (a=b):=by
 symm; apply D1; rintro rfl; simp at h
def anN {s:Nat} (h:¬ (a.b8.getD s (c5 (.nm .b8))).a6=(b.b8.getD s (c5 (.nm .b8))).a6\/¬ (a.b8.getD s (c5 (.nm .b8))).seq=(b.b8.getD s (c5 (.nm .b8))).seq\/¬ (a.b8.getD s (c5 (.nm .b8))).last.code=(b.b8.getD s (c5 (.nm .b8))).last.code\/¬ (a.b8.getD s (c5 (.nm .b8))).last.n=(b.b8.getD s (c5 (.nm .b8))).last.n):false=decide (a=b):=by
 symm; apply D1; rintro rfl; simp at h
def an_ {s:Nat} (h:¬ (a.c6.getD s (c5 (.nm .opn))).set=(b.c6.getD s (c5 (.nm .opn))).set\/¬ (a.c6.getD s (c5 (.nm .opn))).a6=(b.c6.getD s (c5 (.nm .opn))).a6):false=decide (a=b):=by
 symm; apply D1; rintro rfl; simp at h
theorem VX {x y:eb} (e:x.a6=y.a6) (f:x.seq=y.seq) (g:x.last.code=y.last.code) (h:x.last.n=y.last.n):x=y:=by
 obtain ⟨a,b,⟨c,d⟩⟩:=x; obtain ⟨j,m,⟨o,p⟩⟩:=y; simp_all
theorem adI {x y:l8} (c:x.set=y.set) (d:x.a6=y.a6):x=y:=by cases x; cases y; simp_all
def ajH {a b:List eb} {s:Nat} (h:a.take s=b.take s) (c:(a.getD s (c5 (.nm .b8))).a6=(b.getD s (c5 (.nm .b8))).a6) (d:(a.getD s (c5 (.nm .b8))).seq=(b.getD s (c5 (.nm .b8))).seq) (e:(a.getD s (c5 (.nm .b8))).last.code=(b.getD s (c5 (.nm .b8))).last.code) (f:(a.getD s (c5 (.nm .b8))).last.n=(b.getD s (c5 (.nm .b8))).last.n) (g:s<a.length) (j:s<b.length):a.take (s+1)=b.take (s+1):=DN h g j (VX c d e f)
def ajt {a b:List l8} {s:Nat} (h:a.take s=b.take s) (c:(a.getD s (c5 (.nm .opn))).set=(b.getD s (c5 (.nm .opn))).set) (d:(a.getD s (c5 (.nm .opn))).a6=(b.getD s (c5 (.nm .opn))).a6) (e:s<a.length) (f:s<b.length):a.take (s+1)=b.take (s+1):=DN h e f (adI c d)
theorem anb {s q:Nat} (j:a.a8=b.a8) (m:a.next=b.next) (o:a.dm=b.dm) (p:a.ea=b.ea) (c:a.b8.take s=b.b8.take s) (d:a.c6.take q=b.c6.take q) (e:a.b8.length<=s) (f:b.b8.length<=s) (g:a.c6.length<=q) (h:b.c6.length<=q):decide (a.b6=b.b6)=decide (a=b):=by
 rw [r6 e,r6 f] at c;rw [r6 g,r6 h] at d;cases a; cases b; simp_all
def adk (a:b7) (b:b7):List (Nat × LI):=[(4,{ σ:=Nat,F:=fun k=>([(2,one (.ptr 0 0)),(3,one (.ptr 1 0)),(5,one (.int k))],[.box 46 (cellsOf (.nm .eS) (a)),.box 46 (cellsOf (.nm .eS) (b))]),J:=fun k=>k<=a.b8.length/\a.b8.take k=b.b8.take k,μ:=fun k=>a.b8.length - k }),(9,{ σ:=Nat,F:=fun k=>([(2,one (.ptr 0 0)),(3,one (.ptr 1 0)),(6,one (.int k))],[.box 46 (cellsOf (.nm .eS) (a)),.box 46 (cellsOf (.nm .eS) (b))]),J:=fun k=>k<=a.c6.length/\a.c6.take k=b.c6.take k,μ:=fun k=>a.c6.length - k })]
def QJ:Kn:=aH (ae (kT (.nm .command)) (ae (kC cI) ao)) au fun (c,v,_) _=>⟨[],[.c (.int ((aP c v)))],none,false⟩
def acf:CK 138 QJ:=ag fun (c,v,_) _ _=>by
 refine aq vE [] func138 (?_:(fun D=>(fun m=>(fun C=>(fun f=>(fun d=>(fun g=>(fun j=>(fun F=>(fun u=>(fun e=>(fun G=>(fun q20=>(fun h=>(fun H=>(fun I=>(fun o=>(fun w=>(fun y=>(fun z=>(fun J=>(fun p=>(fun q=>(fun r=>(fun s=>(fun t=>(fun A=>(fun B=>bc c (a7 v->(aO v d F=true->a7 (bk e))->(aO v d F=false\/bk e=g->o)/\(aO v d F=true/\¬bk e=g->a7 (bk e)->(v<bk e->10=aP c v)/\(bk e<=v->(e=j->(p->(h->(((B\/t=false)\/f=false)\/z->o)/\(((A/\t=true)/\f=true)/\y->u))/\(¬h->(((B\/t=false)\/¬w)\/z->o)/\(((A/\t=true)/\w)/\y->u)))/\(¬p->(h->(((B\/q=false)\/f=false)\/z->o)/\(((A/\q=true)/\f=true)/\y->u))/\(¬h->(((B\/q=false)\/¬w)\/z->o)/\(((A/\q=true)/\w)/\y->u))))/\(¬e=j->(p->(h->(((B\/s=false)\/f=false)\/z->o)/\(((A/\s=true)/\f=true)/\y->u))/\(¬h->(((B\/s=false)\/¬w)\/z->o)/\(((A/\s=true)/\w)/\y->u)))/\(¬p->(h->(((B\/r=false)\/f=false)\/z->o)/\(((A/\r=true)/\f=true)/\y->u))/\(¬h->(((B\/r=false)\/¬w)\/z->o)/\(((A/\r=true)/\w)/\y->u)))))))) (((pU c.a6 (!q20) d j=false\/H=false)\/G=false)\/I=false)) (((pU c.a6 (!q20) d j=true/\H=true)/\G=true)/\I=true)) (pU c.n J C D)) (pU c.n J g D)) (pU c.n J g j)) (pU c.n J C F)) (e=12)) (decide (e=6) || q20 || decide (e=12))) (¬m=g/\(¬e=11\/16<m))) (m=g\/e=11/\m<=16)) ((c.b9.length:Int)=g)) (d=aP c v)) (pU c.id (decide (e=5) || decide (e=7) || aO e 9 11) d 1048576)) (pU c.seq (!q20 && !decide (e=d)) d 1048576)) (e=F)) (decide (e=j))) (pU c.set (aO e C 4) d j)) c.kind) (g=aP c v)) (3:Int)) (8:Int)) (0:Int)) (1:Int)) (bI c.b9)) (2:Int)) (c.text.b.length:Int)) (64:Int));(repeat' with_reducible first|apply aT|refine aW ?_|intro)
 all_goals (first | exact bR | exact ant ap | exact aku ab ab az | exact amP ab ab az ap (by simp only [oi]; (repeat split) <;> omega) (by simp only [oi]; (repeat split) <;> omega) (fun K=>by first | exact agz ab K | exact ahV ab K) | exact al2 ab ab az ab ab ab ab ab (by first | exact agz ab ab | exact aip ab ab) ap (by simp only [oi]; (repeat split) <;> omega) (by simp only [oi]; (repeat split) <;> omega))
def Ih:Kn:=aH (ae (kT (.nm .eS)) (ae (kT (.nm .eS)) ao)) au fun (a,b,_) _=>⟨[],[.c (.bool (.atom ((decide (a=b)))))],none,false⟩
theorem Zd:CK 28 Ih:=ag fun (a,b,_) _ _=>by
 refine aq vE (adk a b) func28 (?_:(fun (r:Int)=>(fun (p:List eb)=>(fun (v:Prop)=>(fun (q:List l8)=>(fun (u:Prop)=>(fun (j:List eb)=>(fun (t:Int)=>(fun (m:List l8)=>(fun (g:Int)=>(fun (y:l5 (Sh.nm NT.opn))=>(fun (z:l5 (Sh.nm NT.b8))=>cw a (cw b ((((((¬a.a8=b.a8\/¬a.next=b.next)\/¬a.dm=b.dm)\/¬a.ea=b.ea)\/¬t=(p.length:Int))\/¬g=(q.length:Int)->v)/\(((((a.a8=b.a8/\a.next=b.next)/\a.dm=b.dm)/\a.ea=b.ea)/\t=(p.length:Int))/\g=(q.length:Int)->∃ (o:Nat),(r=(o:Int)/\u)/\(o<=j.length/\take o j=take o p)/\∀ (s:Nat),(fun (c:l5 (Sh.nm NT.b8))=>(fun (d:l5 (Sh.nm NT.b8))=>s<=j.length/\take s j=take s p->((s:Int)<t->r<=(s:Int)/\(s:Int)<t/\r<=(s:Int)/\(s:Int)<(p.length:Int)/\dM c (dM d ((¬c.a6=d.a6\/¬c.seq=d.seq\/¬c.last.code=d.last.code\/¬c.last.n=d.last.n->v)/\(adr c d->a7 ((s:Int)+1)/\∃ (h:Nat),((s:Int)+1=(h:Int)/\u)/\(h <= j.length/\take h j=take h p)/\j.length - h < j.length - s))))/\(t<=(s:Int)->∃ (o:Nat),(r=(o:Int)/\u)/\(o<=m.length/\take o m=take o q)/\∀ (s:Nat),(fun (e:l5 (Sh.nm NT.opn))=>(fun (f:l5 (Sh.nm NT.opn))=>s<=m.length/\take s m=take s q->((s:Int)<g->r<=(s:Int)/\(s:Int)<g/\r<=(s:Int)/\(s:Int)<(q.length:Int)/\(a7 e.set->a7 e.a6->a7 f.set->a7 f.a6->(¬e.set=f.set\/¬e.a6=f.a6->v)/\(e.set=f.set/\e.a6=f.a6->a7 ((s:Int)+1)/\∃ (h:Nat),((s:Int)+1=(h:Int)/\u)/\(h <= m.length/\take h m=take h q)/\m.length - h < m.length - s)))/\(g<=(s:Int)->decide (a.b6=b.b6)=decide (a=b))) (q.getD s y)) (m.getD s y))) (p.getD s z)) (j.getD s z))))) (c5 (Sh.nm NT.b8))) (c5 (Sh.nm NT.opn))) (m.length:Int)) a.c6) (j.length:Int)) a.b8) (bS a a (cd b b))) b.c6) (false=decide (a=b))) b.b8) 0);(repeat' with_reducible first|apply aT|refine aW ?_|intro)
 all_goals try (refine ⟨0,?_⟩; (repeat' with_reducible first|apply aT|refine aW ?_|intro))
 all_goals try (have w:(‹Nat›:Int)<(a.b8.length:Int):=az; clear w; refine ⟨‹Nat› + 1,?_⟩; (repeat' with_reducible first|apply aT|refine aW ?_|intro))
 all_goals try (have w:((a.b8.length:Nat):Int)<=(‹Nat›:Int):=az; clear w; refine ⟨0,?_⟩; (repeat' with_reducible first|apply aT|refine aW ?_|intro))
 all_goals try (refine ⟨‹Nat› + 1,?_⟩; (repeat' with_reducible first|apply aT|refine aW ?_|intro))
 all_goals (first | exact bR | exact (aoD ap) | exact (anN ap) | exact (an_ ap) | exact (ajH ab ab ab ab ab az az) | exact (ajt ab ab ab az az) | exact (anb ab ab ab ab ab ab az az az az))
def aby:ck:=(aI 28 Ih (aI 138 QJ abM))
def lM:ay prog (av l6) aby:=(ah Zd (ah acf vE))
def gg (xs:List Int) (c:Int):Bool:=decide (0<xs.getD c.toNat (c5 .int))
def gm (xs d:List Int) (c:Int):Bool:=decide (0<xs.getD c.toNat (c5 .int)) && decide (d.getD c.toNat (c5 .int)=0)
def mu (p:Int->Bool) (k:Nat):List Int:=((range k).map fun (i:Nat)=>(i:Int)+1).filter p
def ako {p:Int->Bool} (h:p ((k:Int)+1)=true):mu p k++[(k:Int)+1]=mu p (k+1):=by
 unfold mu; rw [I7,I8,E1]; simp [h]
def ak4 {p:Int->Bool} (h:p ((k:Int)+1)=false):mu p k=mu p (k+1):=by
 unfold mu; rw [I7,I8,E1]; simp [h]
def ak3 {p:Int->Bool} (h:k<=64) (c:64<(k:Int)+1):mu p k=mu p 64:=by rw [show k=64 by omega]
def TL {p:Int->Bool} (h:k<=64):((mu p k).length+[n].length)*8<=140737488355328:=by
 have:=L5 p ((range k).map fun (i:Nat)=>(i:Int)+1);rw [J4,V4] at this;unfold mu; simp; omega
def cT (l:List hX):List Int:=l.foldl (fun t x=>fo t x.b9) (replicate 65 0)
theorem uK:∀ (l xs:List Int),(fo xs l).length=xs.length
 | [],_=>rfl
 | n :: l,xs=>by
  show (fo (if 1<=n/\n<=64 then xs.set n.toNat (xs.getD n.toNat 0+1) else xs) l).length=_;rw [uK l]; split
  ·grind
  rfl
def ml:cT (l++[x])=fo (cT l) x.b9:=by unfold cT; rw [I5]; rfl
def af9 (c:l[k]? = some x):fo (cT (l.take k)) x.b9=cT (l.take (k+1)):=by rw [aj c,ml]
theorem zx {p:List hX->Prop} (c:p []) (d:∀ l x,p l->p (l++[x])) (l:List hX):p l:=by
 have:∀ r:List hX,p r.reverse:=fun r=>by
  induction r with
  | nil=>exact c
  | cons x r e=>rw [List.reverse_cons]; exact d _ _ e
 have h:=this l.reverse;grind
def lj (l:List hX):(cT l).length=65:=by
 refine zx (p:=fun l=>(cT l).length=65) rfl (fun l x h=>?_) l;rw [ml,uK,h]
def CH:r8 (l++[x])=r8 l+x.b9.length:=by unfold r8; simp
theorem Ou (l:List hX) (i:Nat):0<=(cT l).getD i 0/\(cT l).getD i 0<=r8 l:=by
 refine zx (p:=fun l=>0<=(cT l).getD i 0/\(cT l).getD i 0<=r8 l) ?_ (fun l x h=>?_) l
 ·show 0<=(replicate 65 (0:Int)).getD i 0/\(replicate 65 (0:Int)).getD i 0<=_;grind
 have:=Fl x.b9 (cT l) i;rw [ml,CH]; omega
def Jz (c:l[k]? = some x) (h:r8 l<=1048576):JU (cT (l.take k)) x.b9:=fun i=>by
 have e:=Ou (l.take k) i;have d:r8 (l.take (k+1))<=r8 l:=by
  unfold r8; rw [<- D5 (k+1) l,K1,r5,D5]; omega
 rw [aj c,CH] at d;omega
def Jb {m:List Int} {s:Sh} (h:r8 l<=1048576) (c:m.length*8<=140737488355328):JU (EB .int (cT l) 0 65) m:=fun i=>by
 rw [mD (lj l)];have d:=Ou l i;omega
theorem Kj:∀ (l xs:List Int) (c:Int),1<=c->c<=64->xs.length=65->(fo xs l).getD c.toNat 0=xs.getD c.toNat 0+(l.count c:Nat)
 | [],_,_,_,_,_=>by simp [fo]
 | n :: l,xs,c,e,f,d=>by
  show (fo (if 1<=n/\n<=64 then xs.set n.toNat (xs.getD n.toNat 0+1) else xs) l).getD c.toNat 0=_;rw [Kj l _ c e f (by split; rw [B8,d]; exact d),List.count_cons];split
  ·grind
  grind
def FC (l:List hX) (c:Int) (d:1<=c) (e:c<=64):(cT l).getD c.toNat 0=(dB c l:Nat):=by
 refine zx (p:=fun l=>(cT l).getD c.toNat 0=(dB c l:Nat)) ?_ (fun l x h=>?_) l
 ·show (replicate 65 (0:Int)).getD c.toNat 0=_;rw [ts,List.getElem?_replicate]; split <;> simp [dB]
 rw [ml,Kj _ _ _ d e (lj l),h];unfold dB; simp
theorem Jp (l:List hX):((mu (gg (cT l)) 64).length:Int)=(ez l:Int):=by
 unfold mu ez fg;rw [List.filter_map,J4];congr 2;apply List.filter_congr;intro i hi;rw [E4] at hi;have:=FC l ((i:Int)+1) az az;simp only [Function.comp,gg];rw [show (c5 .int)=(0:Int) from rfl,this];grind
theorem QS (l m:List hX) (id:Int) (e:m=aJ id l):mu (gm (cT l) (cT m)) 64=gD l id:=by
 subst e;unfold mu gD dX;rw [List.filter_map];congr 1;apply List.filter_congr;intro i hi;rw [E4] at hi;have c:=FC l ((i:Int)+1) az az;have d:=FC (aJ id l) ((i:Int)+1) az az;simp only [Function.comp,gm];rw [show (c5 .int)=(0:Int) from rfl,c,d];grind
def adS (l:List hX):List (Nat × LI):=[(3,{ σ:=Nat,F:=fun k=>([(2,one (.ptr 0 0)),(3,one (.ptr 1 0)),(6,one (.fz (.nm .snap) (l))),(7,one (.int (l).length)),(8,one (.int k))],[.y9 338 .int 65 ((replicate 65 0)),.y9 338 .int 65 ((cT (l.take k)))]),J:=fun k=>k<=l.length,μ:=fun k=>l.length - k })]
def Nx (l:List hX) (id:Int):List (Nat × LI):=[(3,{ σ:=Nat,F:=fun k=>([(1,one (.int (id))),(5,one (.own 0)),(8,one (.fz (.nm .snap) (l))),(9,one (.int (l).length)),(10,one (.int k))],[.row 172 (.nm .snap) ((aJ id (l.take k)))]),J:=fun k=>k<=l.length,μ:=fun k=>l.length - k })]
def J_:Kn:=aH (ae (kC cI) (ae (kC (bm 0 0)) ao)) (aF (EG 338 .int 65) au) fun (n,_,_) (xs,_)=>⟨[0<=n/\n<65],[.c (.bool (.atom ((gg xs n))))],none,false⟩
def Wn:CK 362 J_:=ag fun (n,_,_) (xs,_) c=>by
 have d:=b_ c;refine aq lM [] func362 (?_:a7 n->(0:Int)<=n/\n<(↑(65:Nat):Int)/\n.toNat<(65:Nat)/\(a7 (xs.getD n.toNat (c5 Sh.int))->decide ((0:Int)<xs.getD n.toNat (c5 Sh.int))=gg xs n));(repeat' with_reducible first|apply aT|refine aW ?_|intro) <;> first | (omega) | rfl
def Cb:Kn:=aH (ae (kC cI) (ae (kC (bm 0 0)) (ae (kC (bm 1 0)) ao))) (aF (EG 338 .int 65) (aF (EG 338 .int 65) au)) fun (n,_,_,_) (xs,d,_)=>⟨[0<=n/\n<65],[.c (.bool (.atom ((gm xs d n))))],none,false⟩
def Ra:CK 363 Cb:=ag fun (n,_,_,_) (xs,e,_) f=>by
 have g:=b_ f;refine aq lM [] func363 (?_:(fun c=>(fun d=>a7 n->c<=n/\n<(↑(65:Nat):Int)/\n.toNat<(65:Nat)/\(a7 d->(c<d->c<=n/\n<(↑(65:Nat):Int)/\n.toNat<(65:Nat))/\((c<d->a7 (e.getD n.toNat (c5 Sh.int)))->(decide (c<d) && decide (e.getD n.toNat (c5 Sh.int)=c))=gm xs e n))) (xs.getD n.toNat (c5 Sh.int))) (0:Int));(repeat' with_reducible first|apply aT|refine aW ?_|intro) <;> first | (omega) | rfl
def Je:Kn:=aH (ae (kC (cL (.nm .snap))) ao) au fun (l,_) _=>⟨[r8 l<=1048576],[.agg (yK .int ((cT l)) 0 65)],none,false⟩
theorem Xf:CK 346 Je:=ag fun (l,_) _ r=>by
 have t:=b_ r;refine aq lM (adS l) func346 (?_:(fun (g:Nat)=>(fun (e:List Int)=>(fun (o:Nat)=>(fun (h:Nat)=>(fun (d:Int)=>(fun (c:l5 Sh.int)=>(fun (q:List (l5 Sh.int))=>l.length*64<=140737488355328->∃ (p:Nat),(l=l/\(l.length:Int)=(g:Int)/\d=(p:Int)/\q=replicate h (0:l5 Sh.int)/\q=cT (take p l))/\p<=g/\∀ (s:Nat),(fun (j:List Int)=>(fun (f:List (l5 Sh.int))=>s<=g->((s:Int)<(g:Int)->d<=(s:Int)/\(s:Int)<(l.length:Int)/\∀ (x:hX),l[s]? = some x->bY x ((∀ (i:Nat),d<=j.getD i d/\j.getD i d+(x.b9.length:Int)<=4611686018427387904)/\a7 ((s:Int)+1)/\∃ (m:Nat),(l=l/\(g:Int)=(g:Int)/\(s:Int)+1=(m:Int)/\replicate h (0:l5 Sh.int)=replicate h (0:l5 Sh.int)/\fo j x.b9=cT (take m l))/\m <= g/\g - m < g - s))/\((g:Int)<=(s:Int)->f.getD o c=e.getD o c/\f.getD 1 c=e.getD 1 c/\f.getD 2 c=e.getD 2 c/\f.getD 3 c=e.getD 3 c/\f.getD 4 c=e.getD 4 c/\f.getD 5 c=e.getD 5 c/\f.getD 6 c=e.getD 6 c/\f.getD 7 c=e.getD 7 c/\f.getD 8 c=e.getD 8 c/\f.getD 9 c=e.getD 9 c/\f.getD 10 c=e.getD 10 c/\f.getD 11 c=e.getD 11 c/\f.getD 12 c=e.getD 12 c/\f.getD 13 c=e.getD 13 c/\f.getD 14 c=e.getD 14 c/\f.getD 15 c=e.getD 15 c/\f.getD 16 c=e.getD 16 c/\f.getD 17 c=e.getD 17 c/\f.getD 18 c=e.getD 18 c/\f.getD 19 c=e.getD 19 c/\f.getD 20 c=e.getD 20 c/\f.getD 21 c=e.getD 21 c/\f.getD 22 c=e.getD 22 c/\f.getD 23 c=e.getD 23 c/\f.getD 24 c=e.getD 24 c/\f.getD 25 c=e.getD 25 c/\f.getD 26 c=e.getD 26 c/\f.getD 27 c=e.getD 27 c/\f.getD 28 c=e.getD 28 c/\f.getD 29 c=e.getD 29 c/\f.getD 30 c=e.getD 30 c/\f.getD 31 c=e.getD 31 c/\f.getD 32 c=e.getD 32 c/\f.getD 33 c=e.getD 33 c/\f.getD 34 c=e.getD 34 c/\f.getD 35 c=e.getD 35 c/\f.getD 36 c=e.getD 36 c/\f.getD 37 c=e.getD 37 c/\f.getD 38 c=e.getD 38 c/\f.getD 39 c=e.getD 39 c/\f.getD 40 c=e.getD 40 c/\f.getD 41 c=e.getD 41 c/\f.getD 42 c=e.getD 42 c/\f.getD 43 c=e.getD 43 c/\f.getD 44 c=e.getD 44 c/\f.getD 45 c=e.getD 45 c/\f.getD 46 c=e.getD 46 c/\f.getD 47 c=e.getD 47 c/\f.getD 48 c=e.getD 48 c/\f.getD 49 c=e.getD 49 c/\f.getD 50 c=e.getD 50 c/\f.getD 51 c=e.getD 51 c/\f.getD 52 c=e.getD 52 c/\f.getD 53 c=e.getD 53 c/\f.getD 54 c=e.getD 54 c/\f.getD 55 c=e.getD 55 c/\f.getD 56 c=e.getD 56 c/\f.getD 57 c=e.getD 57 c/\f.getD 58 c=e.getD 58 c/\f.getD 59 c=e.getD 59 c/\f.getD 60 c=e.getD 60 c/\f.getD 61 c=e.getD 61 c/\f.getD 62 c=e.getD 62 c/\f.getD 63 c=e.getD 63 c/\f.getD 64 c=e.getD 64 c)) (EB Sh.int j o h)) (cT (take s l))) [d,d,d,d,d,d,d,d,d,d,d,d,d,d,d,d,d,d,d,d,d,d,d,d,d,d,d,d,d,d,d,d,d,d,d,d,d,d,d,d,d,d,d,d,d,d,d,d,d,d,d,d,d,d,d,d,d,d,d,d,d,d,d,d,d]) (c5 Sh.int)) 0) 65) 0) (cT l)) l.length);iterate 3 ((all_goals (repeat' with_reducible first|apply aT|refine aW ?_|intro)); (all_goals try (first | exact bR | exact (af9 ab) | exact (Jz ab ab _).1 | exact (Jz ab ab _).2 | exact (by rw [mD (lj _),r6 az]))); all_goals try first | refine ⟨‹Nat› + 1,?_⟩ | refine ⟨0,?_⟩)
def xz:Kn:=aH (ae (kC (cL (.nm .snap))) (ae (kC cI) ao)) au fun (l,id,_) _=>⟨[],[.c (.own 0)],some ([.row 172 (.nm .snap) ((aJ id l))]),true⟩
theorem L_:CK 349 xz:=ag fun (l,id,_) _ _=>by
 refine cr lM (Nx l id) func349 (?_:(fun (c:Nat)=>(fun (e:Int)=>l.length*64<=140737488355328->a7 id->∃ (h:Nat),(id=id/\l=l/\(l.length:Int)=e/\0=(h:Int)/\aJ id (take h l)=[])/\h<=c/\∀ (s:Nat),(fun (f:List hX)=>(fun (g:Int)=>s<=c->((s:Int)<e->0<=(s:Int)/\(s:Int)<(l.length:Int)/\∀ (x:hX),l[s]? = some x->bY x ((¬x.id=id->x.b9.length*8<=140737488355328->(f.length+[x].length)*64<=140737488355328/\a7 g/\∃ (d:Nat),(id=id/\l=l/\e=e/\g=(d:Int)/\f++[x]=aJ id (take d l))/\d <= c/\c - d < c - s)/\(x.id=id->a7 g/\∃ (d:Nat),(id=id/\l=l/\e=e/\g=(d:Int)/\f=aJ id (take d l))/\d <= c/\c - d < c - s)))/\(e<=(s:Int)->f=aJ id l)) ((s:Int)+1)) (aJ id (take s l))) (c:Int)) l.length);iterate 3 ((all_goals (repeat' with_reducible first|apply aT|refine aW ?_|intro)); (all_goals try (first | exact bR | exact (Nz ab ab ab) | exact (Ve ab ab) | exact (Fh az) | exact (FM az az))); all_goals try first | refine ⟨‹Nat› + 1,?_⟩ | refine ⟨0,?_⟩)
def abx:ck:=(aI 349 xz (aI 346 Je (aI 363 Cb (aI 362 J_ aby))))
def uG:ay prog (av l6) abx:=(ah L_ (ah Xf (ah Ra (ah Wn lM))))
def Sg (xs:List Int):List (Nat × LI):=[(3,{ σ:=Nat,F:=fun k=>([(0,one (.fn 362 [] [(0,0)])),(3,one (.own 1)),(4,one (.int (k+1)))],[.y9 338 .int 65 ((xs)),.row 3 .int ((mu (gg xs) k))]),J:=fun k=>k<=64,μ:=fun k=>64 - k })]
def Oh (xs:List Int) (c:List Int):List (Nat × LI):=[(3,{ σ:=Nat,F:=fun k=>([(0,one (.fn 363 [] [(0,0),(1,0)])),(3,one (.own 2)),(4,one (.int (k+1)))],[.y9 338 .int 65 ((xs)),.y9 338 .int 65 ((c)),.row 3 .int ((mu (gm xs c) k))]),J:=fun k=>k<=64,μ:=fun k=>64 - k })]
def ya:Kn:=aH (ae (kC (sQ 362 [] [(0,0)])) ao) (aF (EG 338 .int 65) au) fun _ (xs,_)=>⟨[],[.c (.fz .int ((mu (gg xs) 64)))],none,false⟩
theorem MA:CK 361 ya:=ag fun _ (xs,_) _=>by
 refine aq uG (Sg xs) func361 (?_:(fun (d:Nat)=>(fun (e:Int)=>∃ (h:Nat),(e=(h:Int)+e/\xs=xs/\mu (gg xs) h=[])/\h<=d/\∀ (s:Nat),(fun (g:List Int)=>(fun (c:Int)=>s<=d->(c<=64->(0<=c/\c<65)/\(gg xs c=true->(g.length+[c].length)*8<=140737488355328/\a7 (c+e)/\∃ (f:Nat),(c+e=(f:Int)+e/\xs=xs/\g++[c]=mu (gg xs) f)/\f <= d/\d - f < d - s)/\(gg xs c=false->a7 (c+e)/\∃ (f:Nat),(c+e=(f:Int)+e/\xs=xs/\g=mu (gg xs) f)/\f <= d/\d - f < d - s))/\(64<c->g=mu (gg xs) d)) ((s:Int)+e)) (mu (gg xs) s)) 1) 64);iterate 3 ((all_goals (repeat' with_reducible first|apply aT|refine aW ?_|intro)); (all_goals try (first | exact bR | exact (ako ab) | exact (ak4 ab) | exact (ak3 az az) | exact (TL az))); all_goals try first | refine ⟨‹Nat› + 1,?_⟩ | refine ⟨0,?_⟩)
def wO:Kn:=aH (ae (kC (sQ 363 [] [(0,0),(1,0)])) ao) (aF (EG 338 .int 65) (aF (EG 338 .int 65) au)) fun _ (xs,d,_)=>⟨[],[.c (.fz .int ((mu (gm xs d) 64)))],none,false⟩
theorem Mm:CK 361 wO:=ag fun _ (xs,c,_) _=>by
 refine aq uG (Oh xs c) func361 (?_:(fun (e:Nat)=>(fun (f:Int)=>∃ (j:Nat),(f=(j:Int)+f/\xs=xs/\c=c/\mu (gm xs c) j=[])/\j<=e/\∀ (s:Nat),(fun (h:List Int)=>(fun (d:Int)=>s<=e->(d<=64->(0<=d/\d<65)/\(gm xs c d=true->(h.length+[d].length)*8<=140737488355328/\a7 (d+f)/\∃ (g:Nat),(d+f=(g:Int)+f/\xs=xs/\c=c/\h++[d]=mu (gm xs c) g)/\g <= e/\e - g < e - s)/\(gm xs c d=false->a7 (d+f)/\∃ (g:Nat),(d+f=(g:Int)+f/\xs=xs/\c=c/\h=mu (gm xs c) g)/\g <= e/\e - g < e - s))/\(64<d->h=mu (gm xs c) e)) ((s:Int)+f)) (mu (gm xs c) s)) 1) 64);iterate 3 ((all_goals (repeat' with_reducible first|apply aT|refine aW ?_|intro)); (all_goals try (first | exact bR | exact (ako ab) | exact (ak4 ab) | exact (ak3 az az) | exact (TL az))); all_goals try first | refine ⟨‹Nat› + 1,?_⟩ | refine ⟨0,?_⟩)
def abF:ck:=(aI 361 wO (aI 361 ya abx))
def ua:ay prog (av l6) abF:=(ah Mm (ah MA uG))
def Ns:Kn:=aH (ae (kA .int 65) ao) au fun (xs,_) _=>⟨[xs.length=65],[.c (.fz .int ((mu (gg xs) 64)))],none,false⟩
def adx:CK 345 Ns:=ag fun (xs,_) _ e=>by
 have f:=b_ e;refine aq ua [] func345 (?_:(fun d=>(fun c=>a7 (xs.getD 0 c)->a7 (xs.getD 1 c)->a7 (xs.getD 2 c)->a7 (xs.getD 3 c)->a7 (xs.getD 4 c)->a7 (xs.getD 5 c)->a7 (xs.getD 6 c)->a7 (xs.getD 7 c)->a7 (xs.getD 8 c)->a7 (xs.getD 9 c)->a7 (xs.getD 10 c)->a7 (xs.getD 11 c)->a7 (xs.getD 12 c)->a7 (xs.getD 13 c)->a7 (xs.getD 14 c)->a7 (xs.getD 15 c)->a7 (xs.getD 16 c)->a7 (xs.getD 17 c)->a7 (xs.getD 18 c)->a7 (xs.getD 19 c)->a7 (xs.getD 20 c)->a7 (xs.getD 21 c)->a7 (xs.getD 22 c)->a7 (xs.getD 23 c)->a7 (xs.getD 24 c)->a7 (xs.getD 25 c)->a7 (xs.getD 26 c)->a7 (xs.getD 27 c)->a7 (xs.getD 28 c)->a7 (xs.getD 29 c)->a7 (xs.getD 30 c)->a7 (xs.getD 31 c)->a7 (xs.getD 32 c)->a7 (xs.getD 33 c)->a7 (xs.getD 34 c)->a7 (xs.getD 35 c)->a7 (xs.getD 36 c)->a7 (xs.getD 37 c)->a7 (xs.getD 38 c)->a7 (xs.getD 39 c)->a7 (xs.getD 40 c)->a7 (xs.getD 41 c)->a7 (xs.getD 42 c)->a7 (xs.getD 43 c)->a7 (xs.getD 44 c)->a7 (xs.getD 45 c)->a7 (xs.getD 46 c)->a7 (xs.getD 47 c)->a7 (xs.getD 48 c)->a7 (xs.getD 49 c)->a7 (xs.getD 50 c)->a7 (xs.getD 51 c)->a7 (xs.getD 52 c)->a7 (xs.getD 53 c)->a7 (xs.getD 54 c)->a7 (xs.getD 55 c)->a7 (xs.getD 56 c)->a7 (xs.getD 57 c)->a7 (xs.getD 58 c)->a7 (xs.getD 59 c)->a7 (xs.getD 60 c)->a7 (xs.getD 61 c)->a7 (xs.getD 62 c)->a7 (xs.getD 63 c)->a7 (xs.getD 64 c)->d.length*8<=140737488355328->d=mu (gg xs) 64) (c5 Sh.int)) (mu (gg (EB Sh.int xs 0 65)) 64));(repeat' with_reducible first|apply aT|refine aW ?_|intro)
 all_goals (exact (by rw [mD f]))
def Dt:Kn:=aH (ae (kC (cL (.nm .snap))) (ae (kC cI) ao)) au fun (l,id,_) _=>⟨[r8 l<=1048576],[.c (.fz .int ((gD l id)))],none,false⟩
def Qt:CK 348 Dt:=ag fun (l,id,_) _ h=>by
 have j:=b_ h;refine aq ua [] func348 (?_:(fun f=>(fun d=>(fun c=>(fun e=>(fun g=>l.length*64<=140737488355328->a7 id->r8 l<=1048576/\(a7 (d.getD f c)->a7 (d.getD 1 c)->a7 (d.getD 2 c)->a7 (d.getD 3 c)->a7 (d.getD 4 c)->a7 (d.getD 5 c)->a7 (d.getD 6 c)->a7 (d.getD 7 c)->a7 (d.getD 8 c)->a7 (d.getD 9 c)->a7 (d.getD 10 c)->a7 (d.getD 11 c)->a7 (d.getD 12 c)->a7 (d.getD 13 c)->a7 (d.getD 14 c)->a7 (d.getD 15 c)->a7 (d.getD 16 c)->a7 (d.getD 17 c)->a7 (d.getD 18 c)->a7 (d.getD 19 c)->a7 (d.getD 20 c)->a7 (d.getD 21 c)->a7 (d.getD 22 c)->a7 (d.getD 23 c)->a7 (d.getD 24 c)->a7 (d.getD 25 c)->a7 (d.getD 26 c)->a7 (d.getD 27 c)->a7 (d.getD 28 c)->a7 (d.getD 29 c)->a7 (d.getD 30 c)->a7 (d.getD 31 c)->a7 (d.getD 32 c)->a7 (d.getD 33 c)->a7 (d.getD 34 c)->a7 (d.getD 35 c)->a7 (d.getD 36 c)->a7 (d.getD 37 c)->a7 (d.getD 38 c)->a7 (d.getD 39 c)->a7 (d.getD 40 c)->a7 (d.getD 41 c)->a7 (d.getD 42 c)->a7 (d.getD 43 c)->a7 (d.getD 44 c)->a7 (d.getD 45 c)->a7 (d.getD 46 c)->a7 (d.getD 47 c)->a7 (d.getD 48 c)->a7 (d.getD 49 c)->a7 (d.getD 50 c)->a7 (d.getD 51 c)->a7 (d.getD 52 c)->a7 (d.getD 53 c)->a7 (d.getD 54 c)->a7 (d.getD 55 c)->a7 (d.getD 56 c)->a7 (d.getD 57 c)->a7 (d.getD 58 c)->a7 (d.getD 59 c)->a7 (d.getD 60 c)->a7 (d.getD 61 c)->a7 (d.getD 62 c)->a7 (d.getD 63 c)->a7 (d.getD 64 c)->r8 (aJ id l)<=1048576/\(a7 (e.getD f c)->a7 (e.getD 1 c)->a7 (e.getD 2 c)->a7 (e.getD 3 c)->a7 (e.getD 4 c)->a7 (e.getD 5 c)->a7 (e.getD 6 c)->a7 (e.getD 7 c)->a7 (e.getD 8 c)->a7 (e.getD 9 c)->a7 (e.getD 10 c)->a7 (e.getD 11 c)->a7 (e.getD 12 c)->a7 (e.getD 13 c)->a7 (e.getD 14 c)->a7 (e.getD 15 c)->a7 (e.getD 16 c)->a7 (e.getD 17 c)->a7 (e.getD 18 c)->a7 (e.getD 19 c)->a7 (e.getD 20 c)->a7 (e.getD 21 c)->a7 (e.getD 22 c)->a7 (e.getD 23 c)->a7 (e.getD 24 c)->a7 (e.getD 25 c)->a7 (e.getD 26 c)->a7 (e.getD 27 c)->a7 (e.getD 28 c)->a7 (e.getD 29 c)->a7 (e.getD 30 c)->a7 (e.getD 31 c)->a7 (e.getD 32 c)->a7 (e.getD 33 c)->a7 (e.getD 34 c)->a7 (e.getD 35 c)->a7 (e.getD 36 c)->a7 (e.getD 37 c)->a7 (e.getD 38 c)->a7 (e.getD 39 c)->a7 (e.getD 40 c)->a7 (e.getD 41 c)->a7 (e.getD 42 c)->a7 (e.getD 43 c)->a7 (e.getD 44 c)->a7 (e.getD 45 c)->a7 (e.getD 46 c)->a7 (e.getD 47 c)->a7 (e.getD 48 c)->a7 (e.getD 49 c)->a7 (e.getD 50 c)->a7 (e.getD 51 c)->a7 (e.getD 52 c)->a7 (e.getD 53 c)->a7 (e.getD 54 c)->a7 (e.getD 55 c)->a7 (e.getD 56 c)->a7 (e.getD 57 c)->a7 (e.getD 58 c)->a7 (e.getD 59 c)->a7 (e.getD 60 c)->a7 (e.getD 61 c)->a7 (e.getD 62 c)->a7 (e.getD 63 c)->a7 (e.getD 64 c)->g.length*8<=140737488355328->g=gD l id))) (mu (gm (EB Sh.int d f 65) (EB Sh.int e f 65)) 64)) (cT (aJ id l))) (c5 Sh.int)) (cT l)) (0:Nat))
 (repeat' with_reducible first|apply aT|refine aW ?_|intro)
 all_goals (first | exact bR | exact (Ue ap) | exact (by rw [mD (lj _),mD (lj _)]; exact QS _ _ _ rfl))
def aaq:ck:=(aI 348 Dt (aI 345 Ns abF))
def vv:ay prog (av l6) aaq:=(ah Qt (ah adx ua))
def rI:Kn:=aH (ae (kC (cL (.nm .snap))) ao) au fun (l,_) _=>⟨[r8 l<=1048576],[.c (.int (((ez l:Int))))],none,false⟩
def AY:CK 313 rI:=ag fun (l,_) _ f=>by
 have g:=b_ f;refine aq vv [] func313 (?_:(fun (d:l5 Sh.int)=>(fun (c:List Int)=>(fun (e:Nat)=>l.length*64<=140737488355328->r8 l<=1048576/\(a7 (c.getD 0 d)->a7 (c.getD 1 d)->a7 (c.getD 2 d)->a7 (c.getD 3 d)->a7 (c.getD 4 d)->a7 (c.getD 5 d)->a7 (c.getD 6 d)->a7 (c.getD 7 d)->a7 (c.getD 8 d)->a7 (c.getD 9 d)->a7 (c.getD 10 d)->a7 (c.getD 11 d)->a7 (c.getD 12 d)->a7 (c.getD 13 d)->a7 (c.getD 14 d)->a7 (c.getD 15 d)->a7 (c.getD 16 d)->a7 (c.getD 17 d)->a7 (c.getD 18 d)->a7 (c.getD 19 d)->a7 (c.getD 20 d)->a7 (c.getD 21 d)->a7 (c.getD 22 d)->a7 (c.getD 23 d)->a7 (c.getD 24 d)->a7 (c.getD 25 d)->a7 (c.getD 26 d)->a7 (c.getD 27 d)->a7 (c.getD 28 d)->a7 (c.getD 29 d)->a7 (c.getD 30 d)->a7 (c.getD 31 d)->a7 (c.getD 32 d)->a7 (c.getD 33 d)->a7 (c.getD 34 d)->a7 (c.getD 35 d)->a7 (c.getD 36 d)->a7 (c.getD 37 d)->a7 (c.getD 38 d)->a7 (c.getD 39 d)->a7 (c.getD 40 d)->a7 (c.getD 41 d)->a7 (c.getD 42 d)->a7 (c.getD 43 d)->a7 (c.getD 44 d)->a7 (c.getD 45 d)->a7 (c.getD 46 d)->a7 (c.getD 47 d)->a7 (c.getD 48 d)->a7 (c.getD 49 d)->a7 (c.getD 50 d)->a7 (c.getD 51 d)->a7 (c.getD 52 d)->a7 (c.getD 53 d)->a7 (c.getD 54 d)->a7 (c.getD 55 d)->a7 (c.getD 56 d)->a7 (c.getD 57 d)->a7 (c.getD 58 d)->a7 (c.getD 59 d)->a7 (c.getD 60 d)->a7 (c.getD 61 d)->a7 (c.getD 62 d)->a7 (c.getD 63 d)->a7 (c.getD 64 d)->(EB Sh.int c 0 65).length=65/\(e*8<=140737488355328->(e:Int)=(↑(ez l):Int)))) (mu (gg (EB Sh.int c 0 65)) 64).length) (cT l)) (c5 Sh.int));(repeat' with_reducible first|apply aT|refine aW ?_|intro)
 all_goals (first | exact bR | exact (by rw [mD (lj _)]; exact Jp _))
def IJ:Kn:=aH (ae (kC (cL (.nm .snap))) (ae (kC (cL .int)) ao)) au fun (l,m,_) _=>⟨[r8 l<=1048576],[.c (.int (((ez (l++[⟨0,0,m,false,⟨[]⟩⟩]):Int))))],none,false⟩
def XS:CK 343 IJ:=ag fun (l,m,_) _ j=>by
 have o:=b_ j;refine aq vv [] func343 (?_:(fun e=>(fun f=>(fun d=>(fun c=>(fun g=>l.length*64<=140737488355328->m.length*8<=140737488355328->r8 l<=1048576/\(a7 (c.getD f d)->a7 (c.getD 1 d)->a7 (c.getD 2 d)->a7 (c.getD 3 d)->a7 (c.getD 4 d)->a7 (c.getD 5 d)->a7 (c.getD 6 d)->a7 (c.getD 7 d)->a7 (c.getD 8 d)->a7 (c.getD 9 d)->a7 (c.getD 10 d)->a7 (c.getD 11 d)->a7 (c.getD 12 d)->a7 (c.getD 13 d)->a7 (c.getD 14 d)->a7 (c.getD 15 d)->a7 (c.getD 16 d)->a7 (c.getD 17 d)->a7 (c.getD 18 d)->a7 (c.getD 19 d)->a7 (c.getD 20 d)->a7 (c.getD 21 d)->a7 (c.getD 22 d)->a7 (c.getD 23 d)->a7 (c.getD 24 d)->a7 (c.getD 25 d)->a7 (c.getD 26 d)->a7 (c.getD 27 d)->a7 (c.getD 28 d)->a7 (c.getD 29 d)->a7 (c.getD 30 d)->a7 (c.getD 31 d)->a7 (c.getD 32 d)->a7 (c.getD 33 d)->a7 (c.getD 34 d)->a7 (c.getD 35 d)->a7 (c.getD 36 d)->a7 (c.getD 37 d)->a7 (c.getD 38 d)->a7 (c.getD 39 d)->a7 (c.getD 40 d)->a7 (c.getD 41 d)->a7 (c.getD 42 d)->a7 (c.getD 43 d)->a7 (c.getD 44 d)->a7 (c.getD 45 d)->a7 (c.getD 46 d)->a7 (c.getD 47 d)->a7 (c.getD 48 d)->a7 (c.getD 49 d)->a7 (c.getD 50 d)->a7 (c.getD 51 d)->a7 (c.getD 52 d)->a7 (c.getD 53 d)->a7 (c.getD 54 d)->a7 (c.getD 55 d)->a7 (c.getD 56 d)->a7 (c.getD 57 d)->a7 (c.getD 58 d)->a7 (c.getD 59 d)->a7 (c.getD 60 d)->a7 (c.getD 61 d)->a7 (c.getD 62 d)->a7 (c.getD 63 d)->a7 (c.getD 64 d)->(∀ (i:Nat),(fun h=>0<=h/\h+(m.length:Int)<=4611686018427387904) ((EB Sh.int c f e).getD i 0))/\g.length=e/\((mu (gg g) 64).length*8<=140737488355328->(↑(mu (gg g) 64).length:Int)=(↑(ez (l++[hX.mk 0 0 m false (o3.mk [])])):Int)))) (EB Sh.int (fo (EB Sh.int c f e) m) f e)) (cT l)) (c5 Sh.int)) (0:Nat)) (65:Nat));(repeat' with_reducible first|apply aT|refine aW ?_|intro)
 all_goals (first | exact bR | exact (Jb (s:=.int) ap ap _).1 | exact (Jb (s:=.int) ap ap _).2 | exact (by rw [mD (s:=.int) (xs:=fo _ _) (by rw [uK,Iy]),mD (lj l)]; have:=Jp (l++[hX.mk 0 0 m false ⟨[]⟩]); rw [ml] at this; exact this))
def aaI:ck:=(aI 343 IJ (aI 313 rI aaq))
def gT:ay prog (av l6) aaI:=(ah XS (ah AY vv))
def rP {α:Type} (l:List α) (i:Nat) (x:α):List α:=l.take i++x :: l.drop i
def wy {α:Type} (l:List α) (i:Int):List α:=l.take i.toNat++l.drop (i+1).toNat
def cG (s:b7) (c:b5):Int:=if 0<=ai l8.set c.set s.c6/\¬ (s.c6.getD (ai l8.set c.set s.c6).toNat (c5 (.nm .opn))).a6=c.a6 then -1 else ai l8.set c.set s.c6
def fh (s:b7) (c:b5):b7 × lg:=if 0<=ai l8.set c.set s.c6 then (s,⟨16,(s.c6.getD (ai l8.set c.set s.c6).toNat (c5 (.nm .opn))).a6⟩)
 else ({ s with c6:=rP s.c6 (s.c6.takeWhile fun y=>decide (y.set<c.set)).length ⟨c.set,c.a6⟩ },⟨0,0⟩)
def eT (s:b7) (c:b5):b7 × lg:=if cG s c<0 then (s,⟨15,0⟩) else ({ s with c6:=wy s.c6 (cG s c) },⟨0,0⟩)
def eC (s:b7) (c:b5):b7 × lg:=
 if cG s c<0 then (s,⟨15,0⟩)
 else if 16<=(s.b6.length:Int)\/1048576<=s.next then (s,⟨20,0⟩)
 else if ¬ s.ea=0/\s.ea<(ez (s.b6++[⟨0,0,c.b9,false,⟨[]⟩⟩]):Int) then (s,⟨19,0⟩)
 else ({ s with next:=s.next+1,c6:=wy s.c6 (cG s c),b6:=s.b6++[⟨s.next,c.set,c.b9,false,⟨[]⟩⟩] },⟨0,s.next⟩)
def d_ (s:b7) (c:Nat):b7 × lg:=
 if (s.b6.getD c (c5 (.nm .snap))).held=true then (s,⟨17,0⟩)
 else if g_ s c=true then (s,⟨18,0⟩)
 else ({ s with b6:=aJ (s.b6.getD c (c5 (.nm .snap))).id s.b6 },⟨0,(gD s.b6 (s.b6.getD c (c5 (.nm .snap))).id).length⟩)
def fS (s:b7) (c:Nat):b7 × lg:=(s,⟨0,(s.b6.getD c (c5 (.nm .snap))).b9.length⟩)
def gz (b:Bool) (s:b7) (c:Nat):b7 × lg:=
 if (s.b6.getD c (c5 (.nm .snap))).held=b then (s,⟨0,0⟩)
 else ({ s with b6:=s.b6.set c { s.b6.getD c (c5 (.nm .snap)) with held:=b } },⟨0,1⟩)
def pX (c:b5) (s:b7) (d:Nat):b7 × lg:=({ s with b6:=s.b6.set d { s.b6.getD d (c5 (.nm .snap)) with tag:=c.text } },⟨0,0⟩)
def rm (c:b5) (s:b7):b7 × lg:=({ s with dm:=c.n },⟨0,0⟩)
def nW (c:b5) (s:b7):b7 × lg:=({ s with ea:=c.n },⟨0,ez s.b6⟩)
def dj {d:α->Int} {c:Int} {l:List α} (h:0<=ai d c l):ai d c l<(l.length:Int):=by
 unfold ai at *;split
 ·rename_i i hi;have:=(Q3.1 hi).1;omega
 omega
theorem QW {s:b7} {c:b5} (h:0<=cG s c):cG s c+1<=(s.c6.length:Int):=by
 unfold cG at *;split
 ·grind
 rename_i d; rw [dc d] at h;have:=dj h;omega
def Lg (i:Int) (m:List l8) (l:List l8) (d:0<=i/\i<=(l.length:Int)) (e:l.length<1048576) (f:m.length=1):s6 prog (av l6) 341 [.c (.own 0),.c (.int (i)),.c (.fz (.nm .opn) (m))] [.row 139 (.nm .opn) (l)] ⟨[0<=i/\i<=(l.length:Int),l.length<1048576,m.length=1],[.c (.own 0)],some ([.row 139 (.nm .opn) ((l.take i.toNat++m++l.drop i.toNat))]),false⟩:=yB i l m d e f
def w_:Kn:=aH (ae (kC (fE 0)) (ae (kC cI) (ae (kC (cL (.nm .opn))) ao))) (aF (fD 139 (.nm .opn)) au) fun (_,i,m,_) (l,_)=>⟨[0<=i/\i<=(l.length:Int),l.length<1048576,m.length=1],[.c (.own 0)],some ([.row 139 (.nm .opn) ((l.take i.toNat++m++l.drop i.toNat))]),false⟩
def Me:CK 341 w_:=ag fun (_,i,m,_) (l,_) c=>Lg i m l (b_ c) (b_ (dv c)) (b_ (dv (dv c)))
def Gb (i:Int) (l:List eb) (m:List eb) (d:0<=i/\i<=(l.length:Int)) (e:l.length<1048576) (f:m.length=1):s6 prog (av l6) 263 [.c (.own 0),.c (.int (i)),.c (.own 1)] [.row 137 (.nm .b8) (l),.row 137 (.nm .b8) (m)] ⟨[0<=i/\i<=(l.length:Int),l.length<1048576,m.length=1],[.c (.own 0)],some ([.row 137 (.nm .b8) ((l.take i.toNat++m++l.drop i.toNat)),.row 137 (.nm .b8) ((m))]),false⟩:=yW i l m d e f
def sV:Kn:=aH (ae (kC (fE 0)) (ae (kC cI) (ae (kC (fE 1)) ao))) (aF (fD 137 (.nm .b8)) (aF (fD 137 (.nm .b8)) au)) fun (_,i,_,_) (l,m,_)=>⟨[0<=i/\i<=(l.length:Int),l.length<1048576,m.length=1],[.c (.own 0)],some ([.row 137 (.nm .b8) ((l.take i.toNat++m++l.drop i.toNat)),.row 137 (.nm .b8) ((m))]),false⟩
def Fg:CK 263 sV:=ag fun (_,i,_,_) (l,m,_) c=>Gb i l m (b_ c) (b_ (dv c)) (b_ (dv (dv c)))
def Md (i:Int) (j:Int) (l:List l8) (d:0<=i/\i<(l.length:Int)/\j=i+1):s6 prog (av l6) 344 [.c (.own 0),.c (.int (i)),.c (.int (j))] [.row 139 (.nm .opn) (l)] ⟨[0<=i/\i<(l.length:Int)/\j=i+1],[.c (.own 0)],some ([.row 139 (.nm .opn) ((l.take i.toNat++l.drop j.toNat))]),false⟩:=CD i j l d
def xM:Kn:=aH (ae (kC (fE 0)) (ae (kC cI) (ae (kC cI) ao))) (aF (fD 139 (.nm .opn)) au) fun (_,i,j,_) (l,_)=>⟨[0<=i/\i<(l.length:Int)/\j=i+1],[.c (.own 0)],some ([.row 139 (.nm .opn) ((l.take i.toNat++l.drop j.toNat))]),false⟩
def LF:CK 344 xM:=ag fun (_,i,j,_) (l,_) c=>Md i j l (b_ c)
def wA:Kn:=aH (ae (kC (bm 0 0)) (ae (kT (.nm .command)) ao)) (rW 0 au) fun (_,c,_) (z,_)=>⟨[],[.c (.int ((cG z c)))],none,false⟩
theorem MF:CK 342 wA:=ag fun (_,c,_) (z,_) _=>by
 obtain ⟨v,j,m,o,p,e,q⟩:=z;refine aq gT [] func342 (?_:(fun h=>(fun d=>(fun f=>(fun g=>bc c (a7 d->(f->f/\d<(e.length:Int))/\((f->a7 g.set/\a7 g.a6)->(f/\¬g.a6=c.a6 -> -1=h)/\(d<0\/g.a6=c.a6->d=h)))) (e.getD d.toNat (c5 (Sh.nm NT.opn)))) (0<=d)) (ai l8.set c.set e)) (cG (b7.mk v j m o p e q) c));(repeat' with_reducible first|apply aT|refine aW ?_|intro)
 all_goals (first | exact bR | exact dj ab | (unfold cG; grind))
def ND:Kn:=aH (ae (kC (bm 0 0)) (ae (kC (bm 1 0)) ao)) (aF (Ag 35 (.nm .command)) (rW 1 au)) fun _ (c,z,_)=>⟨[],[.agg (cellsOf (.nm .nd) ((rm c z).2))],some (([.box 35 (cellsOf (.nm .command) (c))]++uJ 1 ((rm c z).1))),false⟩
def afj:CK 311 ND:=ag fun _ (c,z,_) _=>by
 obtain ⟨v,e,m,f,g,h,j⟩:=z;refine bP gT [] func311 (?_:(fun d=>0=d.snd.code/\0=d.snd.n/\aX c c (cd (b7.mk v e c.n f g h j) d.fst)) (rm c (b7.mk v e m f g h j)));(repeat' with_reducible first|apply aT|refine aW ?_|intro)
 all_goals (exact rfl)
def Uy:Kn:=aH (ae (kC (bm 0 0)) (ae (kC (bm 1 0)) ao)) (aF (Ag 35 (.nm .command)) (rW 1 au)) fun _ (c,z,_)=>⟨[r8 z.b6<=1048576],[.agg (cellsOf (.nm .nd) ((nW c z).2))],some (([.box 35 (cellsOf (.nm .command) (c))]++uJ 1 ((nW c z).1))),false⟩
def afQ:CK 312 Uy:=ag fun _ (c,z,_) m=>by
 obtain ⟨v,f,g,o,h,j,d⟩:=z;have p:r8 d<=1048576:=b_ m;refine bP gT [] func312 (?_:(fun e=>r8 d<=1048576/\(a7 (↑(ez d):Int)->0=e.snd.code/\(↑(ez d):Int)=e.snd.n/\aX c c (cd (b7.mk v f g c.n h j d) e.fst))) (nW c (b7.mk v f g o h j d)));(repeat' with_reducible first|apply aT|refine aW ?_|intro)
 all_goals (exact bR)
def Jc:Kn:=aH (ae (kC (bm 0 0)) (ae (kC cI) ao)) (rW 0 au) fun (_,i,_) (z,_)=>⟨[0<=i/\i<(z.b6.length:Int),r8 z.b6<=1048576],[.agg (cellsOf (.nm .nd) ((d_ z i.toNat).2))],some ((uJ 0 ((d_ z i.toNat).1))),false⟩
theorem Zr:CK 315 Jc:=ag fun (_,i,_) (z,_) h=>by
 obtain ⟨v,j,m,o,p,q,c⟩:=z;have s:0<=i/\i<(c.length:Int):=b_ h;have t:r8 c<=1048576:=b_ (dv h);refine bP gT [] func315 (?_:(fun f=>(fun g=>(fun e=>(fun d=>(fun r=>a7 i->f<=i/\i<(c.length:Int)/\bY e ((e.held=true->a7 17->a7 f->17=d.snd.code/\r)/\(e.held=false->(g_ g i=true->a7 18->a7 f->18=d.snd.code/\r)/\(g_ g i=false->r8 c<=1048576/\((gD c e.id).length*8<=140737488355328->f=d.snd.code/\(↑(gD c e.id).length:Int)=d.snd.n/\cd (b7.mk v j m o p q (aJ e.id c)) d.fst))))) (f=d.snd.n/\cd g d.fst)) (d_ g i.toNat)) (c.getD i.toNat (c5 (Sh.nm NT.snap)))) (b7.mk v j m o p q c)) (0:Int));have hi:((i.toNat:Nat):Int)=i:=by omega
 (repeat' with_reducible first|apply aT|refine aW ?_|intro)
 all_goals (first | exact bR | (simp only [d_,hi]; grind))
def Nk:Kn:=aH (ae (kC cI) (ae (kC (bm 0 0)) ao)) (rW 0 au) fun (i,_,_) (z,_)=>⟨[0<=i/\i<(z.b6.length:Int)],[.agg (cellsOf (.nm .nd) ((fS z i.toNat).2))],some ((uJ 0 ((fS z i.toNat).1))),false⟩
def ad8:CK 316 Nk:=ag fun (i,_,_) (z,_) e=>by
 obtain ⟨v,f,g,h,j,m,c⟩:=z;have o:0<=i/\i<(c.length:Int):=b_ e;refine bP gT [] func316 (?_:(fun d=>a7 i->0<=i/\i<(c.length:Int)/\bY (c.getD i.toNat (c5 (Sh.nm NT.snap))) (0=(fS d i.toNat).snd.code/\(↑(c.getD i.toNat (c5 (Sh.nm NT.snap))).b9.length:Int)=(fS d i.toNat).snd.n/\cd d (fS d i.toNat).fst)) (b7.mk v f g h j m c));(repeat' with_reducible first|apply aT|refine aW ?_|intro)
 all_goals (exact bR)
def JC:Kn:=aH (ae (kC cI) (ae (kC (bm 0 0)) (ae (kC (bm 1 0)) ao))) (aF (Ag 35 (.nm .command)) (rW 1 au)) fun (i,_,_,_) (c,z,_)=>⟨[0<=i/\i<(z.b6.length:Int)],[.agg (cellsOf (.nm .nd) ((pX c z i.toNat).2))],some (([.box 35 (cellsOf (.nm .command) (c))]++uJ 1 ((pX c z i.toNat).1))),false⟩
def VU:CK 317 JC:=ag fun (i,_,_,_) (c,z,_) p=>by
 obtain ⟨v,g,h,j,m,o,d⟩:=z;have q:0<=i/\i<(d.length:Int):=b_ p;refine bP gT [] func317 (?_:(fun f=>(fun e=>a7 i->0<=i/\i<(d.length:Int)/\bY e (0=f.snd.code/\0=f.snd.n/\aX c c (cd (b7.mk v g h j m o (d.set i.toNat (hX.mk e.id e.set e.b9 e.held c.text))) f.fst))) (d.getD i.toNat (c5 (Sh.nm NT.snap)))) (pX c (b7.mk v g h j m o d) i.toNat));(repeat' with_reducible first|apply aT|refine aW ?_|intro)
 all_goals (exact bR)
def Ba:Kn:=aH (ae (kC cI) (ae (kC (bm 0 0)) (ae (kC (bm 4 0)) ao))) (rW 0 (aF (eu 4 (ax cB dY)) au)) fun (i,_,_,_) (z,(b,_),_)=>⟨[0<=i/\i<(z.b6.length:Int)],[.agg (cellsOf (.nm .nd) ((gz b z i.toNat).2))],some ((uJ 0 ((gz b z i.toNat).1)++[.box 4 ([.bool (.atom ((b)))])])),false⟩
theorem UC:CK 304 Ba:=ag fun (i,_,_,_) (z,(b,_),_) o=>by
 obtain ⟨v,f,g,h,j,m,d⟩:=z;have p:0<=i/\i<(d.length:Int):=b_ o;refine bP gT [] func304 (?_:(fun c=>(fun e=>a7 i->0<=i/\i<(d.length:Int)/\bY c (((c.held == b)=true->0=e.snd.code/\0=e.snd.n/\bS (b7.mk v f g h j m d) e.fst (b=b))/\((c.held == b)=false->0=e.snd.code/\1=e.snd.n/\bS (b7.mk v f g h j m (d.set i.toNat (hX.mk c.id c.set c.b9 b c.tag))) e.fst (b=b)))) (gz b (b7.mk v f g h j m d) i.toNat)) (d.getD i.toNat (c5 (Sh.nm NT.snap))));(repeat' with_reducible first|apply aT|refine aW ?_|intro)
 all_goals (first | exact bR | (simp only [gz]; grind))
def abC:ck:=(aI 304 Ba (aI 317 JC (aI 316 Nk (aI 315 Jc (aI 312 Uy (aI 311 ND (aI 342 wA (aI 344 xM (aI 263 sV (aI 341 w_ aaI))))))))))
def mC:ay prog (av l6) abC:=(ah UC (ah VU (ah ad8 (ah Zr (ah afQ (ah afj (ah MF (ah LF (ah Fg (ah Me gT))))))))))
theorem RP {p:α->Bool} {l:List α} (h:(l.take k).all p=true) (d:k<=l.length) (c:(l.length:Int)<=k\/(k:Int)<l.length/\∃ x,l[k]? = some x/\p x=false):k=(l.takeWhile p).length:=by
 induction l generalizing k with
 | nil=>simp at d; simp [d]
 | cons a l e=>
  cases k with
  | zero=>
   rcases c with c | ⟨_,x,f,g⟩
   ·grind
   simp_all
  | succ k=>
   simp only [K2,K3,pe] at h;rw [List.takeWhile_cons,h.1,eg rfl,y4];congr 1;refine e h.2 (by simpa using d) ?_;rcases c with c | ⟨j,x,f,g⟩
   ·grind
   grind
variable {op:List l8}
theorem akl {v d e f:Int} {g:List eb} {j:List hX} {c:b5} {s:Nat} (h:ai l8.set c.set op<0) (o:s<=op.length) (p:(op.take s).all (fun y=>decide (y.set<c.set))=true) (q:(op.length:Int)<=s\/c.set<=(op.getD s (c5 (.nm .opn))).set):op.take s++[l8.mk c.set c.a6]++op.drop s=(fh (b7.mk v d e f g op j) c).1.c6:=by
 have m:¬ 0<=ai l8.set c.set op:=by omega
 simp [fh,dc m];have:s=(op.takeWhile fun y=>decide (y.set<c.set)).length:=by grind [RP]
 rw [<- this]; simp [rP]
def ag2 {c:b5} {s:Nat} (e:(op.take s).all (fun y=>decide (y.set<c.set))=true) (h:(s:Int)<op.length) (f:(op.getD s (c5 (.nm .opn))).set<c.set):(op.take (s+1)).all (fun y=>decide (y.set<c.set))=true:=by
 rw [aj (gd (d:=c5 (.nm .opn)) h),J7,e]; simp only [K3,F0 f]; rfl
section
variable {v nx kp qt:Int} {se:List eb} {op:List l8} {sn:List hX} {c:b5}
def bgN (h:ai l8.set c.set op<0):fh (b7.mk v nx kp qt se op sn) c=(b7.mk v nx kp qt se (rP op (op.takeWhile fun y=>decide (y.set<c.set)).length ⟨c.set,c.a6⟩) sn,⟨0,0⟩):=by
 have d:¬ 0<=ai l8.set c.set op:=by omega
 simp [fh,dc d]
def bgY (h:0<=ai l8.set c.set op):fh (b7.mk v nx kp qt se op sn) c=(b7.mk v nx kp qt se op sn,⟨16,(op.getD (ai l8.set c.set op).toNat (c5 (.nm .opn))).a6⟩):=by
 simp [fh,eg h]
def abY (h:cG (b7.mk v nx kp qt se op sn) c<0):eT (b7.mk v nx kp qt se op sn) c=(b7.mk v nx kp qt se op sn,⟨15,0⟩):=by
 simp [eT,eg h]
def abN (h:0<=cG (b7.mk v nx kp qt se op sn) c):eT (b7.mk v nx kp qt se op sn) c=(b7.mk v nx kp qt se (op.take (cG (b7.mk v nx kp qt se op sn) c).toNat++op.drop (cG (b7.mk v nx kp qt se op sn) c+1).toNat) sn,⟨0,0⟩):=by
 have d:¬ cG (b7.mk v nx kp qt se op sn) c<0:=by omega
 simp [eT,dc d,wy]
end
def WL (c:b5) (v:Int) (d:Int) (e:Int) (f:Int) (g:List eb) (op:List l8) (h:List hX):List (Nat × LI):=[(5,{ σ:=Nat,F:=fun k=>([(0,one (.ptr 0 0)),(3,one (.ptr 4 0)),(4,one (.ptr 5 0)),(6,one (.int k))],(uJ 0 (b7.mk v d e f g op h)++[.box 35 (cellsOf (.nm .command) (c)),.box 78 ([.int ((0)),.int ((0))])])),J:=fun k=>k<=op.length/\(op.take k).all (fun y=>decide (y.set<c.set))=true,μ:=fun k=>op.length - k })]
def DD:Kn:=aH (ae (kC (bm 0 0)) (ae (kT (.nm .command)) ao)) (rW 0 au) fun (_,c,_) (z,_)=>⟨[z.c6.length<1048576],[.agg (cellsOf (.nm .nd) ((fh z c).2))],some ((uJ 0 ((fh z c).1))),false⟩
theorem Vn:CK 306 DD:=ag fun (_,c,_) (z,_) B=>by
 obtain ⟨v,h,j,m,o,op,p⟩:=z;have C:op.length<1048576:=b_ B;refine bP mC (WL c v h j m o op p) func306 (?_:(fun (r:l5 (Sh.nm NT.opn))=>(fun (g:Int)=>(fun (d:Int)=>(fun (f:Int)=>(fun (q:b7 × lg)=>(fun (A:Prop)=>bc c (a7 f->(d<=f->d<=f/\f<g/\(a7 (op.getD f.toNat r).set->a7 (op.getD f.toNat r).a6->16=q.snd.code/\(op.getD f.toNat r).a6=q.snd.n/\cd (b7.mk v h j m o op p) q.fst))/\(f<d->∃ (u:Nat),(d=(u:Int)/\A)/\(u<=op.length/\((take u op).all fun (y:l8)=>decide (y.set<c.set))=true)/\∀ (s:Nat),(fun (w:Int)=>(fun (e:Int)=>s<=op.length/\((take s op).all fun (y:l8)=>decide (y.set<c.set))=true->(e<g->d<=e/\e<g)/\((e<g->a7 w/\a7 (op.getD s r).a6)->(e<g/\w<c.set->a7 (e+1)/\∃ (t:Nat),(e+1=(t:Int)/\A)/\(t <= op.length/\((take t op).all fun (y:l8)=>decide (y.set<c.set))=true)/\op.length - t < op.length - s)/\(g<=e\/c.set<=w->((d<=e/\e<=g)/\op.length<1048576/\[l8.mk c.set c.a6].length=1)/\d=q.snd.code/\d=q.snd.n/\cd (b7.mk v h j m o (take s op++[l8.mk c.set c.a6]++drop s op) p) q.fst))) (s:Int)) (op.getD s r).set))) (v=v/\h=h/\j=j/\m=m/\o=o/\op=op/\p=p/\aX c c (d=d/\d=d))) (fh (b7.mk v h j m o op p) c)) (ai l8.set c.set op)) 0) (op.length:Int)) (c5 (Sh.nm NT.opn)));iterate 3 ((all_goals (repeat' with_reducible first|apply aT|refine aW ?_|intro)); (all_goals try (first | exact bR | exact dj ab | exact (ag2 ab ab ab) | exact (akl ab az ab ap) | (rw [bgN]; omega) | (rw [bgY]; omega))); all_goals try first | refine ⟨‹Nat› + 1,?_⟩ | refine ⟨0,?_⟩)
def Am:Kn:=aH (ae (kC (bm 0 0)) (ae (kT (.nm .command)) ao)) (rW 0 au) fun (_,c,_) (z,_)=>⟨[z.c6.length<1048576],[.agg (cellsOf (.nm .nd) ((eT z c).2))],some ((uJ 0 ((eT z c).1))),false⟩
def Ta:CK 310 Am:=ag fun (_,c,_) (z,_) s=>by
 obtain ⟨v,g,j,m,o,op,p⟩:=z;have t:op.length<1048576:=b_ s;refine bP mC [] func310 (?_:(fun d=>(fun f=>(fun q=>(fun e=>(fun r=>bc c (a7 e->(e<d->a7 15->a7 d->15=q.code/\d=q.n/\cd f (eT f c).fst)/\(d<=e->a7 r/\(d<=e/\e<(op.length:Int)/\r=r)/\d=q.code/\d=q.n/\cd (b7.mk v g j m o (take e.toNat op++drop r.toNat op) p) (eT f c).fst))) (e+1)) (cG f c)) (eT f c).snd) (b7.mk v g j m o op p)) (0:Int));have u:0<=cG (b7.mk v g j m o op p) c->cG (b7.mk v g j m o op p) c+1<=(op.length:Int):=fun h=>QW h;(repeat' with_reducible first|apply aT|refine aW ?_|intro)
 all_goals (first | exact bR | (rw [abN]; omega) | (rw [abY]; omega))
def xd:Kn:=aH (ae (kC (bm 0 0)) (ae (kT (.nm .command)) ao)) (rW 0 au) fun (_,c,_) (z,_)=>⟨[r8 z.b6<=1048576,z.b6.length<1048576,z.c6.length<1048576,0<=z.next],[.agg (cellsOf (.nm .nd) ((eC z c).2))],some ((uJ 0 ((eC z c).1))),false⟩
theorem KR:CK 308 xd:=ag fun (_,c,_) (z,_) q=>by
 obtain ⟨v,f,r,g,s,op,e⟩:=z;have y:r8 e<=1048576:=b_ q;have A:e.length<1048576:=b_ (dv q);have B:op.length<1048576:=b_ (dv (dv q));have C:0<=f:=b_ (dv (dv (dv q)));refine bP mC [] func308 (?_:(fun w=>(fun m=>(fun d=>(fun t=>(fun p=>(fun o=>(fun j=>(fun u=>bc c (a7 j->(j<d->a7 15->a7 d->15=o.code/\u)/\(d<=j->(16<=(e.length:Int)\/1048576<=f->a7 20->a7 d->20=o.code/\u)/\((e.length:Int)<16/\f<1048576->(¬g=d->r8 e<=1048576)/\((¬g=d->a7 t)->(¬g=d/\g<t->a7 19->a7 d->19=o.code/\u)/\(g=d\/t<=g->c.b9.length*8<=140737488355328->(e.length+[w].length)*64<=140737488355328/\a7 (f+m)/\a7 (j+m)/\(d<=j/\j<(op.length:Int)/\j+m=j+m)/\d=o.code/\f=o.n/\cd (b7.mk v (f+m) r g s (take j.toNat op++drop (j+m).toNat op) (e++[w])) (eC p c).fst)))))) (d=o.n/\cd p (eC p c).fst)) (cG p c)) (eC p c).snd) (b7.mk v f r g s op e)) (↑(ez (e++[hX.mk d d c.b9 false (o3.mk [])])):Int)) (0:Int)) (1:Int)) (hX.mk f c.set c.b9 false (o3.mk [])));have D:0<=cG (b7.mk v f r g s op e) c->cG (b7.mk v f r g s op e) c+1<=(op.length:Int):=fun h=>QW h;(repeat' with_reducible first|apply aT|refine aW ?_|intro)
 all_goals (first | exact bR | (simp only [eC,wy]; grind) | (simp only [y4,C1]; omega))
def NU:Kn:=aH (ae (kC cI) (ae (kC (bm 0 0)) ao)) (rW 0 au) fun (i,_,_) (z,_)=>⟨[0<=i/\i<(z.b6.length:Int),r8 z.b6<=1048576],[.agg (cellsOf (.nm .nd) ((d_ z i.toNat).2))],some ((uJ 0 ((d_ z i.toNat).1))),false⟩
def af2:CK 314 NU:=ag fun (i,_,_) (z,_) e=>by
 obtain ⟨v,f,g,h,j,op,d⟩:=z;have m:0<=i/\i<(d.length:Int):=b_ e;have o:r8 d<=1048576:=b_ (dv e);refine bP mC [] func314 (?_:(fun c=>a7 i->(0<=i/\i<(d.length:Int))/\r8 d<=1048576/\(a7 c.snd.code->a7 c.snd.n->c.snd.code=c.snd.code/\c.snd.n=c.snd.n/\cd c.fst c.fst)) (d_ (b7.mk v f g h j op d) i.toNat));(repeat' with_reducible first|apply aT|refine aW ?_|intro)
 all_goals (exact bR)
def abo:ck:=(aI 314 NU (aI 308 xd (aI 310 Am (aI 306 DD abC))))
def gW:ay prog (av l6) abo:=(ah af2 (ah KR (ah Ta (ah Vn mC))))
def bT (f:b7->Nat->b7 × lg) (c:b5) (s:b7):b7 × lg:=if ai hX.id c.id s.b6<0 then (s,⟨15,0⟩) else f s (ai hX.id c.id s.b6).toNat
section
variable {v nx kp qt:Int} {se:List eb} {op:List l8} {sn:List hX} {c:b5} {f:b7->Nat->b7 × lg}
def X6 (h:ai hX.id c.id sn<0):bT f c (b7.mk v nx kp qt se op sn)=(b7.mk v nx kp qt se op sn,⟨15,0⟩):=by
 simp [bT,eg h]
def X5 (h:0<=ai hX.id c.id sn):bT f c (b7.mk v nx kp qt se op sn)=f (b7.mk v nx kp qt se op sn) (ai hX.id c.id sn).toNat:=by
 have d:¬ ai hX.id c.id sn<0:=by omega
 simp [bT,dc d]
end
def OE:Kn:=aH (ae (kC (bm 0 0)) (ae (kC (bm 4 0)) ao)) (rW 0 (aF (Ag 35 (.nm .command)) au)) fun _ (z,c,_)=>⟨[z.c6.length<1048576],[.agg (cellsOf (.nm .nd) ((fh z c).2))],some ((uJ 0 ((fh z c).1)++[.box 35 (cellsOf (.nm .command) (c))])),false⟩
def adD:CK 305 OE:=ag fun _ (z,c,_) e=>by
 obtain ⟨v,f,g,h,j,op,m⟩:=z;have o:op.length<1048576:=b_ e;refine bP gW [] func305 (?_:(fun d=>op.length<1048576/\(a7 d.snd.code->a7 d.snd.n->d.snd.code=d.snd.code/\d.snd.n=d.snd.n/\bS d.fst d.fst (aG c c))) (fh (b7.mk v f g h j op m) c));(repeat' with_reducible first|apply aT|refine aW ?_|intro)
 all_goals (exact bR)
def SM:Kn:=aH (ae (kC (bm 0 0)) (ae (kC (bm 4 0)) ao)) (rW 0 (aF (Ag 35 (.nm .command)) au)) fun _ (z,c,_)=>⟨[r8 z.b6<=1048576,z.b6.length<1048576,z.c6.length<1048576,0<=z.next],[.agg (cellsOf (.nm .nd) ((eC z c).2))],some ((uJ 0 ((eC z c).1)++[.box 35 (cellsOf (.nm .command) (c))])),false⟩
def afH:CK 307 SM:=ag fun _ (z,c,_) f=>by
 obtain ⟨v,g,h,j,m,op,e⟩:=z;have o:r8 e<=1048576:=b_ f;have p:e.length<1048576:=b_ (dv f);have q:op.length<1048576:=b_ (dv (dv f));have r:0<=g:=b_ (dv (dv (dv f)));refine bP gW [] func307 (?_:(fun d=>r8 e<=1048576/\e.length<1048576/\op.length<1048576/\0<=g/\(a7 d.snd.code->a7 d.snd.n->d.snd.code=d.snd.code/\d.snd.n=d.snd.n/\bS d.fst d.fst (aG c c))) (eC (b7.mk v g h j m op e) c));(repeat' with_reducible first|apply aT|refine aW ?_|intro)
 all_goals (exact bR)
def Sd:Kn:=aH (ae (kC (bm 0 0)) (ae (kC (bm 4 0)) ao)) (rW 0 (aF (Ag 35 (.nm .command)) au)) fun _ (z,c,_)=>⟨[z.c6.length<1048576],[.agg (cellsOf (.nm .nd) ((eT z c).2))],some ((uJ 0 ((eT z c).1)++[.box 35 (cellsOf (.nm .command) (c))])),false⟩
def afF:CK 309 Sd:=ag fun _ (z,c,_) e=>by
 obtain ⟨v,f,g,h,j,op,m⟩:=z;have o:op.length<1048576:=b_ e;refine bP gW [] func309 (?_:(fun d=>op.length<1048576/\(a7 d.snd.code->a7 d.snd.n->d.snd.code=d.snd.code/\d.snd.n=d.snd.n/\bS d.fst d.fst (aG c c))) (eT (b7.mk v f g h j op m) c));(repeat' with_reducible first|apply aT|refine aW ?_|intro)
 all_goals (exact bR)
def oB:Kn:=aH (ae (kC (sQ 314 [] [(0,0)])) (ae (kC (bm 0 0)) (ae (kC (bm 4 0)) ao))) (rW 0 (aF (Ag 35 (.nm .command)) au)) fun _ (z,c,_)=>⟨[],[.c (.fn 301 [] [(0,0),(4,0),(5,0)])],some ((uJ 0 z++[.box 35 (cellsOf (.nm .command) (c)),.box 306 ([.fn 314 [] [(0,0)]])])),true⟩
def yX:CK 300 oB:=ag fun _ (z,c,_) _=>by
 obtain ⟨v,d,e,f,g,op,h⟩:=z;refine cr gW [] func300 (?_:v=v/\d=d/\e=e/\f=f/\g=g/\op=op/\h=h/\aG c c);(repeat' with_reducible first|apply aT|refine aW ?_|intro)
 all_goals (exact rfl)
def qX:Kn:=aH (ae (kC (sQ 316 [] [(0,0)])) (ae (kC (bm 0 0)) (ae (kC (bm 4 0)) ao))) (rW 0 (aF (Ag 35 (.nm .command)) au)) fun _ (z,c,_)=>⟨[],[.c (.fn 301 [] [(0,0),(4,0),(5,0)])],some ((uJ 0 z++[.box 35 (cellsOf (.nm .command) (c)),.box 306 ([.fn 316 [] [(0,0)]])])),true⟩
def Er:CK 300 qX:=ag fun _ (z,c,_) _=>by
 obtain ⟨v,d,e,f,g,op,h⟩:=z;refine cr gW [] func300 (?_:v=v/\d=d/\e=e/\f=f/\g=g/\op=op/\h=h/\aG c c);(repeat' with_reducible first|apply aT|refine aW ?_|intro)
 all_goals (exact rfl)
def vD:Kn:=aH (ae (kC (sQ 317 [] [(0,0),(1,0)])) (ae (kC (bm 1 0)) (ae (kC (bm 0 0)) ao))) (aF (Ag 35 (.nm .command)) (rW 1 au)) fun _ (c,z,_)=>⟨[],[.c (.fn 301 [] [(1,0),(0,0),(5,0)])],some (([.box 35 (cellsOf (.nm .command) (c))]++uJ 1 z++[.box 306 ([.fn 317 [] [(0,0),(1,0)]])])),true⟩
def Ff:CK 300 vD:=ag fun _ (c,z,_) _=>by
 obtain ⟨v,d,e,f,g,op,h⟩:=z;refine cr gW [] func300 (?_:aX c c (v=v/\d=d/\e=e/\f=f/\g=g/\op=op/\h=h));(repeat' with_reducible first|apply aT|refine aW ?_|intro)
 all_goals (exact rfl)
def rJ:Kn:=aH (ae (kC (sQ 304 [] [(0,0),(4,0)])) (ae (kC (bm 0 0)) (ae (kC (bm 5 0)) ao))) (rW 0 (aF (eu 4 (ax cB dY)) (aF (Ag 35 (.nm .command)) au))) fun _ (z,(b,_),c,_)=>⟨[],[.c (.fn 301 [] [(0,0),(5,0),(6,0)])],some ((uJ 0 z++[.box 4 ([.bool (.atom ((b)))]),.box 35 (cellsOf (.nm .command) (c)),.box 306 ([.fn 304 [] [(0,0),(4,0)]])])),true⟩
def BN:CK 300 rJ:=ag fun _ (z,(b,_),c,_) _=>by
 obtain ⟨v,d,e,f,g,op,h⟩:=z;refine cr gW [] func300 (?_:v=v/\d=d/\e=e/\f=f/\g=g/\op=op/\h=h/\b=b/\aG c c);(repeat' with_reducible first|apply aT|refine aW ?_|intro)
 all_goals (exact rfl)
def aa0:ck:=(aI 300 rJ (aI 300 vD (aI 300 qX (aI 300 oB (aI 309 Sd (aI 307 SM (aI 305 OE abo)))))))
def kg:ay prog (av l6) aa0:=(ah BN (ah Ff (ah Er (ah yX (ah afF (ah afH (ah adD gW)))))))
def Px:Kn:=aH (ae (kC cB) (ae (kC (bm 0 0)) (ae (kC (bm 1 0)) ao))) (aF (eu 308 (ax (sQ 300 [] [(1,0),(5,0)]) dY)) (rW 1 (aF (Ag 35 (.nm .command)) au))) fun (b,_,_,_) ((_,_),z,c,_)=>⟨[],[.c (.fn 301 [] [(1,0),(5,0),(7,0)])],some (([.box 308 ([.fn 300 [] [(1,0),(5,0)]])]++uJ 1 z++[.box 35 (cellsOf (.nm .command) (c)),.box 4 ([.bool (.atom ((b)))]),.box 306 ([.fn 304 [] [(1,0),(6,0)]])])),true⟩
def adt:CK 303 Px:=ag fun (b,_,_,_) ((_,_),z,c,_) _=>by
 obtain ⟨v,d,e,f,g,op,h⟩:=z;refine cr kg [] func303 (?_:v=v/\d=d/\e=e/\f=f/\g=g/\op=op/\h=h/\aX c c (b=b));(repeat' with_reducible first|apply aT|refine aW ?_|intro)
 all_goals (exact rfl)
def vM:Kn:=aH (ae (kC (bm 0 0)) (ae (kC (bm 4 0)) (ae (kC (bm 5 0)) ao))) (rW 0 (aF (Ag 35 (.nm .command)) (aF (eu 306 (ax (sQ 314 [] [(0,0)]) dY)) au))) fun _ (z,c,(_,_),_)=>⟨[r8 z.b6<=1048576],[.agg (cellsOf (.nm .nd) ((bT d_ c z).2))],some ((uJ 0 ((bT d_ c z).1)++[.box 35 (cellsOf (.nm .command) (c)),.box 306 ([.fn 314 [] [(0,0)]])])),false⟩
def Gv:CK 301 vM:=ag fun _ (z,c,(_,_),_) j=>by
 obtain ⟨v,m,o,p,q,op,f⟩:=z;have r:r8 f<=1048576:=b_ j;refine bP kg [] func301 (?_:(fun d=>(fun g=>(fun h=>(fun e=>a7 d->(d<0->a7 15->a7 0->15=e.snd.code/\0=e.snd.n/\bS g e.fst (aG c c))/\(0<=d->(0<=d/\d<(f.length:Int))/\r8 f<=1048576/\(a7 h.code->a7 h.n->h.code=e.snd.code/\h.n=e.snd.n/\bS (d_ g d.toNat).fst e.fst (aG c c)))) (bT d_ c g)) (d_ g d.toNat).snd) (b7.mk v m o p q op f)) (ai hX.id c.id f));(repeat' with_reducible first|apply aT|refine aW ?_|intro)
 all_goals (first | exact bR | exact dj ab | (rw [X6] <;> omega) | (rw [X5] <;> first | rfl | omega))
def xQ:Kn:=aH (ae (kC (bm 0 0)) (ae (kC (bm 4 0)) (ae (kC (bm 5 0)) ao))) (rW 0 (aF (Ag 35 (.nm .command)) (aF (eu 306 (ax (sQ 316 [] [(0,0)]) dY)) au))) fun _ (z,c,(_,_),_)=>⟨[],[.agg (cellsOf (.nm .nd) ((bT fS c z).2))],some ((uJ 0 ((bT fS c z).1)++[.box 35 (cellsOf (.nm .command) (c)),.box 306 ([.fn 316 [] [(0,0)]])])),false⟩
def LL:CK 301 xQ:=ag fun _ (z,c,(_,_),_) _=>by
 obtain ⟨v,j,m,o,p,op,h⟩:=z;refine bP kg [] func301 (?_:(fun d=>(fun f=>(fun g=>(fun e=>a7 d->(d<0->a7 15->a7 0->15=e.snd.code/\0=e.snd.n/\bS f e.fst (aG c c))/\(0<=d->(0<=d/\d<(h.length:Int))/\(a7 g.code->a7 g.n->g.code=e.snd.code/\g.n=e.snd.n/\bS (fS f d.toNat).fst e.fst (aG c c)))) (bT fS c f)) (fS f d.toNat).snd) (b7.mk v j m o p op h)) (ai hX.id c.id h));(repeat' with_reducible first|apply aT|refine aW ?_|intro)
 all_goals (first | exact bR | exact dj ab | (rw [X6] <;> omega) | (rw [X5] <;> first | rfl | omega))
def Cs:Kn:=aH (ae (kC (bm 0 0)) (ae (kC (bm 4 0)) (ae (kC (bm 5 0)) ao))) (rW 0 (aF (Ag 35 (.nm .command)) (aF (eu 306 (ax (sQ 317 [] [(4,0),(0,0)]) dY)) au))) fun _ (z,c,(_,_),_)=>⟨[],[.agg (cellsOf (.nm .nd) ((bT (pX c) c z).2))],some ((uJ 0 ((bT (pX c) c z).1)++[.box 35 (cellsOf (.nm .command) (c)),.box 306 ([.fn 317 [] [(4,0),(0,0)]])])),false⟩
def NM:CK 301 Cs:=ag fun _ (z,c,(_,_),_) _=>by
 obtain ⟨v,j,m,o,p,op,h⟩:=z;refine bP kg [] func301 (?_:(fun d=>(fun f=>(fun g=>(fun e=>a7 d->(d<0->a7 15->a7 0->15=e.snd.code/\0=e.snd.n/\bS f e.fst (aG c c))/\(0<=d->(0<=d/\d<(h.length:Int))/\(a7 g.code->a7 g.n->g.code=e.snd.code/\g.n=e.snd.n/\bS (pX c f d.toNat).fst e.fst (aG c c)))) (bT (pX c) c f)) (pX c f d.toNat).snd) (b7.mk v j m o p op h)) (ai hX.id c.id h));(repeat' with_reducible first|apply aT|refine aW ?_|intro)
 all_goals (first | exact bR | exact dj ab | (rw [X6] <;> omega) | (rw [X5] <;> first | rfl | omega))
def xg:Kn:=aH (ae (kC (bm 0 0)) (ae (kC (bm 4 0)) (ae (kC (bm 5 0)) ao))) (rW 0 (aF (Ag 35 (.nm .command)) (aF (eu 306 (ax (sQ 304 [] [(0,0),(6,0)]) dY)) (aF (eu 4 (ax cB dY)) au)))) fun _ (z,c,(_,_),(b,_),_)=>⟨[],[.agg (cellsOf (.nm .nd) ((bT (gz b) c z).2))],some ((uJ 0 ((bT (gz b) c z).1)++[.box 35 (cellsOf (.nm .command) (c)),.box 306 ([.fn 304 [] [(0,0),(6,0)]]),.box 4 ([.bool (.atom ((b)))])])),false⟩
def MW:CK 301 xg:=ag fun _ (z,c,(_,_),(b,_),_) _=>by
 obtain ⟨v,j,m,o,p,op,h⟩:=z;refine bP kg [] func301 (?_:(fun d=>(fun f=>(fun g=>(fun e=>a7 d->(d<0->a7 15->a7 0->15=e.snd.code/\0=e.snd.n/\bS f e.fst (aX c c (b=b)))/\(0<=d->(0<=d/\d<(h.length:Int))/\(a7 g.code->a7 g.n->g.code=e.snd.code/\g.n=e.snd.n/\bS (gz b f d.toNat).fst e.fst (aX c c (b=b))))) (bT (gz b) c f)) (gz b f d.toNat).snd) (b7.mk v j m o p op h)) (ai hX.id c.id h));(repeat' with_reducible first|apply aT|refine aW ?_|intro)
 all_goals (first | exact bR | exact dj ab | (rw [X6] <;> omega) | (rw [X5] <;> first | rfl | omega))
def aa3:ck:=(aI 301 xg (aI 301 Cs (aI 301 xQ (aI 301 vM (aI 303 Px aa0)))))
def Aq:ay prog (av l6) aa3:=(ah MW (ah NM (ah LL (ah Gv (ah adt kg)))))
def fI (s:b7) (c:b5):Int:=if bJ s s.a8=0 then aP c s.a8 else 1
def rU (s:b7) (c:b5):b7 × lg:=
 if c.kind=11 then bT (pX c) c s
 else if c.kind=10 then bT (gz false) c s
 else if c.kind=9 then bT (gz true) c s
 else if c.kind=7 then bT fS c s
 else if c.kind=5 then bT d_ c s
 else if c.kind=12 then nW c s
 else if c.kind=6 then rm c s
 else if c.kind=4 then eT s c
 else if c.kind=3 then eC s c
 else if c.kind=2 then fh s c
 else (s,⟨1,0⟩)
def bV (s:b7) (c:b5):b7 × lg:=if ¬ fI s c=0 then (s,⟨fI s c,0⟩) else rU s c
theorem yy {α:Type} {d:α->Int} {c:Int}:∀ {l:List α} {a:Int},al d c a l=true->l=[]\/a+(l.length:Int)<=c
 | [],_,_=>.inl rfl
 | x :: l,a,h=>by
  simp [al] at h;have e:=vU h.1;rcases yy h.2 with h2 | h2
  ·grind
  grind
theorem fW {s:b7} {v:Int} (h:bJ s v=0):aO v 1 3=true/\fO s v=true/\oy s=true/\my s=true/\fR s v=true:=by
 unfold bJ at h;grind
theorem aed {s:b7} {v:Int} (h:bJ s v=0):s.c6.length<=8:=by
 have c:=(fW h).2.2.2.1;simp [my] at c;rcases yy c.1 with h2 | h2
 ·grind
 omega
theorem ac9 {s:b7} {v:Int} (h:bJ s v=0):s.b8.length<=8:=by
 have c:=(fW h).2.2.1;simp [oy] at c;rcases yy c.1 with h2 | h2
 ·grind
 omega
theorem Qz {s:b7} {v:Int} (h:bJ s v=0):s.b6.length<=16/\al hX.id (s.next - 1) 0 s.b6=true/\∀ x ∈ s.b6,dF v (nH v) x=true:=by
 have c:=(fW h).2.2.2.2;simp [fR] at c;grind
variable {t:Int}
theorem aeO {v:Int} (h:dF v t x=true):bI x.b9=true:=by
 simp [dF] at h;cases c:bI x.b9 with
 | true=>rfl
 | false=>have:=kY (l:=x.b9) c; omega
theorem QV:∀ {l:List hX},(∀ x ∈ l,bI x.b9=true)->r8 l<=8*l.length
 | [],_=>sh _
 | x :: l,h=>by
  have d:=QV (l:=l) fun y c=>h y (w8 _ c);have f:=(zl (h x (z6))).2;have e:r8 (x :: l)=x.b9.length+r8 l:=by simp [r8]
  grind
theorem JH {s:b7} {v:Int} (h:bJ s v=0):r8 s.b6<=128:=by grind [Qz,QV,aeO]
def adF {s:b7} {v:Int} (h:bJ s v=0):1<=s.next/\s.next<=1048576:=by
 have c:=(fW h).2.1;simp [fO] at c;exact vU c.1.1.2
theorem Bx {s:b7} {c:b5} (h:(if bJ s s.a8=0 then aP c s.a8 else 1)=0):bJ s s.a8=0:=by grind
def Fc {s:b7} {c:b5} (h:(if bJ s s.a8=0 then aP c s.a8 else 1)=0):r8 s.b6<=1048576:=by have:=JH (Bx h); omega
def Pv {s:b7} {c:b5} (h:(if bJ s s.a8=0 then aP c s.a8 else 1)=0):s.c6.length<1048576:=by have:=aed (Bx h); omega
def BV {s:b7} {c:b5} (h:(if bJ s s.a8=0 then aP c s.a8 else 1)=0):s.b8.length<1048576:=by have:=ac9 (Bx h); omega
def SH {s:b7} {c:b5} (h:(if bJ s s.a8=0 then aP c s.a8 else 1)=0):s.b6.length<1048576:=by have:=(Qz (Bx h)).1; omega
def OJ {s:b7} {c:b5} (h:(if bJ s s.a8=0 then aP c s.a8 else 1)=0):0<=s.next:=by have:=adF (Bx h); omega
def yL {s:b7} {c:b5} (h:(if bJ s s.a8=0 then aP c s.a8 else 1)=0):bV s c=rU s c:=by
 have h:fI s c=0:=h;rw [bV,h]; rfl
def ail {s:b7} {c:b5} (h:¬ (if bJ s s.a8=0 then aP c s.a8 else 1)=0):bV s c=(s,⟨(if bJ s s.a8=0 then aP c s.a8 else 1),0⟩):=by
 have h:¬ fI s c=0:=h;rw [bV,eg h]; rfl
def Sq:Kn:=aH (ae (kT (.nm .eS)) (ae (kT (.nm .command)) ao)) au fun (st,c,_) _=>⟨[],[.agg ([.int (((bV st c).1.a8)),.int (((bV st c).1.next)),.int (((bV st c).1.dm)),.int (((bV st c).1.ea)),.own 0,.own 1,.own 2]),.agg (cellsOf (.nm .nd) ((bV st c).2))],some ([.row 137 (.nm .b8) (((bV st c).1.b8)),.row 139 (.nm .opn) (((bV st c).1.c6)),.row 172 (.nm .snap) (((bV st c).1.b6))]),true⟩
def afn:CK 281 Sq:=ag fun (st,c,_) _ _=>by
 refine cr Aq [] func281 (?_:(fun y=>(fun G=>(fun H=>(fun u=>(fun I=>(fun v=>(fun j=>(fun m=>(fun o=>(fun s=>(fun z=>(fun A=>(fun B=>(fun C=>(fun D=>(fun F=>(fun K=>(fun w=>(fun d=>(fun J=>(fun p=>(fun q=>(fun r=>(fun e=>(fun f=>(fun g=>(fun h=>(fun L=>cw st (bc c (a7 y->a7 st.next->a7 st.dm->a7 st.ea->a7 K->(¬K=u->a7 K->a7 u->y=h/\st.next=e/\st.dm=f/\st.ea=g/\K=d/\L)/\(K=u->(s=11->a7 C.snd.code->a7 C.snd.n->C.fst.a8=h/\C.fst.next=e/\C.fst.dm=f/\C.fst.ea=g/\C.snd.code=d/\C.snd.n=w.n/\C.fst.b8=p/\C.fst.c6=r/\C.fst.b6=q)/\(¬s=11->(s=10->a7 F.snd.code->a7 F.snd.n->F.fst.a8=h/\F.fst.next=e/\F.fst.dm=f/\F.fst.ea=g/\F.snd.code=d/\F.snd.n=w.n/\F.fst.b8=p/\F.fst.c6=r/\F.fst.b6=q)/\(¬s=10->(s=9->a7 D.snd.code->a7 D.snd.n->D.fst.a8=h/\D.fst.next=e/\D.fst.dm=f/\D.fst.ea=g/\D.snd.code=d/\D.snd.n=w.n/\D.fst.b8=p/\D.fst.c6=r/\D.fst.b6=q)/\(¬s=9->(s=7->a7 B.snd.code->a7 B.snd.n->B.fst.a8=h/\B.fst.next=e/\B.fst.dm=f/\B.fst.ea=g/\B.snd.code=d/\B.snd.n=w.n/\B.fst.b8=p/\B.fst.c6=r/\B.fst.b6=q)/\(¬s=7->(s=5->H/\(a7 A.snd.code->a7 A.snd.n->A.fst.a8=h/\A.fst.next=e/\A.fst.dm=f/\A.fst.ea=g/\A.snd.code=d/\A.snd.n=w.n/\A.fst.b8=p/\A.fst.c6=r/\A.fst.b6=q))/\(¬s=5->(s=12->H/\(a7 j.snd.code->a7 j.snd.n->j.fst.a8=h/\j.fst.next=e/\j.fst.dm=f/\j.fst.ea=g/\j.snd.code=d/\j.snd.n=w.n/\j.fst.b8=p/\j.fst.c6=r/\j.fst.b6=q))/\(¬s=12->(s=6->a7 G.code->a7 G.n->v.a8=h/\v.next=e/\v.dm=f/\v.ea=g/\G.code=d/\G.n=w.n/\v.b8=p/\v.c6=r/\v.b6=q)/\(¬s=6->(s=4->I/\(a7 o.snd.code->a7 o.snd.n->o.fst.a8=h/\o.fst.next=e/\o.fst.dm=f/\o.fst.ea=g/\o.snd.code=d/\o.snd.n=w.n/\o.fst.b8=p/\o.fst.c6=r/\o.fst.b6=q))/\(¬s=4->(s=3->H/\st.b6.length<1048576/\I/\u<=st.next/\(a7 z.snd.code->a7 z.snd.n->z.fst.a8=h/\z.fst.next=e/\z.fst.dm=f/\z.fst.ea=g/\z.snd.code=d/\z.snd.n=w.n/\z.fst.b8=p/\z.fst.c6=r/\z.fst.b6=q))/\(¬s=3->(s=2->I/\(a7 m.snd.code->a7 m.snd.n->m.fst.a8=h/\m.fst.next=e/\m.fst.dm=f/\m.fst.ea=g/\m.snd.code=d/\m.snd.n=w.n/\m.fst.b8=p/\m.fst.c6=r/\m.fst.b6=q))/\(¬s=2->a7 1->a7 u->y=h/\st.next=e/\st.dm=f/\st.ea=g/\1=d/\L)))))))))))))) (u=w.n/\st.b8=p/\st.c6=r/\st.b6=q)) J.a8) J.ea) J.dm) J.next) J.c6) J.b6) J.b8) (bV st c).fst) w.code) (bV st c).snd) (if bJ st y=u then aP c y else 1)) (bT (gz false) c st)) (bT (gz true) c st)) (bT (pX c) c st)) (bT fS c st)) (bT d_ c st)) (eC st c)) c.kind) (eT st c)) (fh st c)) (nW c st)) (rm c st).fst) (st.c6.length<1048576)) (0:Int)) (r8 st.b6<=1048576)) (rm c st).snd) st.a8)
 (repeat' with_reducible first|apply aT|refine aW ?_|intro)
 all_goals (first | exact (Fc ab) | exact (Pv ab) | exact (BV ab) | exact (SH ab) | exact (OJ ab) | (rw [ail ab]; done) | (rw [yL ab]; simp only [rU, *]; done) | (rw [yL ab]; simp [rU, *]; done))
def aan:ck:=(aI 281 Sq aa3)
def DW:ay prog (av l6) aan:=(ah afn Aq)
def dk (s:b7) (c:b5):b7 × lg:=
 if ai eb.a6 c.a6 s.b8<0 then (s,⟨11,0⟩)
 else if c.seq=(s.b8.getD (ai eb.a6 c.a6 s.b8).toNat (c5 (.nm .b8))).seq then (s,(s.b8.getD (ai eb.a6 c.a6 s.b8).toNat (c5 (.nm .b8))).last)
 else if c.seq<(s.b8.getD (ai eb.a6 c.a6 s.b8).toNat (c5 (.nm .b8))).seq then (s,⟨13,0⟩)
 else if (s.b8.getD (ai eb.a6 c.a6 s.b8).toNat (c5 (.nm .b8))).seq+1<c.seq then (s,⟨14,0⟩)
 else ({ (bV s c).1 with b8:=(bV s c).1.b8.set (ai eb.a6 c.a6 s.b8).toNat { (bV s c).1.b8.getD (ai eb.a6 c.a6 s.b8).toNat (c5 (.nm .b8)) with seq:=c.seq,last:=(bV s c).2 } },(bV s c).2)
def jm (s:b7) (c:b5):b7 × lg:=
 if ¬ fI s c=0 then (s,⟨fI s c,0⟩)
 else if c.kind=8 then (if ¬ c.n=s.a8+1 then (s,⟨1,0⟩) else ({ s with a8:=c.n },⟨0,c.n⟩))
 else if c.kind=1 then (if 0<=ai eb.a6 c.a6 s.b8 then (s,⟨12,0⟩) else ({ s with b8:=rP s.b8 (s.b8.takeWhile fun y=>decide (y.a6<c.a6)).length ⟨c.a6,0,⟨0,0⟩⟩ },⟨0,0⟩))
 else dk s c
variable {Q:b7 × lg->Prop}
theorem Zc {s:b7} {c:b5} (g:∀ e:Int,¬ e=0->Q (s,⟨e,0⟩))
  (d:∀ f:b7->Nat->b7 × lg,fI s c=0->(f=pX c\/(∃ b,f=gz b)\/f=fS\/f=d_)->Q (bT f c s))
  (j:fI s c=0->Q (nW c s)) (m:fI s c=0->Q (rm c s)) (o:fI s c=0->Q (eT s c)) (p:fI s c=0->Q (eC s c)) (q:fI s c=0->Q (fh s c)):Q (bV s c):=by
 unfold bV;split
 ·exact g _ ap
 rename_i h;have h:fI s c=0:=B4.1 h;unfold rU;split
 ·exact d _ h (.inl rfl)
 split
 ·grind
 split
 ·exact d _ h (.inr (.inl ⟨_,rfl⟩))
 split
 ·exact d _ h (.inr (.inr (.inl rfl)))
 split
 ·exact d _ h (.inr (.inr (.inr rfl)))
 split
 ·exact j h
 split
 ·exact m h
 split
 ·exact o h
 split
 ·exact p h
 split
 ·exact q h
 exact g 1 am
theorem LU {f:b7->Nat->b7 × lg} {s:b7} {c:b5} (d:∀ e:Int,¬ e=0->Q (s,⟨e,0⟩)) (h:∀ n:Nat,(n:Int)=ai hX.id c.id s.b6->Q (f s n)):Q (bT f c s):=by
 unfold bT;grind
theorem nh {s:b7} {c:b5}:(bV s c).1.b8=s.b8:=by
 refine Zc (Q:=fun r=>r.1.b8=s.b8) (fun _ _=>rfl) (fun f _ d=>?_) (fun _=>rfl) (fun _=>rfl) (fun _=>?_) (fun _=>?_) (fun _=>?_)
 ·refine LU (Q:=fun r=>r.1.b8=s.b8) (fun _ _=>rfl) fun n _=>?_;rcases d with rfl | ⟨b,rfl⟩ | rfl | rfl
  ·rfl
  ·unfold gz; split <;> rfl
  ·rfl
  unfold d_; split; rfl; split <;> rfl
 ·unfold eT; split <;> rfl
 ·unfold eC; split; rfl; split; rfl; split <;> rfl
 unfold fh; split <;> rfl
theorem II {l:List eb} {q:Int} {R:lg} (h:k<l.length):(l.set k (eb.mk (l.getD k (c5 (.nm .b8))).a6 q (l.getD k (c5 (.nm .b8))).last)).set k (eb.mk ((l.set k (eb.mk (l.getD k (c5 (.nm .b8))).a6 q (l.getD k (c5 (.nm .b8))).last)).getD k (c5 (.nm .b8))).a6 ((l.set k (eb.mk (l.getD k (c5 (.nm .b8))).a6 q (l.getD k (c5 (.nm .b8))).last)).getD k (c5 (.nm .b8))).seq R)=l.set k { l.getD k (c5 (.nm .b8)) with seq:=q,last:=R }:=by simp_all
section
variable {v nx kp qt:Int} {se:List eb} {op:List l8} {sn:List hX} {c:b5}
def as1 (h:ai eb.a6 c.a6 se<0):dk (b7.mk v nx kp qt se op sn) c=(b7.mk v nx kp qt se op sn,⟨11,0⟩):=by
 simp [dk,eg h]
def as2 (h:0<=ai eb.a6 c.a6 se) (e:c.seq=(se.getD (ai eb.a6 c.a6 se).toNat (c5 (.nm .b8))).seq):dk (b7.mk v nx kp qt se op sn) c=(b7.mk v nx kp qt se op sn,(se.getD (ai eb.a6 c.a6 se).toNat (c5 (.nm .b8))).last):=by
 have d:¬ ai eb.a6 c.a6 se<0:=by omega
 simp only [dk,dc d,eg e]
def as3 (h:0<=ai eb.a6 c.a6 se) (e:¬ c.seq=(se.getD (ai eb.a6 c.a6 se).toNat (c5 (.nm .b8))).seq) (l:c.seq<(se.getD (ai eb.a6 c.a6 se).toNat (c5 (.nm .b8))).seq):dk (b7.mk v nx kp qt se op sn) c=(b7.mk v nx kp qt se op sn,⟨13,0⟩):=by
 have d:¬ ai eb.a6 c.a6 se<0:=by omega
 simp only [dk,dc d,dc e,eg l]
def as4 (h:0<=ai eb.a6 c.a6 se) (e:¬ c.seq=(se.getD (ai eb.a6 c.a6 se).toNat (c5 (.nm .b8))).seq) (l:(se.getD (ai eb.a6 c.a6 se).toNat (c5 (.nm .b8))).seq<=c.seq) (g:(se.getD (ai eb.a6 c.a6 se).toNat (c5 (.nm .b8))).seq+1<c.seq):dk (b7.mk v nx kp qt se op sn) c=(b7.mk v nx kp qt se op sn,⟨14,0⟩):=by
 have d:¬ ai eb.a6 c.a6 se<0:=by omega
 have f:¬ c.seq<(se.getD (ai eb.a6 c.a6 se).toNat (c5 (.nm .b8))).seq:=by omega
 simp only [dk,dc d,dc e,dc f,eg g]
def as5 (h:0<=ai eb.a6 c.a6 se) (e:¬ c.seq=(se.getD (ai eb.a6 c.a6 se).toNat (c5 (.nm .b8))).seq) (l:(se.getD (ai eb.a6 c.a6 se).toNat (c5 (.nm .b8))).seq<=c.seq) (g:c.seq<=(se.getD (ai eb.a6 c.a6 se).toNat (c5 (.nm .b8))).seq+1):dk (b7.mk v nx kp qt se op sn) c=({ (bV (b7.mk v nx kp qt se op sn) c).1 with b8:=(bV (b7.mk v nx kp qt se op sn) c).1.b8.set (ai eb.a6 c.a6 se).toNat { (bV (b7.mk v nx kp qt se op sn) c).1.b8.getD (ai eb.a6 c.a6 se).toNat (c5 (.nm .b8)) with seq:=c.seq,last:=(bV (b7.mk v nx kp qt se op sn) c).2 } },(bV (b7.mk v nx kp qt se op sn) c).2):=by
 have d:¬ ai eb.a6 c.a6 se<0:=by omega
 have f:¬ c.seq<(se.getD (ai eb.a6 c.a6 se).toNat (c5 (.nm .b8))).seq:=by omega
 have j:¬ (se.getD (ai eb.a6 c.a6 se).toNat (c5 (.nm .b8))).seq+1<c.seq:=by omega
 simp only [dk,dc d,dc e,dc f,dc j]
def TJ (h:0<=ai eb.a6 c.a6 se):ai eb.a6 c.a6 se<((bV (b7.mk v nx kp qt se op sn) c).1.b8.length:Int):=by rw [nh]; exact dj h
def Il (h:0<=ai eb.a6 c.a6 se):(ai eb.a6 c.a6 se).toNat<(bV (b7.mk v nx kp qt se op sn) c).1.b8.length:=by have:=TJ (v:=v) (nx:=nx) (kp:=kp) (qt:=qt) (op:=op) (sn:=sn) h; omega
def aiF {x:eb} (h:0<=ai eb.a6 c.a6 se):ai eb.a6 c.a6 se<(((bV (b7.mk v nx kp qt se op sn) c).1.b8.set (ai eb.a6 c.a6 se).toNat x).length:Int):=by rw [B8]; exact TJ h
def ahs (h:fI (b7.mk v nx kp qt se op sn) c=0) (g:0<=ai eb.a6 c.a6 se):a7 ((se.getD (ai eb.a6 c.a6 se).toNat (c5 (.nm .b8))).seq+1):=by
 have e:=(fW (Bx h)).2.2.1;simp [oy] at e;have f:=e.2 _ (A9 (gd (d:=c5 (.nm .b8)) (k:=(ai eb.a6 c.a6 se).toNat) (l:=se) (by have:=dj g; omega)));simp only [bu,pe] at f;have j:=vU f.1.1;constructor <;> omega
end
def AS:Kn:=aH (ae (kG (ax cI (ax cI (ax cI (ax cI (ax (fE 0) (ax (fE 1) (ax (fE 2) dY)))))))) (ae (kT (.nm .command)) ao)) (aF (fD 137 (.nm .b8)) (aF (fD 139 (.nm .opn)) (aF (fD 172 (.nm .snap)) au))) fun ((v,d,e,f,_,_,_,_),c,_) (g,op,h,_)=>⟨[fI (b7.mk v d e f g op h) c=0],[.agg ([.int (((dk (b7.mk v d e f g op h) c).1.a8)),.int (((dk (b7.mk v d e f g op h) c).1.next)),.int (((dk (b7.mk v d e f g op h) c).1.dm)),.int (((dk (b7.mk v d e f g op h) c).1.ea)),.own 0,.own 1,.own 2]),.agg (cellsOf (.nm .nd) ((dk (b7.mk v d e f g op h) c).2))],some ([.row 137 (.nm .b8) (((dk (b7.mk v d e f g op h) c).1.b8)),.row 139 (.nm .opn) (((dk (b7.mk v d e f g op h) c).1.c6)),.row 172 (.nm .snap) (((dk (b7.mk v d e f g op h) c).1.b6))]),false⟩
theorem Oz:CK 264 AS:=ag fun ((v,F,G,H,_,_,_,_),c,_) (z,op,J,_) K=>by
 have L:=b_ K;refine bP DW [] func264 (?_:(fun u=>(fun j=>(fun A=>(fun h=>(fun w=>(fun s=>(fun I=>(fun D=>(fun g=>(fun e=>(fun d=>(fun m=>(fun B=>(fun f=>(fun o=>(fun p=>(fun q=>(fun r=>(fun C=>(fun y=>a7 v->a7 F->a7 G->a7 H->bc c (a7 h->(h<j->a7 11->a7 j->r/\p/\o/\q/\11=e.code/\y)/\(j<=h->j<=h/\h<(z.length:Int)/\dM s ((u=s.seq->r/\p/\o/\q/\s.last.code=e.code/\s.last.n=e.n/\C)/\(¬u=s.seq->(u<s.seq->a7 13->a7 j->r/\p/\o/\q/\13=e.code/\y)/\(s.seq<=u->a7 I/\(I<u->a7 14->a7 j->r/\p/\o/\q/\14=e.code/\y)/\(u<=I->a7 d.a8->a7 d.next->a7 d.dm->a7 d.ea->a7 g.code->a7 g.n->(j<=h/\h<(d.b8.length:Int))/\dM m (j<=h/\h<(B.length:Int))/\dM m (dM (B.getD w A) (d.a8=f.a8/\d.next=f.next/\d.dm=f.dm/\d.ea=f.ea/\g.code=e.code/\g.n=e.n/\B.set w (eb.mk (B.getD w A).a6 (B.getD w A).seq g)=f.b8/\d.c6=f.c6/\d.b6=f.b6))))))))) (j=e.n/\C)) (z=f.b8/\op=f.c6/\J=f.b6)) (v=f.a8)) (H=f.ea)) (F=f.next)) (G=f.dm)) (dk D c).fst) (d.b8.set w (eb.mk m.a6 u m.last))) (d.b8.getD w A)) (bV D c).fst) (dk D c).snd) (bV D c).snd) (b7.mk v F G H z op J)) (s.seq+1)) (z.getD w A)) h.toNat) (ai eb.a6 c.a6 z)) (c5 (Sh.nm NT.b8))) (0:Int)) c.seq);(repeat' with_reducible first|apply aT|refine aW ?_|intro)
 all_goals (first | exact bR | exact dj ab | exact TJ ab | exact aiF ab | exact ahs ab ab | (rw [as1] <;> with_reducible assumption) | (rw [as2] <;> first | rfl | with_reducible assumption | exact II (Il ab)) | (rw [as3] <;> first | with_reducible assumption | exact II (Il ab)) | (rw [as4] <;> first | rfl | with_reducible assumption | exact II (Il ab)) | (rw [as5] <;> first | rfl | with_reducible assumption | exact II (Il ab)))
def aaX:ck:=(aI 264 AS aan)
def Bm:ay prog (av l6) aaX:=(ah Oz DW)
section
variable {s:b7} {c:b5}
def aqc (h:(if bJ s s.a8=0 then aP c s.a8 else 1)=0):fI s c=0:=h
def akK (h:(if bJ s s.a8=0 then aP c s.a8 else 1)=0):a7 (s.a8+1):=by
 have d:=(fW (Bx h)).2.1;simp [fO] at d;have:=vU d.1.1.1;constructor <;> omega
def doE (h:¬ (if bJ s s.a8=0 then aP c s.a8 else 1)=0):jm s c=(s,⟨(if bJ s s.a8=0 then aP c s.a8 else 1),0⟩):=by
 have h:¬ fI s c=0:=h;rw [jm,eg h]; rfl
def T8 (h:(if bJ s s.a8=0 then aP c s.a8 else 1)=0):jm s c=if c.kind=8 then (if ¬ c.n=s.a8+1 then (s,⟨1,0⟩) else ({ s with a8:=c.n },⟨0,c.n⟩))
 else if c.kind=1 then (if 0<=ai eb.a6 c.a6 s.b8 then (s,⟨12,0⟩) else ({ s with b8:=rP s.b8 (s.b8.takeWhile fun y=>decide (y.a6<c.a6)).length ⟨c.a6,0,⟨0,0⟩⟩ },⟨0,0⟩))
 else dk s c:=by
 have h:¬ ¬ fI s c=0:=fun k=>k h;rw [jm,dc h]
def agP (h:(if bJ s s.a8=0 then aP c s.a8 else 1)=0) (k:c.kind=8) (n:¬ c.n=s.a8+1):jm s c=(s,⟨1,0⟩):=by rw [T8 h,eg k,eg n]
def ajG (h:(if bJ s s.a8=0 then aP c s.a8 else 1)=0) (k:c.kind=8) (n:c.n=s.a8+1):jm s c=({ s with a8:=c.n },⟨0,c.n⟩):=by rw [T8 h,eg k,dc (fun h=>h n)]
def aiy (h:(if bJ s s.a8=0 then aP c s.a8 else 1)=0) (k:c.kind=1) (n:0<=ai eb.a6 c.a6 s.b8):jm s c=(s,⟨12,0⟩):=by rw [T8 h,dc az,eg k,eg n]
def ajz (h:(if bJ s s.a8=0 then aP c s.a8 else 1)=0) (k:c.kind=1) (n:ai eb.a6 c.a6 s.b8<0):jm s c=({ s with b8:=rP s.b8 (s.b8.takeWhile fun y=>decide (y.a6<c.a6)).length ⟨c.a6,0,⟨0,0⟩⟩ },⟨0,0⟩):=by rw [T8 h,dc az,eg k,dc az]
def R7 (h:(if bJ s s.a8=0 then aP c s.a8 else 1)=0) (k:¬ c.kind=8) (n:¬ c.kind=1):jm s c=dk s c:=by rw [T8 h,dc k,dc n]
variable {l:List eb}
theorem zV {x:eb} (d:k<=l.length) (e:(l.take k).all (fun y=>decide (y.a6<c.a6))=true) (f:(l.length:Int)<=k\/c.a6<=(l.getD k (c5 (.nm .b8))).a6):l.take k++[x]++l.drop k=rP l (l.takeWhile fun y=>decide (y.a6<c.a6)).length x:=by
 have:k=(l.takeWhile fun y=>decide (y.a6<c.a6)).length:=by grind [RP]
 rw [<- this]; simp [rP]
def ake (e:(l.take k).all (fun y=>decide (y.a6<c.a6))=true) (h:(k:Int)<l.length) (f:(l.getD k (c5 (.nm .b8))).a6<c.a6):(l.take (k+1)).all (fun y=>decide (y.a6<c.a6))=true:=by
 rw [aj (gd (d:=c5 (.nm .b8)) h),J7,e]; simp only [K3,F0 f]; rfl
end
def aqj (st:b7) (c:b5):List (Nat × LI):=[(15,{ σ:=Nat,F:=fun k=>([(2,one (.ptr 0 0)),(3,one (.ptr 1 0)),(4,one (.ptr 2 0)),(5,one (.ptr 3 0)),(7,one (.int k))],[.box 46 ([.int ((st.a8)),.int ((st.next)),.int ((st.dm)),.int ((st.ea)),.own 4,.own 5,.own 6]),.box 35 (cellsOf (.nm .command) (c)),.box 46 ([.int ((0)),.int ((0)),.int ((0)),.int ((0)),.em true,.em true,.em true]),.box 78 ([.int ((0)),.int ((0))]),.row 137 (.nm .b8) ((st.b8)),.row 139 (.nm .opn) ((st.c6)),.row 172 (.nm .snap) ((st.b6))]),J:=fun k=>k<=st.b8.length/\(st.b8.take k).all (fun y=>decide (y.a6<c.a6))=true,μ:=fun k=>st.b8.length - k })]
def ZU:Kn:=aH (ae (kT (.nm .eS)) (ae (kT (.nm .command)) ao)) au fun (st,c,_) _=>⟨[],[.agg ([.int (((jm st c).1.a8)),.int (((jm st c).1.next)),.int (((jm st c).1.dm)),.int (((jm st c).1.ea)),.own 0,.own 1,.own 2]),.agg (cellsOf (.nm .nd) ((jm st c).2))],some ([.row 137 (.nm .b8) (((jm st c).1.b8)),.row 139 (.nm .opn) (((jm st c).1.c6)),.row 172 (.nm .snap) (((jm st c).1.b6))]),true⟩
theorem ajX:CK 227 ZU:=ag fun (st,c,_) _ _=>by
 refine cr Bm (aqj st c) func227 (?_:(fun (H:List l8)=>(fun (z:Int)=>(fun (A:Int)=>(fun (B:lg)=>(fun (C:Int)=>(fun (U:l5 (Sh.nm NT.b8))=>(fun (G:Int)=>(fun (v:Int)=>(fun (w:lg)=>(fun (o:b7)=>(fun (D:Int)=>(fun (O:Int)=>(fun (P:Int)=>(fun (f:List eb)=>(fun (I:Int)=>(fun (h:Int)=>(fun (d:Int)=>(fun (j:Prop)=>(fun (p:Int)=>(fun (T:Prop)=>(fun (g:b7)=>(fun (K:Prop)=>(fun (F:Prop)=>(fun (q:Prop)=>(fun (r:Prop)=>(fun (u:Prop)=>(fun (L:Prop)=>(fun (J:Prop)=>cw st (bc c (a7 D->a7 z->a7 A->a7 C->a7 p->(¬p=d->a7 p->a7 d->F/\r/\q/\u/\p=w.code/\J)/\(p=d->(c.kind=8->a7 (D+v)/\(¬c.n=D+v->a7 v->a7 d->F/\r/\q/\u/\v=w.code/\J)/\(c.n=D+v->c.n=g.a8/\r/\q/\u/\d=w.code/\c.n=w.n/\L))/\(¬c.kind=8->(c.kind=v->a7 I->(d<=I->a7 12->a7 d->F/\r/\q/\u/\12=w.code/\J)/\(I<d->∃ (S:Nat),(d=(S:Int)/\T)/\(S<=f.length/\((take S f).all fun (y:eb)=>decide (y.a6<G))=true)/\∀ (s:Nat),(fun (e:Int)=>(fun (m:l5 (Sh.nm NT.b8))=>s<=f.length/\((take s f).all fun (y:eb)=>decide (y.a6<G))=true->(e<h->d<=e/\e<h)/\((e<h->a7 m.a6/\a7 m.seq/\a7 m.last.code/\a7 m.last.n)->(e<h/\m.a6<G->a7 (e+v)/\∃ (N:Nat),(e+v=(N:Int)/\T)/\(N <= f.length/\((take N f).all fun (y:eb)=>decide (y.a6<G))=true)/\f.length - N < f.length - s)/\(h<=e\/G<=m.a6->(d<=e/\e<=h)/\f.length<1048576/\[eb.mk G d (lg.mk d d)].length=1/\F/\r/\q/\u/\d=w.code/\d=w.n/\take s f++[eb.mk G d (lg.mk d d)]++drop s f=g.b8/\K))) (f.getD s U)) (s:Int)))/\(¬c.kind=v->fI st c=d/\(a7 o.a8->a7 o.next->a7 o.dm->a7 o.ea->a7 B.code->a7 B.n->o.a8=g.a8/\o.next=g.next/\o.dm=g.dm/\o.ea=g.ea/\B.code=w.code/\B.n=w.n/\o.b8=g.b8/\o.c6=g.c6/\o.b6=g.b6))))))) (d=w.n/\L)) (f=g.b8/\K)) (C=g.ea)) (z=g.next)) (A=g.dm)) (D=g.a8)) (H=g.c6/\st.b6=g.b6)) (jm st c).fst) (D=D/\z=z/\A=A/\C=C/\aX c c (j/\j/\j/\j/\j/\j/\f=f/\H=H/\st.b6=st.b6))) (if P=d then O else v)) (d=d)) 0) (f.length:Int)) (ai eb.a6 G f)) st.b8) (bJ st D)) (aP c D)) st.a8) (dk st c).fst) (jm st c).snd) 1) c.a6) (c5 (Sh.nm NT.b8))) st.ea) (dk st c).snd) st.dm) st.next) st.c6);iterate 3 ((all_goals (repeat' with_reducible first|apply aT|refine aW ?_|intro)); (all_goals try (first | exact bR | exact rfl | exact aqc ab | exact akK ab | exact BV ab | exact ake ab ab ab | (rw [doE] <;> with_reducible assumption) | (rw [agP] <;> first | rfl | with_reducible assumption | exact zV az ab ap) | (rw [ajG] <;> with_reducible assumption) | (rw [aiy] <;> first | rfl | with_reducible assumption | exact zV az ab ap) | (rw [ajz] <;> first | rfl | with_reducible assumption | exact zV az ab ap) | (rw [R7] <;> first | rfl | with_reducible assumption | exact zV az ab ap))); all_goals try first | refine ⟨‹Nat› + 1,?_⟩ | refine ⟨0,?_⟩)
def abI:ck:=(aI 227 ZU aaX)
def CA:ay prog (av l6) abI:=(ah ajX Bm)
def Dj:Kn:=aH ao au fun _ _=>⟨[],[.agg (cellsOf (.nm .eS) (⟨1,1,0,0,[],[],[]⟩))],none,false⟩
def Oo:CK 27 Dj:=ag fun _ _ _=>by
 refine aq CA [] func27 (?_:(1:Int)=1/\(1:Int)=1/\(0:Int)=0/\(0:Int)=0 /\ @Eq (List (l5 (Sh.nm NT.b8))) [] [] /\ @Eq (List (l5 (Sh.nm NT.opn))) [] [] /\ @Eq (List (l5 (Sh.nm NT.snap))) [] []);(repeat' with_reducible first|apply aT|refine aW ?_|intro)
 all_goals (exact rfl)
def abJ:ck:=(aI 27 Dj abI)
def OH:ay prog (av l6) abJ:=(ah Oo CA)
def aaE:ck:=abJ
def gS:ay prog (av l6) aaE:=OH
section
variable {s:b7} {c:b5}
def anv (d:bJ s s.a8=0) (h:aP c s.a8=0):(if bJ s s.a8=0 then aP c s.a8 else 1)=0:=by rw [eg d]; exact h
def Xz (d:bJ s s.a8=0) (e:aP c s.a8=0) (f:¬ c.kind=8) (g:¬ c.kind=1) (h:0<=ai eb.a6 c.a6 s.b8) (j:c.seq=(s.b8.getD (ai eb.a6 c.a6 s.b8).toNat (c5 (.nm .b8))).seq+1) :
  jm s c=(b7.mk (bV s c).1.a8 (bV s c).1.next (bV s c).1.dm (bV s c).1.ea (s.b8.set (ai eb.a6 c.a6 s.b8).toNat (eb.mk (s.b8.getD (ai eb.a6 c.a6 s.b8).toNat (c5 (.nm .b8))).a6 c.seq (bV s c).2)) (bV s c).1.c6 (bV s c).1.b6,(bV s c).2):=by
 rw [R7 (anv d e) f g];obtain ⟨v,m,o,p,q,op,r⟩:=s;rw [as5 h (by dsimp only at *; omega) (by dsimp only at *; omega) (by dsimp only at *; omega)];simp [nh]
end
def zu {c:b5} {v:Int} (h:aP c v=0):(1<=v/\v<=3)/\¬ bk c.kind=0/\bk c.kind<=v/\fL c=true:=by
 unfold aP at h;split at h
 ·cases h
 rename_i d;rw [F5,not_or] at d;simp at d;split at h
 ·cases h
 split at h
 ·cases h
 rename_i f e;exact ⟨vU d.1,d.2,az,by simpa using e⟩
def UF {s:b7} {c:b5} (h:fI s c=0):bJ s s.a8=0/\aP c s.a8=0:=by
 have d:=Bx (s:=s) (c:=c) h;refine ⟨d,?_⟩;unfold fI at h; rwa [eg d] at h
section
variable {α:Type} {key:α->Int} {most:Int}
def UY:∀ {l:List α} {a b:Int},a<=b->al key most b l=true->al key most a l=true
 | [],_,_,_,_=>rfl
 | x :: l,a,b,h,k=>by
  simp [al] at k ⊢;have:=vU k.1;exact ⟨by unfold aO; rw [pe,vo,vo]; omega,k.2⟩
def GH {l d:List α} (h:d.Sublist l):∀ {a:Int},al key most a l=true->al key most a d = true:=by
 induction h with
 | slnil=>intro a _; rfl
 | cons x _ c=>
  intro a k;simp [al] at k;have:=vU k.1;exact c (UY az k.2)
 | cons_cons x _ c=>
  intro a k;simp [al] at k ⊢;exact ⟨k.1,c k.2⟩
theorem Jk:∀ {l:List α} {a:Int},al key most a l=al id most a (l.map key)
 | [],_=>rfl
 | x :: l,a=>by
  show (aO (key x) (a+1) most && al key most (key x) l)=(aO (key x) (a+1) most && al id most (key x) (l.map key));rw [Jk (l:=l)]
theorem GM {l:List α} {i:Int} (h:0<=i):(wy l i).Sublist l:=by
 unfold wy;rw [show (i+1).toNat=i.toNat+1 by omega];have c:(l.drop (i.toNat+1)).Sublist (l.drop i.toNat):=by grind
 have d:=(List.Sublist.refl (l.take i.toNat)).append c;rwa [D5] at d
theorem td {want:Int} {l:List α} (h:ai key want l<0):∀ x ∈ l,¬ key x=want:=by
 refine nL.1 ?_;unfold ai at *;split
 ·grind
 rfl
end
def Wy {c:b5} (h:fL c=true):(jO c.kind).1<=c.n/\c.n<=(jO c.kind).2/\EC c=true/\U8 c=true/\kH c.a6 8 (!([(8:Int)].contains c.kind))=true/\kH c.seq 1048576 (!([(1:Int),8].contains c.kind))=true/\kH c.set 8 ([(2:Int),3,4].contains c.kind)=true:=by
 unfold fL at h;simp only [pe,vo] at h;obtain ⟨⟨⟨⟨⟨⟨⟨d,e⟩,f⟩,g⟩,j⟩,m⟩,o⟩,p⟩:=h;exact ⟨d,e,f,g,j,m,o⟩
def Gt {c:b5} (h:fL c=true) (k:c.kind=3):cu c.b9=0:=by
 have d:=(Wy h).2.2.1;unfold EC at d; rw [eg k] at d; exact (lR d).symm
def qO {s:b7} (M:bJ s s.a8=0):al l8.set 8 0 s.c6=true/\∀ x ∈ s.c6,bt x=true:=by
 have h:=(fW M).2.2.2.1;simp [my] at h;exact h
def Th {s:b7} {v:Int} (M:bJ s v=0):al eb.a6 8 0 s.b8=true/\∀ x ∈ s.b8,bu x=true:=by
 have h:=(fW M).2.2.1;simp [oy] at h;exact h
section
variable {α:Type} {key:α->Int} {most:Int}
theorem ma:∀ {l:List α} {a:Int},al key most a l=true->∀ x ∈ l,a<key x
 | [],_,_,_,h=>by cases h
 | y :: l,a,k,x,h=>by
  simp [al] at k;have c:=vU k.1;rcases u2.1 h with rfl | h
  ·omega
  have:=ma k.2 x h; omega
theorem yM:∀ {l:List α} {a:Int},al key most a l=true->∀ x ∈ l,∀ y ∈ l,key x=key y->x=y
 | [],_,_,_,h,_,_,_=>by cases h
 | z :: l,a,k,x,d,y,c,e=>by
  simp [al] at k;rcases u2.1 d with rfl | hx2
  ·rcases u2.1 c with rfl | hy2
   ·rfl
   have:=ma k.2 y hy2; omega
  rcases u2.1 c with rfl | hy2
  ·have:=ma k.2 x hx2; omega
  exact yM k.2 x hx2 y hy2 e
def qL {c:Int} {l:List α} {d:α} (h:0<=ai key c l):key (l.getD (ai key c l).toNat d)=c/\l.getD (ai key c l).toNat d ∈ l:=by
 unfold ai at *;cases f:l.findIdx? (fun x=>decide (key x=c)) with
 | none=>rw [f] at h; dsimp only at h; omega
 | some i=>
  obtain ⟨hi,g,_⟩:=Q3.1 f;have e:l.getD ((i:Int)).toNat d=l[i]:=by rw [G5,ts,p6 hi,Option.getD_some]
  dsimp only;rw [e];exact ⟨zc g,I1 hi⟩
end
section
variable {s:b7} {c:b5}
end
section
variable {α:Type} {key:α->Int} {most:Int}
theorem EE:∀ {l:List α} {a:Int} {i:Nat} {x:α},al key most a l=true->l[i]? = some x->∀ y ∈ l.take i,key y<key x
 | [],_,_,_,_,h,_,_=>by simp at h
 | z :: l,a,0,x,_,_,y,hy=>by simp at hy
 | z :: l,a,i+1,x,k,h,y,hy=>by
  simp [al] at k;rw [List.getElem?_cons_succ] at h;rw [K2] at hy;rcases u2.1 hy with rfl | hy
  ·exact ma k.2 x (A9 h)
  exact EE k.2 h y hy
end
section
variable {s:b7} {x:hX} {i:Nat}
end
section
variable {s:b7} {x:hX} {i:Nat}
end
section
variable {s:b7} {x:hX} {i:Nat}
end
section
variable {s:b7} {c:b5} {k:Nat}
end
section
variable {α:Type} {key:α->Int} {most:Int}
theorem JZ:∀ {l c:List α} {a:Int},al key most a l=true->al key most a c = true->(∀ x,x ∈ l↔x ∈ c)->l=c
 | [],[],_,_,_,_=>rfl
 | [],y :: c,_,_,_,h=>by have:=(h y).2 z6; cases this
 | x :: l,[],_,_,_,h=>by have:=(h x).1 z6; cases this
 | x :: l,y :: c,a,k,f,h=>by
  simp [al] at k f;have e:x=y:=by
   rcases u2.1 ((h x).1 z6) with e | hx
   ·exact e
   rcases u2.1 ((h y).2 z6) with e | hy
   ·exact e.symm
   have:=ma k.2 y hy;have:=ma f.2 x hx;omega
  subst e;rw [JZ k.2 f.2 fun z=>⟨fun d=>?_,fun d=>?_⟩]
  ·rcases u2.1 ((h z).1 (w8 _ d)) with rfl | h2
   ·have:=ma k.2 z d; omega
   exact h2
  rcases u2.1 ((h z).2 (w8 _ d)) with rfl | h2
  ·have:=ma f.2 z d; omega
  exact h2
def Rr (key:α->Int) (l:List α) (t:Int):Option α:=l.find? fun y=>decide (key y=t)
def zb {l:List α} {x:α} (h:Rr key l t=some x):key x=t/\x ∈ l:=⟨zc (List.find?_some (p:=fun y=>decide (key y=t)) h),List.mem_of_find?_eq_some h⟩
variable {a:Int}
def GJ {l:List α} {x:α} (k:al key most a l=true) (h:x ∈ l):Rr key l (key x)=some x:=by
 cases e:Rr key l (key x) with
 | none=>
  have:=List.find?_eq_none.1 e x h;simp at this
 | some y=>
  obtain ⟨c,d⟩:=zb e;rw [yM k y d x h c]
def Xn {l c:List α} (k:al key most a l=true) (e:al key most a c = true) (h:∀ t,Rr key l t=Rr key c t):l=c:=
 JZ k e fun x=>⟨fun d=>(zb ((h (key x)).symm.trans (GJ k d))).2,fun d=>(zb ((h (key x)).trans (GJ e d))).2⟩
def Xr {l:List α} (k:al key most a l=true) (h:0<=ai key t l) (u:Int):Rr key (wy l (ai key t l)) u=if u=t then none else Rr key l u:=by
 have w:=dj h;have f:(ai key t l).toNat<l.length:=by omega
 have c:=qL (d:=l[(ai key t l).toNat]) h;rw [ts,p6 f,Option.getD_some] at c;have e:l=l.take (ai key t l).toNat++l[(ai key t l).toNat] :: l.drop ((ai key t l).toNat+1):=by
  rw [List.getElem_cons_drop f,D5]
 have p:wy l (ai key t l)=l.take (ai key t l).toNat++l.drop ((ai key t l).toNat+1):=by
  unfold wy; rw [show (ai key t l+1).toNat=(ai key t l).toNat+1 by omega]
 by_cases g:u=t
 ·subst g;rw [eg rfl];refine List.find?_eq_none.2 fun y hy=>?_;have s:=GM (l:=l) h;intro m;have m:=zc m;have R:=Jk (key:=key) (most:=most) (l:=l) (a:=a) ▸ k;have:=yM k y (s.subset hy) _ c.2 (m.trans c.1.symm);have v:al key most a (l.take (ai key u l).toNat++l[(ai key u l).toNat] :: l.drop ((ai key u l).toNat+1))=true:=by rw [<- e]; exact k
  rw [p] at hy;rcases y2.1 hy with hy | hy
  ·have o:=EE k (p6 f) y hy;rw [this] at o; omega
  obtain ⟨j,q,r⟩:=List.mem_iff_getElem.1 hy;rw [List.getElem_drop] at r;have o:=EE (i:=(ai key u l).toNat+1+j) (x:=y) k (by rw [length_drop] at q; rw [p6 az,r]) l[(ai key u l).toNat] (by rw [aqI]; exact ⟨(ai key u l).toNat,by rw [length_drop] at q; omega,rfl⟩);rw [this] at o; omega
 rw [dc g,p];unfold Rr;conv=>rhs; rw [e,List.find?_append,List.find?_cons]
 rw [D1 (fun h=>g (h.symm.trans c.1)),List.find?_append]
end
section
variable {s:b7} {c:b5}
end
def gb {α:Type} (c:α->Int) (x:α):List α->List α
 | []=>[x]
 | y :: l=>if c x<c y then x :: y :: l else y :: gb c x l
def mA {α:Type} (c:α->Int) (l:List α) (x:α):Bool:=l.any fun y=>decide (c x<c y)
def gq {α:Type} (c:α->Int) (l:List α) (x:α):List α:=if mA c l x then gb c x l else l
def rZ (id:Int) (l:List l8):List l8:=l.filter fun x=>!decide (x.set=id)
section
variable {α:Type} {key:α->Int} {x y d:α}
theorem NA:∀ {l:List α},mA key l x=true->gb key x (l++[y])=gb key x l++[y]
 | [],h=>by cases h
 | z :: l,h=>by
  by_cases g:key x<key z
  ·simp [gb,eg g]
  have c:mA key l x=true:=by
   unfold mA at h ⊢; rw [any_cons,D1 g,Bool.false_or] at h; exact h
  simp [gb,dc g,NA c]
theorem EO:∀ {l:List α},mA key l x=false->gb key x l=l++[x]/\gb key x (l++[y])=l++gb key x [y]
 | [],_=>⟨rfl,rfl⟩
 | z :: l,h=>by
  unfold mA at h; rw [any_cons,Bool.or_eq_false_iff] at h;have g:=O3 h.1;obtain ⟨a,b⟩:=EO (l:=l) h.2;exact ⟨by simp [gb,dc g,a],by simp [gb,dc g] at b ⊢; rw [b]⟩
theorem BA:∀ {l:List α},(gb key x l).length=l.length+1
 | []=>rfl
 | z :: l=>by
  by_cases g:key x<key z
  ·simp [gb,eg g]
  simp [gb,dc g,BA (l:=l)]
variable {l:List α} {k:Nat}
def abz (c:l[k]? = some y) (g:mA key (l.take k) x=true):true=mA key (l.take (k+1)) x:=by
 unfold mA at *; rw [aj c,any_append,g]; rfl
def aaC (c:l[k]? = some y) (g:mA key (l.take k) x=false) (f:key (l.getD k d)<=key x):false=mA key (l.take (k+1)) x:=by
 have e:l.getD k d=y:=by rw [ts,c]; rfl
 rw [e] at f;unfold mA at *; rw [aj c,any_append,g]; simp only [any_cons,List.any_nil,Bool.or_false,Bool.false_or]; exact (D1 az).symm
def Sf (c:l[k]? = some y) (f:key x<key (l.getD k d)):true=mA key (l.take (k+1)) x:=by
 have e:l.getD k d=y:=by rw [ts,c]; rfl
 rw [e] at f;unfold mA at *; rw [aj c,any_append]; simp [F0 f]
theorem aez (c:l[k]? = some y) (g:mA key (l.take k) x=true):gq key (l.take k) x++[y]=gq key (l.take (k+1)) x:=by
 have e:=abz (key:=key) c g;unfold gq;rw [<- e,g,eg rfl,eg rfl,aj c,NA g]
theorem ac2 (c:l[k]? = some y) (g:mA key (l.take k) x=false) (f:key (l.getD k d)<=key x):gq key (l.take k) x++[y]=gq key (l.take (k+1)) x:=by
 have e:=aaC (key:=key) c g f;unfold gq;rw [<- e,g,dc am,dc am,aj c]
def PG (c:l[k]? = some y) (g:mA key (l.take k) x=false) (f:key x<key (l.getD k d)):gq key (l.take k) x++[x]++[y]=gq key (l.take (k+1)) x:=by
 have e:=Sf (key:=key) c f;have h:l.getD k d=y:=by rw [ts,c]; rfl
 rw [h] at f;unfold gq;rw [<- e,g,dc am,eg rfl,aj c,(EO g).2];simp [gb,eg f]
def abL (c:l[k]? = some y) (o:mA key (l.take k) x=true\/key (l.getD k d)<=key x):mA key (l.take k) x=mA key (l.take (k+1)) x:=by
 cases g:mA key (l.take k) x with
 | true=>exact abz c g
 | false=>exact aaC c g (o.resolve_left (by rw [g]; decide))
theorem RU (c:l[k]? = some y) (o:mA key (l.take k) x=true\/key (l.getD k d)<=key x):gq key (l.take k) x++[y]=gq key (l.take (k+1)) x:=by grind [aez,ac2]
def Qr (h:(l.length:Int)<=k) (g:mA key (l.take k) x=true):gq key (l.take k) x=gb key x l:=by
 rw [r6 az] at g ⊢;unfold gq; rw [eg g]
def OU (h:(l.length:Int)<=k) (g:mA key (l.take k) x=false):gq key (l.take k) x++[x]=gb key x l:=by
 rw [r6 az] at g ⊢;unfold gq; rw [dc (by rw [g]; decide),(EO (y:=x) g).1]
theorem CF (h:k<=l.length):(gq key (l.take k) x).length<=l.length+1:=by
 unfold gq; split
 ·grind [BA]
 rw [s9]; omega
def xj (h:k<=l.length) (g:mA key (l.take k) x=false):(gq key (l.take k) x).length<=l.length:=by
 unfold gq; rw [dc (by rw [g]; decide),s9]; omega
theorem ux {c:Int}:∀ {l:List α} {a:Int},al key c a l=true->(∀ y ∈ l,¬ key y=key x)->gb key x l=rP l (l.takeWhile fun y=>decide (key y<key x)).length x
 | [],_,_,_=>rfl
 | y :: l,a,k,f=>by
  simp [al] at k;have j:=f y (z6);by_cases h:key y<key x
  ·have e:rP (y :: l) ((y :: l).takeWhile fun y=>decide (key y<key x)).length x=y :: rP l (l.takeWhile fun y=>decide (key y<key x)).length x:=by
    rw [List.takeWhile_cons,F0 h,eg rfl]; rfl
   rw [e,gb,dc az,ux k.2 fun z g=>f z (w8 _ g)]
  have e:rP (y :: l) ((y :: l).takeWhile fun y=>decide (key y<key x)).length x=x :: y :: l:=by
   rw [List.takeWhile_cons,D1 h]; rfl
  rw [e,gb,eg az]
end
variable {l:List l8} {x:l8}
def ahT {id:Int} {y:l8} (h:¬ x.set=id) (c:l[k]? = some x) (d:l[k]? = some y):rZ id (l.take k)++[y]=rZ id (l.take (k+1)):=by
 rw [c] at d; cases d;unfold rZ; rw [aj c,E1]; simp [h]
def ait {id:Int} (c:l[k]? = some x) (h:x.set=id):rZ id (l.take k)=rZ id (l.take (k+1)):=by
 unfold rZ; rw [aj c,E1]; simp [h]
def ada {id:Int} (h:(l.length:Int)<=k):rZ id (l.take k)=rZ id l:=by rw [r6 az]
def afb {id:Int} (h:(k:Int)<l.length) (d:l.length*16<=140737488355328):((rZ id (l.take k)).length+[x].length)*16<=140737488355328:=by
 have c:=L5 (fun x:l8=>!decide (x.set=id)) (l.take k);rw [s9] at c;unfold rZ;simp;omega
def MJ (l:List l8) (id:Int):List (Nat × LI):=[(3,{ σ:=Nat,F:=fun k=>([(0,one (.fz (.nm .opn) (l))),(1,one (.int (id))),(5,one (.own 0)),(6,one (.int k))],[.row 139 (.nm .opn) ((rZ id (l.take k)))]),J:=fun k=>k<=l.length,μ:=fun k=>l.length - k })]
def EW (l:List hX) (id:Int):List (Nat × LI):=[(3,{ σ:=Nat,F:=fun k=>([(0,one (.fz (.nm .snap) (l))),(1,one (.int (id))),(5,one (.own 0)),(6,one (.int k))],[.row 172 (.nm .snap) ((aJ id (l.take k)))]),J:=fun k=>k<=l.length,μ:=fun k=>l.length - k })]
def acM (l:List l8) (x:l8):List (Nat × LI):=[(4,{ σ:=Nat,F:=fun k=>([(0,one (.fz (.nm .opn) (l))),(3,one (.ptr 0 0)),(5,one (.own 1)),(6,one (.bool (.atom (mA l8.set (l.take k) x)))),(7,one (.int k))],[.box 139 (cellsOf (.nm .opn) (x)),.row 139 (.nm .opn) ((gq l8.set (l.take k) x))]),J:=fun k=>k<=l.length,μ:=fun k=>l.length - k })]
def aeN (l:List eb) (x:eb):List (Nat × LI):=[(4,{ σ:=Nat,F:=fun k=>([(0,one (.fz (.nm .b8) (l))),(3,one (.ptr 0 0)),(5,one (.own 1)),(6,one (.bool (.atom (mA eb.a6 (l.take k) x)))),(7,one (.int k))],[.box 137 (cellsOf (.nm .b8) (x)),.row 137 (.nm .b8) ((gq eb.a6 (l.take k) x))]),J:=fun k=>k<=l.length,μ:=fun k=>l.length - k })]
def NN:Kn:=aH (ae (kT (.nm .eS)) (ae (kT (.nm .command)) ao)) au fun (st,c,_) _=>⟨[],[.c (.int ((if bJ st st.a8=0 then aP c st.a8 else 1)))],none,false⟩
theorem aeK:CK 114 NN:=ag fun (st,c,_) _ _=>by
 refine aq gS [] func114 (?_:(fun e=>(fun d=>(fun f=>cw st (bc c (a7 d->(¬d=0->1=f)/\(d=0->a7 e->e=f)))) (if d=0 then e else 1)) (bJ st st.a8)) (aP c st.a8));grind
def aaQ:Kn:=aH (ae (kT (.nm .eS)) (ae (kC cI) ao)) au fun (st,e,_) _=>⟨[],[.agg ([.int ((st.a8)),.int ((st.next)),.int ((st.dm)),.int ((st.ea)),.own 0,.own 1,.own 2]),.agg (cellsOf (.nm .nd) (⟨e,0⟩))],some ([.row 137 (.nm .b8) ((st.b8)),.row 139 (.nm .opn) ((st.c6)),.row 172 (.nm .snap) ((st.b6))]),true⟩
def agX:CK 115 aaQ:=ag fun (st,e,_) _ _=>by
 refine cr gS [] func115 (?_:cw st (a7 e->a7 st.a8->a7 st.next->a7 st.dm->a7 st.ea->st.a8=st.a8/\st.next=st.next/\st.dm=st.dm/\st.ea=st.ea/\e=e/\(0:Int)=0/\st.b8=st.b8/\st.c6=st.c6/\st.b6=st.b6));(repeat' with_reducible first|apply aT|refine aW ?_|intro)
 all_goals (exact rfl)
def th:Kn:=aH (ae (kC (cL (.nm .opn))) (ae (kC cI) ao)) au fun (l,id,_) _=>⟨[],[.c (.own 0)],some ([.row 139 (.nm .opn) ((rZ id l))]),true⟩
theorem Fq:CK 188 th:=ag fun (l,id,_) _ _=>by
 refine cr gS (MJ l id) func188 (?_:(fun (e:Int)=>(fun (d:Nat)=>l.length*16<=140737488355328->a7 id->∃ (h:Nat),(l=l/\id=id/\0=(h:Int)/\rZ id (take h l)=[])/\h<=d/\∀ (s:Nat),(fun (f:List l8)=>(fun (g:Int)=>s<=d->((s:Int)<e->0<=(s:Int)/\(s:Int)<e/\∀ (x:l8),l[s]? = some x->a7 x.set->a7 x.a6->(¬x.set=id->0<=(s:Int)/\(s:Int)<e/\∀ (x:l8),l[s]? = some x->a7 x.set->a7 x.a6->(f.length+[x].length)*16<=140737488355328/\a7 g/\∃ (c:Nat),(l=l/\id=id/\g=(c:Int)/\f++[x]=rZ id (take c l))/\c <= d/\d - c < d - s)/\(x.set=id->a7 g/\∃ (c:Nat),(l=l/\id=id/\g=(c:Int)/\f=rZ id (take c l))/\c <= d/\d - c < d - s))/\(e<=(s:Int)->f=rZ id l)) ((s:Int)+1)) (rZ id (take s l))) l.length) (l.length:Int));iterate 3 ((all_goals (repeat' with_reducible first|apply aT|refine aW ?_|intro)); (all_goals try (first | exact bR | exact (ahT ab ab ab) | exact (ait ab ab) | exact (ada az) | exact (afb az az))); all_goals try first | refine ⟨‹Nat› + 1,?_⟩ | refine ⟨0,?_⟩)
def rN:Kn:=aH (ae (kC (cL (.nm .snap))) (ae (kC cI) ao)) au fun (l,id,_) _=>⟨[],[.c (.own 0)],some ([.row 172 (.nm .snap) ((aJ id l))]),true⟩
theorem Em:CK 245 rN:=ag fun (l,id,_) _ _=>by
 refine cr gS (EW l id) func245 (?_:(fun (e:Int)=>(fun (d:Nat)=>l.length*64<=140737488355328->a7 id->∃ (h:Nat),(l=l/\id=id/\0=(h:Int)/\aJ id (take h l)=[])/\h<=d/\∀ (s:Nat),(fun (f:List hX)=>(fun (g:Int)=>s<=d->((s:Int)<e->0<=(s:Int)/\(s:Int)<e/\∀ (x:hX),l[s]? = some x->bY x ((¬x.id=id->0<=(s:Int)/\(s:Int)<e/\∀ (x:hX),l[s]? = some x->bY x ((f.length+[x].length)*64<=140737488355328/\a7 g/\∃ (c:Nat),(l=l/\id=id/\g=(c:Int)/\f++[x]=aJ id (take c l))/\c <= d/\d - c < d - s))/\(x.id=id->a7 g/\∃ (c:Nat),(l=l/\id=id/\g=(c:Int)/\f=aJ id (take c l))/\c <= d/\d - c < d - s)))/\(e<=(s:Int)->f=aJ id l)) ((s:Int)+1)) (aJ id (take s l))) l.length) (l.length:Int));iterate 3 ((all_goals (repeat' with_reducible first|apply aT|refine aW ?_|intro)); (all_goals try (first | exact bR | exact (Nz ab ab ab) | exact (Ve ab ab) | exact (Fh az) | exact (FM az az))); all_goals try first | refine ⟨‹Nat› + 1,?_⟩ | refine ⟨0,?_⟩)
def GX:Kn:=aH (ae (kC (cL (.nm .opn))) (ae (kT (.nm .opn)) ao)) au fun (l,x,_) _=>⟨[l.length<1048576],[.c (.own 0)],some ([.row 139 (.nm .opn) ((gb l8.set x l))]),true⟩
theorem Yc:CK 186 GX:=ag fun (l,x,_) _ v=>by
 have w:=b_ v;refine cr gS (acM l x) func186 (?_:(fun p=>(fun e=>(fun r=>l.length*16<=140737488355328->a7 x.set->a7 x.a6->∃ h,(l=l/\false=mA l8.set (take h l) x/\0=(h:Int)/\x.set=x.set/\p/\gq l8.set (take h l) x=[])/\h<=e/\∀ (s:Nat),(fun j=>(fun q=>(fun m=>(fun o=>(fun f=>(fun g=>(fun u=>s<=e->(j->(f=false->q/\j)/\((f=false->a7 m.set/\a7 m.a6)->(f=false/\x.set<m.set->u/\q/\j/\∀ (c:l8),l[s]? = some c->a7 c.set->a7 c.a6->((g++[x]).length+[c].length)*16<=140737488355328/\a7 o/\∃ d,(l=l/\true=mA l8.set (take d l) x/\o=(d:Int)/\x.set=x.set/\p/\g++[x]++[c]=gq l8.set (take d l) x)/\d <= e/\e - d < e - s)/\(f=true\/m.set<=x.set->q/\j/\∀ (c:l8),l[s]? = some c->a7 c.set->a7 c.a6->(g.length+[c].length)*16<=140737488355328/\a7 o/\∃ d,(l=l/\f=mA l8.set (take d l) x/\o=(d:Int)/\x.set=x.set/\p/\g++[c]=gq l8.set (take d l) x)/\d <= e/\e - d < e - s)))/\(r<=(s:Int)->(f=false->u/\g++[x]=gb l8.set x l)/\(f=true->g=gb l8.set x l))) ((g.length+[x].length)*16<=140737488355328)) (gq l8.set (take s l) x)) (mA l8.set (take s l) x)) ((s:Int)+1)) (l.getD s (c5 (Sh.nm NT.opn)))) (0<=(s:Int))) ((s:Int)<r)) (l.length:Int)) l.length) (x.a6=x.a6));iterate 3 ((all_goals (repeat' with_reducible first|apply aT|refine aW ?_|intro)); (all_goals try (first | exact bR | exact (abL (key:=l8.set) ab ap) | exact (Sf (key:=l8.set) ab ab) | exact (PG ab ab ab) | exact (RU ab ap) | exact (Qr az ab) | exact (OU az ab) | (have:=CF (key:=l8.set) (x:=x) (l:=l) (k:=‹Nat›) ap; have:=xj (key:=l8.set) (x:=x) (l:=l) (k:=‹Nat›) ap; simp only [r5,y4,C1]; omega))); all_goals try first | refine ⟨‹Nat› + 1,?_⟩ | refine ⟨0,?_⟩)
def Jf:Kn:=aH (ae (kC (cL (.nm .b8))) (ae (kT (.nm .b8)) ao)) au fun (l,x,_) _=>⟨[l.length<1048576],[.c (.own 0)],some ([.row 137 (.nm .b8) ((gb eb.a6 x l))]),true⟩
theorem VC:CK 117 Jf:=ag fun (l,x,_) _ u=>by
 have w:=b_ u;refine cr gS (aeN l x) func117 (?_:(fun e=>(fun v=>(fun q=>l.length*32<=140737488355328->dM x (∃ j,(l=l/\false=mA eb.a6 (take j l) x/\0=(j:Int)/\EK x x (gq eb.a6 (take j l) x=[]))/\j<=e/\∀ (s:Nat),(fun m=>(fun p=>(fun h=>(fun o=>(fun f=>(fun g=>(fun r=>s<=e->(m->(f=false->p/\m)/\((f=false->a7 h.a6/\a7 h.seq/\a7 h.last.code/\a7 h.last.n)->(f=false/\x.a6<h.a6->r/\p/\m/\∀ (c:eb),l[s]? = some c->dM c (((g++[x]).length+[c].length)*32<=140737488355328/\a7 o/\∃ d,(l=l/\true=mA eb.a6 (take d l) x/\o=(d:Int)/\EK x x (g++[x]++[c]=gq eb.a6 (take d l) x))/\d <= e/\e - d < e - s))/\(f=true\/h.a6<=x.a6->p/\m/\∀ (c:eb),l[s]? = some c->dM c ((g.length+[c].length)*32<=140737488355328/\a7 o/\∃ d,(l=l/\f=mA eb.a6 (take d l) x/\o=(d:Int)/\EK x x (g++[c]=gq eb.a6 (take d l) x))/\d <= e/\e - d < e - s))))/\(q<=(s:Int)->(f=false->r/\g++[x]=gb eb.a6 x l)/\(f=true->g=gb eb.a6 x l))) ((g.length+[x].length)*32<=140737488355328)) (gq eb.a6 (take s l) x)) (mA eb.a6 (take s l) x)) ((s:Int)+1)) (l.getD s v)) (0<=(s:Int))) ((s:Int)<q))) (l.length:Int)) (c5 (Sh.nm NT.b8))) l.length);iterate 3 ((all_goals (repeat' with_reducible first|apply aT|refine aW ?_|intro)); (all_goals try (first | exact bR | exact (abL (key:=eb.a6) ab ap) | exact (Sf (key:=eb.a6) ab ab) | exact (PG ab ab ab) | exact (RU ab ap) | exact (Qr az ab) | exact (OU az ab) | (have:=CF (key:=eb.a6) (x:=x) (l:=l) (k:=‹Nat›) ap; have:=xj (key:=eb.a6) (x:=x) (l:=l) (k:=‹Nat›) ap; simp only [r5,y4,C1]; omega))); all_goals try first | refine ⟨‹Nat› + 1,?_⟩ | refine ⟨0,?_⟩)
def HY:Kn:=aH (ae (kC (cL (.nm .snap))) (ae (kC (cL .int)) ao)) au fun (l,m,_) _=>⟨[l.length<1048576,r8 (l++[⟨0,0,m,false,⟨[]⟩⟩])<=1048576],[.c (.int (((ez (l++[⟨0,0,m,false,⟨[]⟩⟩]):Int))))],none,false⟩
def WJ:CK 241 HY:=ag fun (l,m,_) _ d=>by
 have g:=b_ d;have h:=b_ (dv d);refine aq gS [] func241 (?_:(fun e=>(fun c=>(fun f=>e->m.length*8<=140737488355328->e/\(l.length+[c].length)*64<=140737488355328/\r8 (l++[c])<=1048576/\(a7 f->f=(↑(ez (l++[c])):Int))) (↑(ez (l++[c])):Int)) (hX.mk 0 0 m false (o3.mk []))) (l.length*64<=140737488355328));(repeat' with_reducible first|apply aT|refine aW ?_|intro)
 all_goals (first | exact bR | (simp only [y4,C1]; omega))
def aa7:ck:=(aI 241 HY (aI 117 Jf (aI 186 GX (aI 245 rN (aI 188 th (aI 115 aaQ (aI 114 NN aaE)))))))
def vL:ay prog (av l6) aa7:=(ah WJ (ah VC (ah Yc (ah Em (ah Fq (ah agX (ah aeK gS)))))))
variable {u:Int}
theorem ad4:Rr l8.set (rZ t op) u=if u=t then none else Rr l8.set op u:=by
 unfold Rr rZ;rw [List.find?_filter];by_cases h:u=t
 ·grind
 grind
variable {m:Int}
def Ts {a:Int} (k:al l8.set m a op=true) (h:0<=ai l8.set t op):rZ t op=wy op (ai l8.set t op):=
 Xn (GH List.filter_sublist k) (GH (GM h) k) fun u=>by rw [ad4,Xr k h]
def cP (s:b7) (c:b5):b7 × lg:=
 if 16<=(s.b6.length:Int)\/1048576<=s.next then (s,⟨20,0⟩)
 else if ¬ s.ea=0/\s.ea<(ez (s.b6++[⟨0,0,c.b9,false,⟨[]⟩⟩]):Int) then (s,⟨19,0⟩)
 else ({ s with next:=s.next+1,c6:=rZ c.set s.c6,b6:=s.b6++[⟨s.next,c.set,c.b9,false,⟨[]⟩⟩] },⟨0,s.next⟩)
def ej (s:b7) (c:b5) (i:Nat):b7 × lg:=
 if c.kind=5 then d_ s i else if c.kind=7 then fS s i else if c.kind=11 then pX c s i else gz (decide (c.kind=9)) s i
section
variable {st:b7} {c:b5}
def ahc (h:16<=(st.b6.length:Int)\/1048576<=st.next):cP st c=(st,⟨20,0⟩):=eg h
def ahd (a:(st.b6.length:Int)<16) (b:st.next<1048576) (h:¬ st.ea=0) (d:st.ea<(ez (st.b6++[⟨0,0,c.b9,false,⟨[]⟩⟩]):Int)):cP st c=(st,⟨19,0⟩):=by
 unfold cP; rw [dc az,eg ⟨h,d⟩]
def agF (a:(st.b6.length:Int)<16) (b:st.next<1048576) (h:st.ea=0\/(ez (st.b6++[⟨0,0,c.b9,false,⟨[]⟩⟩]):Int)<=st.ea):cP st c=({ st with next:=st.next+1,c6:=rZ c.set st.c6,b6:=st.b6++[⟨st.next,c.set,c.b9,false,⟨[]⟩⟩] },⟨0,st.next⟩):=by
 unfold cP; rw [dc az,dc (fun d=>h.elim d.1 fun h=>by omega)]
variable {i:Int} {x:hX}
def alG (k:c.kind=5) (d:st.b6[i.toNat]? = some x) (h:x.held=true):ej st c i.toNat=(st,⟨17,0⟩):=by
 unfold ej d_; rw [eg k,Nc d,eg h]
def alK (k:c.kind=5) (d:0<=i) (e:st.b6[i.toNat]? = some x) (h:x.held=false) (f:g_ st i=true):ej st c i.toNat=(st,⟨18,0⟩):=by
 unfold ej d_; rw [eg k,Nc e,dc (by rw [h]; decide),Int.toNat_of_nonneg d,eg f]
def am1 (k:c.kind=5) (d:0<=i) (f:st.b6[i.toNat]? = some x) (h:x.held=false) (g:g_ st i=false) (e:c.id=(st.b6.getD i.toNat (c5 (.nm .snap))).id):ej st c i.toNat=(b7.mk st.a8 st.next st.dm st.ea st.b8 st.c6 (aJ c.id st.b6),⟨0,(gD st.b6 c.id).length⟩):=by
 unfold ej d_; rw [eg k,<- e,Nc f,dc (by rw [h]; decide),Int.toNat_of_nonneg d,dc (by rw [g]; decide)]
def on7 (n:¬ c.kind=5) (k:c.kind=7) (d:st.b6[i.toNat]? = some x):ej st c i.toNat=(st,⟨0,x.b9.length⟩):=by
 unfold ej fS; rw [dc n,eg k,Nc d]
def an4 (n:¬ c.kind=5) (m:¬ c.kind=7) (k:c.kind=11):ej st c i.toNat=pX c st i.toNat:=by
 unfold ej; rw [dc n,dc m,eg k]
def aoe (n:¬ c.kind=5) (m:¬ c.kind=7) (o:¬ c.kind=11) (d:st.b6[i.toNat]? = some x) (h:(x.held == decide (c.kind=9))=false):ej st c i.toNat=(b7.mk st.a8 st.next st.dm st.ea st.b8 st.c6 (st.b6.set i.toNat (hX.mk (st.b6.getD i.toNat (c5 (.nm .snap))).id (st.b6.getD i.toNat (c5 (.nm .snap))).set (st.b6.getD i.toNat (c5 (.nm .snap))).b9 (decide (c.kind=9)) (st.b6.getD i.toNat (c5 (.nm .snap))).tag)),⟨0,1⟩):=by
 unfold ej gz; rw [dc n,dc m,dc o,dc (by rw [Nc d]; simpa using h)]
def amV (n:¬ c.kind=5) (m:¬ c.kind=7) (o:¬ c.kind=11) (d:st.b6[i.toNat]? = some x) (h:(x.held == decide (c.kind=9))=true):ej st c i.toNat=(st,⟨0,0⟩):=by
 unfold ej gz; rw [dc n,dc m,dc o,eg (by rw [Nc d]; simpa using h)]
def onS (d:st.b6[i.toNat]? = some x) (h:(x.held == decide (c.kind=9))=true):st.b6.set i.toNat (hX.mk (st.b6.getD i.toNat (c5 (.nm .snap))).id (st.b6.getD i.toNat (c5 (.nm .snap))).set (st.b6.getD i.toNat (c5 (.nm .snap))).b9 (decide (c.kind=9)) (st.b6.getD i.toNat (c5 (.nm .snap))).tag)=st.b6:=by
 rw [Nc d,<- (by simpa using h:x.held=decide (c.kind=9))];obtain ⟨hi,e⟩:=r3.1 d;subst e;exact V5 hi
end
def wP:Kn:=aH (ae (kT (.nm .eS)) (ae (kT (.nm .command)) ao)) au fun (st,c,_) _=>⟨[st.b6.length<1048576,r8 (st.b6++[⟨0,0,c.b9,false,⟨[]⟩⟩])<=1048576,0<=st.next],[.agg ([.int (((cP st c).1.a8)),.int (((cP st c).1.next)),.int (((cP st c).1.dm)),.int (((cP st c).1.ea)),.own 0,.own 1,.own 2]),.agg (cellsOf (.nm .nd) ((cP st c).2))],some ([.row 137 (.nm .b8) (((cP st c).1.b8)),.row 139 (.nm .opn) (((cP st c).1.c6)),.row 172 (.nm .snap) (((cP st c).1.b6))]),true⟩
def Lh:CK 187 wP:=ag fun (st,c,_) _ r=>by
 have w:=b_ r;have y:=b_ (dv r);have z:=b_ (dv (dv r));refine cr vL [] func187 (?_:(fun (p:Nat)=>(fun (j:Int)=>(fun (f:Int)=>(fun (s:hX)=>(fun (e:Int)=>(fun (g:Int)=>(fun (o:lg)=>(fun (q:List hX)=>(fun (d:b7)=>(fun (h:Prop)=>(fun (v:Prop)=>cw st (bc c ((16<=(p:Int)\/1048576<=f->a7 j->a7 f->a7 st.dm->a7 e->a7 20->a7 g->j=d.a8/\f=d.next/\h/\e=d.ea/\20=o.code/\v)/\((p:Int)<16/\f<1048576->(¬e=g->p<1048576/\r8 q<=1048576)/\((¬e=g->a7 (↑(ez q):Int))->(¬e=g/\e<(↑(ez q):Int)->a7 j->a7 f->a7 st.dm->a7 e->a7 19->a7 g->j=d.a8/\f=d.next/\h/\e=d.ea/\19=o.code/\v)/\(e=g\/(↑(ez q):Int)<=e->a7 j->a7 f->a7 st.dm->a7 e->c.b9.length*8<=140737488355328/\(p+[s].length)*64<=140737488355328/\a7 (f+1)/\j=d.a8/\f+1=d.next/\h/\e=d.ea/\g=o.code/\f=o.n/\st.b8=d.b8/\rZ c.set st.c6=d.c6/\st.b6++[s]=d.b6)))))) (g=o.n/\st.b8=d.b8/\st.c6=d.c6/\st.b6=d.b6)) (st.dm=d.dm)) (cP st c).fst) (st.b6++[hX.mk g g c.b9 false (o3.mk [])])) (cP st c).snd) 0) st.ea) (hX.mk f c.set c.b9 false (o3.mk []))) st.next) st.a8) st.b6.length);(repeat' with_reducible first|apply aT|refine aW ?_|intro)
 all_goals (first | exact bR | (rw [ahc ap]; done) | (rw [ahd ap ap ap ap]; done) | (rw [agF ap ap ap]; done) | (simp only [y4,C1]; omega))
def Uh:Kn:=aH (ae (kT (.nm .eS)) (ae (kT (.nm .command)) (ae (kC cI) ao))) au fun (st,c,i,_) _=>⟨[0<=i/\i<(st.b6.length:Int),r8 st.b6<=1048576,c.id=(st.b6.getD i.toNat (c5 (.nm .snap))).id,c.kind=5\/c.kind=7\/c.kind=11\/c.kind=9\/c.kind=10],[.agg ([.int (((ej st c i.toNat).1.a8)),.int (((ej st c i.toNat).1.next)),.int (((ej st c i.toNat).1.dm)),.int (((ej st c i.toNat).1.ea)),.own 0,.own 1,.own 2]),.agg (cellsOf (.nm .nd) ((ej st c i.toNat).2))],some ([.row 137 (.nm .b8) (((ej st c i.toNat).1.b8)),.row 139 (.nm .opn) (((ej st c i.toNat).1.c6)),.row 172 (.nm .snap) (((ej st c i.toNat).1.b6))]),true⟩
def aeB:CK 191 Uh:=ag fun (st,c,i,_) _ G=>by
 have K:=b_ G;have L:=b_ (dv G);have N:=b_ (dv (dv G));have O:=b_ (dv (dv (dv G)));refine cr vL [] func191 (?_:(fun J=>(fun z=>(fun A=>(fun B=>(fun H=>(fun r=>(fun s=>(fun C=>(fun o=>(fun p=>(fun I=>(fun D=>(fun e=>(fun q=>(fun d=>(fun v=>(fun w=>(fun F=>(fun f=>(fun g=>(fun h=>(fun j=>(fun y=>cw st (bc c (a7 i->o<=i/\s/\∀ (x:hX),r[i.toNat]? = some x->bY x ((c.kind=5->(x.held=true->a7 C->a7 z->a7 A->a7 B->a7 17->a7 o->j/\g/\f/\h/\17=D.snd.code/\o=e/\y)/\(x.held=false->(g_ st i=true->a7 C->a7 z->a7 A->a7 B->a7 18->a7 o->j/\g/\f/\h/\18=D.snd.code/\o=e/\y)/\(g_ st i=false->r8 r<=1048576/\((gD r c.id).length*8<=140737488355328->a7 C->a7 z->a7 A->a7 B->j/\g/\f/\h/\q/\(↑(gD r c.id).length:Int)=e/\w/\v/\aJ c.id r=d.b6))))/\(¬c.kind=5->(c.kind=7->a7 C->a7 z->a7 A->a7 B->j/\g/\f/\h/\q/\(x.b9.length:Int)=e/\y)/\(¬c.kind=7->a7 C->a7 z->a7 A->a7 B->(c.kind=11->o<=i/\s/\bY p (j/\g/\f/\h/\q/\o=e/\w/\v/\r.set i.toNat (hX.mk p.id p.set p.b9 p.held c.text)=d.b6))/\(¬c.kind=11->((x.held == H)=false->o<=i/\s/\bY p (j/\g/\f/\h/\q/\1=e/\F))/\((x.held == H)=true->o<=i/\s/\bY p (j/\g/\f/\h/\q/\o=e/\F))))))))) (w/\v/\r=d.b6)) (C=d.a8)) (B=d.ea)) (z=d.next)) (A=d.dm)) (w/\v/\I=d.b6)) (st.b8=d.b8)) (J=d.c6)) D.fst) (o=D.snd.code)) D.snd.n) (ej st c i.toNat)) (r.set i.toNat (hX.mk p.id p.set p.b9 H p.tag))) (r.getD i.toNat (c5 (Sh.nm NT.snap)))) (0:Int)) st.a8) (i<(r.length:Int))) st.b6) (decide (c.kind=9))) st.ea) st.dm) st.next) st.c6);(repeat' with_reducible first|apply aT|refine aW ?_|intro)
 all_goals (first | exact bR | (rw [alG ab ab ab]; done) | (rw [alK ab az ab ab ab]; first | done | rfl) | (rw [am1 ab az ab ab ab ab]; done) | (rw [on7 ab ab ab]; first | done | rfl) | (rw [an4 ab ab ab]; rfl) | (rw [aoe ab ab ab ab ab]; first | done | rfl) | (rw [amV ab ab ab ab ab]; first | done | exact onS ab ab))
def abv:ck:=(aI 191 Uh (aI 187 wP aa7))
def Bg:ay prog (av l6) abv:=(ah aeB (ah Lh vL))
section
variable {st:b7} {c:b5}
def Bp {v:Int} (h:aP c v=0):1<=c.kind/\c.kind<=12:=by
 have n:=(zu h).2.1;by_cases k:1<=c.kind/\c.kind<=12
 ·exact k
 refine absurd ?_ n;have e:∀ i:Int,1<=i->i<=12->¬ c.kind=i:=fun i d f=>by omega
 simp [bk,qW];simp [e 1,e 2,e 3,e 4,e 5,e 6,e 7,e 8,e 9,e 10,e 11,e 12]
def wo (h:(if bJ st st.a8=0 then aP c st.a8 else 1)=0):bJ st st.a8=0/\aP c st.a8=0:=UF h
def amR (h:(if bJ st st.a8=0 then aP c st.a8 else 1)=0) (k:c.kind=1\/c.kind=8):bV st c=(st,⟨1,0⟩):=by
 rw [yL h];rcases k with k | k <;> simp [rU,k]
def ajd (h:(if bJ st st.a8=0 then aP c st.a8 else 1)=0) (k:c.kind=2):bV st c=fh st c:=by
 rw [yL h]; simp [rU,k]
def agN (h:(if bJ st st.a8=0 then aP c st.a8 else 1)=0) (k:c.kind=2) (p:0<=ai l8.set c.set st.c6):bV st c=(st,⟨16,(st.c6.getD (ai l8.set c.set st.c6).toNat (c5 (.nm .opn))).a6⟩):=by
 rw [ajd h k]; exact eg p
def ajN (h:(if bJ st st.a8=0 then aP c st.a8 else 1)=0) (k:c.kind=2) (p:ai l8.set c.set st.c6<0):bV st c=(b7.mk st.a8 st.next st.dm st.ea st.b8 (gb l8.set (l8.mk c.set c.a6) st.c6) st.b6,⟨0,0⟩):=by
 rw [ajd h k,ux (x:=l8.mk c.set c.a6) (qO (wo h).1).1 fun y d=>td (key:=l8.set) (want:=c.set) p y d];exact dc az
theorem ahr (o:ai l8.set c.set st.c6<0\/¬ (st.c6.getD (ai l8.set c.set st.c6).toNat (c5 (.nm .opn))).a6=c.a6):cG st c<0:=by
 unfold cG;split
 ·decide
 grind
def ahQ (p:0<=ai l8.set c.set st.c6) (o:(st.c6.getD (ai l8.set c.set st.c6).toNat (c5 (.nm .opn))).a6=c.a6):cG st c=ai l8.set c.set st.c6:=by
 unfold cG; exact dc fun h=>h.2 o
def aki (h:(if bJ st st.a8=0 then aP c st.a8 else 1)=0) (k:c.kind=3):bV st c=eC st c:=by
 rw [yL h]; simp [rU,k]
def agI (h:(if bJ st st.a8=0 then aP c st.a8 else 1)=0) (k:c.kind=4):bV st c=eT st c:=by
 rw [yL h]; simp [rU,k]
def amI (h:(if bJ st st.a8=0 then aP c st.a8 else 1)=0) (k:c.kind=3\/c.kind=4) (o:ai l8.set c.set st.c6<0\/¬ (st.c6.getD (ai l8.set c.set st.c6).toNat (c5 (.nm .opn))).a6=c.a6):bV st c=(st,⟨15,0⟩):=by
 rcases k with k | k
 ·rw [aki h k]; exact eg (ahr o)
 rw [agI h k]; exact eg (ahr o)
def aiT (h:(if bJ st st.a8=0 then aP c st.a8 else 1)=0) (k:c.kind=3) (p:0<=ai l8.set c.set st.c6) (o:(st.c6.getD (ai l8.set c.set st.c6).toNat (c5 (.nm .opn))).a6=c.a6):bV st c=cP st c:=by
 rw [aki h k];unfold eC cP;rw [ahQ p o,dc az,Ts (qO (wo h).1).1 p]
def ajw (h:(if bJ st st.a8=0 then aP c st.a8 else 1)=0) (k:c.kind=4) (p:0<=ai l8.set c.set st.c6) (o:(st.c6.getD (ai l8.set c.set st.c6).toNat (c5 (.nm .opn))).a6=c.a6):bV st c=(b7.mk st.a8 st.next st.dm st.ea st.b8 (rZ c.set st.c6) st.b6,⟨0,0⟩):=by
 rw [agI h k];unfold eT;rw [ahQ p o,dc az,Ts (qO (wo h).1).1 p]
def amo (h:(if bJ st st.a8=0 then aP c st.a8 else 1)=0) (k:c.kind=6):bV st c=(b7.mk st.a8 st.next c.n st.ea st.b8 st.c6 st.b6,⟨0,0⟩):=by
 rw [yL h]; simp [rU,k,rm]
def aoM (h:(if bJ st st.a8=0 then aP c st.a8 else 1)=0) (k:c.kind=12):bV st c=(b7.mk st.a8 st.next st.dm c.n st.b8 st.c6 st.b6,⟨0,ez st.b6⟩):=by
 rw [yL h]; simp [rU,k,nW]
def Au (h:(if bJ st st.a8=0 then aP c st.a8 else 1)=0) (k:¬ c.kind=1/\¬ c.kind=8/\¬ c.kind=2/\¬ c.kind=3/\¬ c.kind=4/\¬ c.kind=6/\¬ c.kind=12):c.kind=5\/c.kind=7\/c.kind=11\/c.kind=9\/c.kind=10:=by
 have:=Bp (wo h).2;omega
def aht (h:(if bJ st st.a8=0 then aP c st.a8 else 1)=0) (k:¬ c.kind=1/\¬ c.kind=8/\¬ c.kind=2/\¬ c.kind=3/\¬ c.kind=4/\¬ c.kind=6/\¬ c.kind=12):bV st c=bT (fun s i=>ej s c i) c st:=by
 rw [yL h];rcases Au h k with k | k | k | k | k <;> simp [rU,k,ej]
def ajy (h:(if bJ st st.a8=0 then aP c st.a8 else 1)=0) (k:¬ c.kind=1/\¬ c.kind=8/\¬ c.kind=2/\¬ c.kind=3/\¬ c.kind=4/\¬ c.kind=6/\¬ c.kind=12) (p:ai hX.id c.id st.b6<0):bV st c=(st,⟨15,0⟩):=by
 rw [aht h k]; exact eg p
def ag_ (h:(if bJ st st.a8=0 then aP c st.a8 else 1)=0) (k:¬ c.kind=1/\¬ c.kind=8/\¬ c.kind=2/\¬ c.kind=3/\¬ c.kind=4/\¬ c.kind=6/\¬ c.kind=12) (p:0<=ai hX.id c.id st.b6):bV st c=ej st c (ai hX.id c.id st.b6).toNat:=by
 rw [aht h k]; exact dc az
def ah3 (p:0<=ai hX.id c.id st.b6):c.id=(st.b6.getD (ai hX.id c.id st.b6).toNat (c5 (.nm .snap))).id:=(qL p).1.symm
theorem adX (h:(if bJ st st.a8=0 then aP c st.a8 else 1)=0) (k:c.kind=3):r8 (st.b6++[⟨0,0,c.b9,false,⟨[]⟩⟩])<=1048576:=by
 have f:=JH (wo h).1;have g:=Gt (zu (wo h).2).2.2.2 k;have d:bI c.b9=true:=by grind [kY]
 have j:=(zl d).2;have e:r8 (st.b6++[⟨0,0,c.b9,false,⟨[]⟩⟩])=r8 st.b6+c.b9.length:=by simp [r8]
 omega
end
def G_:Kn:=aH (ae (kT (.nm .eS)) (ae (kT (.nm .command)) ao)) au fun (st,c,_) _=>⟨[],[.agg ([.int (((bV st c).1.a8)),.int (((bV st c).1.next)),.int (((bV st c).1.dm)),.int (((bV st c).1.ea)),.own 0,.own 1,.own 2]),.agg (cellsOf (.nm .nd) ((bV st c).2))],some ([.row 137 (.nm .b8) (((bV st c).1.b8)),.row 139 (.nm .opn) (((bV st c).1.c6)),.row 172 (.nm .snap) (((bV st c).1.b6))]),true⟩
theorem VH:CK 118 G_:=ag fun (st,c,_) _ _=>by
 refine cr Bg [] func118 (?_:(fun T=>(fun I=>(fun H=>(fun U=>(fun y=>(fun z=>(fun r=>(fun d=>(fun A=>(fun f=>(fun s=>(fun o=>(fun J=>(fun D=>(fun g=>(fun L=>(fun j=>(fun B=>(fun N=>(fun G=>(fun O=>(fun K=>(fun F=>(fun P=>(fun h=>(fun e=>(fun v=>(fun w=>(fun p=>(fun q=>(fun C=>(fun S=>(fun V=>(fun W=>cw st (bc c (a7 N->(¬N=g->a7 o->a7 r->a7 y->a7 z->a7 N->a7 g->q/\p/\v/\w/\N=j/\B/\C)/\(N=g->(d=1\/d=8->a7 o->a7 r->a7 y->a7 z->a7 1->a7 g->q/\p/\v/\w/\1=j/\B/\C)/\(¬d=1/\¬d=8->a7 o->a7 r->a7 y->a7 z->a7 G->(d=2->(g<=G->O/\(a7 K.set->a7 F->q/\p/\v/\w/\16=j/\F=L.n/\C))/\(G<g->s.length<1048576/\q/\p/\v/\w/\g=j/\B/\I=e.b8/\gb l8.set (l8.mk c.set c.a6) s=e.c6/\f=e.b6))/\(¬d=2->(A->(A->V)/\(¬A->W))/\(¬A->(d=4->V)/\(¬d=4->W)))))))) ((d=6->q/\p/\c.n=e.dm/\w/\g=j/\B/\C)/\(¬d=6->(d=12->r8 f<=1048576/\(a7 (↑(ez f):Int)->q/\p/\v/\c.n=e.ea/\g=j/\(↑(ez f):Int)=L.n/\C))/\(¬d=12->a7 J->(J<g->a7 o->a7 r->a7 y->a7 z->a7 15->a7 g->S)/\(g<=J->(g<=J/\J<(f.length:Int))/\r8 f<=1048576/\c.id=(f.getD J.toNat (c5 (Sh.nm NT.snap))).id/\(d=5\/d=7\/d=11\/d=9\/d=10)/\(a7 h.a8->a7 h.next->a7 h.dm->a7 h.ea->a7 P.snd.code->a7 P.snd.n->h.a8=e.a8/\h.next=e.next/\h.dm=e.dm/\h.ea=e.ea/\P.snd.code=j/\P.snd.n=L.n/\h.b8=e.b8/\h.c6=e.c6/\h.b6=e.b6)))))) ((g<=G->O)/\((g<=G->a7 K.set/\a7 F)->(G<g\/¬F=c.a6->a7 o->a7 r->a7 y->a7 z->a7 15->a7 g->S)/\(g<=G/\F=c.a6->(A->f.length<1048576/\r8 (f++[hX.mk g g c.b9 false (o3.mk [])])<=1048576/\g<=r/\(a7 D.a8->a7 D.next->a7 D.dm->a7 D.ea->a7 H.code->a7 H.n->D.a8=e.a8/\D.next=e.next/\D.dm=e.dm/\D.ea=e.ea/\H.code=j/\H.n=L.n/\D.b8=e.b8/\D.c6=e.c6/\D.b6=e.b6))/\(¬A->q/\p/\v/\w/\g=j/\B/\I=e.b8/\rZ c.set s=e.c6/\f=e.b6))))) (q/\p/\v/\w/\15=j/\B/\C)) (I=e.b8/\s=e.c6/\f=e.b6)) (o=e.a8)) (r=e.next)) (z=e.ea)) (y=e.dm)) (bV st c).fst) P.fst) (ej st c J.toNat)) K.a6) (s.getD G.toNat U)) (g<=G/\G<(s.length:Int))) (ai l8.set c.set s)) (if bJ st o=g then aP c o else 1)) (g=L.n)) L.code) (bV st c).snd) (0:Int)) (cP st c).fst) (ai hX.id c.id f)) st.a8) st.c6) st.b6) (d=T)) c.kind) st.next) st.ea) st.dm) (c5 (Sh.nm NT.opn))) (cP st c).snd) st.b8) (3:Int));(repeat' with_reducible first|apply aT|refine aW ?_|intro)
 all_goals (first | exact bR | exact (Fc ab) | exact (Pv ab) | exact (BV ab) | exact (SH ab) | exact (OJ ab) | exact dj ab | exact ah3 ab | exact adX ab ab | exact Au ab az | (rw [ail ab]; done) | (rw [amR ap ap]; done) | (rw [agN ap ap ap]; first | done | rfl) | (rw [ajN ap ap ap]; first | done | rfl) | (rw [amI ap az ap]; first | done | rfl) | (rw [aiT ap ap ap ap]; first | done | rfl) | (rw [ajw ap (by first | assumption | (have:=Bp (wo ap).2; omega)) ap ap]; first | done | rfl) | (rw [amo ap ap]; first | done | rfl) | (rw [aoM ap ap]; first | done | rfl) | (rw [ajy ap az ap]; first | done | rfl) | (rw [ag_ ap az ap]; first | done | rfl))
def aaS:ck:=(aI 118 G_ abv)
def Cp:ay prog (av l6) aaS:=(ah VH Bg)
section
variable {st:b7} {c:b5}
def amH (h:(if bJ st st.a8=0 then aP c st.a8 else 1)=0) (k:c.kind=1) (p:ai eb.a6 c.a6 st.b8<0):jm st c=(b7.mk st.a8 st.next st.dm st.ea (gb eb.a6 (eb.mk c.a6 0 (lg.mk 0 0)) st.b8) st.c6 st.b6,⟨0,0⟩):=by
 rw [ajz h k p,ux (x:=eb.mk c.a6 0 (lg.mk 0 0)) (Th (wo h).1).1 fun y d=>td (key:=eb.a6) (want:=c.a6) p y d]
def apS (h:(if bJ st st.a8=0 then aP c st.a8 else 1)=0) (d:¬ c.kind=8) (e:¬ c.kind=1) (p:ai eb.a6 c.a6 st.b8<0):jm st c=(st,⟨11,0⟩):=(R7 h d e).trans (as1 p)
def anE (h:(if bJ st st.a8=0 then aP c st.a8 else 1)=0) (d:¬ c.kind=8) (f:¬ c.kind=1) (p:0<=ai eb.a6 c.a6 st.b8) (e:c.seq=(st.b8.getD (ai eb.a6 c.a6 st.b8).toNat (c5 (.nm .b8))).seq):jm st c=(st,(st.b8.getD (ai eb.a6 c.a6 st.b8).toNat (c5 (.nm .b8))).last):=(R7 h d f).trans (as2 p e)
def amC (h:(if bJ st st.a8=0 then aP c st.a8 else 1)=0) (d:¬ c.kind=8) (f:¬ c.kind=1) (p:0<=ai eb.a6 c.a6 st.b8) (e:c.seq<(st.b8.getD (ai eb.a6 c.a6 st.b8).toNat (c5 (.nm .b8))).seq):jm st c=(st,⟨13,0⟩):=(R7 h d f).trans (as3 p az e)
def amE (h:(if bJ st st.a8=0 then aP c st.a8 else 1)=0) (d:¬ c.kind=8) (f:¬ c.kind=1) (p:0<=ai eb.a6 c.a6 st.b8) (e:(st.b8.getD (ai eb.a6 c.a6 st.b8).toNat (c5 (.nm .b8))).seq+1<c.seq):jm st c=(st,⟨14,0⟩):=(R7 h d f).trans (as4 p az az e)
def aps (h:(if bJ st st.a8=0 then aP c st.a8 else 1)=0) (f:¬ c.kind=8) (g:¬ c.kind=1) (p:0<=ai eb.a6 c.a6 st.b8) (e:¬ c.seq=(st.b8.getD (ai eb.a6 c.a6 st.b8).toNat (c5 (.nm .b8))).seq) (j:(st.b8.getD (ai eb.a6 c.a6 st.b8).toNat (c5 (.nm .b8))).seq<=c.seq) (o:c.seq<=(st.b8.getD (ai eb.a6 c.a6 st.b8).toNat (c5 (.nm .b8))).seq+1) :
  jm st c=(b7.mk (bV st c).1.a8 (bV st c).1.next (bV st c).1.dm (bV st c).1.ea ((bV st c).1.b8.set (ai eb.a6 c.a6 st.b8).toNat (eb.mk c.a6 c.seq (bV st c).2)) (bV st c).1.c6 (bV st c).1.b6,(bV st c).2):=by
 rw [Xz (wo h).1 (wo h).2 f g p az,(qL (d:=c5 (.nm .b8)) p).1,nh]
def alP (h:(if bJ st st.a8=0 then aP c st.a8 else 1)=0) (p:0<=ai eb.a6 c.a6 st.b8):a7 ((st.b8.getD (ai eb.a6 c.a6 st.b8).toNat (c5 (.nm .b8))).seq+1):=ahs (v:=st.a8) (nx:=st.next) (kp:=st.dm) (qt:=st.ea) (op:=st.c6) (sn:=st.b6) h p
def ahf (p:0<=ai eb.a6 c.a6 st.b8):ai eb.a6 c.a6 st.b8<((bV st c).1.b8.length:Int):=by rw [nh]; exact dj p
end
def Tg:Kn:=aH (ae (kT (.nm .eS)) (ae (kT (.nm .command)) ao)) au fun (st,c,_) _=>⟨[],[.agg ([.int (((jm st c).1.a8)),.int (((jm st c).1.next)),.int (((jm st c).1.dm)),.int (((jm st c).1.ea)),.own 0,.own 1,.own 2]),.agg (cellsOf (.nm .nd) ((jm st c).2))],some ([.row 137 (.nm .b8) (((jm st c).1.b8)),.row 139 (.nm .opn) (((jm st c).1.c6)),.row 172 (.nm .snap) (((jm st c).1.b6))]),true⟩
def afc:CK 69 Tg:=ag fun (st,c,_) _ _=>by
 refine cr Cp [] func69 (?_:(fun N=>(fun O=>(fun C=>(fun d=>(fun o=>(fun p=>(fun F=>(fun P=>(fun H=>(fun D=>(fun y=>(fun z=>(fun j=>(fun I=>(fun e=>(fun J=>(fun K=>(fun r=>(fun L=>(fun q=>(fun f=>(fun g=>(fun h=>(fun G=>(fun A=>(fun B=>(fun s=>(fun v=>(fun w=>cw st (bc c (a7 K->(¬K=j->a7 z->a7 o->a7 p->a7 F->a7 K->a7 j->q/\h/\g/\f/\K=e/\A)/\(K=j->a7 B->a7 z->a7 o->a7 p->a7 F->(c.kind=8->a7 (z+d)/\(¬c.n=z+d->a7 z->a7 o->a7 p->a7 F->a7 d->a7 j->q/\h/\g/\f/\d=e/\A)/\(c.n=z+d->c.n=r.a8/\h/\g/\f/\j=e/\c.n=I.n/\G))/\(¬c.kind=8->(c.kind=d->(s->a7 z->a7 o->a7 p->a7 F->a7 12->a7 j->q/\h/\g/\f/\12=e/\A)/\(B<j->H.length<1048576/\q/\h/\g/\f/\j=e/\J/\gb eb.a6 (eb.mk c.a6 j (lg.mk j j)) H=r.b8/\L))/\(¬c.kind=d->(B<j->a7 z->a7 o->a7 p->a7 F->a7 11->a7 j->q/\h/\g/\f/\11=e/\A)/\(s->s/\B<D/\dM v ((c.seq=w->(s/\B<D)/\dM v (q/\h/\g/\f/\v.last.code=e/\v.last.n=I.n/\G))/\(¬c.seq=w->s/\B<D/\dM v ((c.seq<w->a7 z->a7 o->a7 p->a7 F->a7 13->a7 j->q/\h/\g/\f/\13=e/\A)/\(w<=c.seq->s/\B<D/\a7 (w+d)/\dM v ((w+d<c.seq->a7 z->a7 o->a7 p->a7 F->a7 14->a7 j->q/\h/\g/\f/\14=e/\A)/\(c.seq<=w+d->a7 y.a8->a7 y.next->a7 y.dm->a7 y.ea->a7 C.code->a7 C.n->s/\B<(y.b8.length:Int)/\dM (y.b8.getD B.toNat P) (y.a8=r.a8/\y.next=r.next/\y.dm=r.dm/\y.ea=r.ea/\C.code=e/\C.n=I.n/\y.b8.set B.toNat (eb.mk c.a6 c.seq C)=r.b8/\y.c6=r.c6/\y.b6=r.b6)))))))))))))) v.seq) (H.getD B.toNat P)) (j<=B)) (ai eb.a6 c.a6 H)) (J/\G)) (H=r.b8/\L)) (o=r.next)) (p=r.dm)) (F=r.ea)) (z=r.a8)) (O=r.c6/\N=r.b6)) (jm st c).fst) (if bJ st z=j then aP c z else d)) (j=I.n)) I.code) (jm st c).snd) (0:Int)) st.a8) (bV st c).fst) (H.length:Int)) st.b8) (c5 (Sh.nm NT.b8))) st.ea) st.dm) st.next) (1:Int)) (bV st c).snd) st.c6) st.b6);(repeat' with_reducible first|apply aT|refine aW ?_|intro)
 all_goals (first | exact bR | exact (Fc ab) | exact (Pv ab) | exact (BV ab) | exact (SH ab) | exact (OJ ab) | exact akK ab | exact BV ab | exact dj ab | exact alP ab ab | exact ahf ab | (rw [doE ab]; done) | (rw [agP ab ab ab]; done) | (rw [ajG ab ab ab]; first | done | rfl) | (rw [aiy ab ab ab]; done) | (rw [amH ab ab ab]; first | done | rfl) | (rw [apS ab ab ab ab]; first | done | rfl) | (rw [anE ab ab ab ab ab]; first | done | rfl) | (rw [amC ab ab ab ab ab]; first | done | rfl) | (rw [amE ab ab ab ab ab]; first | done | rfl) | (rw [aps ab ab ab ab ab ab ab]; first | done | rfl))
def aap:ck:=(aI 69 Tg aaS)
def AL:ay prog (av l6) aap:=(ah afc Cp)
def xb (l:List Int):Int:=match l.findIdx? (fun x=>!cD x) with
 | some i=>(i:Int)
 | none=>-1
section
variable {l:List Int} {k:Nat} {x:Int}
theorem xN:xb l=ai (fun x=>if cD x=true then 0 else 1) 1 l:=by
 have e:(fun x=>!cD x)=fun x:Int=>decide ((if cD x=true then (0:Int) else 1)=1):=by grind
 unfold xb ai; rw [e]; rfl
theorem acZ (h:xb (l.take k) = -1) (c:l[k]? = some x) (d:(!cD x)=false):xb (l.take (k+1)) = -1:=by grind [xN,iI]
theorem YS (h:xb (l.take k) = -1) (c:l[k]? = some x) (d:(!cD x)=true):(k:Int)=xb l:=by grind [xN,gK]
def aet (h:xb (l.take k) = -1) (c:l.length<=k):-1=xb l:=by rw [r6 c] at h; exact h.symm
theorem Yj:decide (0<=xb l) = !l.all cD:=by
 cases e:l.findIdx? (fun x=>!cD x) with
 | none=>
  have h:=List.findIdx?_eq_none_iff.1 e;have:l.all cD=true:=J5.2 fun x c=>by simpa using h x c
  unfold xb; rw [e,this]; rfl
 | some i=>
  obtain ⟨hi,d,_⟩:=Q3.1 e;have:l.all cD=false:=by grind
  unfold xb; rw [e,this];show decide (0<=(i:Int))=true;rw [vo]; omega
end
def Dl:Kn:=aH (ae (kC cI) ao) au fun (k,_) _=>⟨[],[.c (.bool (.atom ((cD k))))],none,false⟩
theorem Ub:CK 86 Dl:=ag fun (k,_) _ _=>by
 refine aq AL [] func86 (?_:a7 k->(decide (1<=k) && decide (k<=3))=cD k);grind [cD]
def aaH:ck:=(aI 86 Dl aap)
def tK:ay prog (av l6) aaH:=(ah Ub AL)
section
variable {st:b7} {v:Int}
end
def wY:Kn:=aH (ae (kC cI) (ae (kC cI) ao)) au fun (a,b,_) _=>⟨[],[.c (.int ((cN a b)))],none,false⟩
theorem Li:CK 43 wY:=ag fun (a,b,_) _ _=>by
 refine aq tK [] func43 (?_:a7 a->a7 b->(cD a=false\/cD b=false->1=cN a b)/\(cD a=true/\cD b=true->(a<b->32=cN a b)/\(b<=a->0=cN a b)));grind [cN,cD]
def Ap:Kn:=aH (ae (kC cI) ao) au fun (n,_) _=>⟨[],[.c (.bool (.atom ((!cD n))))],none,false⟩
theorem Pu:CK 157 Ap:=ag fun (n,_) _ _=>by
 refine aq tK [] func157 (?_:a7 n->(!cD n) = !cD n);grind
def abH:ck:=(aI 157 Ap (aI 43 wY aaH))
def tw:ay prog (av l6) abH:=(ah Pu (ah Li tK))
variable {l:List Int}
def W_ {s:Nat} {x:Int} (c:l[((s:Int)+1).toNat]? = some x):min (jn l (s+1)) x=jn l (s+1+1):=FJ az (by rwa [show ((s:Int)+1).toNat=s+1 by omega] at c)
def Wl (l:List Int):List (Nat × LI):=[(2,{ σ:=Nat,F:=fun k=>([(0,one (.fz .int (l))),(1,one (.fn 157 [] [])),(7,one (.int (l).length)),(8,one (.int k))],[]),J:=fun k=>k<=l.length/\xb (l.take k) = -1,μ:=fun k=>(l).length - k })]
def ajF (l:List Int):List (Nat × LI):=[(5,{ σ:=Nat,F:=fun k=>([(0,one (.fz .int (l))),(3,one (.int (jn l (k+1)))),(4,one (.int (k+1)))],[]),J:=fun k=>k+1<=l.length,μ:=fun k=>l.length - k })]
def CQ:Kn:=aH (ae (kC (cL .int)) (ae (kC (sQ 157 [] [])) ao)) au fun (l,_,_) _=>⟨[],[.c (.int ((xb l)))],none,false⟩
theorem Sb:CK 219 CQ:=ag fun (l,_,_) _ _=>by
 refine aq tw (Wl l) func219 (?_:(fun (d:Int)=>(fun (c:Nat)=>l.length*8<=140737488355328->∃ (f:Nat),(l=l/\(l.length:Int)=(c:Int)/\0=(f:Int))/\(f<=c/\xb (take f l) = -d)/\∀ (s:Nat),s<=c/\xb (take s l) = -d->((s:Int)<(c:Int)->0<=(s:Int)/\(s:Int)<(l.length:Int)/\∀ (x:Int),l[s]? = some x->a7 x->((!cD x)=true->(s:Int)=xb l)/\((!cD x)=false->a7 ((s:Int)+d)/\∃ (e:Nat),(l=l/\(c:Int)=(c:Int)/\(s:Int)+d=(e:Int))/\(e <= c/\xb (take e l) = -d)/\c - e < c - s))/\((c:Int)<=(s:Int) -> -d=xb l)) l.length) 1);iterate 3 ((all_goals (repeat' with_reducible first|apply aT|refine aW ?_|intro)); (all_goals try (first | exact bR | exact (acZ ab ab ab) | exact (YS ab ab ab) | exact (aet ab az))); all_goals try first | refine ⟨‹Nat› + 1,?_⟩ | refine ⟨0,?_⟩)
def Qf:Kn:=aH (ae (kC (cL .int)) ao) au fun (l,_) _=>⟨[0<l.length],[.c (.int ((Dw l)))],none,false⟩
theorem aeo:CK 159 Qf:=ag fun (l,_) _ j=>by
 have o:=b_ j;refine aq tw (ajF l) func159 (?_:(fun d=>(fun f=>(fun c=>l.length*(8:Nat)<=(140737488355328:Nat)->(f<c->False)/\(c<=f->(0:Int)<=(0:Int)/\(0:Int)<f/\∀ (x:Int),l[(0:Nat)]? = some x->a7 x->∃ h,(l=l/\x=jn l (h+d)/\c=(h:Int)+c)/\h+d<=l.length/\∀ (s:Nat),(fun e=>s+d<=l.length->(e<f->(0:Int)<=e/\e<f/\∀ (x:Int),l[e.toNat]? = some x->a7 x->a7 (e+c)/\∃ g,(l=l/\min (jn l (s+d)) x=jn l (g + d)/\e+c=(g:Int)+c)/\g + d<=l.length/\l.length - g < l.length - s)/\(f<=e->jn l (s+d)=Dw l)) ((s:Int)+c))) (1:Int)) (l.length:Int)) (1:Nat));iterate 3 ((all_goals (repeat' with_reducible first|apply aT|refine aW ?_|intro)); (all_goals try (first | exact bR | exact (LY ab) | exact (W_ ab) | exact (Mq az))); all_goals try first | refine ⟨‹Nat› + 1,?_⟩ | refine ⟨0,?_⟩)
def aa9:ck:=(aI 159 Qf (aI 219 CQ abH))
def AA:ay prog (av l6) aa9:=(ah aeo (ah Sb tw))
def GG:Kn:=aH (ae (kC (cL .int)) (ae (kC (sQ 157 [] [])) ao)) au fun (l,_,_) _=>⟨[],[.c (.bool (.atom ((!l.all cD))))],none,false⟩
def YR:CK 158 GG:=ag fun (l,_,_) _ _=>by
 refine aq AA [] func158 (?_:l.length*8<=140737488355328->a7 (xb l)->decide (0<=xb l) = !l.all cD);(repeat' with_reducible first|apply aT|refine aW ?_|intro)
 all_goals (exact (Yj))
def aac:ck:=(aI 158 GG aa9)
def Eg:ay prog (av l6) aac:=(ah YR AA)
theorem apL (o:(l.length:Int)=0\/(!l.all cD)=true):0=jz l:=by
 have h:(decide (l.length=0) || !l.all cD)=true:=by grind
 unfold jz; rw [eg h]
theorem ang (o:¬ (l.length:Int)=0) (h:(!l.all cD)=false):Dw l=jz l:=by
 have h:¬ (decide (l.length=0) || !l.all cD)=true:=by grind
 unfold jz; rw [dc h]
def Ec:Kn:=aH (ae (kC (cL .int)) ao) au fun (l,_) _=>⟨[],[.c (.int ((jz l)))],none,false⟩
def Qq:CK 92 Ec:=ag fun (l,_) _ _=>by
 refine aq Eg [] func92 (?_:l.length*8<=140737488355328->((l.length:Int)=0\/(!l.all cD)=true->0=jz l)/\(¬(l.length:Int)=0/\(!l.all cD)=false->0<l.length/\(a7 (Dw l)->Dw l=jz l)));(repeat' with_reducible first|apply aT|refine aW ?_|intro)
 all_goals (first | exact bR | exact (apL ap) | exact (ang ab ab))
def abm:ck:=(aI 92 Ec aac)
def A_:ay prog (av l6) abm:=(ah Qq Eg)
def Bq:Kn:=aH (ae (kC cI) (ae (kC (cL .int)) ao)) au fun (v,l,_) _=>⟨[],[.c (.bool (.atom ((lX v l))))],none,false⟩
theorem PI:CK 53 Bq:=ag fun (v,l,_) _ _=>by
 refine aq A_ [] func53 (?_:a7 v->l.length*8<=140737488355328->(1<=v/\v<3->a7 (jz l))->(decide (1<=v) && decide (v<3) && decide (v<jz l))=lX v l);(repeat' with_reducible first|apply aT|refine aW ?_|intro)
 all_goals (grind [lX])
def aaK:ck:=(aI 53 Bq abm)
def Sm:ay prog (av l6) aaK:=(ah PI A_)
def abb:ck:=aaK
def QP:ay prog (av l6) abb:=Sm
section
variable {s:b7} {l:List b5} {x:b5} {k:Nat}
end
section
variable {s:b7} {l:List b5} {x:b5} {k:Nat} {d:b5}
end
def aa1:ck:=abb
def OF:ay prog (av l6) aa1:=QP
def aa4:ck:=aa1
def eh:ay prog (av l6) aa4:=OF
def dp (f:Field):Bool:=(decide (1<=f.num) && decide (f.num<=1000)) && (if f.fl=0 then decide (((f.b.length:Nat):Int)=0) else if f.fl=2 then decide ((f.n.n:Int)=0) else false)
def du (a f:Field):Bool:=if f.num=a.num then (decide (f.fl=2) && decide (a.fl=2)) else decide (a.num<f.num)
def rO (num c:Int):Bool:=(decide (1<=num) && decide (num<=1000)) && (decide (c=0) || decide (c=2))
def lr (num c:Int):List UInt8:=if rO num c then bF ((8*num)+c).toNat else []
def jQ (num c:Int):Int:=if rO num c then 0 else 1
def bZ (f:Field):List UInt8:=if f.fl=0 then lr f.num f.fl++bF f.n.n else (lr f.num f.fl++bF f.b.length)++f.b
def okP:Option Field->Field->Bool
 | none,_=>true
 | some q,f=>du q f
def stepT (p:Option Field) (f:Field):Int:=if dp f=false then 1 else if okP p f=false then 5 else if (16384:Int)<((f.b.length:Nat):Int) then 4 else 0
def dC:Option Field->List Field->Int
 | _,[]=>0
 | p,f :: r=>if stepT p f=0 then dC (some f) r else stepT p f
def fx (l:List Field):Nat:=(l.map fun f=>(bZ f).length).sum
def bX (l:List Field):Int:=if dC none l=0 then (if (16384:Int)<((fx l:Nat):Int) then 4 else 0) else dC none l
def iS (l:List Field):List UInt8:=if bX l=0 then (l.map bZ).flatten else []
def eL (l:List Field) (k:Nat):Option Field:=if k=0 then none else l[k - 1]?
def zJ (l:List Field) (k:Nat) (x:Field):Prop:=(¬ 0<k)\/∃ y,l[k - 1]? = some y/\du y x=true
variable {fl:Int}
def TD {num:Int} (h:(num<1\/1000<num)\/(¬ fl=0/\¬ fl=2)):rO num fl=false:=by
 rw [<- Bool.not_eq_true]; unfold rO; simp; omega
def Jm {num:Int} (h:¬ ((num<1\/1000<num)\/(¬ fl=0/\¬ fl=2))):rO num fl=true:=by
 unfold rO; simp; omega
def GI {num:Int} (h:(num<1\/1000<num)\/(¬ fl=0/\¬ fl=2)):[]=lr num fl:=by rw [lr,TD h]; rfl
theorem ou {num:Int} (h:(num<1\/1000<num)\/(¬ fl=0/\¬ fl=2)):1=jQ num fl:=by rw [jQ,TD h]; rfl
def Ax {num:Int} (h:¬ ((num<1\/1000<num)\/(¬ fl=0/\¬ fl=2))):bF ((8*num)+fl).toNat=lr num fl:=by rw [lr,Jm h]; rfl
theorem mn {num:Int} (h:¬ ((num<1\/1000<num)\/(¬ fl=0/\¬ fl=2))):0=jQ num fl:=by rw [jQ,Jm h]; rfl
def mF (num fl:Int):(lr num fl).length<=10:=by
 unfold lr;cases h:rO num fl with
 | false=>simp
 | true=>
  unfold rO at h; simp at h;exact cO az
variable {f:Field}
theorem kM (c:f.b.length<=16384) (d:f.n.n<18446744073709551616):(bZ f).length<=16404:=by
 have e:=mF f.num f.fl;unfold bZ;split
 ·grind [cO]
 grind [cO]
def Ja (h:f.fl=0):lr f.num f.fl++bF f.n.n=bZ f:=by rw [bZ,eg h]
def Ht (h:¬ f.fl=0):(lr f.num f.fl++bF f.b.length)++f.b=bZ f:=by rw [bZ,dc h]
variable {l:List Field} {x:Field}
def DM (c:l[k]? = some x):fx (l.take k)+(bZ x).length=fx (l.take (k+1)):=by
 unfold fx; rw [aj c,I8,List.sum_append]; simp
def IA (d:zJ l k x):okP (eL l k) x=true:=by
 unfold eL;rcases d with h | ⟨y,e,g⟩
 ·rw [eg az]; rfl
 by_cases c:k=0
 ·rw [eg c]; rfl
 rw [dc c,e]; exact g
def Pn (c:l[k]? = some x):dC (eL l k) (l.drop k)=if stepT (eL l k) x=0 then dC (some x) (l.drop (k+1)) else stepT (eL l k) x:=by
 obtain ⟨d,e⟩:=r3.1 c;rw [J2 d,e]; rfl
variable {e:Int}
def Oe (d:dC none l=dC (eL l k) (l.drop k)) (g:l[k]? = some x) (h:stepT (eL l k) x=e) (c:e≠0):e=bX l:=by
 have j:dC none l=e:=by rw [d,Pn g,h,dc c]
 rw [bX,j,dc c]
def Oc (c:dC none l=dC (eL l k) (l.drop k)) (d:l[k]? = some x) (g:dp x=false):1=bX l:=Oe c d (by rw [stepT,eg g]) am
def To {y:Field} (c:dC none l=dC (eL l k) (l.drop k)) (d:l[k]? = some x) (g:dp x=true) (o:0<k) (h:l[k - 1]? = some y) (j:du y x=false):5=bX l:=
 Oe c d (by rw [stepT,dc (by rw [g]; decide),eg]; unfold eL; rw [dc az,h]; exact j) am
def PS (c:dC none l=dC (eL l k) (l.drop k)) (d:l[k]? = some x) (g:dp x=true) (h:zJ l k x) (j:(16384:Int)<((x.b.length:Nat):Int)):4=bX l:=
 Oe c d (by rw [stepT,dc (by rw [g]; decide),dc (by rw [IA h]; decide),eg j]) am
def DY (d:dC none l=dC (eL l k) (l.drop k)) (c:l[k]? = some x) (g:dp x=true) (h:zJ l k x) (j:¬ (16384:Int)<((x.b.length:Nat):Int)):dC none l=dC (eL l (k+1)) (l.drop (k+1)):=by
 rw [d,Pn c,eg (by rw [stepT,dc (by rw [g]; decide),dc (by rw [IA h]; decide),dc j])];unfold eL; rw [dc az,Nat.add_sub_cancel,c]
def yR (c:dC none l=dC (eL l k) (l.drop k)) (d:l.length<=k):dC none l=0:=by
 rw [c,O0 d]; rfl
def NV (g:dC none l=dC (eL l k) (l.drop k)) (c:l.length<=k) (d:(16384:Int)<((fx (l.take k):Nat):Int)):4=bX l:=by
 rw [r6 c] at d; rw [bX,eg (yR g c),eg d]
def Pb (g:dC none l=dC (eL l k) (l.drop k)) (c:l.length<=k) (d:¬ (16384:Int)<((fx (l.take k):Nat):Int)):0=bX l:=by
 rw [r6 c] at d; rw [bX,eg (yR g c),dc d]
theorem XA (h:bX l=0):fx l<=16384:=by
 unfold bX at h;grind
theorem yH (h:bX l=0):dC none l=0:=by
 unfold bX at h;grind
theorem Jl:∀ {l:List Field} {p:Option Field},dC p l=0->∀ x ∈ l,x.b.length<=16384
 | f :: r,p,h,x,hx=>by
  unfold dC at h;split at h
  ·rename_i c;rcases u2.1 hx with rfl | hx
   ·unfold stepT at c;grind
   exact Jl h x hx
  grind
def oJ (h:bX l=0) (c:x ∈ l):x.b.length<=16384:=Jl (yH h) x c
def xf (c:l[k]? = some x):((l.take k).map bZ).flatten++bZ x=((l.take (k+1)).map bZ).flatten:=by
 rw [aj c,I8,List.flatten_append]; simp
def PB (l:List Field):((l.map bZ).flatten).length=fx l:=by
 unfold fx; rw [List.length_flatten,map_map]; rfl
def Ni:fx (l.take k)<=fx l:=by
 have:fx l=fx (l.take k)+fx (l.drop k):=by unfold fx; rw [<- List.sum_append,<- I8,D5]
 omega
def BZ (h:bX l=0):((l.take k).map bZ).flatten.length<=16384:=by
 have:=XA h; have:=Ni (l:=l) (k:=k); rw [PB]; omega
def IL (h:bX l=0) (c:l.length<=k):((l.take k).map bZ).flatten=iS l:=by rw [iS,eg h,r6 c]
def Pp (h:¬ bX l=0):[]=iS l:=by rw [iS,dc h]
theorem Ex (h:f.num<1\/1000<f.num):false=dp f:=by
 have:(decide (1<=f.num) && decide (f.num<=1000))=false:=by rw [<- Bool.not_eq_true]; simp; omega
 unfold dp; rw [this]; rfl
theorem pA (h:¬ (f.num<1\/1000<f.num)):dp f=(if f.fl=0 then decide (((f.b.length:Nat):Int)=0) else if f.fl=2 then decide ((f.n.n:Int)=0) else false):=by
 have:(decide (1<=f.num) && decide (f.num<=1000))=true:=by simp; omega
 unfold dp; rw [this]; rfl
def aU:List k9:=([⟨1,0,1,true,false⟩,⟨2,0,1,false,false⟩,⟨3,0,1,false,false⟩,⟨4,0,1,false,false⟩,⟨5,0,1,false,false⟩,⟨6,0,1,false,false⟩,⟨7,2,1,false,false⟩,⟨8,2,3,false,false⟩]:List k9)
def aC (v:Int):List k9:=if v<1\/3<v then [] else aU.filter fun s=>decide (s.since<=v)
def bw (v:Int):Int:=(aC v).foldl (fun t s=>max t s.num) 0
variable {x:k9}
def Bt {v:Int} (c:aU[k]? = some x) (h:x.since<=v):(aU.take k).filter (fun s=>decide (s.since<=v))++[x]=(aU.take (k+1)).filter (fun s=>decide (s.since<=v)):=by
 rw [aj c,E1]; simp [h]
theorem Jx {v:Int} (c:aU[k]? = some x) (h:¬ x.since<=v):(aU.take k).filter (fun s=>decide (s.since<=v))=(aU.take (k+1)).filter (fun s=>decide (s.since<=v)):=by
 rw [aj c,E1]; simp [h]
def Lt {v:Int} (h:v<1\/3<v):[]=aC v:=by rw [aC,eg h]
def Tn {v:Int} (h:¬ (v<1\/3<v)) (c:aU.length<=k):(aU.take k).filter (fun s=>decide (s.since<=v))=aC v:=by rw [aC,dc h,r6 c]
def BT {v:Int}:((aU.take k).filter (fun s=>decide (s.since<=v))).length<=8:=by
 have c:=L5 (fun s:k9=>decide (s.since<=v)) (aU.take k);have d:(aU.take k).length<=8:=by rw [s9]; exact z7 (Nat.min_le_right _ _) am
 omega
def CE {v:Int} (c:(aC v)[k]? = some x):max (((aC v).take k).foldl (fun t s=>max t s.num) 0) x.num=((aC v).take (k+1)).foldl (fun t s=>max t s.num) 0:=by
 rw [aj c,I5]; rfl
def oc (num n:Int):List Field:=if n=0 then [] else [⟨num,0,⟨n.toNat⟩,[]⟩]
def sF (num:Int) (b:List UInt8):List Field:=if 0<((b.length:Nat):Int) then [⟨num,2,⟨0⟩,b⟩] else []
def sw (c:b5):List Field:=(((((([]++oc 1 c.kind)++oc 2 c.a6)++oc 3 c.seq)++oc 4 c.set)++oc 5 c.id)++oc 6 c.n)++sF 7 (bK c.b9)
def bE (c:b5) (v:Int):List Field:=if 3<=v then sw c++sF 8 c.text.b else sw c
def gH (num n:Int):(oc num n).length<=1:=by unfold oc; split <;> simp
def Gf (num:Int) (b:List UInt8):(sF num b).length<=1:=by unfold sF; split <;> simp
variable {xs:List Field}
def ajZ {num:Int} (h:¬ n=0):xs++[⟨num,0,⟨n.toNat⟩,[]⟩]=xs++oc num n:=by rw [oc,dc h]
def ak6 {num:Int} (h:n=0):xs=xs++oc num n:=by rw [oc,eg h,A3]
variable {b:List UInt8}
def aiJ {num:Int} (h:0<((b.length:Nat):Int)):xs++[⟨num,2,⟨0⟩,b⟩]=xs++sF num b:=by rw [sF,eg h]
def air {num:Int} (h:¬ 0<((b.length:Nat):Int)):xs=xs++sF num b:=by rw [sF,dc h,A3]
def u_ (c:b5) (v:Int):(bE c v).length<=8:=by
 have d:=gH 1 c.kind; have g:=gH 2 c.a6; have h:=gH 3 c.seq; have j:=gH 4 c.set; have o:=gH 5 c.id; have p:=gH 6 c.n;have q:=Gf 7 (bK c.b9); have r:=Gf 8 c.text.b;unfold bE sw;split <;> simp <;> omega
def dw (c:b5) (d:List Field) (v:Int):Int:=if !(aO v 1 3) then 1 else if (eK c v=false/\¬ aP c v=0) then aP c v else if d.any (fun f=>decide (f.num<=bw v)) then 6 else 0
def dE (c:b5) (d:List Field) (v:Int):Int:=if dw c d v=0 then bX (bE c v++d) else dw c d v
def ew (c:b5) (d:List Field) (v:Int):List UInt8:=if dw c d v=0 then iS (bE c v++d) else []
def sT {k:Int} (h:¬ bk k=0):1<=k/\k<=12:=Decidable.byContradiction fun c=>h (Kq c)
def QG {c:b5} {v:Int} (h:eK c v=true):0<=c.kind/\0<=c.a6/\0<=c.seq/\0<=c.set/\0<=c.id/\0<=c.n:=by
 unfold eK rM aO at h;simp at h;omega
def zh {b:Bool} (h:kH n m b=true):0<=n:=by
 unfold kH at h; cases b <;> simp at h <;> omega
def Hl {k:Int} (h:1<=k/\k<=12):0<=(jO k).1:=by
 have:k=1\/k=2\/k=3\/k=4\/k=5\/k=6\/k=7\/k=8\/k=9\/k=10\/k=11\/k=12:=by omega
 rcases this with rfl | rfl | rfl | rfl | rfl | rfl | rfl | rfl | rfl | rfl | rfl | rfl <;> decide
def uX {c:b5} {v:Int} (h:aP c v=0):(1<=v/\v<=3)/\¬ bk c.kind=0/\bk c.kind<=v/\fL c=true:=by
 unfold aP at h;split at h
 ·cases h
 rename_i d;rw [F5,not_or] at d;simp at d;split at h
 ·cases h
 split at h
 ·cases h
 rename_i j g;exact ⟨vU d.1,d.2,az,by simpa using g⟩
def UJ {c:b5} {v:Int} (h:aP c v=0):0<=c.kind/\0<=c.a6/\0<=c.seq/\0<=c.set/\0<=c.id/\0<=c.n:=by
 obtain ⟨_,g,_,d⟩:=uX h;have j:=sT g;have s:=Hl j;unfold fL at d;simp at d;obtain ⟨⟨⟨⟨⟨⟨⟨w,y⟩,_⟩,_⟩,o⟩,p⟩,q⟩,r⟩:=d;exact ⟨az,zh o,zh p,zh q,zh r,az⟩
variable {rest:List Field}
def alY {c:b5} {v:Int} (h:(!(aO v 1 3))=true):dw c rest v=1:=by rw [dw,eg h]
def anD {c:b5} {v:Int} (h:(!(aO v 1 3))=false) (d:eK c v=false) (g:¬ aP c v=0):dw c rest v=aP c v:=by rw [dw,h,dc am,eg ⟨d,g⟩]
def amU {c:b5} {v:Int} {x:Field} (h:(!(aO v 1 3))=false) (h1:eK c v=true\/aP c v=0) (g:rest[k]? = some x) (j:x.num<=bw v):dw c rest v=6:=by
 have:(rest.any fun f=>decide (f.num<=bw v))=true:=List.any_eq_true.2 ⟨x,A9 g,F0 j⟩;rw [dw,h,dc am,dc (fun d=>by rcases h1 with h1 | h1; rw [h1] at d; cases d.1; exact d.2 h1),eg this]
def anx {c:b5} {v:Int} (h:(!(aO v 1 3))=false) (h1:eK c v=true\/aP c v=0) (d:∀ j y,j<k->rest[j]? = some y->¬ y.num<=bw v) (q:rest.length<=k):dw c rest v=0:=by
 have:(rest.any fun f=>decide (f.num<=bw v))=false:=by
  rw [List.any_eq_false];intro y o;obtain ⟨j,p,rfl⟩:=List.getElem_of_mem o;have:=d j _ az (p6 p);simpa using this
 rw [dw,h,dc am,dc (fun g=>by rcases h1 with h1 | h1; rw [h1] at g; cases g.1; exact g.2 h1),this,dc am]
def qx {c:b5} {v:Int} (h:dw c rest v=e) (d:¬ e=0):e=dE c rest v:=by rw [dE,h,dc d]
def qe {c:b5} {v:Int} (h:dw c rest v=e) (d:¬ e=0):[]=ew c rest v:=by rw [ew,h,dc d]
def abE {c:b5} {v:Int} (h:dw c rest v=0):bX (bE c v++rest)=dE c rest v:=by rw [dE,eg h]
def aao {c:b5} {v:Int} (h:dw c rest v=0):iS (bE c v++rest)=ew c rest v:=by rw [ew,eg h]
theorem KB {z:Field} (h:∀ j y,j<k->rest[j]? = some y->¬ y.num<=t) (g:rest[k]? = some z) (o:¬ z.num<=t):∀ j y,j<k+1->rest[j]? = some y->¬ y.num<=t:=by
 intro j y p c;by_cases d:j=k
 ·grind
 exact h j y az c
def zY (n:Nat):bF n=((range (bA n)).map (nr n)).set (bA n - 1) (nr n (bA n - 1) &&& 127):=by unfold bF gy; simp
def NY:∀ m:Fin 128,(ofNat m.val ||| 128) &&& 127=ofNat m.val:=by decide
def ad9:∀ m:Fin 256,(ofNat m.val ||| 128).toNat=m.val % 128+128:=by decide +kernel
variable {n:Nat}
def kE (h:n<128):bF n=[ofNat n]:=by
 rw [zY,kJ h];have:=NY ⟨n,h⟩;simp [nr] at *;rw [this]
def aas (n:Nat):(nr n 0).toNat=n % 128+128:=by
 have e:ofNat n=ofNat (n % 256):=toNat_inj.1 aa;have:=ad9 ⟨n % 256,E5 _ am⟩;simp only [nr,Nat.pow_zero,Nat.div_one];rw [e,this]; simp only; omega
def uz (h:¬ n<128):bF n=nr n 0 :: bF (n / 128):=by
 have e:∀ i,nr n (i+1)=nr (n / 128) i:=fun i=>by unfold nr; rw [Nat.pow_succ,Q9,<- Nat.div_div_eq_div_mul]
 have d:=j_ (n / 128);obtain ⟨s,c⟩:∃ s,bA (n / 128)=s+1:=⟨bA (n / 128) - 1,az⟩;rw [zY,zY (n / 128),nX h,c];simp;rw [List.range_succ_eq_map,O7,map_map,List.set_cons_succ,e s,show nr n ∘ Nat.succ=nr (n / 128) from funext e]
theorem qf:∀ {l:List Field} {p:Option Field},dC p l=0->∀ x ∈ l,dp x=true
 | [],_,_,x,hx=>by cases hx
 | f :: r,p,h,x,hx=>by
  unfold dC at h;split at h
  ·rename_i c;rcases u2.1 hx with rfl | hx
   ·unfold stepT at c;split at c
    ·cases c
    rename_i d; simpa using d
   exact qf h x hx
  rename_i c; exact absurd h c
def bW:Nat->Nat->List UInt8->Nat × Nat × Int
 | k,_,[]=>if 10<=k then (0,0,3) else (0,0,2)
 | k,n,x :: r=>if 10<=k then (0,0,3) else if (0<k/\x.toNat=0)\/(k=9/\1<x.toNat) then (0,0,3) else if x.toNat<128 then (n+(x &&& 127).toNat*2 ^ (7*k),k+1,0) else bW (k+1) (n+(x &&& 127).toNat*2 ^ (7*k)) r
termination_by _ _ l=>l.length
def ak (b:List UInt8):Nat × Nat × Int:=bW 0 0 b
theorem lH (x:UInt8):(x &&& 127).toNat=x.toNat % 128:=by rw [UInt8.toNat_and]; exact Nat.and_two_pow_sub_one_eq_mod x.toNat 7
variable {x:UInt8}
theorem Gr (d:k<=9) (h:k=9->x.toNat<=1):(x &&& 127).toNat*2 ^ (7*k)<18446744073709551616:=by
 rw [lH];by_cases g:k=9
 ·grind
 have c:2 ^ (7*k)<=2 ^ 56:=Nat.pow_le_pow_right am az;have:x.toNat % 128*2 ^ (7*k)<=127*2 ^ 56:=Nat.mul_le_mul az c;exact J3 this am
variable {m:Nat}
def FX (h:n<2 ^ (7*k)):n ||| m*2 ^ (7*k)=n+m*2 ^ (7*k):=by
 have:=Nat.two_pow_add_eq_or_of_lt h m;rw [Nat.or_comm,Q9 m,<- this,Nat.add_comm]
def zr (h:n<2 ^ (7*k)):n+(x &&& 127).toNat*2 ^ (7*k)<2 ^ (7*(k+1)):=by
 rw [lH];have e:2 ^ (7*(k+1))=128*2 ^ (7*k):=by rw [show 7*(k+1)=7*k+7 by omega,Nat.pow_add,Q9]
 have:x.toNat % 128*2 ^ (7*k)<=127*2 ^ (7*k):=H4 _ az;rw [e]; omega
def Oy (d:k<10) (c:b.length<=k):bW k n (b.drop k)=(0,0,2):=by
 rw [O0 c,bW,dc az]
def aeU (c:10<=k):bW k n (b.drop k)=(0,0,3):=by
 cases h:b.drop k with
 | nil=>rw [bW,eg c]
 | cons x r=>rw [bW,eg c]
def RS (h:k<10) (d:b[k]? = some x):bW k n (b.drop k)=if (0<k/\x.toNat=0)\/(k=9/\1<x.toNat) then (0,0,3) else if x.toNat<128 then (n+(x &&& 127).toNat*2 ^ (7*k),k+1,0) else bW (k+1) (n+(x &&& 127).toNat*2 ^ (7*k)) (b.drop (k+1)):=by
 obtain ⟨c,g⟩:=r3.1 d;rw [J2 c,g,bW,dc az]
def HT (h:ak b=bW k n (b.drop k)) (c:k<10) (d:b[k]? = some x) (g:¬ (0<k/\x.toNat=0)) (j:¬ (k=9/\1<x.toNat)) (o:¬ x.toNat<128):ak b=bW (k+1) (n+(x &&& 127).toNat*2 ^ (7*k)) (b.drop (k+1)):=by
 rw [h,RS c d,dc (fun h=>h.elim g j),dc o]
theorem mT:∀ {l:List UInt8} {k n:Nat},k<=10->(bW k n l).2.1<=11/\(bW k n l).2.1<=k+l.length
 | [],k,n,h=>by rw [bW]; split <;> simp
 | x :: r,k,n,h=>by
  rw [bW];split
  ·simp
  split
  ·simp
  split
  ·simp; omega
  have:=mT (l:=r) (k:=k+1) (n:=n+(x &&& 127).toNat*2 ^ (7*k)) az;simp only [y4]; omega
theorem aaD:∀ {l:List UInt8} {k n:Nat},k<=10->n<2 ^ (7*k)->n<18446744073709551616->(bW k n l).1<18446744073709551616
 | [],k,n,_,_,_=>by rw [bW]; split <;> simp
 | x :: r,k,n,h,g,c=>by
  rw [bW];split
  ·simp
  split
  ·simp
  rename_i s j;have o:=Gr (k:=k) (x:=x) az (fun e=>by by_cases p:1<x.toNat; exact absurd (.inr ⟨e,p⟩) j; omega);have q:=FX (k:=k) (m:=(x &&& 127).toNat) g;have d:n ||| (x &&& 127).toNat*2 ^ (7*k)<2 ^ 64:=M0 c o;rw [q] at d;split
  ·exact d
  exact aaD az (zr g) d
theorem zK (h:ak b=bW k n (b.drop k)) (c:k<10) (d:b[k]? = some x) (g:(0<k/\x.toNat=0)\/(k=9/\1<x.toNat)):ak b=(0,0,3):=by rw [h,RS c d,eg g]
theorem Ka (h:ak b=bW k n (b.drop k)) (c:k<10) (d:b[k]? = some x) (g:¬ (0<k/\x.toNat=0)) (j:¬ (k=9/\1<x.toNat)) (o:x.toNat<128):ak b=(n+(x &&& 127).toNat*2 ^ (7*k),k+1,0):=by
 rw [h,RS c d,dc (fun h=>h.elim g j),eg o]
theorem Nt:∀ {l:List UInt8} {k n:Nat},1<=k->(bW k n l).2.2=0->2 ^ (7*k)<=(bW k n l).1
 | [],k,n,_,h=>by rw [bW] at h; split at h <;> cases h
 | x :: r,k,n,j,h=>by
  rw [bW] at h ⊢;split
  ·grind
  rename_i d;rw [dc d] at h;split
  ·grind
  rename_i g;rw [dc g] at h;split
  ·rename_i c;rw [lH];have:1<=x.toNat % 128:=by grind
   have:=H4 (2 ^ (7*k)) this;show 2 ^ (7*k)<=n+x.toNat % 128*2 ^ (7*k);omega
  rename_i c;rw [dc c] at h;exact z7 (Nat.pow_le_pow_right am az) (Nt az h)
theorem JT (x:UInt8) (r:List UInt8):ak (x :: r)=if x.toNat<128 then (x.toNat,1,0) else bW 1 (x.toNat % 128) r:=by
 unfold ak;rw [bW,dc am,dc az,lH];split
 ·grind
 simp
def De (c:k<b.length):(b.drop k).take (b.length - k)=b[k] :: b.drop (k+1):=by
 rw [r6 aa,J2 c]
theorem tk1 (c:k<b.length) (d:(ak ((b.drop k).take (b.length - k))).2.2=0) (g:¬ (64:Int)<(((ak ((b.drop k).take (b.length - k))).1:Nat):Int)) :
  ∃ x,b[k]? = some x/\ak ((b.drop k).take (b.length - k))=(x.toNat,1,0)/\x.toNat<=64:=by
 rw [De c,JT] at *;by_cases h:b[k].toNat<128
 ·grind
 rw [dc h] at *;have:=Nt (sh 1) d;omega
def tk2 (c:k<b.length) (h:(¬ (ak ((b.drop k).take (b.length - k))).2.2=0)\/(64:Int)<(((ak ((b.drop k).take (b.length - k))).1:Nat):Int)):∃ x,b[k]? = some x/\64<x.toNat:=by
 refine ⟨b[k],p6 c,?_⟩;rw [De c,JT] at h;by_cases d:b[k].toNat<128
 ·rw [eg d] at h; simp at h; omega
 omega
def bG (b:List UInt8):List Int:=b.map fun x=>(x.toNat:Int)
def fN (b:List UInt8):List Int:=if bI (bG b) then bG b else []
def iU (b:List UInt8):Int:=if bI (bG b) then 0 else 6
theorem IF {p:Nat × Nat × Int} (c:b[k]? = some x) (d:p=(x.toNat,1,0)):bG (b.take k)++[((p.1:Nat):Int)]=bG (b.take (k+1)):=by
 subst d; unfold bG; rw [aj c,I8]; rfl
def aec (c:k<b.length) (h:(¬ (ak ((b.drop k).take (b.length - k))).2.2=0)\/(64:Int)<(((ak ((b.drop k).take (b.length - k))).1:Nat):Int)):bI (bG b)=false:=by
 obtain ⟨x,d,g⟩:=tk2 c h;rw [<- Bool.not_eq_true];intro j;have:=(n_ j (x.toNat:Int) (K4.2 ⟨x,A9 d,rfl⟩)).2;omega
theorem zU (c:b.length<=k):bG (b.take k)=bG b:=by rw [r6 c]
def FG (h:bI (bG b)=false):[]=fN b:=by rw [fN,h]; rfl
def Ge (h:bI (bG b)=false):6=iU b:=by rw [iU,h]; rfl
def Jd (c:b.length<=k) (h:bI (bG (b.take k))=true):bG (b.take k)=fN b:=by rw [zU c] at *; rw [fN,h]; rfl
def Ku (c:b.length<=k) (h:bI (bG (b.take k))=true):0=iU b:=by rw [zU c] at *; rw [iU,h]; rfl
def R_ (c:b.length<=k) (h:bI (bG (b.take k))=false):bI (bG b)=false:=by rw [zU c] at h; exact h
variable {l:List Int}
def Om (h:∀ x ∈ l,0<x/\x<=64):fk l=l.map fun x=>ofNat x.toNat:=by
 induction l with
 | nil=>rfl
 | cons x r c=>
  have g:=h x aa;simp only [fk,H5,O7] at *;rw [kE az,c fun y d=>h y (w8 _ d)]; rfl
def uh (h:∀ x ∈ l,0<x/\x<=64):bG (l.map fun x=>ofNat x.toNat)=l:=by
 unfold bG;rw [map_map];refine (V3 (g:=id) fun x c=>?_).trans (map_id _);have:=h x c;show (((ofNat x.toNat).toNat:Nat):Int)=x;rw [H6]; omega
theorem qz (h:bI l=true):bK l=(l.map fun x=>ofNat x.toNat)/\cu l=0/\fN (bK l)=l/\iU (bK l)=0:=by
 have e:=Om (n_ h);have c:bK l=(l.map fun x=>ofNat x.toNat):=by rw [bK,eg h,e]
 refine ⟨c,by rw [cu,eg h],?_,?_⟩
 ·rw [c,fN,uh (n_ h),eg h]
 rw [c,iU,uh (n_ h),eg h]
def Ha (n:Nat):nr n 0=ofNat (n % 128+128):=toNat_inj.1 (by rw [aas,H6]; omega)
variable {r:Nat}
def Mi {p:List UInt8} (h:p++bF r=bF n) (c:¬ r<128):(p++[ofNat (r % 128+128)])++bF (r / 128)=bF n:=by
 rw [<- h,uz c,Ha,I4]; rfl
def Vs {p:List UInt8} (h:p++bF r=bF n) (c:r<128):p++[ofNat r]=bF n:=by rw [<- h,kE c]
def Ok {p:List UInt8} (h:p++bF r=bF n) (c:n<18446744073709551616):p.length<=10:=by
 have:=hC List.length h; rw [r5] at this; have:=cO c; omega
def Ow (c:b[k]? = some x):bG (b.take k)++[(x.toNat:Int)]=bG (b.take (k+1)):=IF (p:=(x.toNat,1,0)) c rfl
theorem yD (h:bI (bG b)=true):bK (bG b)=b:=by
 rw [(qz h).1]; unfold bG; rw [map_map];refine (V3 (g:=id) fun x _=>?_).trans (map_id _);show ofNat ((x.toNat:Int)).toNat=x;simp
theorem Hh (c:b.length<=k) (h:(¬ cu (bG (b.take k))=0)\/(¬ (⟨bK (bG (b.take k))⟩:o3)=⟨b⟩)):bI (bG b)=false:=by grind [zU,qz,yD]
def NO (h:cu (bG (b.take k))=0):bI (bG (b.take k))=true:=by
 cases c:bI (bG (b.take k)) with
 | true=>rfl
 | false=>rw [cu,c] at h; cases h
theorem Tt:(((!decide (jQ f.num f.fl=0)) || (decide (f.fl=0) && decide ((0:Int)<((f.b.length:Nat):Int)))) || (decide (f.fl=2) && (!decide ((f.n.n:Int)=0)))) = !dp f:=by
 by_cases h:(f.num<1\/1000<f.num)
 ·grind [Ex,ou]
 by_cases c:f.fl=0
 ·have e:decide ((0:Int)<((f.b.length:Nat):Int)) = !decide (((f.b.length:Nat):Int)=0):=by
   rw [E2]; simp only [S9,vo,O1]; omega
  rw [pA h,eg c,<- mn az,e,F0 c,D1 (show ¬ f.fl=2 by omega)]; simp
 by_cases d:f.fl=2
 ·rw [pA h,dc c,eg d,<- mn az,E2]; simp [d]
 grind [pA,ou]
theorem YP {c:b5} (h:fL c=true):c.b9.length=0\/bI c.b9=true:=by
 unfold fL at h;simp at h;have d:EC c=true:=by obtain ⟨⟨⟨⟨⟨⟨⟨g,d⟩,j⟩,o⟩,p⟩,q⟩,s⟩,v⟩:=h; assumption
 unfold EC at d;split at d
 ·exact .inr d
 grind
def acr {c:b5} {v:Int} (h:eK c v=true):c.b9.length=0\/bI c.b9=true:=by
 unfold eK at h;rw [pe,pe,F5,vo] at h;rcases h.1.2 with h | h
 ·exact .inl az
 exact .inr h
def Ya {c:b5} {v:Int} (h:aP c v=0):c.b9.length=0\/bI c.b9=true:=YP (uX h).2.2.2
structure N7 where
 num:Int
 fl:Int
 k:Nat
 e:Int
def Fy (n:Nat):Bool:=decide ((n / 8<1\/1000<n / 8)\/(¬ n % 8=0/\¬ n % 8=2))
def aA (b:List UInt8):N7:=if (ak b).2.2=0 then (if Fy (ak b).1=true then ⟨0,0,0,6⟩ else ⟨(((ak b).1 / 8:Nat):Int),(((ak b).1 % 8:Nat):Int),(ak b).2.1,0⟩) else ⟨0,0,0,(ak b).2.2⟩
theorem yq (h:¬ (ak b).2.2=0):aA b=⟨0,0,0,(ak b).2.2⟩:=by rw [aA,dc h]
theorem yC (h:(ak b).2.2=0) (c:((ak b).1 / 8<1\/1000<(ak b).1 / 8)\/(¬ (ak b).1 % 8=0/\¬ (ak b).1 % 8=2)):aA b=⟨0,0,0,6⟩:=by rw [aA,eg h,eg (show Fy _=true from F0 c)]
theorem FV (h:(ak b).2.2=0) (c:¬ (((ak b).1 / 8<1\/1000<(ak b).1 / 8)\/(¬ (ak b).1 % 8=0/\¬ (ak b).1 % 8=2))):aA b=⟨(((ak b).1 / 8:Nat):Int),(((ak b).1 % 8:Nat):Int),(ak b).2.1,0⟩:=by
 rw [aA,eg h,dc (by unfold Fy; simpa using c)]
theorem ll (b:List UInt8):((aA b).k<=11/\(aA b).k<=b.length)/\(0<=(aA b).num/\(aA b).num<=1000)/\(0<=(aA b).fl/\(aA b).fl<=2):=by
 have c:(ak b).2.1<=11/\(ak b).2.1<=0+b.length:=mT (l:=b) (k:=0) (n:=0) az;by_cases h:(ak b).2.2=0
 ·grind [yC,FV]
 rw [yq h]; simp
theorem OV:∀ {l:List UInt8} {k n:Nat},(bW k n l).2.2=0->1<=(bW k n l).2.1
 | [],k,n,h=>by rw [bW] at h; split at h <;> cases h
 | x :: r,k,n,h=>by
  rw [bW] at h ⊢;split
  ·grind
  rename_i c;rw [dc c] at h;split
  ·grind
  rename_i d;rw [dc d] at h;split
  ·simp
  simp_all [OV]
def aK (b:List UInt8):Nat × Int:=
  if (aA b).e=0 then
    (if (ak (b.drop (aA b).k)).2.2=0 then
      (if (aA b).fl=0 then ((aA b).k+(ak (b.drop (aA b).k)).2.1,0)
       else if 16384<(ak (b.drop (aA b).k)).1 then (0,4)
       else if ((b.length:Nat):Int) - (((aA b).k+(ak (b.drop (aA b).k)).2.1:Nat):Int)<(((ak (b.drop (aA b).k)).1:Nat):Int) then (0,2)
       else ((aA b).k+(ak (b.drop (aA b).k)).2.1+(ak (b.drop (aA b).k)).1,0))
     else (0,(ak (b.drop (aA b).k)).2.2))
  else (0,(aA b).e)
def afK (h:¬ (aA b).e=0):aK b=(0,(aA b).e):=by rw [aK,dc h]
theorem adT (h:(aA b).e=0) (c:¬ (ak (b.drop (aA b).k)).2.2=0):aK b=(0,(ak (b.drop (aA b).k)).2.2):=by rw [aK,eg h,dc c]
theorem ae3 (h:(aA b).e=0) (c:(ak (b.drop (aA b).k)).2.2=0) (d:(aA b).fl=0):aK b=((aA b).k+(ak (b.drop (aA b).k)).2.1,0):=by rw [aK,eg h,eg c,eg d]
def aea (h:(aA b).e=0) (c:(ak (b.drop (aA b).k)).2.2=0) (d:¬ (aA b).fl=0) (g:16384<(ak (b.drop (aA b).k)).1):aK b=(0,4):=by rw [aK,eg h,eg c,dc d,eg g]
theorem akt (h:(aA b).e=0) (c:(ak (b.drop (aA b).k)).2.2=0) (d:¬ (aA b).fl=0) (g:¬ 16384<(ak (b.drop (aA b).k)).1) (j:((b.length:Nat):Int) - (((aA b).k+(ak (b.drop (aA b).k)).2.1:Nat):Int)<(((ak (b.drop (aA b).k)).1:Nat):Int)):aK b=(0,2):=by rw [aK,eg h,eg c,dc d,dc g,eg j]
theorem ajk (h:(aA b).e=0) (c:(ak (b.drop (aA b).k)).2.2=0) (d:¬ (aA b).fl=0) (g:¬ 16384<(ak (b.drop (aA b).k)).1) (j:¬ ((b.length:Nat):Int) - (((aA b).k+(ak (b.drop (aA b).k)).2.1:Nat):Int)<(((ak (b.drop (aA b).k)).1:Nat):Int)):aK b=((aA b).k+(ak (b.drop (aA b).k)).2.1+(ak (b.drop (aA b).k)).1,0):=by rw [aK,eg h,eg c,dc d,dc g,dc j]
theorem jv (b:List UInt8) (k:Nat):(ak (b.drop k)).2.1<=11/\(ak (b.drop k)).2.1+k<=max b.length k:=by
 have:=mT (l:=b.drop k) (k:=0) (n:=0) az;unfold ak;grind
theorem pH (b:List UInt8):(aK b).1<=b.length:=by
 have c:=ll b; have d:=jv b (aA b).k;unfold aK;grind
theorem pd (h:(aK b).2=0):1<=(aK b).1:=by
 unfold aK at h ⊢;split
 ·rename_i d;rw [eg d] at h;split
  ·rename_i c;rw [eg c] at h;have:=OV (l:=b.drop (aA b).k) (k:=0) (n:=0) c;split
   ·dsimp only; unfold ak; omega
   rename_i g;rw [dc g] at h;split
   ·grind
   rename_i j;rw [dc j] at h;split
   ·grind
   dsimp only; unfold ak; omega
  grind
 grind
def f_ (b:List UInt8):Field:=if (aA b).fl=0 then ⟨(aA b).num,(aA b).fl,⟨(ak (b.drop (aA b).k)).1⟩,[]⟩ else ⟨(aA b).num,(aA b).fl,⟨0⟩,b.drop ((aA b).k+(ak (b.drop (aA b).k)).2.1)⟩
def HX (h:(aA b).fl=0):(⟨(aA b).num,(aA b).fl,⟨(ak (b.drop (aA b).k)).1⟩,[]⟩:Field)=f_ b:=by rw [f_,eg h]
def JB (h:¬ (aA b).fl=0):(⟨(aA b).num,(aA b).fl,⟨0⟩,b.drop ((aA b).k+(ak (b.drop (aA b).k)).2.1)⟩:Field)=f_ b:=by rw [f_,dc h]
def fb (c:List Field) (x:Field):Bool:=match c[c.length - 1]? with | none=>true | some y=>du y x
def Dx:Nat->List Field->List UInt8->List Field × Int
 | 0,c,_=>(c,0)
 | f+1,c,b=>if b.length=0 then (c,0) else if (aK b).2=0 then (if fb c (f_ (b.take (aK b).1))=true then Dx f (c++[f_ (b.take (aK b).1)]) (b.drop (aK b).1) else ([],5)) else ([],(aK b).2)
def aM (b:List UInt8):List Field × Int:=if 16384<b.length then ([],4) else Dx b.length [] b
def eZ (b:List UInt8) (i:Nat) (c:List Field):Prop:=∃ f,b.length - i<=f/\aM b=Dx f c (b.drop i)
def aeV (h:16384<b.length):aM b=([],4):=by rw [aM,eg h]
def Ej (h:¬ 16384<b.length):eZ b 0 []:=⟨b.length,az,by rw [aM,dc h]; rfl⟩
variable {acc:List Field}
def RR (h:eZ b i acc) (hi:i<b.length):∃ f,b.length - i<=f+1/\aM b=if (aK (b.drop i)).2=0 then (if fb acc (f_ ((b.drop i).take (aK (b.drop i)).1))=true then Dx f (acc++[f_ ((b.drop i).take (aK (b.drop i)).1)]) ((b.drop i).drop (aK (b.drop i)).1) else ([],5)) else ([],(aK (b.drop i)).2):=by
 obtain ⟨f,c,e⟩:=h;cases f with
 | zero=>omega
 | succ f=>exact ⟨f,c,by rw [e,Dx,dc (by rw [length_drop]; omega)]⟩
def Zo (h:eZ b i acc) (hi:i<b.length) (c:¬ (aK (b.drop i)).2=0):aM b=([],(aK (b.drop i)).2):=by
 obtain ⟨f,_,e⟩:=RR h hi; rw [e,dc c]
def adq (h:eZ b i acc) (hi:b.length<=i):aM b=(acc,0):=by
 obtain ⟨f,_,e⟩:=h;rw [e,O0 hi];cases f <;> rfl
theorem Ev:∀ {f:Nat} {acc:List Field} {b:List UInt8},(Dx f acc b).1.length<=acc.length+b.length
 | 0,acc,b=>by simp [Dx]
 | f+1,acc,b=>by
  unfold Dx;split
  ·simp
  split
  ·rename_i d c;split
   ·have:=Ev (f:=f) (acc:=acc++[f_ (b.take (aK b).1)]) (b:=b.drop (aK b).1);have g:=pd c;rw [r5,length_drop] at this;simp at this;omega
   simp
  simp
theorem GK (b:List UInt8):(aM b).1.length<=16384:=by
 unfold aM;split
 ·simp
 grind [Ev]
def Ie (x:Field) (s:k9) (n:Int):Bool:=if ¬ x.fl=s.fl\/(1<n/\s.hY=false) then false else if x.fl=0 then !decide ((x.n.n:Int)=0) else decide (0<((x.b.length:Nat):Int))
def dV (l:List Field) (q:Int):Nat:=l.countP fun x=>decide (x.num=q)
variable {l:List Field}
def HO (q:Int):dV (l.take k) q<=k:=z7 List.countP_le_length (by rw [s9]; exact Nat.min_le_left _ _)
variable {x:Field}
theorem oT (c:l[k]? = some x) (q:Int):dV (l.take (k+1)) q=if q=x.num then dV (l.take k) x.num+1 else dV (l.take k) q:=by
 unfold dV;rw [aj c,T6];by_cases h:q=x.num
 ·subst h; simp
 grind
def vS (l:List Field) (c:List k9) (k:Nat):Prop:=∀ j x,j<k->l[j]? = some x->∀ s ∈ c,s.num=x.num->Ie x s ((dV (l.take (j+1)) x.num:Nat):Int)=true
def Nb (l:List Field) (c:List k9) (m:Nat):Prop:=∀ j y,j<m->c[j]? = some y->y.x3=true->¬ dV l y.num=0
def TG (c:List k9) (x:Field) (n:Int) (m:Nat):Prop:=∀ j y,j<m->c[j]? = some y->y.num=x.num->Ie x y n=true
variable {n:Int} {ss:List k9}
def akg:TG ss x n 0:=fun j y h=>by omega
def akz:vS l ss 0:=fun j y h=>by omega
def akA:Nb l ss 0:=fun j y h=>by omega
def s_ (l:List Field) (v:Int):Prop:=vS l (aC v) l.length/\Nb l (aC v) (aC v).length
open Classical in
def eI (l:List Field) (v:Int):Int:=if (aC v).length=0 then 1 else if bX l=0 then (if s_ l v then 0 else 6) else bX l
def ajQ {v:Int} (h:(aC v).length=0):1=eI l v:=by rw [eI,eg h]
def aiY {v:Int} (h:¬ (aC v).length=0) (c:¬ bX l=0):bX l=eI l v:=by rw [eI,dc h,dc c]
def Yq {v:Int} (h:¬ (aC v).length=0) (c:bX l=0) (d:¬ s_ l v):6=eI l v:=by rw [eI,dc h,eg c,dc d]
def ak0 {v:Int} (h:¬ (aC v).length=0) (c:bX l=0) (d:s_ l v):0=eI l v:=by rw [eI,dc h,eg c,eg d]
def PE {y:k9} (h:TG ss x n m) (g:ss[m]? = some y) (o:y.num=x.num->Ie x y n=true):TG ss x n (m+1):=by
 intro j z p c;by_cases d:j=m
 ·subst d; rw [g] at c; cases c; exact o
 exact h j z az c
def Sn (h:vS l ss k) (q:l[k]? = some x) (hi:TG ss x n m) (w:ss.length<=m) (e:n=((dV (l.take (k+1)) x.num:Nat):Int)):vS l ss (k+1):=by
 subst e;intro j z y c s g o;by_cases d:j=k
 ·subst d; rw [q] at c; cases c;obtain ⟨p,v,rfl⟩:=List.getElem_of_mem g;exact hi p _ az (p6 v) o
 exact h j z az c s g o
def Oa {y:k9} (h:Nb l ss m) (g:ss[m]? = some y) (o:y.x3=true->¬ dV l y.num=0):Nb l ss (m+1):=by
 intro j z p c;by_cases d:j=m
 ·subst d; rw [g] at c; cases c; exact o
 exact h j z az c
def YH {v:Int} {y:k9} (c:l[k]? = some x) (g:(aC v)[m]? = some y) (d:y.num=x.num/\Ie x y n=false) (e:n=((dV (l.take (k+1)) x.num:Nat):Int)):¬ s_ l v:=by
 intro h;have:=h.1 k x (nB c) c y (A9 g) d.1;rw [<- e,d.2] at this; cases this
variable {n:Nat}
def ZA {v:Int} {y:k9} (c:(aC v)[m]? = some y) (d:y.x3=true/\((n:Nat):Int)=0) (e:n=dV l y.num):¬ s_ l v:=
 fun h=>h.2 m y (nB c) c d.1 az
def XB {v:Int} (c:vS l (aC v) k) (h:l.length<=k) (d:Nb l (aC v) m) (o:(aC v).length<=m):s_ l v:=
 ⟨fun j x g=>c j x az,fun j y g=>d j y az⟩
def XV {v:Int} (c:l[k]? = some x) (h:x.num<=v):(l.take k).filter (fun f=>decide (f.num<=v))++[x]=(l.take (k+1)).filter (fun f=>decide (f.num<=v)):=by
 rw [aj c,E1]; simp [h]
def ab4 {v:Int} (c:l[k]? = some x) (h:¬ x.num<=v):(l.take k).filter (fun f=>decide (f.num<=v))=(l.take (k+1)).filter (fun f=>decide (f.num<=v)):=by
 rw [aj c,E1]; simp [h]
def Yt {v:Int} (c:l[k]? = some x) (h:¬ x.num<=v):(l.take k).filter (fun f=>!decide (f.num<=v))++[x]=(l.take (k+1)).filter (fun f=>!decide (f.num<=v)):=by
 rw [aj c,E1]; simp [h]
def ae0 {v:Int} (c:l[k]? = some x) (h:x.num<=v):(l.take k).filter (fun f=>!decide (f.num<=v))=(l.take (k+1)).filter (fun f=>!decide (f.num<=v)):=by
 rw [aj c,E1]; simp [h]
def Uf (l:List Field) (p:Field->Bool):(l.filter p).length<=l.length:=L5 _ _
def bL (l:List Field) (v:Int):List Field:=l.filter fun f=>decide (f.num<=v)
def c_ (l:List Field) (v:Int):List Field:=l.filter fun f=>!decide (f.num<=v)
def IX (l:List Field) (v:Int):(bL l v).length<=l.length:=Uf _ _
def sL (l:List Field) (v:Int):(c_ l v).length<=l.length:=Uf _ _
def LN {v:Int} (c:l.length<=k):(l.take k).filter (fun f=>decide (f.num<=v))=bL l v:=by rw [r6 c]; rfl
def Sz {v:Int} (c:l.length<=k):(l.take k).filter (fun f=>!decide (f.num<=v))=c_ l v:=by rw [r6 c]; rfl
def LQ (f:Field):Int:=IntKind.i64.wrap ((f.n.n:Nat):Int)
def fu (c:b5) (f:Field):b5:=
 if f.num=1 then ⟨LQ f,c.a6,c.seq,c.set,c.id,c.n,c.b9,c.text⟩ else
 if f.num=2 then ⟨c.kind,LQ f,c.seq,c.set,c.id,c.n,c.b9,c.text⟩ else
 if f.num=3 then ⟨c.kind,c.a6,LQ f,c.set,c.id,c.n,c.b9,c.text⟩ else
 if f.num=4 then ⟨c.kind,c.a6,c.seq,LQ f,c.id,c.n,c.b9,c.text⟩ else
 if f.num=5 then ⟨c.kind,c.a6,c.seq,c.set,LQ f,c.n,c.b9,c.text⟩ else
 if f.num=6 then ⟨c.kind,c.a6,c.seq,c.set,c.id,LQ f,c.b9,c.text⟩ else
 if f.num=7 then ⟨c.kind,c.a6,c.seq,c.set,c.id,c.n,fN f.b,c.text⟩ else
 if f.num=8 then ⟨c.kind,c.a6,c.seq,c.set,c.id,c.n,c.b9,⟨f.b⟩⟩ else c
def bM:b5:=⟨0,0,0,0,0,0,[],⟨[]⟩⟩
def cj (l:List Field):b5:=l.foldl fu bM
def dS (c:l[k]? = some x):cj (l.take (k+1))=fu (cj (l.take k)) x:=by
 unfold cj; rw [aj c,I5]; rfl
def ani {c:b5} (h:f.num=1):(⟨LQ f,c.a6,c.seq,c.set,c.id,c.n,c.b9,c.text⟩:b5)=fu c f:=by rw [fu,eg h]
def apB {c:b5} (h:f.num=2):(⟨c.kind,LQ f,c.seq,c.set,c.id,c.n,c.b9,c.text⟩:b5)=fu c f:=by rw [fu,dc az,eg h]
def aov {c:b5} (h:f.num=3):(⟨c.kind,c.a6,LQ f,c.set,c.id,c.n,c.b9,c.text⟩:b5)=fu c f:=by rw [fu,dc az,dc az,eg h]
def amY {c:b5} (h:f.num=4):(⟨c.kind,c.a6,c.seq,LQ f,c.id,c.n,c.b9,c.text⟩:b5)=fu c f:=by rw [fu,dc az,dc az,dc az,eg h]
def am3 {c:b5} (h:f.num=5):(⟨c.kind,c.a6,c.seq,c.set,LQ f,c.n,c.b9,c.text⟩:b5)=fu c f:=by rw [fu,dc az,dc az,dc az,dc az,eg h]
def anM {c:b5} (h:f.num=6):(⟨c.kind,c.a6,c.seq,c.set,c.id,LQ f,c.b9,c.text⟩:b5)=fu c f:=by rw [fu,dc az,dc az,dc az,dc az,dc az,eg h]
def aoJ {c:b5} (h:f.num=7):(⟨c.kind,c.a6,c.seq,c.set,c.id,c.n,fN f.b,c.text⟩:b5)=fu c f:=by rw [fu,dc az,dc az,dc az,dc az,dc az,dc az,eg h]
def anV {c:b5} (h:f.num=8):(⟨c.kind,c.a6,c.seq,c.set,c.id,c.n,c.b9,⟨f.b⟩⟩:b5)=fu c f:=by rw [fu,dc az,dc az,dc az,dc az,dc az,dc az,dc az,eg h]
def aoq {c:b5} (h:¬ (1<=f.num/\f.num<=8)):c=fu c f:=by rw [fu,dc az,dc az,dc az,dc az,dc az,dc az,dc az,dc az]
def nO (b:List UInt8) (v:Int):Int:=if (aM b).2=0 then eI (aM b).1 v else (aM b).2
structure TkR where
 c:b5
 r:List Field
 e:Int
def cE (b:List UInt8) (v:Int):TkR:=
 if 1<=v/\v<=3 then (if nO b v=0 then (if dE (cj (bL (aM b).1 (bw v))) (c_ (aM b).1 (bw v)) v=0/\ew (cj (bL (aM b).1 (bw v))) (c_ (aM b).1 (bw v)) v=b then ⟨cj (bL (aM b).1 (bw v)),c_ (aM b).1 (bw v),0⟩ else ⟨bM,[],6⟩) else ⟨bM,[],nO b v⟩) else ⟨bM,[],1⟩
def an5 {v:Int} (h:¬ (1<=v/\v<=3)):cE b v=⟨bM,[],1⟩:=by rw [cE,dc h]
def ak2 {v:Int} (h:1<=v/\v<=3) (c:¬ nO b v=0):cE b v=⟨bM,[],nO b v⟩:=by rw [cE,eg h,dc c]
def ahb {v:Int} (h:1<=v/\v<=3) (d:nO b v=0) (g:¬ dE (cj (bL (aM b).1 (bw v))) (c_ (aM b).1 (bw v)) v=0\/¬ ew (cj (bL (aM b).1 (bw v))) (c_ (aM b).1 (bw v)) v=b):cE b v=⟨bM,[],6⟩:=by
 rw [cE,eg h,eg d,dc (fun h=>g.elim (fun c=>c h.1) (fun c=>c h.2))]
def akr {v:Int} (h:1<=v/\v<=3) (c:nO b v=0) (d:dE (cj (bL (aM b).1 (bw v))) (c_ (aM b).1 (bw v)) v=0/\ew (cj (bL (aM b).1 (bw v))) (c_ (aM b).1 (bw v)) v=b):cE b v=⟨cj (bL (aM b).1 (bw v)),c_ (aM b).1 (bw v),0⟩:=by
 rw [cE,eg h,eg c,eg d]
theorem Hq {v:Int} (h:nO b v=0):(aM b).2=0/\bX (aM b).1=0:=by
 unfold nO at h;split at h
 ·rename_i c;refine ⟨c,?_⟩;unfold eI at h;split at h
  ·cases h
  grind
 rename_i c; exact absurd h c
def S_ {v:Int} (h:nO b v=0):∀ f ∈ bL (aM b).1 u,f.b.length<=16384:=
 fun _ c=>oJ (Hq h).2 (R3.1 c).1
def xk {x:UInt8} (h:x.toNat<128):(x &&& 127).toNat=x.toNat:=by rw [lH]; omega
theorem Lo:∀ (n:Nat) {k m:Nat} {r:List UInt8},k<=9->n*2 ^ (7*k)<18446744073709551616->(0<k->n≠0)->bW k m (bF n++r)=(m+n*2 ^ (7*k),k+(bF n).length,0):=by
 intro n;induction n using Nat.strongRecOn with
 | _ n j=>
  intro k m r s v w;by_cases d:n<128
  ·rw [kE d];have c:(ofNat n).toNat=n:=by rw [H6]; omega
   simp;have o:¬ ((0<k/\(ofNat n).toNat=0)\/(k=9/\1<(ofNat n).toNat)):=by grind
   rw [bW,dc az,dc o,eg az,xk az,c]
  rw [uz d];simp;have c:=aas n;have p:k<=8:=by grind [Nat.mul_le_mul_right]
  have g:(2:Nat) ^ (7*(k+1))=128*2 ^ (7*k):=by rw [show 7*(k+1)=7*k+7 by omega,Nat.pow_add,Q9]
  have y:n / 128*2 ^ (7*(k+1))<=n*2 ^ (7*k):=by
   rw [g,<- Nat.mul_assoc]; exact H4 _ (Nat.div_mul_le_self _ _)
  rw [bW,dc az,dc (by rw [c]; rintro (⟨_,h⟩ | ⟨h,_⟩) <;> omega),dc az,lH,c];rw [j (n / 128) az (k:=k+1) az az (fun _=>by omega)];have e:(n % 128+128) % 128=n % 128:=by omega
  have q:n % 128*2 ^ (7*k)+n / 128*2 ^ (7*(k+1))=n*2 ^ (7*k):=by
   rw [g,<- Nat.mul_assoc,<- I9]; congr 1; omega
  rw [e,Nat.add_assoc,q];congr 2;omega
def mO (h:n<18446744073709551616) (r:List UInt8):ak (bF n++r)=(n,(bF n).length,0):=by
 unfold ak;rw [Lo n az (by simpa using h) (fun h=>absurd h az)];simp
theorem KX {c:b5} {v:Int} (h:dE c rest v=0):((1<=v/\v<=3)/\(eK c v=true\/aP c v=0)/\(∀ f ∈ rest,bw v<f.num))/\bX (bE c v++rest)=0/\ew c rest v=iS (bE c v++rest):=by
 unfold dE at h;split at h
 ·rename_i d;refine ⟨?_,h,by rw [ew,eg d]⟩;unfold dw at d;split at d
  ·cases d
  rename_i j;split at d
  ·rename_i g; exact absurd d g.2
  rename_i g;split at d
  ·cases d
  rename_i o;refine ⟨vU (by simpa using j),?_,fun f p=>?_⟩
  ·grind
  grind
 rename_i d; exact absurd h d
def Zi {q:Int} (k:Nat):dV (l.take k) q<=dV l q:=(List.take_sublist k l).countP_le
