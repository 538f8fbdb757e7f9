/- The law: for every input it returns true, and each argument reads behind the call as it read before; and what leads there. Conditions: each lemma's own. -/
import Derived.ProofKit
import Derived.SizedLaws
import Derived.Test.YtdggohppeeaipaaGreatChecked
import Derived.Test.YtdggohppeeaipaaGreatRows
import Derived.Test.YtdggohppeeaipaaGreatKRM5
set_option linter.unusedVariables false
set_option linter.unusedSimpArgs false
namespace Go.Proofs.YtdggohppeeaipaaGreat
open Go.RowKit
theorem kI {s:State} (M:mayF s s.version=0):ao Opn.set 8 0 s.opens=true/\∀ x ∈ s.opens,aR x=true:=by
 have h:=(du M).2.2.2.1
 simp only [ga,Bool.and_eq_true,List.all_eq_true] at h
 exact h
theorem zp {s:State} {v:Int} (M:mayF s v=0):ao Sess.client 8 0 s.sess=true/\∀ x ∈ s.sess,aQ x=true:=by
 have h:=(du M).2.2.1
 simp only [iO,Bool.and_eq_true,List.all_eq_true] at h
 exact h
structure ActOk (s:State) (r:State × Reply):Prop where
 may:mayF r.1 r.1.version=0
 ver:r.1.version=s.version
 nxt:s.next<=r.1.next/\r.1.next<=s.next+1
 code:0<=r.2.code/\r.2.code<=99
 n:0<=r.2.n/\r.2.n<=1048576
end Go.Proofs.YtdggohppeeaipaaGreat
namespace Go.Proofs.YtdggohppeeaipaaGreat
open Go.RowKit
end Go.Proofs.YtdggohppeeaipaaGreat
namespace Go.Proofs.YtdggohppeeaipaaGreat
open Go.RowKit
section
variable {α:Type} {key:α->Int} {most:Int}
theorem gm:∀ {l:List α} {a:Int},ao key most a l=true->∀ x ∈ l,a<key x
 | [],_,_,_,h=>by cases h
 | y :: l,a,k,x,h=>by
  simp only [ao,Bool.and_eq_true] at k
  have h3:=qP k.1
  rcases List.mem_cons.1 h with rfl | h
  ·omega
  ·have:=gm k.2 x h; omega
theorem qv:∀ {l:List α} {a:Int},ao key most a l=true->∀ x ∈ l,∀ y ∈ l,key x=key y->x=y
 | [],_,_,_,h,_,_,_=>by cases h
 | z :: l,a,k,x,hx,y,hy,e=>by
  simp only [ao,Bool.and_eq_true] at k
  rcases List.mem_cons.1 hx with rfl | hx2
  ·rcases List.mem_cons.1 hy with rfl | hy2
   ·rfl
   ·have:=gm k.2 y hy2; omega
  ·rcases List.mem_cons.1 hy with rfl | hy2
   ·have:=gm k.2 x hx2; omega
   ·exact qv k.2 x hx2 y hy2 e
theorem jX {want:Int} {l:List α} {d:α} (h:0<=ag key want l):key (l.getD (ag key want l).toNat d)=want/\l.getD (ag key want l).toNat d ∈ l:=by
 unfold ag at *
 cases hf:l.findIdx? (fun x=>decide (key x=want)) with
 | none=>rw [hf] at h; dsimp only at h; omega
 | some i=>
  obtain ⟨hi,hp,_⟩:=List.findIdx?_eq_some_iff_getElem.1 hf
  have e:l.getD ((i:Int)).toNat d=l[i]:=by rw [Int.toNat_natCast,List.getD_eq_getElem?_getD,List.getElem?_eq_getElem hi,Option.getD_some]
  dsimp only
  rw [e]
  exact ⟨of_decide_eq_true hp,List.getElem_mem hi⟩
end
structure DoOk (s:State) (c:Command) (r:State × Reply):Prop where
 may:mayF r.1 r.1.version=0
 ver:r.1.version=if c.kind=8/\r.2.code=0 then s.version+1 else s.version
 nxt:s.next<=r.1.next/\r.1.next<=s.next+1
 len:s.sess.length<=r.1.sess.length
 seq:∀ x ∈ s.sess,∃ y ∈ r.1.sess,y.client=x.client/\x.seq<=y.seq/\y.seq<=x.seq+1
end Go.Proofs.YtdggohppeeaipaaGreat
namespace Go.Proofs.YtdggohppeeaipaaGreat
open Go.RowKit
section
variable {s:State} {c:Command}
end
end Go.Proofs.YtdggohppeeaipaaGreat
namespace Go.Proofs.YtdggohppeeaipaaGreat
open Go.RowKit
section
variable {α:Type} {key:α->Int} {most:Int}
theorem uK:∀ {l:List α} {a:Int} {i:Nat} {x:α},ao key most a l=true->l[i]? = some x->∀ y ∈ l.take i,key y<key x
 | [],_,_,_,_,h,_,_=>by simp at h
 | z :: l,a,0,x,_,_,y,hy=>by simp at hy
 | z :: l,a,i+1,x,k,h,y,hy=>by
  simp only [ao,Bool.and_eq_true] at k
  rw [List.getElem?_cons_succ] at h
  rw [List.take_succ_cons] at hy
  rcases List.mem_cons.1 hy with rfl | hy
  ·exact gm k.2 x (List.mem_of_getElem? h)
  ·exact uK k.2 h y hy
end
section
variable {s:State} {x:Snap} {i:Nat}
end
section
variable {s:State} {x:Snap} {i:Nat}
end
section
variable {s:State} {x:Snap} {i:Nat}
end
end Go.Proofs.YtdggohppeeaipaaGreat
namespace Go.Proofs.YtdggohppeeaipaaGreat
open Go.RowKit
def keepsX (s:State) (c:Command) (r:State × Reply) (i:Nat) (x:Snap):Prop:=
 (ag Snap.id x.id r.1.snaps<0/\c.kind=5/\c.id=x.id/\x.held=false/\ep s i=false/\r.2.code=0) \/
 (0<=ag Snap.id x.id r.1.snaps/\∃ y,r.1.snaps.getD (ag Snap.id x.id r.1.snaps).toNat (dflt (.nm .snap))=y/\y.chunks=x.chunks/\y.set=x.set/\(y.held=x.held\/c.kind=9\/c.kind=10)/\(y.tag=x.tag\/c.kind=11))
structure KeepOk (s:State) (c:Command) (r:State × Reply):Prop where
 x:∀ i x,s.snaps[i]? = some x->keepsX s c r i x
 more:r.1.snaps.length<=s.snaps.length\/(r.1.snaps.length=s.snaps.length+1/\c.kind=3/\r.2.code=0/\(r.1.snaps.getD s.snaps.length (dflt (.nm .snap))).id=r.2.n/\(s.quota=0\/(distF r.1.snaps:Int)<=s.quota))
section
variable {s:State} {c:Command} {k:Nat}
end
end Go.Proofs.YtdggohppeeaipaaGreat
namespace Go.Proofs.YtdggohppeeaipaaGreat
open Go.RowKit
section
variable {α:Type} {key:α->Int} {most:Int}
theorem wu:∀ {l l':List α} {a:Int},ao key most a l=true->ao key most a l' = true->(∀ x,x ∈ l↔x ∈ l')->l=l'
 | [],[],_,_,_,_=>rfl
 | [],y :: l',_,_,_,h=>by have:=(h y).2 List.mem_cons_self; cases this
 | x :: l,[],_,_,_,h=>by have:=(h x).1 List.mem_cons_self; cases this
 | x :: l,y :: l',a,k,k',h=>by
  simp only [ao,Bool.and_eq_true] at k k'
  have e:x=y:=by
   rcases List.mem_cons.1 ((h x).1 List.mem_cons_self) with e | hx
   ·exact e
   ·rcases List.mem_cons.1 ((h y).2 List.mem_cons_self) with e | hy
    ·exact e.symm
    ·have:=gm k.2 y hy
     have:=gm k'.2 x hx
     omega
  subst e
  rw [wu k.2 k'.2 fun z=>⟨fun hz=>?_,fun hz=>?_⟩]
  ·rcases List.mem_cons.1 ((h z).1 (List.mem_cons_of_mem _ hz)) with rfl | h2
   ·have:=gm k.2 z hz; omega
   ·exact h2
  ·rcases List.mem_cons.1 ((h z).2 (List.mem_cons_of_mem _ hz)) with rfl | h2
   ·have:=gm k'.2 z hz; omega
   ·exact h2
def yG (key:α->Int) (l:List α) (t:Int):Option α:=l.find? fun y=>decide (key y=t)
theorem pN {l:List α} {t:Int} {x:α} (h:yG key l t=some x):key x=t/\x ∈ l:=⟨of_decide_eq_true (List.find?_some (p:=fun y=>decide (key y=t)) h),List.mem_of_find?_eq_some h⟩
theorem v_ {l:List α} {a:Int} {x:α} (k:ao key most a l=true) (h:x ∈ l):yG key l (key x)=some x:=by
 cases e:yG key l (key x) with
 | none=>
  have:=List.find?_eq_none.1 e x h
  simp at this
 | some y=>
  obtain ⟨h1,h2⟩:=pN e
  rw [qv k y h2 x h h1]
theorem Fg {l l':List α} {a:Int} (k:ao key most a l=true) (k':ao key most a l' = true) (h:∀ t,yG key l t=yG key l' t):l=l':=
 wu k k' fun x=>⟨fun hx=>(pN ((h (key x)).symm.trans (v_ k hx))).2,fun hx=>(pN ((h (key x)).trans (v_ k' hx))).2⟩
theorem Fa {l:List α} {a:Int} {t:Int} (k:ao key most a l=true) (h:0<=ag key t l) (u:Int):yG key (nV l (ag key t l)) u=if u=t then none else yG key l u:=by
 have hl:=bL h
 have hn:(ag key t l).toNat<l.length:=by omega
 have pk:=jX (d:=l[(ag key t l).toNat]) h
 rw [List.getD_eq_getElem?_getD,List.getElem?_eq_getElem hn,Option.getD_some] at pk
 have e:l=l.take (ag key t l).toNat++l[(ag key t l).toNat] :: l.drop ((ag key t l).toNat+1):=by
  rw [List.getElem_cons_drop hn,List.take_append_drop]
 have hd:nV l (ag key t l)=l.take (ag key t l).toNat++l.drop ((ag key t l).toNat+1):=by
  unfold nV; rw [show (ag key t l+1).toNat=(ag key t l).toNat+1 by omega]
 by_cases hu:u=t
 ·subst hu
  rw [if_pos rfl]
  refine List.find?_eq_none.2 fun y hy=>?_
  have hs:=wm (l:=l) h
  intro hc
  have hc:=of_decide_eq_true hc
  have R:=vN (key:=key) (most:=most) (l:=l) (a:=a) ▸ k
  have:=qv k y (hs.subset hy) _ pk.2 (hc.trans pk.1.symm)
  have hk2:ao key most a (l.take (ag key u l).toNat++l[(ag key u l).toNat] :: l.drop ((ag key u l).toNat+1))=true:=by rw [<- e]; exact k
  rw [hd] at hy
  rcases List.mem_append.1 hy with hy | hy
  ·have hx:=uK k (List.getElem?_eq_getElem hn) y hy
   rw [this] at hx; omega
  ·obtain ⟨j,hj,he⟩:=List.mem_iff_getElem.1 hy
   rw [List.getElem_drop] at he
   have hx:=uK (i:=(ag key u l).toNat+1+j) (x:=y) k (by rw [List.length_drop] at hj; rw [List.getElem?_eq_getElem (by omega),he]) l[(ag key u l).toNat] (by rw [List.mem_take_iff_getElem]; exact ⟨(ag key u l).toNat,by rw [List.length_drop] at hj; omega,rfl⟩)
   rw [this] at hx; omega
 ·rw [if_neg hu,hd]
  unfold yG
  conv=>rhs; rw [e,List.find?_append,List.find?_cons]
  rw [decide_eq_false (fun h=>hu (h.symm.trans pk.1)),List.find?_append]
end
section
variable {s:State} {c:Command}
end
end Go.Proofs.YtdggohppeeaipaaGreat
namespace Go.Proofs.YtdggohppeeaipaaGreat
open Go.RowKit
end Go.Proofs.YtdggohppeeaipaaGreat
namespace Go.Proofs.YtdggohppeeaipaaGreat
open Go.RowKit
def dK {α:Type} (key:α->Int) (x:α):List α->List α
 | []=>[x]
 | y :: l=>if key x<key y then x :: y :: l else y :: dK key x l
def fZ {α:Type} (key:α->Int) (l:List α) (x:α):Bool:=l.any fun y=>decide (key x<key y)
def dJ {α:Type} (key:α->Int) (l:List α) (x:α):List α:=if fZ key l x then dK key x l else l
def lD (id:Int) (l:List Opn):List Opn:=l.filter fun x=>!decide (x.set=id)
section
variable {α:Type} {key:α->Int} {x y d:α}
theorem zQ:∀ {l:List α},fZ key l x=true->dK key x (l++[y])=dK key x l++[y]
 | [],h=>by cases h
 | z :: l,h=>by
  by_cases g:key x<key z
  ·simp only [List.cons_append,dK,if_pos g]
  ·have h2:fZ key l x=true:=by
    unfold fZ at h ⊢; rw [List.any_cons,decide_eq_false g,Bool.false_or] at h; exact h
   simp only [List.cons_append,dK,if_neg g,zQ h2]
theorem ur:∀ {l:List α},fZ key l x=false->dK key x l=l++[x]/\dK key x (l++[y])=l++dK key x [y]
 | [],_=>⟨rfl,rfl⟩
 | z :: l,h=>by
  unfold fZ at h; rw [List.any_cons,Bool.or_eq_false_iff] at h
  have g:=of_decide_eq_false h.1
  obtain ⟨a,b⟩:=ur (l:=l) h.2
  exact ⟨by simp only [List.cons_append,dK,if_neg g,a],by simp only [List.cons_append,dK,if_neg g] at b ⊢; rw [b]⟩
theorem rN:∀ {l:List α},(dK key x l).length=l.length+1
 | []=>rfl
 | z :: l=>by
  by_cases g:key x<key z
  ·simp only [dK,if_pos g,List.length_cons]
  ·simp only [dK,if_neg g,List.length_cons,rN (l:=l)]
variable {l:List α} {k:Nat}
theorem FP (hx:l[k]? = some y) (g:fZ key (l.take k) x=true):true=fZ key (l.take (k+1)) x:=by
 unfold fZ at *; rw [az hx,List.any_append,g]; rfl
theorem Fv (hx:l[k]? = some y) (g:fZ key (l.take k) x=false) (g2:key (l.getD k d)<=key x):false=fZ key (l.take (k+1)) x:=by
 have e:l.getD k d=y:=by rw [List.getD_eq_getElem?_getD,hx]; rfl
 rw [e] at g2
 unfold fZ at *; rw [az hx,List.any_append,g]; simp only [List.any_cons,List.any_nil,Bool.or_false,Bool.false_or]; exact (decide_eq_false (by omega)).symm
theorem mF (hx:l[k]? = some y) (g2:key x<key (l.getD k d)):true=fZ key (l.take (k+1)) x:=by
 have e:l.getD k d=y:=by rw [List.getD_eq_getElem?_getD,hx]; rfl
 rw [e] at g2
 unfold fZ at *; rw [az hx,List.any_append]; simp only [List.any_cons,List.any_nil,Bool.or_false,decide_eq_true g2,Bool.or_true]
theorem HV (hx:l[k]? = some y) (g:fZ key (l.take k) x=true):dJ key (l.take k) x++[y]=dJ key (l.take (k+1)) x:=by
 have e:=FP (key:=key) hx g
 unfold dJ
 rw [<- e,g,if_pos rfl,if_pos rfl,az hx,zQ g]
theorem Gs (hx:l[k]? = some y) (g:fZ key (l.take k) x=false) (g2:key (l.getD k d)<=key x):dJ key (l.take k) x++[y]=dJ key (l.take (k+1)) x:=by
 have e:=Fv (key:=key) hx g g2
 unfold dJ
 rw [<- e,g,if_neg (by decide),if_neg (by decide),az hx]
theorem kF (hx:l[k]? = some y) (g:fZ key (l.take k) x=false) (g2:key x<key (l.getD k d)):dJ key (l.take k) x++[x]++[y]=dJ key (l.take (k+1)) x:=by
 have e:=mF (key:=key) hx g2
 have e2:l.getD k d=y:=by rw [List.getD_eq_getElem?_getD,hx]; rfl
 rw [e2] at g2
 unfold dJ
 rw [<- e,g,if_neg (by decide),if_pos rfl,az hx,(ur g).2]
 simp only [dK,if_pos g2,List.append_assoc,List.cons_append,List.nil_append]
theorem oJ (hx:l[k]? = some y) (o:fZ key (l.take k) x=true\/key (l.getD k d)<=key x):fZ key (l.take k) x=fZ key (l.take (k+1)) x:=by
 cases g:fZ key (l.take k) x with
 | true=>exact FP hx g
 | false=>exact Fv hx g (o.resolve_left (by rw [g]; decide))
theorem jO (hx:l[k]? = some y) (o:fZ key (l.take k) x=true\/key (l.getD k d)<=key x):dJ key (l.take k) x++[y]=dJ key (l.take (k+1)) x:=by
 cases g:fZ key (l.take k) x with
 | true=>exact HV hx g
 | false=>exact Gs hx g (o.resolve_left (by rw [g]; decide))
theorem kJ (h:(l.length:Int)<=k) (g:fZ key (l.take k) x=true):dJ key (l.take k) x=dK key x l:=by
 rw [List.take_of_length_le (by omega)] at g ⊢
 unfold dJ; rw [if_pos g]
theorem kx (h:(l.length:Int)<=k) (g:fZ key (l.take k) x=false):dJ key (l.take k) x++[x]=dK key x l:=by
 rw [List.take_of_length_le (by omega)] at g ⊢
 unfold dJ; rw [if_neg (by rw [g]; decide),(ur (y:=x) g).1]
theorem fD (h:k<=l.length):(dJ key (l.take k) x).length<=l.length+1:=by
 unfold dJ; split
 ·rw [rN,List.length_take]; omega
 ·rw [List.length_take]; omega
theorem ek (h:k<=l.length) (g:fZ key (l.take k) x=false):(dJ key (l.take k) x).length<=l.length:=by
 unfold dJ; rw [if_neg (by rw [g]; decide),List.length_take]; omega
theorem mZ {most:Int}:∀ {l:List α} {a:Int},ao key most a l=true->(∀ y ∈ l,¬ key y=key x)->dK key x l=lF l (l.takeWhile fun y=>decide (key y<key x)).length x
 | [],_,_,_=>rfl
 | y :: l,a,k,hn=>by
  simp only [ao,Bool.and_eq_true] at k
  have h4:=hn y (List.mem_cons_self)
  by_cases h:key y<key x
  ·have e:lF (y :: l) ((y :: l).takeWhile fun y=>decide (key y<key x)).length x=y :: lF l (l.takeWhile fun y=>decide (key y<key x)).length x:=by
    rw [List.takeWhile_cons,decide_eq_true h,if_pos rfl]; rfl
   rw [e,dK,if_neg (by omega),mZ k.2 fun z hz=>hn z (List.mem_cons_of_mem _ hz)]
  ·have e:lF (y :: l) ((y :: l).takeWhile fun y=>decide (key y<key x)).length x=x :: y :: l:=by
    rw [List.takeWhile_cons,decide_eq_false h]; rfl
   rw [e,dK,if_pos (by omega)]
end
theorem Bc {id:Int} {l:List Opn} {k:Nat} {x y:Opn} (h:¬ x.set=id) (hx:l[k]? = some x) (hy:l[k]? = some y):lD id (l.take k)++[y]=lD id (l.take (k+1)):=by
 rw [hx] at hy; cases hy
 unfold lD; rw [az hx,List.filter_append]; simp [h]
theorem AS {id:Int} {l:List Opn} {k:Nat} {x:Opn} (hx:l[k]? = some x) (h:x.set=id):lD id (l.take k)=lD id (l.take (k+1)):=by
 unfold lD; rw [az hx,List.filter_append]; simp [h]
theorem uM {id:Int} {l:List Opn} {k:Nat} (h:(l.length:Int)<=k):lD id (l.take k)=lD id l:=by rw [List.take_of_length_le (by omega)]
theorem ub {id:Int} {l:List Opn} {k:Nat} {x:Opn} (h:(k:Int)<l.length) (hl:l.length*16<=140737488355328):((lD id (l.take k)).length+[x].length)*16<=140737488355328:=by
 have h1:=List.length_filter_le (fun x:Opn=>!decide (x.set=id)) (l.take k)
 rw [List.length_take] at h1
 unfold lD
 simp only [List.length_cons,List.length_nil]
 omega
def nZ (l:List Opn) (id:Int):List (Nat × LI):=[(3,{ σ:=Nat,F:=fun k=>([(0,one (.fz (.nm .opn) (l))),(1,one (.int (id))),(5,one (.own 0)),(6,one (.int k))],[.row 77 (.nm .opn) ((lD id (l.take k)))]),J:=fun k=>k<=l.length,μ:=fun k=>l.length - k })]
def nz (l:List Snap) (id:Int):List (Nat × LI):=[(3,{ σ:=Nat,F:=fun k=>([(0,one (.fz (.nm .snap) (l))),(1,one (.int (id))),(5,one (.own 0)),(6,one (.int k))],[.row 59 (.nm .snap) ((aF id (l.take k)))]),J:=fun k=>k<=l.length,μ:=fun k=>l.length - k })]
def BV (l:List Opn) (x:Opn):List (Nat × LI):=[(4,{ σ:=Nat,F:=fun k=>([(0,one (.fz (.nm .opn) (l))),(3,one (.ptr 0 0)),(5,one (.own 1)),(6,one (.bool (.atom (fZ Opn.set (l.take k) x)))),(7,one (.int k))],[.box 77 (cellsOf (.nm .opn) ((x))),.row 77 (.nm .opn) ((dJ Opn.set (l.take k) x))]),J:=fun k=>k<=l.length,μ:=fun k=>l.length - k })]
def zi (l:List Sess) (x:Sess):List (Nat × LI):=[(4,{ σ:=Nat,F:=fun k=>([(0,one (.fz (.nm .sess) (l))),(3,one (.ptr 0 0)),(5,one (.own 1)),(6,one (.bool (.atom (fZ Sess.client (l.take k) x)))),(7,one (.int k))],[.box 44 (cellsOf (.nm .sess) ((x))),.row 44 (.nm .sess) ((dJ Sess.client (l.take k) x))]),J:=fun k=>k<=l.length,μ:=fun k=>l.length - k })]
theorem Iq (st:State) (c:Command) (r0:Int):cG aE iY [] Tryz.f38 [.agg (cellsOf (.nm .state) st),.agg (cellsOf (.nm .command) c)] [] [.c (.int (r0))]=((fun (q0:Int)=>I64 q0->I64 st.next->I64 st.keep->I64 st.quota->st.sess.length*(32:Nat)<=(140737488355328:Nat)->st.opens.length*(16:Nat)<=(140737488355328:Nat)->st.snaps.length*(64:Nat)<=(140737488355328:Nat)->I64 c.kind->I64 c.client->I64 c.seq->I64 c.set->I64 c.id->I64 c.n->c.chunks.length*(8:Nat)<=(140737488355328:Nat)->c.text.b.length<=(140737488355328:Nat)->I64 (mayF st q0)->(¬mayF st q0=(0:Int)->(1:Int)=r0)/\(mayF st q0=(0:Int)->I64 (bd c q0)->bd c q0=r0)) st.version):=by kernel_rfl
theorem HX (st:State) (c:Command):Sat Tryz.prog (aq aE) 38 [.agg (cellsOf (.nm .state) st),.agg (cellsOf (.nm .command) c)] [] ⟨[],[.c (.int ((if mayF st st.version=0 then bd c st.version else 1)))],none,false⟩:=by
 refine aO ec [] Tryz.func38 (by decide) (by kernel_rfl) ?_
 rw [Iq]
 grind
theorem IJ (st:State) (e:Int) (r0:Int) (r1:Int) (r2:Int) (r3:Int) (r4:Reply) (r5:List Sess) (r6:List Opn) (r7:List Snap):lA aE iY [] Tryz.f39 [.agg (cellsOf (.nm .state) st),.c (.int (e))] [] [.agg ([.int (r0),.int (r1),.int (r2),.int (r3),.own 0,.own 1,.own 2]),.agg (cellsOf (.nm .reply) r4)] [.row 44 (.nm .sess) (r5),.row 77 (.nm .opn) (r6),.row 59 (.nm .snap) (r7)]=(I64 st.version->I64 st.next->I64 st.keep->I64 st.quota->st.sess.length*(32:Nat)<=(140737488355328:Nat)->st.opens.length*(16:Nat)<=(140737488355328:Nat)->st.snaps.length*(64:Nat)<=(140737488355328:Nat)->I64 e->I64 st.version->I64 st.next->I64 st.keep->I64 st.quota->st.version=r0/\st.next=r1/\st.keep=r2/\st.quota=r3/\e=r4.code/\(0:Int)=r4.n/\st.sess=r5/\st.opens=r6/\st.snaps=r7):=by kernel_rfl
theorem Jy (st:State) (e:Int):Sat Tryz.prog (aq aE) 39 [.agg (cellsOf (.nm .state) st),.c (.int (e))] [] ⟨[],[.agg ([.int ((st.version)),.int ((st.next)),.int ((st.keep)),.int ((st.quota)),.own 0,.own 1,.own 2]),.agg (cellsOf (.nm .reply) (⟨e,0⟩))],some ([.row 44 (.nm .sess) ((st.sess)),.row 77 (.nm .opn) ((st.opens)),.row 59 (.nm .snap) ((st.snaps))]),true⟩:=by
 refine cO ec [] Tryz.func39 (by decide) (by kernel_rfl) ?_
 rw [IJ]
 (repeat' (first | with_reducible refine And.intro ?_ ?_ | with_reducible refine and_imp.2 ?_ | intro))
 all_goals (first | (first | with_reducible rfl | with_reducible assumption | omega | (refine ai ?_ ?_ <;> omega)) | exact rfl)
theorem uo (l:List Opn) (id:Int) (r0:List Opn):lA aE iY (nZ l id) Tryz.f62 [.c (.fz (.nm .opn) (l)),.c (.int (id))] [] [.c (.own 0)] [.row 77 (.nm .opn) (r0)]=((fun (q1:Int)=>(fun (q0:Nat)=>l.length*(16:Nat)<=(140737488355328:Nat)->I64 id->∃ (s0:Nat),(l=l/\id=id/\(0:Int)=(↑s0:Int)/\lD id (List.take s0 l)=[])/\s0<=q0/\∀ (s:Nat),(fun (q3:List Opn)=>(fun (q2:Int)=>s<=q0->((↑s:Int)<q1->(0:Int)<=(↑s:Int)/\(↑s:Int)<q1/\∀ (x:Opn),l[s]? = some x->I64 x.set->I64 x.client->(¬x.set=id->(0:Int)<=(↑s:Int)/\(↑s:Int)<q1/\∀ (x:Opn),l[s]? = some x->I64 x.set->I64 x.client->(q3.length+[x].length)*(16:Nat)<=(140737488355328:Nat)/\I64 q2/\∃ (s':Nat),(l=l/\id=id/\q2=(↑s':Int)/\q3++[x]=lD id (List.take s' l))/\s' <= q0/\q0 - s' < q0 - s)/\(x.set=id->I64 q2/\∃ (s':Nat),(l=l/\id=id/\q2=(↑s':Int)/\q3=lD id (List.take s' l))/\s' <= q0/\q0 - s' < q0 - s))/\(q1<=(↑s:Int)->q3=r0)) ((↑s:Int)+(1:Int))) (lD id (List.take s l))) l.length) (↑l.length:Int)):=by kernel_rfl
theorem uT (l:List Opn) (id:Int):Sat Tryz.prog (aq aE) 62 [.c (.fz (.nm .opn) (l)),.c (.int (id))] [] ⟨[],[.c (.own 0)],some ([.row 77 (.nm .opn) ((lD id l))]),true⟩:=by
 refine cO ec (nZ l id) Tryz.func62 (by decide) (by kernel_rfl) ?_
 rw [uo]
 (repeat' (first | with_reducible refine And.intro ?_ ?_ | with_reducible refine and_imp.2 ?_ | intro))
 all_goals try (first | (first | with_reducible rfl | with_reducible assumption | omega | (refine ai ?_ ?_ <;> omega)) | exact rfl | exact (Bc (by with_reducible assumption) (by with_reducible assumption) (by with_reducible assumption)) | exact (AS (by with_reducible assumption) (by with_reducible assumption)) | exact (uM (by omega)) | exact (ub (by omega) (by omega)))
 all_goals try (refine ⟨0,?_⟩; (repeat' (first | with_reducible refine And.intro ?_ ?_ | with_reducible refine and_imp.2 ?_ | intro)))
 all_goals try (first | (first | with_reducible rfl | with_reducible assumption | omega | (refine ai ?_ ?_ <;> omega)) | exact rfl | exact (Bc (by with_reducible assumption) (by with_reducible assumption) (by with_reducible assumption)) | exact (AS (by with_reducible assumption) (by with_reducible assumption)) | exact (uM (by omega)) | exact (ub (by omega) (by omega)))
 all_goals try (refine ⟨‹Nat› + 1,?_⟩; (repeat' (first | with_reducible refine And.intro ?_ ?_ | with_reducible refine and_imp.2 ?_ | intro)))
 all_goals (first | (first | with_reducible rfl | with_reducible assumption | omega | (refine ai ?_ ?_ <;> omega)) | exact rfl | exact (Bc (by with_reducible assumption) (by with_reducible assumption) (by with_reducible assumption)) | exact (AS (by with_reducible assumption) (by with_reducible assumption)) | exact (uM (by omega)) | exact (ub (by omega) (by omega)))
theorem ru (l:List Snap) (id:Int) (r0:List Snap):lA aE iY (nz l id) Tryz.f105 [.c (.fz (.nm .snap) (l)),.c (.int (id))] [] [.c (.own 0)] [.row 59 (.nm .snap) (r0)]=((fun (q2:Int)=>(fun (q1:Nat)=>(fun (q0:Nat)=>l.length*(64:Nat)<=q1->I64 id->∃ (s0:Nat),(l=l/\id=id/\(0:Int)=(↑s0:Int)/\aF id (List.take s0 l)=[])/\s0<=q0/\∀ (s:Nat),(fun (q4:List Snap)=>(fun (q3:Int)=>s<=q0->((↑s:Int)<q2->(0:Int)<=(↑s:Int)/\(↑s:Int)<q2/\∀ (x:Snap),l[s]? = some x->I64 x.id->I64 x.set->x.chunks.length*(8:Nat)<=q1->x.tag.b.length<=q1->(¬x.id=id->(0:Int)<=(↑s:Int)/\(↑s:Int)<q2/\∀ (x:Snap),l[s]? = some x->I64 x.id->I64 x.set->x.chunks.length*(8:Nat)<=q1->x.tag.b.length<=q1->(q4.length+[x].length)*(64:Nat)<=q1/\I64 q3/\∃ (s':Nat),(l=l/\id=id/\q3=(↑s':Int)/\q4++[x]=aF id (List.take s' l))/\s' <= q0/\q0 - s' < q0 - s)/\(x.id=id->I64 q3/\∃ (s':Nat),(l=l/\id=id/\q3=(↑s':Int)/\q4=aF id (List.take s' l))/\s' <= q0/\q0 - s' < q0 - s))/\(q2<=(↑s:Int)->q4=r0)) ((↑s:Int)+(1:Int))) (aF id (List.take s l))) l.length) (140737488355328:Nat)) (↑l.length:Int)):=by kernel_rfl
theorem sZ (l:List Snap) (id:Int):Sat Tryz.prog (aq aE) 105 [.c (.fz (.nm .snap) (l)),.c (.int (id))] [] ⟨[],[.c (.own 0)],some ([.row 59 (.nm .snap) ((aF id l))]),true⟩:=by
 refine cO ec (nz l id) Tryz.func105 (by decide) (by kernel_rfl) ?_
 rw [ru]
 (repeat' (first | with_reducible refine And.intro ?_ ?_ | with_reducible refine and_imp.2 ?_ | intro))
 all_goals try (first | (first | with_reducible rfl | with_reducible assumption | omega | (refine ai ?_ ?_ <;> omega)) | exact rfl | exact (iW (by with_reducible assumption) (by with_reducible assumption) (by with_reducible assumption)) | exact (ju (by with_reducible assumption) (by with_reducible assumption)) | exact (fO (by omega)) | exact (fP (by omega) (by omega)))
 all_goals try (refine ⟨0,?_⟩; (repeat' (first | with_reducible refine And.intro ?_ ?_ | with_reducible refine and_imp.2 ?_ | intro)))
 all_goals try (first | (first | with_reducible rfl | with_reducible assumption | omega | (refine ai ?_ ?_ <;> omega)) | exact rfl | exact (iW (by with_reducible assumption) (by with_reducible assumption) (by with_reducible assumption)) | exact (ju (by with_reducible assumption) (by with_reducible assumption)) | exact (fO (by omega)) | exact (fP (by omega) (by omega)))
 all_goals try (refine ⟨‹Nat› + 1,?_⟩; (repeat' (first | with_reducible refine And.intro ?_ ?_ | with_reducible refine and_imp.2 ?_ | intro)))
 all_goals (first | (first | with_reducible rfl | with_reducible assumption | omega | (refine ai ?_ ?_ <;> omega)) | exact rfl | exact (iW (by with_reducible assumption) (by with_reducible assumption) (by with_reducible assumption)) | exact (ju (by with_reducible assumption) (by with_reducible assumption)) | exact (fO (by omega)) | exact (fP (by omega) (by omega)))
theorem CO (l:List Opn) (x:Opn) (r0:List Opn):lA aE iY (BV l x) Tryz.f60 [.c (.fz (.nm .opn) (l)),.agg (cellsOf (.nm .opn) x)] [] [.c (.own 0)] [.row 77 (.nm .opn) (r0)]=((fun (q2:Prop)=>(fun (q1:Nat)=>(fun (q0:Int)=>l.length*(16:Nat)<=(140737488355328:Nat)->I64 x.set->I64 x.client->∃ (s0:Nat),(l=l/\false=fZ Opn.set (List.take s0 l) x/\(0:Int)=(↑s0:Int)/\x.set=x.set/\q2/\dJ Opn.set (List.take s0 l) x=[])/\s0<=q1/\∀ (s:Nat),(fun (q8:Prop)=>(fun (q7:Prop)=>(fun (q6:den (Sh.nm NT.opn))=>(fun (q5:Int)=>(fun (q4:Bool)=>(fun (q3:List (den (Sh.nm NT.opn)))=>s<=q1->(q8->(q4=false->q7/\q8)/\((q4=false->I64 q6.set/\I64 q6.client)->(q4=false/\x.set<q6.set->(q3.length+[x].length)*(16:Nat)<=(140737488355328:Nat)/\q7/\q8/\∀ (x_1:Opn),l[s]? = some x_1->I64 x_1.set->I64 x_1.client->((q3++[x]).length+[x_1].length)*(16:Nat)<=(140737488355328:Nat)/\I64 q5/\∃ (s':Nat),(l=l/\true=fZ Opn.set (List.take s' l) x/\q5=(↑s':Int)/\x.set=x.set/\q2/\q3++[x]++[x_1]=dJ Opn.set (List.take s' l) x)/\s' <= q1/\q1 - s' < q1 - s)/\(q4=true\/q6.set<=x.set->q7/\q8/\∀ (x_1:Opn),l[s]? = some x_1->I64 x_1.set->I64 x_1.client->(q3.length+[x_1].length)*(16:Nat)<=(140737488355328:Nat)/\I64 q5/\∃ (s':Nat),(l=l/\q4=fZ Opn.set (List.take s' l) x/\q5=(↑s':Int)/\x.set=x.set/\q2/\q3++[x_1]=dJ Opn.set (List.take s' l) x)/\s' <= q1/\q1 - s' < q1 - s)))/\(q0<=(↑s:Int)->(q4=false->(q3.length+[x].length)*(16:Nat)<=(140737488355328:Nat)/\q3++[x]=r0)/\(q4=true->q3=r0))) (dJ Opn.set (List.take s l) x)) (fZ Opn.set (List.take s l) x)) ((↑s:Int)+(1:Int))) (l.getD s (dflt (Sh.nm NT.opn)))) ((0:Int)<=(↑s:Int))) ((↑s:Int)<q0)) (↑l.length:Int)) l.length) (x.client=x.client)):=by kernel_rfl
theorem EG (l:List Opn) (x:Opn) (h0:l.length<1048576):Sat Tryz.prog (aq aE) 60 [.c (.fz (.nm .opn) (l)),.agg (cellsOf (.nm .opn) x)] [] ⟨[l.length<1048576],[.c (.own 0)],some ([.row 77 (.nm .opn) ((dK Opn.set x l))]),true⟩:=by
 refine cO ec (BV l x) Tryz.func60 (by decide) (by kernel_rfl) ?_
 rw [CO]
 (repeat' (first | with_reducible refine And.intro ?_ ?_ | with_reducible refine and_imp.2 ?_ | intro))
 all_goals try (first | (first | with_reducible rfl | with_reducible assumption | omega | (refine ai ?_ ?_ <;> omega)) | exact rfl | exact (oJ (key:=Opn.set) (by with_reducible assumption) (by assumption)) | exact (mF (key:=Opn.set) (by with_reducible assumption) (by with_reducible assumption)) | exact (kF (by with_reducible assumption) (by with_reducible assumption) (by with_reducible assumption)) | exact (jO (by with_reducible assumption) (by assumption)) | exact (kJ (by omega) (by with_reducible assumption)) | exact (kx (by omega) (by with_reducible assumption)) | (have:=fD (key:=Opn.set) (x:=x) (l:=l) (k:=‹Nat›) (by assumption); have:=ek (key:=Opn.set) (x:=x) (l:=l) (k:=‹Nat›) (by assumption); simp only [List.length_append,List.length_cons,List.length_nil]; omega))
 all_goals try (refine ⟨0,?_⟩; (repeat' (first | with_reducible refine And.intro ?_ ?_ | with_reducible refine and_imp.2 ?_ | intro)))
 all_goals try (first | (first | with_reducible rfl | with_reducible assumption | omega | (refine ai ?_ ?_ <;> omega)) | exact rfl | exact (oJ (key:=Opn.set) (by with_reducible assumption) (by assumption)) | exact (mF (key:=Opn.set) (by with_reducible assumption) (by with_reducible assumption)) | exact (kF (by with_reducible assumption) (by with_reducible assumption) (by with_reducible assumption)) | exact (jO (by with_reducible assumption) (by assumption)) | exact (kJ (by omega) (by with_reducible assumption)) | exact (kx (by omega) (by with_reducible assumption)) | (have:=fD (key:=Opn.set) (x:=x) (l:=l) (k:=‹Nat›) (by assumption); have:=ek (key:=Opn.set) (x:=x) (l:=l) (k:=‹Nat›) (by assumption); simp only [List.length_append,List.length_cons,List.length_nil]; omega))
 all_goals try (refine ⟨‹Nat› + 1,?_⟩; (repeat' (first | with_reducible refine And.intro ?_ ?_ | with_reducible refine and_imp.2 ?_ | intro)))
 all_goals (first | (first | with_reducible rfl | with_reducible assumption | omega | (refine ai ?_ ?_ <;> omega)) | exact rfl | exact (oJ (key:=Opn.set) (by with_reducible assumption) (by assumption)) | exact (mF (key:=Opn.set) (by with_reducible assumption) (by with_reducible assumption)) | exact (kF (by with_reducible assumption) (by with_reducible assumption) (by with_reducible assumption)) | exact (jO (by with_reducible assumption) (by assumption)) | exact (kJ (by omega) (by with_reducible assumption)) | exact (kx (by omega) (by with_reducible assumption)) | (have:=fD (key:=Opn.set) (x:=x) (l:=l) (k:=‹Nat›) (by assumption); have:=ek (key:=Opn.set) (x:=x) (l:=l) (k:=‹Nat›) (by assumption); simp only [List.length_append,List.length_cons,List.length_nil]; omega))
theorem Dy (l:List Sess) (x:Sess) (r0:List Sess):lA aE iY (zi l x) Tryz.f40 [.c (.fz (.nm .sess) (l)),.agg (cellsOf (.nm .sess) x)] [] [.c (.own 0)] [.row 44 (.nm .sess) (r0)]=((fun (q5:Int)=>(fun (q4:Nat)=>(fun (q3:den (Sh.nm NT.sess))=>(fun (q2:Int)=>(fun (q1:Int)=>(fun (q0:Int)=>l.length*(32:Nat)<=(140737488355328:Nat)->I64 q1->I64 x.seq->I64 q0->I64 q5->∃ (s0:Nat),(l=l/\false=fZ Sess.client (List.take s0 l) x/\(0:Int)=(↑s0:Int)/\q1=q1/\x.seq=x.seq/\q0=q0/\q5=q5/\dJ Sess.client (List.take s0 l) x=[])/\s0<=q4/\∀ (s:Nat),(fun (q11:Prop)=>(fun (q10:Prop)=>(fun (q9:den (Sh.nm NT.sess))=>(fun (q8:Int)=>(fun (q7:Bool)=>(fun (q6:List (den (Sh.nm NT.sess)))=>s<=q4->(q11->(q7=false->q10/\q11)/\((q7=false->I64 q9.client/\I64 q9.seq/\I64 q9.last.code/\I64 q9.last.n)->(q7=false/\q1<q9.client->(q6.length+[x].length)*(32:Nat)<=(140737488355328:Nat)/\q10/\q11/\∀ (x_1:Sess),l[s]? = some x_1->I64 x_1.client->I64 x_1.seq->I64 x_1.last.code->I64 x_1.last.n->((q6++[x]).length+[x_1].length)*(32:Nat)<=(140737488355328:Nat)/\I64 q8/\∃ (s':Nat),(l=l/\true=fZ Sess.client (List.take s' l) x/\q8=(↑s':Int)/\q1=q1/\x.seq=x.seq/\q0=q0/\q5=q5/\q6++[x]++[x_1]=dJ Sess.client (List.take s' l) x)/\s' <= q4/\q4 - s' < q4 - s)/\(q7=true\/q9.client<=q1->q10/\q11/\∀ (x_1:Sess),l[s]? = some x_1->I64 x_1.client->I64 x_1.seq->I64 x_1.last.code->I64 x_1.last.n->(q6.length+[x_1].length)*(32:Nat)<=(140737488355328:Nat)/\I64 q8/\∃ (s':Nat),(l=l/\q7=fZ Sess.client (List.take s' l) x/\q8=(↑s':Int)/\q1=q1/\x.seq=x.seq/\q0=q0/\q5=q5/\q6++[x_1]=dJ Sess.client (List.take s' l) x)/\s' <= q4/\q4 - s' < q4 - s)))/\(q2<=(↑s:Int)->(q7=false->(q6.length+[x].length)*(32:Nat)<=(140737488355328:Nat)/\q6++[x]=r0)/\(q7=true->q6=r0))) (dJ Sess.client (List.take s l) x)) (fZ Sess.client (List.take s l) x)) ((↑s:Int)+(1:Int))) (l.getD s q3)) ((0:Int)<=(↑s:Int))) ((↑s:Int)<q2)) x.last.code) x.client) (↑l.length:Int)) (dflt (Sh.nm NT.sess))) l.length) x.last.n):=by kernel_rfl
theorem Da (l:List Sess) (x:Sess) (h0:l.length<1048576):Sat Tryz.prog (aq aE) 40 [.c (.fz (.nm .sess) (l)),.agg (cellsOf (.nm .sess) x)] [] ⟨[l.length<1048576],[.c (.own 0)],some ([.row 44 (.nm .sess) ((dK Sess.client x l))]),true⟩:=by
 refine cO ec (zi l x) Tryz.func40 (by decide) (by kernel_rfl) ?_
 rw [Dy]
 (repeat' (first | with_reducible refine And.intro ?_ ?_ | with_reducible refine and_imp.2 ?_ | intro))
 all_goals try (first | (first | with_reducible rfl | with_reducible assumption | omega | (refine ai ?_ ?_ <;> omega)) | exact rfl | exact (oJ (key:=Sess.client) (by with_reducible assumption) (by assumption)) | exact (mF (key:=Sess.client) (by with_reducible assumption) (by with_reducible assumption)) | exact (kF (by with_reducible assumption) (by with_reducible assumption) (by with_reducible assumption)) | exact (jO (by with_reducible assumption) (by assumption)) | exact (kJ (by omega) (by with_reducible assumption)) | exact (kx (by omega) (by with_reducible assumption)) | (have:=fD (key:=Sess.client) (x:=x) (l:=l) (k:=‹Nat›) (by assumption); have:=ek (key:=Sess.client) (x:=x) (l:=l) (k:=‹Nat›) (by assumption); simp only [List.length_append,List.length_cons,List.length_nil]; omega))
 all_goals try (refine ⟨0,?_⟩; (repeat' (first | with_reducible refine And.intro ?_ ?_ | with_reducible refine and_imp.2 ?_ | intro)))
 all_goals try (first | (first | with_reducible rfl | with_reducible assumption | omega | (refine ai ?_ ?_ <;> omega)) | exact rfl | exact (oJ (key:=Sess.client) (by with_reducible assumption) (by assumption)) | exact (mF (key:=Sess.client) (by with_reducible assumption) (by with_reducible assumption)) | exact (kF (by with_reducible assumption) (by with_reducible assumption) (by with_reducible assumption)) | exact (jO (by with_reducible assumption) (by assumption)) | exact (kJ (by omega) (by with_reducible assumption)) | exact (kx (by omega) (by with_reducible assumption)) | (have:=fD (key:=Sess.client) (x:=x) (l:=l) (k:=‹Nat›) (by assumption); have:=ek (key:=Sess.client) (x:=x) (l:=l) (k:=‹Nat›) (by assumption); simp only [List.length_append,List.length_cons,List.length_nil]; omega))
 all_goals try (refine ⟨‹Nat› + 1,?_⟩; (repeat' (first | with_reducible refine And.intro ?_ ?_ | with_reducible refine and_imp.2 ?_ | intro)))
 all_goals (first | (first | with_reducible rfl | with_reducible assumption | omega | (refine ai ?_ ?_ <;> omega)) | exact rfl | exact (oJ (key:=Sess.client) (by with_reducible assumption) (by assumption)) | exact (mF (key:=Sess.client) (by with_reducible assumption) (by with_reducible assumption)) | exact (kF (by with_reducible assumption) (by with_reducible assumption) (by with_reducible assumption)) | exact (jO (by with_reducible assumption) (by assumption)) | exact (kJ (by omega) (by with_reducible assumption)) | exact (kx (by omega) (by with_reducible assumption)) | (have:=fD (key:=Sess.client) (x:=x) (l:=l) (k:=‹Nat›) (by assumption); have:=ek (key:=Sess.client) (x:=x) (l:=l) (k:=‹Nat›) (by assumption); simp only [List.length_append,List.length_cons,List.length_nil]; omega))
theorem CV (l:List Snap) (m:List Int) (r0:Int):cG aE iY [] Tryz.f101 [.c (.fz (.nm .snap) (l)),.c (.fz .int (m))] [] [.c (.int (r0))]=((fun (q1:Prop)=>(fun (q0:List (den (Sh.nm NT.snap)))=>q1->m.length*(8:Nat)<=(140737488355328:Nat)->q1/\(l.length+q0.length)*(64:Nat)<=(140737488355328:Nat)/\nch (l++q0)<=(1048576:Nat)/\(I64 (↑(distF (l++q0)):Int)->(↑(distF (l++q0)):Int)=r0)) [Snap.mk (0:Int) (0:Int) m false (Str.mk [])]) (l.length*(64:Nat)<=(140737488355328:Nat))):=by kernel_rfl
theorem DY (l:List Snap) (m:List Int) (h0:l.length<1048576) (h1:nch (l++[⟨0,0,m,false,⟨[]⟩⟩])<=1048576):Sat Tryz.prog (aq aE) 101 [.c (.fz (.nm .snap) (l)),.c (.fz .int (m))] [] ⟨[l.length<1048576,nch (l++[⟨0,0,m,false,⟨[]⟩⟩])<=1048576],[.c (.int (((distF (l++[⟨0,0,m,false,⟨[]⟩⟩]):Int))))],none,false⟩:=by
 refine aO ec [] Tryz.func101 (by decide) (by kernel_rfl) ?_
 rw [CV]
 (repeat' (first | with_reducible refine And.intro ?_ ?_ | with_reducible refine and_imp.2 ?_ | intro))
 all_goals (first | (first | with_reducible rfl | with_reducible assumption | omega | (refine ai ?_ ?_ <;> omega)) | (simp only [List.length_cons,List.length_nil]; omega))
def vx:cK:=(bE 101 (bz (aj (kC (cL (.nm .snap))) (aj (kC (cL .int)) aL)) aM fun (l,m,_) (_)=>⟨[l.length<1048576,nch (l++[⟨0,0,m,false,⟨[]⟩⟩])<=1048576],[.c (.int (((distF (l++[⟨0,0,m,false,⟨[]⟩⟩]):Int))))],none,false⟩) (bE 40 (bz (aj (kC (cL (.nm .sess))) (aj (kT (.nm .sess)) aL)) aM fun (l,x,_) (_)=>⟨[l.length<1048576],[.c (.own 0)],some ([.row 44 (.nm .sess) ((dK Sess.client x l))]),true⟩) (bE 60 (bz (aj (kC (cL (.nm .opn))) (aj (kT (.nm .opn)) aL)) aM fun (l,x,_) (_)=>⟨[l.length<1048576],[.c (.own 0)],some ([.row 77 (.nm .opn) ((dK Opn.set x l))]),true⟩) (bE 105 (bz (aj (kC (cL (.nm .snap))) (aj (kC cI) aL)) aM fun (l,id,_) (_)=>⟨[],[.c (.own 0)],some ([.row 59 (.nm .snap) ((aF id l))]),true⟩) (bE 62 (bz (aj (kC (cL (.nm .opn))) (aj (kC cI) aL)) aM fun (l,id,_) (_)=>⟨[],[.c (.own 0)],some ([.row 77 (.nm .opn) ((lD id l))]),true⟩) (bE 39 (bz (aj (kT (.nm .state)) (aj (kC cI) aL)) aM fun (st,e,_) (_)=>⟨[],[.agg ([.int ((st.version)),.int ((st.next)),.int ((st.keep)),.int ((st.quota)),.own 0,.own 1,.own 2]),.agg (cellsOf (.nm .reply) (⟨e,0⟩))],some ([.row 44 (.nm .sess) ((st.sess)),.row 77 (.nm .opn) ((st.opens)),.row 59 (.nm .snap) ((st.snaps))]),true⟩) (bE 38 (bz (aj (kT (.nm .state)) (aj (kT (.nm .command)) aL)) aM fun (st,c,_) (_)=>⟨[],[.c (.int ((if mayF st st.version=0 then bd c st.version else 1)))],none,false⟩) iY)))))))
theorem mJ:aV Tryz.prog (aq aE) vx:=(ax (aw (ab (av bn) (ab (av bn) ak)) al fun (l,m,_) (_) hp=>DY l m (dR hp) (dR (iJ hp))) (ax (aw (ab (av bn) (ab bf ak)) al fun (l,x,_) (_) hp=>Da l x (dR hp)) (ax (aw (ab (av bn) (ab bf ak)) al fun (l,x,_) (_) hp=>EG l x (dR hp)) (ax (aw (ab (av bn) (ab (av ay) ak)) al fun (l,id,_) (_) _=>sZ l id ) (ax (aw (ab (av bn) (ab (av ay) ak)) al fun (l,id,_) (_) _=>uT l id ) (ax (aw (ab bf (ab (av ay) ak)) al fun (st,e,_) (_) _=>Jy st e ) (ax (aw (ab bf (ab bf ak)) al fun (st,c,_) (_) _=>HX st c ) ec)))))))
end Go.Proofs.YtdggohppeeaipaaGreat
namespace Go.Proofs.YtdggohppeeaipaaGreat
open Go.RowKit
theorem GQ {op:List Opn} {t u:Int}:yG Opn.set (lD t op) u=if u=t then none else yG Opn.set op u:=by
 unfold yG lD
 rw [List.find?_filter]
 by_cases h:u=t
 ·subst h
  rw [if_pos rfl]
  refine List.find?_eq_none.2 fun x _=>?_
  by_cases e:x.set=u <;> simp [e]
 ·rw [if_neg h]
  congr 1
  funext x
  by_cases e:x.set=u
  ·have:¬ x.set=t:=fun h2=>h (e.symm.trans h2)
   simp [e,h]
  ·simp [e]
theorem BI {op:List Opn} {m a t:Int} (k:ao Opn.set m a op=true) (h:0<=ag Opn.set t op):lD t op=nV op (ag Opn.set t op):=
 Fg (wS List.filter_sublist k) (wS (wm h) k) fun u=>by rw [GQ,Fa k h]
def bk (s:State) (c:Command):State × Reply:=
 if 16<=(s.snaps.length:Int)\/1048576<=s.next then (s,⟨20,0⟩)
 else if ¬ s.quota=0/\s.quota<(distF (s.snaps++[⟨0,0,c.chunks,false,⟨[]⟩⟩]):Int) then (s,⟨19,0⟩)
 else ({ s with next:=s.next+1,opens:=lD c.set s.opens,snaps:=s.snaps++[⟨s.next,c.set,c.chunks,false,⟨[]⟩⟩] },⟨0,s.next⟩)
def bX (s:State) (c:Command) (i:Nat):State × Reply:=
 if c.kind=5 then aN s i else if c.kind=7 then bl s i else if c.kind=11 then cM c s i else bq (decide (c.kind=9)) s i
section
variable {st:State} {c:Command}
theorem JJ (h:16<=(st.snaps.length:Int)\/1048576<=st.next):bk st c=(st,⟨20,0⟩):=if_pos h
theorem Jz (a:(st.snaps.length:Int)<16) (b:st.next<1048576) (h:¬ st.quota=0) (h2:st.quota<(distF (st.snaps++[⟨0,0,c.chunks,false,⟨[]⟩⟩]):Int)):bk st c=(st,⟨19,0⟩):=by
 unfold bk; rw [if_neg (by omega),if_pos ⟨h,h2⟩]
theorem Kj (a:(st.snaps.length:Int)<16) (b:st.next<1048576) (h:st.quota=0\/(distF (st.snaps++[⟨0,0,c.chunks,false,⟨[]⟩⟩]):Int)<=st.quota):bk st c=({ st with next:=st.next+1,opens:=lD c.set st.opens,snaps:=st.snaps++[⟨st.next,c.set,c.chunks,false,⟨[]⟩⟩] },⟨0,st.next⟩):=by
 unfold bk; rw [if_neg (by omega),if_neg (fun h2=>h.elim h2.1 fun h=>by omega)]
variable {i:Int} {x:Snap}
theorem Le (k:c.kind=5) (hx:st.snaps[i.toNat]? = some x) (h:x.held=true):bX st c i.toNat=(st,⟨17,0⟩):=by
 unfold bX aN; rw [if_pos k,yB hx,if_pos h]
theorem Lx (k:c.kind=5) (i0:0<=i) (hx:st.snaps[i.toNat]? = some x) (h:x.held=false) (h2:ep st i=true):bX st c i.toNat=(st,⟨18,0⟩):=by
 unfold bX aN; rw [if_pos k,yB hx,if_neg (by rw [h]; decide),Int.toNat_of_nonneg i0,if_pos h2]
theorem Ly (k:c.kind=5) (i0:0<=i) (hx:st.snaps[i.toNat]? = some x) (h:x.held=false) (h2:ep st i=false) (e:c.id=(st.snaps.getD i.toNat (dflt (.nm .snap))).id):bX st c i.toNat=(State.mk st.version st.next st.keep st.quota st.sess st.opens (aF c.id st.snaps),⟨0,(dS st.snaps c.id).length⟩):=by
 unfold bX aN; rw [if_pos k,<- e,yB hx,if_neg (by rw [h]; decide),Int.toNat_of_nonneg i0,if_neg (by rw [h2]; decide)]
theorem Md (n:¬ c.kind=5) (k:c.kind=7) (hx:st.snaps[i.toNat]? = some x):bX st c i.toNat=(st,⟨0,x.chunks.length⟩):=by
 unfold bX bl; rw [if_neg n,if_pos k,yB hx]
theorem LM (n:¬ c.kind=5) (m:¬ c.kind=7) (k:c.kind=11):bX st c i.toNat=cM c st i.toNat:=by
 unfold bX; rw [if_neg n,if_neg m,if_pos k]
theorem Lr (n:¬ c.kind=5) (m:¬ c.kind=7) (o:¬ c.kind=11) (hx:st.snaps[i.toNat]? = some x) (h:(x.held == decide (c.kind=9))=false):bX st c i.toNat=(State.mk st.version st.next st.keep st.quota st.sess st.opens (st.snaps.set i.toNat (Snap.mk (st.snaps.getD i.toNat (dflt (.nm .snap))).id (st.snaps.getD i.toNat (dflt (.nm .snap))).set (st.snaps.getD i.toNat (dflt (.nm .snap))).chunks (decide (c.kind=9)) (st.snaps.getD i.toNat (dflt (.nm .snap))).tag)),⟨0,1⟩):=by
 unfold bX bq; rw [if_neg n,if_neg m,if_neg o,if_neg (by rw [yB hx]; simpa using h)]
theorem KL (n:¬ c.kind=5) (m:¬ c.kind=7) (o:¬ c.kind=11) (hx:st.snaps[i.toNat]? = some x) (h:(x.held == decide (c.kind=9))=true):bX st c i.toNat=(st,⟨0,0⟩):=by
 unfold bX bq; rw [if_neg n,if_neg m,if_neg o,if_pos (by rw [yB hx]; simpa using h)]
theorem Mc (hx:st.snaps[i.toNat]? = some x) (h:(x.held == decide (c.kind=9))=true):st.snaps.set i.toNat (Snap.mk (st.snaps.getD i.toNat (dflt (.nm .snap))).id (st.snaps.getD i.toNat (dflt (.nm .snap))).set (st.snaps.getD i.toNat (dflt (.nm .snap))).chunks (decide (c.kind=9)) (st.snaps.getD i.toNat (dflt (.nm .snap))).tag)=st.snaps:=by
 rw [yB hx,<- (by simpa using h:x.held=decide (c.kind=9))]
 obtain ⟨hi,e⟩:=List.getElem?_eq_some_iff.1 hx
 subst e
 exact List.set_getElem_self hi
end
theorem yb (st:State) (c:Command) (r0:Int) (r1:Int) (r2:Int) (r3:Int) (r4:Reply) (r5:List Sess) (r6:List Opn) (r7:List Snap):lA aE vx [] Tryz.f61 [.agg (cellsOf (.nm .state) st),.agg (cellsOf (.nm .command) c)] [] [.agg ([.int (r0),.int (r1),.int (r2),.int (r3),.own 0,.own 1,.own 2]),.agg (cellsOf (.nm .reply) r4)] [.row 44 (.nm .sess) (r5),.row 77 (.nm .opn) (r6),.row 59 (.nm .snap) (r7)]=((fun (q8:Int)=>(fun (q7:Nat)=>(fun (q6:Int)=>(fun (q5:Nat)=>(fun (q4:Int)=>(fun (q3:Int)=>(fun (q2:Int)=>(fun (q1:Prop)=>(fun (q0:List Snap)=>I64 q6->I64 q3->I64 q8->I64 q2->st.sess.length*(32:Nat)<=q7->st.opens.length*(16:Nat)<=q7->q5*(64:Nat)<=q7->I64 c.kind->I64 c.client->I64 c.seq->I64 c.set->I64 c.id->I64 c.n->c.chunks.length*(8:Nat)<=q7->c.text.b.length<=q7->((16:Int)<=(↑q5:Int)\/(1048576:Int)<=q3->I64 q6->I64 q3->I64 q8->I64 q2->I64 (20:Int)->I64 q4->q6=r0/\q3=r1/\q8=r2/\q2=r3/\(20:Int)=r4.code/\q1)/\((↑q5:Int)<(16:Int)/\q3<(1048576:Int)->(¬q2=q4->q5<(1048576:Nat)/\nch q0<=(1048576:Nat))/\((¬q2=q4->I64 (↑(distF q0):Int))->(¬q2=q4/\q2<(↑(distF q0):Int)->I64 q6->I64 q3->I64 q8->I64 q2->I64 (19:Int)->I64 q4->q6=r0/\q3=r1/\q8=r2/\q2=r3/\(19:Int)=r4.code/\q1)/\(q2=q4\/(↑(distF q0):Int)<=q2->I64 q6->I64 q3->I64 q8->I64 q2->c.chunks.length*(8:Nat)<=q7/\(q5+[Snap.mk q3 c.set c.chunks false (Str.mk [])].length)*(64:Nat)<=q7/\I64 (q3+(1:Int))/\q6=r0/\q3+(1:Int)=r1/\q8=r2/\q2=r3/\q4=r4.code/\q3=r4.n/\st.sess=r5/\lD c.set st.opens=r6/\st.snaps++[Snap.mk q3 c.set c.chunks false (Str.mk [])]=r7)))) (st.snaps++[Snap.mk q4 q4 c.chunks false (Str.mk [])])) (q4=r4.n/\st.sess=r5/\st.opens=r6/\st.snaps=r7)) st.quota) st.next) (0:Int)) st.snaps.length) st.version) (140737488355328:Nat)) st.keep):=by kernel_rfl
theorem yh (st:State) (c:Command) (h0:st.snaps.length<1048576) (h1:nch (st.snaps++[⟨0,0,c.chunks,false,⟨[]⟩⟩])<=1048576) (h2:0<=st.next):Sat Tryz.prog (aq aE) 61 [.agg (cellsOf (.nm .state) st),.agg (cellsOf (.nm .command) c)] [] ⟨[st.snaps.length<1048576,nch (st.snaps++[⟨0,0,c.chunks,false,⟨[]⟩⟩])<=1048576,0<=st.next],[.agg ([.int (((bk st c).1.version)),.int (((bk st c).1.next)),.int (((bk st c).1.keep)),.int (((bk st c).1.quota)),.own 0,.own 1,.own 2]),.agg (cellsOf (.nm .reply) ((bk st c).2))],some ([.row 44 (.nm .sess) (((bk st c).1.sess)),.row 77 (.nm .opn) (((bk st c).1.opens)),.row 59 (.nm .snap) (((bk st c).1.snaps))]),true⟩:=by
 refine cO mJ [] Tryz.func61 (by decide) (by kernel_rfl) ?_
 rw [yb]
 (repeat' (first | with_reducible refine And.intro ?_ ?_ | with_reducible refine and_imp.2 ?_ | intro))
 all_goals (first | (first | with_reducible rfl | with_reducible assumption | omega | (refine ai ?_ ?_ <;> omega)) | (rw [JJ (by assumption)]; done) | (rw [Jz (by assumption) (by assumption) (by assumption) (by assumption)]; done) | (rw [Kj (by assumption) (by assumption) (by assumption)]; done) | (simp only [List.length_cons,List.length_nil]; omega))
theorem GG (st:State) (c:Command) (i:Int) (r0:Int) (r1:Int) (r2:Int) (r3:Int) (r4:Reply) (r5:List Sess) (r6:List Opn) (r7:List Snap):lA aE vx [] Tryz.f65 [.agg (cellsOf (.nm .state) st),.agg (cellsOf (.nm .command) c),.c (.int (i))] [] [.agg ([.int (r0),.int (r1),.int (r2),.int (r3),.own 0,.own 1,.own 2]),.agg (cellsOf (.nm .reply) r4)] [.row 44 (.nm .sess) (r5),.row 77 (.nm .opn) (r6),.row 59 (.nm .snap) (r7)]=((fun (q16:Int)=>(fun (q15:Nat)=>(fun (q14:Prop)=>(fun (q13:Prop)=>(fun (q12:Prop)=>(fun (q11:Prop)=>(fun (q10:Prop)=>(fun (q9:Prop)=>(fun (q8:Prop)=>(fun (q7:Bool)=>(fun (q6:Prop)=>(fun (q5:List Snap)=>(fun (q4:Nat)=>(fun (q3:Int)=>(fun (q2:Int)=>(fun (q1:Prop)=>(fun (q0:den (Sh.nm NT.snap))=>I64 q3->q14->q13->q10->st.sess.length*(32:Nat)<=q4->st.opens.length*(16:Nat)<=q4->q5.length*(64:Nat)<=q4->I64 c.kind->I64 c.client->I64 c.seq->I64 c.set->I64 c.id->I64 c.n->c.chunks.length*q15<=q4->c.text.b.length<=q4->I64 i->q2<=i/\i<(↑q5.length:Int)/\∀ (x:Snap),(fun (q21:Prop)=>(fun (q20:Prop)=>(fun (q19:Prop)=>(fun (q18:Prop)=>(fun (q17:Prop)=>q5[i.toNat]? = some x->I64 x.id->I64 x.set->x.chunks.length*q15<=q4->x.tag.b.length<=q4->(c.kind=(5:Int)->(x.held=true->I64 q3->q14->q13->q10->I64 (17:Int)->I64 q2->q19/\q9/\q8/\q6/\(17:Int)=q16/\q2=r4.n/\q1)/\(x.held=false->(ep st i=true->I64 q3->q14->q13->q10->I64 (18:Int)->I64 q2->q19/\q9/\q8/\q6/\(18:Int)=q16/\q2=r4.n/\q1)/\(ep st i=false->nch q5<=(1048576:Nat)/\((dS q5 c.id).length*q15<=q4->I64 q3->q14->q13->q10->q19/\q9/\q8/\q6/\q2=q16/\(↑(dS q5 c.id).length:Int)=r4.n/\q12/\q11/\aF c.id q5=r7))))/\(¬c.kind=(5:Int)->(c.kind=(7:Int)->I64 q3->q14->q13->q10->q19/\q9/\q8/\q6/\q2=q16/\(↑x.chunks.length:Int)=r4.n/\q1)/\(¬c.kind=(7:Int)->I64 q3->q14->q13->q10->(c.kind=(11:Int)->q2<=i/\q21/\(I64 q0.id->I64 q0.set->q18->q20->q19/\q9/\q8/\q6/\q2=q16/\q2=r4.n/\q12/\q11/\q5.set i.toNat (Snap.mk q0.id q0.set q0.chunks q0.held c.text)=r7))/\(¬c.kind=(11:Int)->((x.held == q7)=false->q2<=i/\q21/\(I64 q0.id->I64 q0.set->q18->q20->q19/\q9/\q8/\q6/\q2=q16/\(1:Int)=r4.n/\q17))/\((x.held == q7)=true->q2<=i/\q21/\(I64 q0.id->I64 q0.set->q18->q20->q19/\q9/\q8/\q6/\q2=q16/\q2=r4.n/\q17)))))) (q12/\q11/\q5.set i.toNat (Snap.mk q0.id q0.set q0.chunks q7 q0.tag)=r7)) (q0.chunks.length*q15<=q4)) (q3=r0)) (q0.tag.b.length<=q4)) (i<(↑q5.length:Int))) (q5.getD i.toNat (dflt (Sh.nm NT.snap)))) (q12/\q11/\q5=r7)) (0:Int)) st.version) (140737488355328:Nat)) st.snaps) (st.quota=r3)) (decide (c.kind=(9:Int)))) (st.keep=r2)) (st.next=r1)) (I64 st.quota)) (st.opens=r6)) (st.sess=r5)) (I64 st.keep)) (I64 st.next)) (8:Nat)) r4.code):=by kernel_rfl
theorem Iv (st:State) (c:Command) (i:Int) (h0:0<=i/\i<(st.snaps.length:Int)) (h1:nch st.snaps<=1048576) (h2:c.id=(st.snaps.getD i.toNat (dflt (.nm .snap))).id) (h3:c.kind=5\/c.kind=7\/c.kind=11\/c.kind=9\/c.kind=10):Sat Tryz.prog (aq aE) 65 [.agg (cellsOf (.nm .state) st),.agg (cellsOf (.nm .command) c),.c (.int (i))] [] ⟨[0<=i/\i<(st.snaps.length:Int),nch st.snaps<=1048576,c.id=(st.snaps.getD i.toNat (dflt (.nm .snap))).id,c.kind=5\/c.kind=7\/c.kind=11\/c.kind=9\/c.kind=10],[.agg ([.int (((bX st c i.toNat).1.version)),.int (((bX st c i.toNat).1.next)),.int (((bX st c i.toNat).1.keep)),.int (((bX st c i.toNat).1.quota)),.own 0,.own 1,.own 2]),.agg (cellsOf (.nm .reply) ((bX st c i.toNat).2))],some ([.row 44 (.nm .sess) (((bX st c i.toNat).1.sess)),.row 77 (.nm .opn) (((bX st c i.toNat).1.opens)),.row 59 (.nm .snap) (((bX st c i.toNat).1.snaps))]),true⟩:=by
 refine cO mJ [] Tryz.func65 (by decide) (by kernel_rfl) ?_
 rw [GG]
 (repeat' (first | with_reducible refine And.intro ?_ ?_ | with_reducible refine and_imp.2 ?_ | intro))
 all_goals (first | (first | with_reducible rfl | with_reducible assumption | omega | (refine ai ?_ ?_ <;> omega)) | (rw [Le (by with_reducible assumption) (by with_reducible assumption) (by with_reducible assumption)]; first | done | rfl) | (rw [Lx (by with_reducible assumption) (by omega) (by with_reducible assumption) (by with_reducible assumption) (by with_reducible assumption)]; first | done | rfl) | (rw [Ly (by with_reducible assumption) (by omega) (by with_reducible assumption) (by with_reducible assumption) (by with_reducible assumption) (by with_reducible assumption)]; first | done | rfl) | (rw [Md (by with_reducible assumption) (by with_reducible assumption) (by with_reducible assumption)]; first | done | rfl) | (rw [LM (by with_reducible assumption) (by with_reducible assumption) (by with_reducible assumption)]; first | done | rfl) | (rw [Lr (by with_reducible assumption) (by with_reducible assumption) (by with_reducible assumption) (by with_reducible assumption) (by with_reducible assumption)]; first | done | rfl) | (rw [KL (by with_reducible assumption) (by with_reducible assumption) (by with_reducible assumption) (by with_reducible assumption) (by with_reducible assumption)]; first | done | rfl | exact Mc (by with_reducible assumption) (by with_reducible assumption)))
def As:cK:=(bE 65 (bz (aj (kT (.nm .state)) (aj (kT (.nm .command)) (aj (kC cI) aL))) aM fun (st,c,i,_) (_)=>⟨[0<=i/\i<(st.snaps.length:Int),nch st.snaps<=1048576,c.id=(st.snaps.getD i.toNat (dflt (.nm .snap))).id,c.kind=5\/c.kind=7\/c.kind=11\/c.kind=9\/c.kind=10],[.agg ([.int (((bX st c i.toNat).1.version)),.int (((bX st c i.toNat).1.next)),.int (((bX st c i.toNat).1.keep)),.int (((bX st c i.toNat).1.quota)),.own 0,.own 1,.own 2]),.agg (cellsOf (.nm .reply) ((bX st c i.toNat).2))],some ([.row 44 (.nm .sess) (((bX st c i.toNat).1.sess)),.row 77 (.nm .opn) (((bX st c i.toNat).1.opens)),.row 59 (.nm .snap) (((bX st c i.toNat).1.snaps))]),true⟩) (bE 61 (bz (aj (kT (.nm .state)) (aj (kT (.nm .command)) aL)) aM fun (st,c,_) (_)=>⟨[st.snaps.length<1048576,nch (st.snaps++[⟨0,0,c.chunks,false,⟨[]⟩⟩])<=1048576,0<=st.next],[.agg ([.int (((bk st c).1.version)),.int (((bk st c).1.next)),.int (((bk st c).1.keep)),.int (((bk st c).1.quota)),.own 0,.own 1,.own 2]),.agg (cellsOf (.nm .reply) ((bk st c).2))],some ([.row 44 (.nm .sess) (((bk st c).1.sess)),.row 77 (.nm .opn) (((bk st c).1.opens)),.row 59 (.nm .snap) (((bk st c).1.snaps))]),true⟩) vx))
theorem qY:aV Tryz.prog (aq aE) As:=(ax (aw (ab bf (ab bf (ab (av ay) ak))) al fun (st,c,i,_) (_) hp=>Iv st c i (dR hp) (dR (iJ hp)) (dR (iJ (iJ hp))) (dR (iJ (iJ (iJ hp))))) (ax (aw (ab bf (ab bf ak)) al fun (st,c,_) (_) hp=>yh st c (dR hp) (dR (iJ hp)) (dR (iJ (iJ hp)))) mJ))
end Go.Proofs.YtdggohppeeaipaaGreat
namespace Go.Proofs.YtdggohppeeaipaaGreat
open Go.RowKit
section
variable {st:State} {c:Command}
theorem tJ {v:Int} (h:bd c v=0):1<=c.kind/\c.kind<=12:=by
 have n:=(wC h).2.1
 by_cases k:1<=c.kind/\c.kind<=12
 ·exact k
 ·refine absurd ?_ n
  have e:∀ i:Int,1<=i->i<=12->¬ c.kind=i:=fun i h1 h2=>by omega
  simp only [bR,kS]
  simp [e 1,e 2,e 3,e 4,e 5,e 6,e 7,e 8,e 9,e 10,e 11,e 12]
theorem nU (h:(if mayF st st.version=0 then bd c st.version else 1)=0):mayF st st.version=0/\bd c st.version=0:=An h
theorem KF (h:(if mayF st st.version=0 then bd c st.version else 1)=0) (k:c.kind=1\/c.kind=8):bb st c=(st,⟨1,0⟩):=by
 rw [pF h]
 rcases k with k | k <;> simp [lC,k]
theorem JN (h:(if mayF st st.version=0 then bd c st.version else 1)=0) (k:c.kind=2):bb st c=aZ st c:=by
 rw [pF h]; simp [lC,k]
theorem JW (h:(if mayF st st.version=0 then bd c st.version else 1)=0) (k:c.kind=2) (p:0<=ag Opn.set c.set st.opens):bb st c=(st,⟨16,(st.opens.getD (ag Opn.set c.set st.opens).toNat (dflt (.nm .opn))).client⟩):=by
 rw [JN h k]; exact if_pos p
theorem JD (h:(if mayF st st.version=0 then bd c st.version else 1)=0) (k:c.kind=2) (p:ag Opn.set c.set st.opens<0):bb st c=(State.mk st.version st.next st.keep st.quota st.sess (dK Opn.set (Opn.mk c.set c.client) st.opens) st.snaps,⟨0,0⟩):=by
 rw [JN h k,mZ (x:=Opn.mk c.set c.client) (kI (nU h).1).1 fun y hy=>ma (key:=Opn.set) (want:=c.set) p y hy]
 exact if_neg (by omega)
theorem Jo (o:ag Opn.set c.set st.opens<0\/¬ (st.opens.getD (ag Opn.set c.set st.opens).toNat (dflt (.nm .opn))).client=c.client):bA st c<0:=by
 unfold bA
 split
 ·decide
 ·rename_i h
  rcases o with o | o
  ·exact o
  ·exact Int.not_le.1 fun p=>h ⟨p,o⟩
theorem JZ (p:0<=ag Opn.set c.set st.opens) (o:(st.opens.getD (ag Opn.set c.set st.opens).toNat (dflt (.nm .opn))).client=c.client):bA st c=ag Opn.set c.set st.opens:=by
 unfold bA; exact if_neg fun h=>h.2 o
theorem Kb (h:(if mayF st st.version=0 then bd c st.version else 1)=0) (k:c.kind=3):bb st c=aS st c:=by
 rw [pF h]; simp [lC,k]
theorem Kn (h:(if mayF st st.version=0 then bd c st.version else 1)=0) (k:c.kind=4):bb st c=bc st c:=by
 rw [pF h]; simp [lC,k]
theorem Lo (h:(if mayF st st.version=0 then bd c st.version else 1)=0) (k:c.kind=3\/c.kind=4) (o:ag Opn.set c.set st.opens<0\/¬ (st.opens.getD (ag Opn.set c.set st.opens).toNat (dflt (.nm .opn))).client=c.client):bb st c=(st,⟨15,0⟩):=by
 rcases k with k | k
 ·rw [Kb h k]; exact if_pos (Jo o)
 ·rw [Kn h k]; exact if_pos (Jo o)
theorem Js (h:(if mayF st st.version=0 then bd c st.version else 1)=0) (k:c.kind=3) (p:0<=ag Opn.set c.set st.opens) (o:(st.opens.getD (ag Opn.set c.set st.opens).toNat (dflt (.nm .opn))).client=c.client):bb st c=bk st c:=by
 rw [Kb h k]
 unfold aS bk
 rw [JZ p o,if_neg (by omega),BI (kI (nU h).1).1 p]
theorem JY (h:(if mayF st st.version=0 then bd c st.version else 1)=0) (k:c.kind=4) (p:0<=ag Opn.set c.set st.opens) (o:(st.opens.getD (ag Opn.set c.set st.opens).toNat (dflt (.nm .opn))).client=c.client):bb st c=(State.mk st.version st.next st.keep st.quota st.sess (lD c.set st.opens) st.snaps,⟨0,0⟩):=by
 rw [Kn h k]
 unfold bc
 rw [JZ p o,if_neg (by omega),BI (kI (nU h).1).1 p]
theorem LA (h:(if mayF st st.version=0 then bd c st.version else 1)=0) (k:c.kind=6):bb st c=(State.mk st.version st.next c.n st.quota st.sess st.opens st.snaps,⟨0,0⟩):=by
 rw [pF h]; simp [lC,k,dk]
theorem Lp (h:(if mayF st st.version=0 then bd c st.version else 1)=0) (k:c.kind=12):bb st c=(State.mk st.version st.next st.keep c.n st.sess st.opens st.snaps,⟨0,distF st.snaps⟩):=by
 rw [pF h]; simp [lC,k,cD]
theorem rV (h:(if mayF st st.version=0 then bd c st.version else 1)=0) (k:¬ c.kind=1/\¬ c.kind=8/\¬ c.kind=2/\¬ c.kind=3/\¬ c.kind=4/\¬ c.kind=6/\¬ c.kind=12):c.kind=5\/c.kind=7\/c.kind=11\/c.kind=9\/c.kind=10:=by
 have:=tJ (nU h).2
 omega
theorem Kl (h:(if mayF st st.version=0 then bd c st.version else 1)=0) (k:¬ c.kind=1/\¬ c.kind=8/\¬ c.kind=2/\¬ c.kind=3/\¬ c.kind=4/\¬ c.kind=6/\¬ c.kind=12):bb st c=aA (fun s i=>bX s c i) c st:=by
 rw [pF h]
 rcases rV h k with k | k | k | k | k <;> simp [lC,k,bX]
theorem JE (h:(if mayF st st.version=0 then bd c st.version else 1)=0) (k:¬ c.kind=1/\¬ c.kind=8/\¬ c.kind=2/\¬ c.kind=3/\¬ c.kind=4/\¬ c.kind=6/\¬ c.kind=12) (p:ag Snap.id c.id st.snaps<0):bb st c=(st,⟨15,0⟩):=by
 rw [Kl h k]; exact if_pos p
theorem Jn (h:(if mayF st st.version=0 then bd c st.version else 1)=0) (k:¬ c.kind=1/\¬ c.kind=8/\¬ c.kind=2/\¬ c.kind=3/\¬ c.kind=4/\¬ c.kind=6/\¬ c.kind=12) (p:0<=ag Snap.id c.id st.snaps):bb st c=bX st c (ag Snap.id c.id st.snaps).toNat:=by
 rw [Kl h k]; exact if_neg (by omega)
theorem Jt (p:0<=ag Snap.id c.id st.snaps):c.id=(st.snaps.getD (ag Snap.id c.id st.snaps).toNat (dflt (.nm .snap))).id:=(jX p).1.symm
theorem GF (h:(if mayF st st.version=0 then bd c st.version else 1)=0) (k:c.kind=3):nch (st.snaps++[⟨0,0,c.chunks,false,⟨[]⟩⟩])<=1048576:=by
 have h1:=vA (nU h).1
 have h2:=ue (wC (nU h).2).2.2.2 k
 have h3:ct c.chunks=true:=by
  cases hr:ct c.chunks with
  | true=>rfl
  | false=>have:=eI (l:=c.chunks) hr; omega
 have h4:=(pq h3).2
 have e:nch (st.snaps++[⟨0,0,c.chunks,false,⟨[]⟩⟩])=nch st.snaps+c.chunks.length:=by simp [nch]
 omega
end
theorem Ed (st:State) (c:Command) (r0:Int) (r1:Int) (r2:Int) (r3:Int) (r4:Reply) (r5:List Sess) (r6:List Opn) (r7:List Snap):lA aE As [] Tryz.f15 [.agg (cellsOf (.nm .state) st),.agg (cellsOf (.nm .command) c)] [] [.agg ([.int (r0),.int (r1),.int (r2),.int (r3),.own 0,.own 1,.own 2]),.agg (cellsOf (.nm .reply) r4)] [.row 44 (.nm .sess) (r5),.row 77 (.nm .opn) (r6),.row 59 (.nm .snap) (r7)]=((fun (q22:Int)=>(fun (q21:Reply)=>(fun (q20:Prop)=>(fun (q19:Prop)=>(fun (q18:den (Sh.nm NT.opn))=>(fun (q17:Prop)=>(fun (q16:Int)=>(fun (q15:List Snap)=>(fun (q14:List Opn)=>(fun (q13:Prop)=>(fun (q12:Prop)=>(fun (q11:Prop)=>(fun (q10:Int)=>(fun (q9:Int)=>(fun (q8:Int)=>(fun (q7:State)=>(fun (q6:Int)=>(fun (q5:Int)=>(fun (q4:Prop)=>(fun (q3:Int)=>(fun (q2:State × Reply)=>(fun (q1:Prop)=>(fun (q0:Prop)=>I64 q9->q20->q19->q17->st.sess.length*(32:Nat)<=(140737488355328:Nat)->q14.length*(16:Nat)<=(140737488355328:Nat)->q15.length*(64:Nat)<=(140737488355328:Nat)->I64 q10->I64 c.client->I64 c.seq->I64 c.set->I64 c.id->I64 c.n->c.chunks.length*(8:Nat)<=(140737488355328:Nat)->c.text.b.length<=(140737488355328:Nat)->I64 q5->(¬q5=q6->I64 q9->q20->q19->q17->I64 q5->I64 q6->q9=r0/\q11/\q13/\q12/\q5=q16/\q6=r4.n/\q4)/\(q5=q6->(q10=(1:Int)\/q10=(8:Int)->I64 q9->q20->q19->q17->I64 (1:Int)->I64 q6->q9=r0/\q11/\q13/\q12/\(1:Int)=q16/\q6=r4.n/\q4)/\(¬q10=(1:Int)/\¬q10=(8:Int)->I64 q9->q20->q19->q17->I64 q3->(q10=(2:Int)->(q6<=q3->(q6<=q3/\q3<(↑q14.length:Int))/\(I64 (q14.getD q3.toNat q18).set->I64 (q14.getD q3.toNat q18).client->q9=r0/\q11/\q13/\q12/\(16:Int)=q16/\(q14.getD q3.toNat q18).client=r4.n/\q4))/\(q3<q6->q14.length<(1048576:Nat)/\q9=r0/\q11/\q13/\q12/\q6=q16/\q6=r4.n/\st.sess=r5/\dK Opn.set (Opn.mk c.set c.client) q14=r6/\q15=r7))/\(¬q10=(2:Int)->(q10=q22->(q10=q22->q1)/\(¬q10=q22->q0))/\(¬q10=q22->(q10=(4:Int)->q1)/\(¬q10=(4:Int)->q0)))))) ((q10=(6:Int)->q9=r0/\q11/\c.n=r2/\q12/\q6=q16/\q6=r4.n/\q4)/\(¬q10=(6:Int)->(q10=(12:Int)->nch q15<=(1048576:Nat)/\(I64 (↑(distF q15):Int)->q9=r0/\q11/\q13/\c.n=r3/\q6=q16/\(↑(distF q15):Int)=r4.n/\q4))/\(¬q10=(12:Int)->I64 q8->(q8<q6->I64 q9->q20->q19->q17->I64 (15:Int)->I64 q6->q9=r0/\q11/\q13/\q12/\(15:Int)=q16/\q6=r4.n/\q4)/\(q6<=q8->(q6<=q8/\q8<(↑q15.length:Int))/\nch q15<=(1048576:Nat)/\c.id=(q15.getD q8.toNat (dflt (Sh.nm NT.snap))).id/\(q10=(5:Int)\/q10=(7:Int)\/q10=(11:Int)\/q10=(9:Int)\/q10=(10:Int))/\(I64 q2.fst.version->I64 q2.fst.next->I64 q2.fst.keep->I64 q2.fst.quota->I64 q2.snd.code->I64 q2.snd.n->q2.fst.version=r0/\q2.fst.next=r1/\q2.fst.keep=r2/\q2.fst.quota=r3/\q2.snd.code=q16/\q2.snd.n=r4.n/\q2.fst.sess=r5/\q2.fst.opens=r6/\q2.fst.snaps=r7)))))) ((q6<=q3->q6<=q3/\q3<(↑q14.length:Int))/\((q6<=q3->I64 (q14.getD q3.toNat q18).set/\I64 (q14.getD q3.toNat q18).client)->(q3<q6\/¬(q14.getD q3.toNat q18).client=c.client->I64 q9->q20->q19->q17->I64 (15:Int)->I64 q6->q9=r0/\q11/\q13/\q12/\(15:Int)=q16/\q6=r4.n/\q4)/\(q6<=q3/\(q14.getD q3.toNat q18).client=c.client->(q10=q22->q15.length<(1048576:Nat)/\nch (q15++[Snap.mk q6 q6 c.chunks false (Str.mk [])])<=(1048576:Nat)/\q6<=st.next/\(I64 q7.version->I64 q7.next->I64 q7.keep->I64 q7.quota->I64 q21.code->I64 q21.n->q7.version=r0/\q7.next=r1/\q7.keep=r2/\q7.quota=r3/\q21.code=q16/\q21.n=r4.n/\q7.sess=r5/\q7.opens=r6/\q7.snaps=r7))/\(¬q10=q22->q9=r0/\q11/\q13/\q12/\q6=q16/\q6=r4.n/\st.sess=r5/\lD c.set q14=r6/\q15=r7))))) (bX st c q8.toNat)) (ag Opn.set c.set q14)) (st.sess=r5/\q14=r6/\q15=r7)) (if mayF st q9=q6 then bd c q9 else (1:Int))) (0:Int)) (bk st c).fst) (ag Snap.id c.id q15)) st.version) c.kind) (st.next=r1)) (st.quota=r3)) (st.keep=r2)) st.opens) st.snaps) r4.code) (I64 st.quota)) (dflt (Sh.nm NT.opn))) (I64 st.keep)) (I64 st.next)) (bk st c).snd) (3:Int)):=by kernel_rfl
theorem DR (st:State) (c:Command):Sat Tryz.prog (aq aE) 15 [.agg (cellsOf (.nm .state) st),.agg (cellsOf (.nm .command) c)] [] ⟨[],[.agg ([.int (((bb st c).1.version)),.int (((bb st c).1.next)),.int (((bb st c).1.keep)),.int (((bb st c).1.quota)),.own 0,.own 1,.own 2]),.agg (cellsOf (.nm .reply) ((bb st c).2))],some ([.row 44 (.nm .sess) (((bb st c).1.sess)),.row 77 (.nm .opn) (((bb st c).1.opens)),.row 59 (.nm .snap) (((bb st c).1.snaps))]),true⟩:=by
 refine cO qY [] Tryz.func15 (by decide) (by kernel_rfl) ?_
 rw [Ed]
 (repeat' (first | with_reducible refine And.intro ?_ ?_ | with_reducible refine and_imp.2 ?_ | intro))
 all_goals (first | (first | with_reducible rfl | with_reducible assumption | omega | (refine ai ?_ ?_ <;> omega)) | exact (uL (by with_reducible assumption)) | exact (Al (by with_reducible assumption)) | exact (nb (by with_reducible assumption)) | exact (Cp (by with_reducible assumption)) | exact (yO (by with_reducible assumption)) | exact bL (by with_reducible assumption) | exact Jt (by with_reducible assumption) | exact GF (by with_reducible assumption) (by with_reducible assumption) | exact rV (by with_reducible assumption) (by omega) | (rw [JV (by with_reducible assumption)]; done) | (rw [KF (by assumption) (by assumption)]; first | done | rfl) | (rw [JW (by assumption) (by assumption) (by assumption)]; first | done | rfl) | (rw [JD (by assumption) (by assumption) (by assumption)]; first | done | rfl) | (rw [Lo (by assumption) (by omega) (by assumption)]; first | done | rfl) | (rw [Js (by assumption) (by assumption) (by assumption) (by assumption)]; first | done | rfl) | (rw [JY (by assumption) (by first | assumption | (have:=tJ (nU (by assumption)).2; omega)) (by assumption) (by assumption)]; first | done | rfl) | (rw [LA (by assumption) (by assumption)]; first | done | rfl) | (rw [Lp (by assumption) (by assumption)]; first | done | rfl) | (rw [JE (by assumption) (by omega) (by assumption)]; first | done | rfl) | (rw [Jn (by assumption) (by omega) (by assumption)]; first | done | rfl))
def Aa:cK:=(bE 15 (bz (aj (kT (.nm .state)) (aj (kT (.nm .command)) aL)) aM fun (st,c,_) (_)=>⟨[],[.agg ([.int (((bb st c).1.version)),.int (((bb st c).1.next)),.int (((bb st c).1.keep)),.int (((bb st c).1.quota)),.own 0,.own 1,.own 2]),.agg (cellsOf (.nm .reply) ((bb st c).2))],some ([.row 44 (.nm .sess) (((bb st c).1.sess)),.row 77 (.nm .opn) (((bb st c).1.opens)),.row 59 (.nm .snap) (((bb st c).1.snaps))]),true⟩) As)
theorem sJ:aV Tryz.prog (aq aE) Aa:=(ax (aw (ab bf (ab bf ak)) al fun (st,c,_) (_) _=>DR st c ) qY)
end Go.Proofs.YtdggohppeeaipaaGreat
namespace Go.Proofs.YtdggohppeeaipaaGreat
open Go.RowKit
section
variable {st:State} {c:Command}
theorem Lz (h:(if mayF st st.version=0 then bd c st.version else 1)=0) (k:c.kind=1) (p:ag Sess.client c.client st.sess<0):dg st c=(State.mk st.version st.next st.keep st.quota (dK Sess.client (Sess.mk c.client 0 (Reply.mk 0 0)) st.sess) st.opens st.snaps,⟨0,0⟩):=by
 rw [DH h k p,mZ (x:=Sess.mk c.client 0 (Reply.mk 0 0)) (zp (nU h).1).1 fun y hy=>ma (key:=Sess.client) (want:=c.client) p y hy]
theorem KV (h:(if mayF st st.version=0 then bd c st.version else 1)=0) (k8:¬ c.kind=8) (k1:¬ c.kind=1) (p:ag Sess.client c.client st.sess<0):dg st c=(st,⟨11,0⟩):=(Fy h k8 k1).trans (LU p)
theorem KG (h:(if mayF st st.version=0 then bd c st.version else 1)=0) (k8:¬ c.kind=8) (k1:¬ c.kind=1) (p:0<=ag Sess.client c.client st.sess) (e:c.seq=(st.sess.getD (ag Sess.client c.client st.sess).toNat (dflt (.nm .sess))).seq):dg st c=(st,(st.sess.getD (ag Sess.client c.client st.sess).toNat (dflt (.nm .sess))).last):=(Fy h k8 k1).trans (L_ p e)
theorem Lt (h:(if mayF st st.version=0 then bd c st.version else 1)=0) (k8:¬ c.kind=8) (k1:¬ c.kind=1) (p:0<=ag Sess.client c.client st.sess) (e:c.seq<(st.sess.getD (ag Sess.client c.client st.sess).toNat (dflt (.nm .sess))).seq):dg st c=(st,⟨13,0⟩):=(Fy h k8 k1).trans (LQ p (by omega) e)
theorem KM (h:(if mayF st st.version=0 then bd c st.version else 1)=0) (k8:¬ c.kind=8) (k1:¬ c.kind=1) (p:0<=ag Sess.client c.client st.sess) (e:(st.sess.getD (ag Sess.client c.client st.sess).toNat (dflt (.nm .sess))).seq+1<c.seq):dg st c=(st,⟨14,0⟩):=(Fy h k8 k1).trans (LW p (by omega) (by omega) e)
theorem La (h:(if mayF st st.version=0 then bd c st.version else 1)=0) (k8:¬ c.kind=8) (k1:¬ c.kind=1) (p:0<=ag Sess.client c.client st.sess) (e:¬ c.seq=(st.sess.getD (ag Sess.client c.client st.sess).toNat (dflt (.nm .sess))).seq) (e1:(st.sess.getD (ag Sess.client c.client st.sess).toNat (dflt (.nm .sess))).seq<=c.seq) (e2:c.seq<=(st.sess.getD (ag Sess.client c.client st.sess).toNat (dflt (.nm .sess))).seq+1) :
  dg st c=(State.mk (bb st c).1.version (bb st c).1.next (bb st c).1.keep (bb st c).1.quota ((bb st c).1.sess.set (ag Sess.client c.client st.sess).toNat (Sess.mk c.client c.seq (bb st c).2)) (bb st c).1.opens (bb st c).1.snaps,(bb st c).2):=by
 rw [DS (nU h).1 (nU h).2 k8 k1 p (by omega),(jX (d:=dflt (.nm .sess)) p).1,gN]
theorem Lj (h:(if mayF st st.version=0 then bd c st.version else 1)=0) (p:0<=ag Sess.client c.client st.sess):I64 ((st.sess.getD (ag Sess.client c.client st.sess).toNat (dflt (.nm .sess))).seq+1):=Kd (v:=st.version) (nx:=st.next) (kp:=st.keep) (qt:=st.quota) (op:=st.opens) (sn:=st.snaps) h p
theorem Jx (p:0<=ag Sess.client c.client st.sess):ag Sess.client c.client st.sess<((bb st c).1.sess.length:Int):=by rw [gN]; exact bL p
end
theorem Is (st:State) (c:Command) (r0:Int) (r1:Int) (r2:Int) (r3:Int) (r4:Reply) (r5:List Sess) (r6:List Opn) (r7:List Snap):lA aE Aa [] Tryz.f13 [.agg (cellsOf (.nm .state) st),.agg (cellsOf (.nm .command) c)] [] [.agg ([.int (r0),.int (r1),.int (r2),.int (r3),.own 0,.own 1,.own 2]),.agg (cellsOf (.nm .reply) r4)] [.row 44 (.nm .sess) (r5),.row 77 (.nm .opn) (r6),.row 59 (.nm .snap) (r7)]=((fun (q19:Prop)=>(fun (q18:den (Sh.nm NT.sess))=>(fun (q17:Reply)=>(fun (q16:Int)=>(fun (q15:Nat)=>(fun (q14:Prop)=>(fun (q13:Prop)=>(fun (q12:Int)=>(fun (q11:Prop)=>(fun (q10:Prop)=>(fun (q9:Prop)=>(fun (q8:Prop)=>(fun (q7:Prop)=>(fun (q6:Int)=>(fun (q5:Int)=>(fun (q4:State)=>(fun (q3:Int)=>(fun (q2:Prop)=>(fun (q1:Int)=>(fun (q0:den (Sh.nm NT.sess))=>I64 q6->q14->q13->q11->q15*(32:Nat)<=(140737488355328:Nat)->st.opens.length*(16:Nat)<=(140737488355328:Nat)->st.snaps.length*(64:Nat)<=(140737488355328:Nat)->I64 c.kind->I64 c.client->I64 c.seq->I64 c.set->I64 c.id->I64 c.n->c.chunks.length*(8:Nat)<=(140737488355328:Nat)->c.text.b.length<=(140737488355328:Nat)->I64 q3->(¬q3=q5->I64 q6->q14->q13->q11->I64 q3->I64 q5->q6=r0/\q10/\q9/\q8/\q3=q16/\q2)/\(q3=q5->I64 q1->I64 q6->q14->q13->q11->(c.kind=(8:Int)->I64 (q6+q12)/\(¬c.n=q6+q12->I64 q6->q14->q13->q11->I64 q12->I64 q5->q6=r0/\q10/\q9/\q8/\q12=q16/\q2)/\(c.n=q6+q12->c.n=r0/\q10/\q9/\q8/\q5=q16/\c.n=r4.n/\q7))/\(¬c.kind=(8:Int)->(c.kind=q12->(q5<=q1->I64 q6->q14->q13->q11->I64 (12:Int)->I64 q5->q6=r0/\q10/\q9/\q8/\(12:Int)=q16/\q2)/\(q1<q5->q15<(1048576:Nat)/\q6=r0/\q10/\q9/\q8/\q5=q16/\q5=r4.n/\dK Sess.client (Sess.mk c.client q5 (Reply.mk q5 q5)) st.sess=r5/\q19))/\(¬c.kind=q12->(q1<q5->I64 q6->q14->q13->q11->I64 (11:Int)->I64 q5->q6=r0/\q10/\q9/\q8/\(11:Int)=q16/\q2)/\(q5<=q1->q5<=q1/\q1<(↑q15:Int)/\(I64 q0.client->I64 q0.seq->I64 q0.last.code->I64 q0.last.n->(c.seq=q0.seq->(q5<=q1/\q1<(↑q15:Int))/\(I64 q0.client->I64 q0.seq->I64 q0.last.code->I64 q0.last.n->q6=r0/\q10/\q9/\q8/\q0.last.code=q16/\q0.last.n=r4.n/\q7))/\(¬c.seq=q0.seq->q5<=q1/\q1<(↑q15:Int)/\(I64 q0.client->I64 q0.seq->I64 q0.last.code->I64 q0.last.n->(c.seq<q0.seq->I64 q6->q14->q13->q11->I64 (13:Int)->I64 q5->q6=r0/\q10/\q9/\q8/\(13:Int)=q16/\q2)/\(q0.seq<=c.seq->q5<=q1/\q1<(↑q15:Int)/\I64 (q0.seq+q12)/\(I64 q0.client->I64 q0.seq->I64 q0.last.code->I64 q0.last.n->(q0.seq+q12<c.seq->I64 q6->q14->q13->q11->I64 (14:Int)->I64 q5->q6=r0/\q10/\q9/\q8/\(14:Int)=q16/\q2)/\(c.seq<=q0.seq+q12->I64 q4.version->I64 q4.next->I64 q4.keep->I64 q4.quota->I64 q17.code->I64 q17.n->q5<=q1/\q1<(↑q4.sess.length:Int)/\(I64 (q4.sess.getD q1.toNat q18).client->I64 (q4.sess.getD q1.toNat q18).seq->I64 (q4.sess.getD q1.toNat q18).last.code->I64 (q4.sess.getD q1.toNat q18).last.n->q4.version=r0/\q4.next=r1/\q4.keep=r2/\q4.quota=r3/\q17.code=q16/\q17.n=r4.n/\q4.sess.set q1.toNat (Sess.mk c.client c.seq q17)=r5/\q4.opens=r6/\q4.snaps=r7)))))))))))) (st.sess.getD q1.toNat q18)) (ag Sess.client c.client st.sess)) (q5=r4.n/\q7)) (if mayF st q6=q5 then bd c q6 else q12)) (bb st c).fst) (0:Int)) st.version) (st.sess=r5/\q19)) (st.quota=r3)) (st.keep=r2)) (st.next=r1)) (I64 st.quota)) (1:Int)) (I64 st.keep)) (I64 st.next)) st.sess.length) r4.code) (bb st c).snd) (dflt (Sh.nm NT.sess))) (st.opens=r6/\st.snaps=r7)):=by kernel_rfl
theorem HZ (st:State) (c:Command):Sat Tryz.prog (aq aE) 13 [.agg (cellsOf (.nm .state) st),.agg (cellsOf (.nm .command) c)] [] ⟨[],[.agg ([.int (((dg st c).1.version)),.int (((dg st c).1.next)),.int (((dg st c).1.keep)),.int (((dg st c).1.quota)),.own 0,.own 1,.own 2]),.agg (cellsOf (.nm .reply) ((dg st c).2))],some ([.row 44 (.nm .sess) (((dg st c).1.sess)),.row 77 (.nm .opn) (((dg st c).1.opens)),.row 59 (.nm .snap) (((dg st c).1.snaps))]),true⟩:=by
 refine cO sJ [] Tryz.func13 (by decide) (by kernel_rfl) ?_
 rw [Is]
 (repeat' (first | with_reducible refine And.intro ?_ ?_ | with_reducible refine and_imp.2 ?_ | intro))
 all_goals (first | (first | with_reducible rfl | with_reducible assumption | omega | (refine ai ?_ ?_ <;> omega)) | exact (uL (by with_reducible assumption)) | exact (Al (by with_reducible assumption)) | exact (nb (by with_reducible assumption)) | exact (Cp (by with_reducible assumption)) | exact (yO (by with_reducible assumption)) | exact Du (by with_reducible assumption) | exact nb (by with_reducible assumption) | exact bL (by with_reducible assumption) | exact Lj (by with_reducible assumption) (by with_reducible assumption) | exact Jx (by with_reducible assumption) | (rw [Ks (by with_reducible assumption)]; done) | (rw [Ea (by with_reducible assumption) (by with_reducible assumption) (by with_reducible assumption)]; first | done | rfl) | (rw [Dg (by with_reducible assumption) (by with_reducible assumption) (by with_reducible assumption)]; first | done | rfl) | (rw [EK (by with_reducible assumption) (by with_reducible assumption) (by with_reducible assumption)]; first | done | rfl) | (rw [Lz (by with_reducible assumption) (by with_reducible assumption) (by with_reducible assumption)]; first | done | rfl) | (rw [KV (by with_reducible assumption) (by with_reducible assumption) (by with_reducible assumption) (by with_reducible assumption)]; first | done | rfl) | (rw [KG (by with_reducible assumption) (by with_reducible assumption) (by with_reducible assumption) (by with_reducible assumption) (by with_reducible assumption)]; first | done | rfl) | (rw [Lt (by with_reducible assumption) (by with_reducible assumption) (by with_reducible assumption) (by with_reducible assumption) (by with_reducible assumption)]; first | done | rfl) | (rw [KM (by with_reducible assumption) (by with_reducible assumption) (by with_reducible assumption) (by with_reducible assumption) (by with_reducible assumption)]; first | done | rfl) | (rw [La (by with_reducible assumption) (by with_reducible assumption) (by with_reducible assumption) (by with_reducible assumption) (by with_reducible assumption) (by with_reducible assumption) (by with_reducible assumption)]; first | done | rfl))
def FI:cK:=(bE 13 (bz (aj (kT (.nm .state)) (aj (kT (.nm .command)) aL)) aM fun (st,c,_) (_)=>⟨[],[.agg ([.int (((dg st c).1.version)),.int (((dg st c).1.next)),.int (((dg st c).1.keep)),.int (((dg st c).1.quota)),.own 0,.own 1,.own 2]),.agg (cellsOf (.nm .reply) ((dg st c).2))],some ([.row 44 (.nm .sess) (((dg st c).1.sess)),.row 77 (.nm .opn) (((dg st c).1.opens)),.row 59 (.nm .snap) (((dg st c).1.snaps))]),true⟩) Aa)
theorem AU:aV Tryz.prog (aq aE) FI:=(ax (aw (ab bf (ab bf ak)) al fun (st,c,_) (_) _=>HZ st c ) sJ)
end Go.Proofs.YtdggohppeeaipaaGreat
namespace Go.Proofs.YtdggohppeeaipaaGreat
open Go.RowKit
section
variable {l:List Int} {k:Nat} {x:Int}
end
def Gb:cK:=FI
theorem Cc:aV Tryz.prog (aq aE) Gb:=AU
end Go.Proofs.YtdggohppeeaipaaGreat
namespace Go.Proofs.YtdggohppeeaipaaGreat
open Go.RowKit
section
variable {st:State} {v:Int}
end
def Fp:cK:=Gb
theorem zM:aV Tryz.prog (aq aE) Fp:=Cc
end Go.Proofs.YtdggohppeeaipaaGreat
namespace Go.Proofs.YtdggohppeeaipaaGreat
open Go.RowKit
def Fx:cK:=Fp
theorem Bg:aV Tryz.prog (aq aE) Fx:=zM
end Go.Proofs.YtdggohppeeaipaaGreat
namespace Go.Proofs.YtdggohppeeaipaaGreat
open Go.RowKit
def FV:cK:=Fx
theorem zN:aV Tryz.prog (aq aE) FV:=Bg
end Go.Proofs.YtdggohppeeaipaaGreat
namespace Go.Proofs.YtdggohppeeaipaaGreat
open Go.RowKit
def FF:cK:=FV
theorem Ak:aV Tryz.prog (aq aE) FF:=zN
end Go.Proofs.YtdggohppeeaipaaGreat
namespace Go.Proofs.YtdggohppeeaipaaGreat
open Go.RowKit
def FR:cK:=FF
theorem Cn:aV Tryz.prog (aq aE) FR:=Ak
end Go.Proofs.YtdggohppeeaipaaGreat
namespace Go.Proofs.YtdggohppeeaipaaGreat
open Go.RowKit
def lx:cK:=FR
theorem eG:aV Tryz.prog (aq aE) lx:=Cn
end Go.Proofs.YtdggohppeeaipaaGreat
namespace Go.Proofs.YtdggohppeeaipaaGreat
open Go.RowKit
def cZ (s:State) (l:List Command):State:=l.foldl (fun s c=>(dg s c).1) s
def dz (s:State):List Command->List Reply
 | []=>[]
 | c :: l=>(dg s c).2 :: dz (dg s c).1 l
def tw (l:List Command):List Command:=(l.take 40).map iu
section
variable {s:State} {l:List Command} {x:Command} {k:Nat}
theorem sa:∀ {l:List Command} {s:State},dz s (l++[x])=dz s l++[(dg (cZ s l) x).2]
 | [],_=>rfl
 | c :: l,s=>by
  show (dg s c).2 :: dz (dg s c).1 (l++[x])=(dg s c).2 :: (dz (dg s c).1 l++[(dg (cZ (dg s c).1 l) x).2])
  rw [sa]
theorem cg (hx:l[k]? = some x):(dg (cZ s (l.take k)) x).1=cZ s (l.take (k+1)):=by
 rw [az hx]; unfold cZ; rw [List.foldl_append]; rfl
theorem qn (hx:l[k]? = some x):dz s (l.take k)++[(dg (cZ s (l.take k)) x).2]=dz s (l.take (k+1)):=by
 rw [az hx,sa]
theorem vG:∀ {l:List Command} {s:State},(dz s l).length=l.length
 | [],_=>rfl
 | c :: l,s=>by
  show (dz (dg s c).1 l).length+1=l.length+1
  rw [vG]
end
section
variable {s:State} {l:List Command} {x:Command} {k:Nat} {d:Command}
theorem cr (h:(k:Int)<l.length):(dg (cZ s (l.take k)) (l.getD k d)).1=cZ s (l.take (k+1)):=cg (gd h)
theorem uc (h:(k:Int)<l.length):dz s (l.take k)++[(dg (cZ s (l.take k)) (l.getD k d)).2]=dz s (l.take (k+1)):=qn (gd h)
theorem ke {y:Reply} (h:(k:Int)<l.length) (hl:l.length*88<=140737488355328):((dz s (l.take k)).length+[y].length)*16<=140737488355328:=by
 rw [vG,List.length_take]; simp only [List.length_cons,List.length_nil]; omega
theorem xU (h:(l.length:Int)<=k):l.take k=l:=List.take_of_length_le (by omega)
end
theorem zL {a b:List Reply} {k:Nat} (h:a.take k=b.take k) (e:(a.getD k (dflt (.nm .reply))).code=(b.getD k (dflt (.nm .reply))).code) (e2:(a.getD k (dflt (.nm .reply))).n=(b.getD k (dflt (.nm .reply))).n) (hk:(k:Int)<a.length) (hb:(k:Int)<b.length):a.take (k+1)=b.take (k+1):=qW (d:=dflt (.nm .reply)) h (by omega) (by omega) (by
 cases ha:a.getD k (dflt (.nm .reply)); cases hc:b.getD k (dflt (.nm .reply)); rw [ha,hc] at e e2; cases e; cases e2; rfl)
theorem zX {a b:List Reply} {k:Nat} (e:¬ (a.getD k (dflt (.nm .reply))).code=(b.getD k (dflt (.nm .reply))).code\/¬ (a.getD k (dflt (.nm .reply))).n=(b.getD k (dflt (.nm .reply))).n):false=decide (a=b):=by
 symm; apply decide_eq_false; rintro rfl; simp at e
def cf:List Command:=[Command.mk 1 1 0 0 0 0 [] (Str.mk []),Command.mk 2 1 1 2 0 0 [] (Str.mk []),Command.mk 2 1 1 2 0 0 [] (Str.mk [])]
theorem BN {l:List Command} {x:Command} {k:Nat} (hx:l[k]? = some x):(l.take k).map iu++[iu x]=(l.take (k+1)).map iu:=by
 rw [az hx,List.map_append]; rfl
theorem Iw {l:List Command} {k:Nat} (h:k<=40) (h2:(l.length:Int)<=k\/40<=(k:Int)):(l.take k).map iu=tw l:=by
 unfold tw
 by_cases e:k=40
 ·rw [e]
 ·rw [List.take_of_length_le (by omega),List.take_of_length_le (by omega)]
end Go.Proofs.YtdggohppeeaipaaGreat
namespace Go.Proofs.YtdggohppeeaipaaGreat
open Go.RowKit
def wL (st:State):List (Nat × LI):=[(7,{ σ:=Nat,F:=fun k=>([(1,one (.ptr 0 0)),(2,one (.ptr 1 0)),(3,one (.own 2)),(4,one (.int k))],[.box 26 ([.int ((st.version)),.int ((st.next)),.int ((st.keep)),.int ((st.quota)),.fz (.nm .sess) ((st.sess.take 20)),.fz (.nm .opn) ((st.opens.take 20)),.fz (.nm .snap) ((st.snaps))]),.box 26 ([.int ((0)),.int ((0)),.int ((0)),.int ((0)),.em true,.em true,.em true]),.row 59 (.nm .snap) (((dG st).snaps.take k))]),J:=fun k=>k<=(dG st).snaps.length,μ:=fun k=>st.snaps.length - k })]
def FX (st:State) (l:List Command):List (Nat × LI):=[(4,{ σ:=Nat,F:=fun k=>([(2,one (.ptr 0 0)),(4,one (.ptr 1 0)),(6,one (.own 5)),(12,one (.fz (.nm .command) (l))),(13,one (.int (l).length)),(14,one (.int k))],[.box 26 ([.int ((((cZ st (l.take k))).version)),.int ((((cZ st (l.take k))).next)),.int ((((cZ st (l.take k))).keep)),.int ((((cZ st (l.take k))).quota)),.own 2,.own 3,.own 4]),.box 26 ([.int ((0)),.int ((0)),.int ((0)),.int ((0)),.em true,.em true,.em true]),.row 44 (.nm .sess) (((cZ st (l.take k)).sess)),.row 77 (.nm .opn) (((cZ st (l.take k)).opens)),.row 59 (.nm .snap) (((cZ st (l.take k)).snaps)),.row 35 (.nm .reply) ((dz st (l.take k)))]),J:=fun k=>k<=l.length,μ:=fun k=>l.length - k })]
def vH (st:State) (l:List Command):List (Nat × LI):=[(4,{ σ:=Nat,F:=fun k=>([(1,one (.fz (.nm .command) (l))),(2,one (.ptr 0 0)),(4,one (.ptr 1 0)),(6,one (.own 5)),(7,one (.int k))],[.box 26 ([.int ((((cZ st (l.take k))).version)),.int ((((cZ st (l.take k))).next)),.int ((((cZ st (l.take k))).keep)),.int ((((cZ st (l.take k))).quota)),.own 2,.own 3,.own 4]),.box 26 ([.int ((0)),.int ((0)),.int ((0)),.int ((0)),.em true,.em true,.em true]),.row 44 (.nm .sess) (((cZ st (l.take k)).sess)),.row 77 (.nm .opn) (((cZ st (l.take k)).opens)),.row 59 (.nm .snap) (((cZ st (l.take k)).snaps)),.row 35 (.nm .reply) ((dz st (l.take k)))]),J:=fun k=>k<=l.length,μ:=fun k=>l.length - k })]
def vi (a:List Reply) (b:List Reply):List (Nat × LI):=[(4,{ σ:=Nat,F:=fun k=>([(0,one (.fz (.nm .reply) (a))),(1,one (.fz (.nm .reply) (b))),(5,one (.int k))],[]),J:=fun k=>k<=a.length/\a.length=b.length/\a.take k=b.take k,μ:=fun k=>a.length - k })]
theorem CU (c:Command) (r0:Command):cG aE lx [] Tryz.f79 [.agg (cellsOf (.nm .command) c)] [] [.agg (cellsOf (.nm .command) r0)]=((fun (q10:Prop)=>(fun (q9:Prop)=>(fun (q8:Prop)=>(fun (q7:Prop)=>(fun (q6:Nat)=>(fun (q5:Prop)=>(fun (q4:Prop)=>(fun (q3:Int)=>(fun (q2:Prop)=>(fun (q1:Prop)=>(fun (q0:Int)=>I64 c.kind->I64 c.client->I64 c.seq->I64 c.set->I64 c.id->I64 c.n->q6*(8:Nat)<=(140737488355328:Nat)->c.text.b.length<=(140737488355328:Nat)->((12:Int)<(↑q6:Int)->(0:Int)<=(12:Int)/\(12:Int)<=(↑q6:Int)/\(q3<q0->(0:Int)<=q3/\q3<=q0/\q2/\q1/\q4/\q5/\q7/\q10/\q9/\q8)/\(q0<=q3->q2/\q1/\q4/\q5/\q7/\q10/\q9/\c.text=r0.text))/\((↑q6:Int)<=(12:Int)->(q3<q0->(0:Int)<=q3/\q3<=q0/\q2/\q1/\q4/\q5/\q7/\q10/\c.chunks=r0.chunks/\q8)/\(q0<=q3->q2/\q1/\q4/\q5/\q7/\q10/\c.chunks=r0.chunks/\c.text=r0.text))) (↑c.text.b.length:Int)) (c.client=r0.client)) (c.kind=r0.kind)) (40:Int)) (c.seq=r0.seq)) (c.set=r0.set)) c.chunks.length) (c.id=r0.id)) (Str.mk (List.take (40:Nat) c.text.b)=r0.text)) (List.take (12:Nat) c.chunks=r0.chunks)) (c.n=r0.n)):=by kernel_rfl
theorem EO (c:Command):Sat Tryz.prog (aq aE) 79 [.agg (cellsOf (.nm .command) c)] [] ⟨[],[.agg (cellsOf (.nm .command) (iu c))],none,false⟩:=by
 refine aO eG [] Tryz.func79 (by decide) (by kernel_rfl) ?_
 rw [CU]
 simp only [iu,Str.cut]; (repeat' (first | refine And.intro ?_ ?_ | intro)) <;> first | trivial | rfl | omega | (symm; exact List.take_of_length_le (by omega)) | exact mz (by omega)
theorem BQ (st:State) (r0:State):cG aE lx (wL st) Tryz.f26 [.agg (cellsOf (.nm .state) st)] [] [.agg (cellsOf (.nm .state) r0)]=((fun (q23:Nat)=>(fun (q22:Prop)=>(fun (q21:Prop)=>(fun (q20:Prop)=>(fun (q19:Prop)=>(fun (q18:Int)=>(fun (q17:Nat)=>(fun (q16:Nat)=>(fun (q15:Int)=>(fun (q14:Nat)=>(fun (q13:Int)=>(fun (q12:Int)=>(fun (q11:Nat)=>(fun (q10:Int)=>(fun (q9:Int)=>(fun (q8:Prop)=>(fun (q7:Prop)=>(fun (q6:Prop)=>(fun (q5:Prop)=>(fun (q4:List Snap)=>(fun (q3:List (den (Sh.nm NT.sess)))=>(fun (q2:List (den (Sh.nm NT.opn)))=>(fun (q1:List Snap)=>(fun (q0:Prop)=>I64 st.version->I64 st.next->I64 st.keep->I64 st.quota->q23*(32:Nat)<=q11->st.opens.length*(16:Nat)<=q11->q4.length*q14<=q11->(q13<(↑q23:Int)->q12<=q13/\q13<=(↑q23:Int)/\(q13<q18->q12<=q13/\q13<=q18/\∃ (s0:Nat),(fun (q25:Nat)=>(fun (q24:Nat)=>(q12=(↑s0:Int)/\q5/\q8/\q7/\q6/\q3=q3/\q2=q2/\q4=q4/\q0/\q0/\q0/\q0/\List.take s0 q1=[])/\s0<=q25/\∀ (s:Nat),(fun (q27:List (den (Sh.nm NT.snap)))=>(fun (q26:Int)=>s<=q25->((↑s:Int)<(↑q4.length:Int)/\(↑s:Int)<q13->q12<=(↑s:Int)/\(↑s:Int)<(↑q4.length:Int)/\∀ (x:Snap),(fun (q32:Nat)=>(fun (q31:Snap)=>(fun (q30:Snap)=>(fun (q29:Snap)=>(fun (q28:Int)=>q4[s]? = some x->I64 x.id->I64 x.set->q32*(8:Nat)<=q11->x.tag.b.length<=q11->(q15<(↑q32:Int)->q12<=q15/\q15<=(↑q32:Int)/\(q10<q28->q12<=q10/\q10<=q28/\(q27.length+[q29].length)*q14<=q11/\I64 q26/\∃ (s':Nat),(q26=(↑s':Int)/\q5/\q8/\q7/\q6/\q3=q3/\q2=q2/\q4=q4/\q0/\q0/\q0/\q0/\q27++[q29]=List.take s' q1)/\s' <= q25/\q24 - s' < q24 - s)/\(q28<=q10->(q27.length+[q31].length)*q14<=q11/\I64 q26/\∃ (s':Nat),(q26=(↑s':Int)/\q5/\q8/\q7/\q6/\q3=q3/\q2=q2/\q4=q4/\q0/\q0/\q0/\q0/\q27++[q31]=List.take s' q1)/\s' <= q25/\q24 - s' < q24 - s))/\((↑q32:Int)<=q15->(q10<q28->q12<=q10/\q10<=q28/\(q27.length+[q30].length)*q14<=q11/\I64 q26/\∃ (s':Nat),(q26=(↑s':Int)/\q5/\q8/\q7/\q6/\q3=q3/\q2=q2/\q4=q4/\q0/\q0/\q0/\q0/\q27++[q30]=List.take s' q1)/\s' <= q25/\q24 - s' < q24 - s)/\(q28<=q10->(q27.length+[x].length)*q14<=q11/\I64 q26/\∃ (s':Nat),(q26=(↑s':Int)/\q5/\q8/\q7/\q6/\q3=q3/\q2=q2/\q4=q4/\q0/\q0/\q0/\q0/\q27++[x]=List.take s' q1)/\s' <= q25/\q24 - s' < q24 - s))) (↑x.tag.b.length:Int)) (Snap.mk x.id x.set (List.take q16 x.chunks) x.held (Str.mk (List.take q17 x.tag.b)))) (Snap.mk x.id x.set x.chunks x.held (Str.mk (List.take q17 x.tag.b)))) (Snap.mk x.id x.set (List.take q16 x.chunks) x.held x.tag)) x.chunks.length)/\((↑q4.length:Int)<=(↑s:Int)\/q13<=(↑s:Int)->q19/\q22/\q21/\q20/\q3=r0.sess/\q2=r0.opens/\q27=r0.snaps)) ((↑s:Int)+q9)) (List.take s q1)) q4.length) q1.length)/\(q18<=q13->∃ (s0:Nat),(fun (q34:Nat)=>(fun (q33:Nat)=>(q12=(↑s0:Int)/\q5/\q8/\q7/\q6/\q3=q3/\st.opens=q2/\q4=q4/\q0/\q0/\q0/\q0/\List.take s0 q1=[])/\s0<=q34/\∀ (s:Nat),(fun (q36:List (den (Sh.nm NT.snap)))=>(fun (q35:Int)=>s<=q34->((↑s:Int)<(↑q4.length:Int)/\(↑s:Int)<q13->q12<=(↑s:Int)/\(↑s:Int)<(↑q4.length:Int)/\∀ (x:Snap),(fun (q41:Nat)=>(fun (q40:Snap)=>(fun (q39:Snap)=>(fun (q38:Snap)=>(fun (q37:Int)=>q4[s]? = some x->I64 x.id->I64 x.set->q41*(8:Nat)<=q11->x.tag.b.length<=q11->(q15<(↑q41:Int)->q12<=q15/\q15<=(↑q41:Int)/\(q10<q37->q12<=q10/\q10<=q37/\(q36.length+[q38].length)*q14<=q11/\I64 q35/\∃ (s':Nat),(q35=(↑s':Int)/\q5/\q8/\q7/\q6/\q3=q3/\q2=q2/\q4=q4/\q0/\q0/\q0/\q0/\q36++[q38]=List.take s' q1)/\s' <= q34/\q33 - s' < q33 - s)/\(q37<=q10->(q36.length+[q40].length)*q14<=q11/\I64 q35/\∃ (s':Nat),(q35=(↑s':Int)/\q5/\q8/\q7/\q6/\q3=q3/\q2=q2/\q4=q4/\q0/\q0/\q0/\q0/\q36++[q40]=List.take s' q1)/\s' <= q34/\q33 - s' < q33 - s))/\((↑q41:Int)<=q15->(q10<q37->q12<=q10/\q10<=q37/\(q36.length+[q39].length)*q14<=q11/\I64 q35/\∃ (s':Nat),(q35=(↑s':Int)/\q5/\q8/\q7/\q6/\q3=q3/\q2=q2/\q4=q4/\q0/\q0/\q0/\q0/\q36++[q39]=List.take s' q1)/\s' <= q34/\q33 - s' < q33 - s)/\(q37<=q10->(q36.length+[x].length)*q14<=q11/\I64 q35/\∃ (s':Nat),(q35=(↑s':Int)/\q5/\q8/\q7/\q6/\q3=q3/\q2=q2/\q4=q4/\q0/\q0/\q0/\q0/\q36++[x]=List.take s' q1)/\s' <= q34/\q33 - s' < q33 - s))) (↑x.tag.b.length:Int)) (Snap.mk x.id x.set (List.take q16 x.chunks) x.held (Str.mk (List.take q17 x.tag.b)))) (Snap.mk x.id x.set x.chunks x.held (Str.mk (List.take q17 x.tag.b)))) (Snap.mk x.id x.set (List.take q16 x.chunks) x.held x.tag)) x.chunks.length)/\((↑q4.length:Int)<=(↑s:Int)\/q13<=(↑s:Int)->q19/\q22/\q21/\q20/\q3=r0.sess/\q2=r0.opens/\q36=r0.snaps)) ((↑s:Int)+q9)) (List.take s q1)) q4.length) q1.length))/\((↑q23:Int)<=q13->(q13<q18->q12<=q13/\q13<=q18/\∃ (s0:Nat),(fun (q43:Nat)=>(fun (q42:Nat)=>(q12=(↑s0:Int)/\q5/\q8/\q7/\q6/\st.sess=q3/\q2=q2/\q4=q4/\q0/\q0/\q0/\q0/\List.take s0 q1=[])/\s0<=q43/\∀ (s:Nat),(fun (q45:List (den (Sh.nm NT.snap)))=>(fun (q44:Int)=>s<=q43->((↑s:Int)<(↑q4.length:Int)/\(↑s:Int)<q13->q12<=(↑s:Int)/\(↑s:Int)<(↑q4.length:Int)/\∀ (x:Snap),(fun (q50:Nat)=>(fun (q49:Snap)=>(fun (q48:Snap)=>(fun (q47:Snap)=>(fun (q46:Int)=>q4[s]? = some x->I64 x.id->I64 x.set->q50*(8:Nat)<=q11->x.tag.b.length<=q11->(q15<(↑q50:Int)->q12<=q15/\q15<=(↑q50:Int)/\(q10<q46->q12<=q10/\q10<=q46/\(q45.length+[q47].length)*q14<=q11/\I64 q44/\∃ (s':Nat),(q44=(↑s':Int)/\q5/\q8/\q7/\q6/\q3=q3/\q2=q2/\q4=q4/\q0/\q0/\q0/\q0/\q45++[q47]=List.take s' q1)/\s' <= q43/\q42 - s' < q42 - s)/\(q46<=q10->(q45.length+[q49].length)*q14<=q11/\I64 q44/\∃ (s':Nat),(q44=(↑s':Int)/\q5/\q8/\q7/\q6/\q3=q3/\q2=q2/\q4=q4/\q0/\q0/\q0/\q0/\q45++[q49]=List.take s' q1)/\s' <= q43/\q42 - s' < q42 - s))/\((↑q50:Int)<=q15->(q10<q46->q12<=q10/\q10<=q46/\(q45.length+[q48].length)*q14<=q11/\I64 q44/\∃ (s':Nat),(q44=(↑s':Int)/\q5/\q8/\q7/\q6/\q3=q3/\q2=q2/\q4=q4/\q0/\q0/\q0/\q0/\q45++[q48]=List.take s' q1)/\s' <= q43/\q42 - s' < q42 - s)/\(q46<=q10->(q45.length+[x].length)*q14<=q11/\I64 q44/\∃ (s':Nat),(q44=(↑s':Int)/\q5/\q8/\q7/\q6/\q3=q3/\q2=q2/\q4=q4/\q0/\q0/\q0/\q0/\q45++[x]=List.take s' q1)/\s' <= q43/\q42 - s' < q42 - s))) (↑x.tag.b.length:Int)) (Snap.mk x.id x.set (List.take q16 x.chunks) x.held (Str.mk (List.take q17 x.tag.b)))) (Snap.mk x.id x.set x.chunks x.held (Str.mk (List.take q17 x.tag.b)))) (Snap.mk x.id x.set (List.take q16 x.chunks) x.held x.tag)) x.chunks.length)/\((↑q4.length:Int)<=(↑s:Int)\/q13<=(↑s:Int)->q19/\q22/\q21/\q20/\q3=r0.sess/\q2=r0.opens/\q45=r0.snaps)) ((↑s:Int)+q9)) (List.take s q1)) q4.length) q1.length)/\(q18<=q13->∃ (s0:Nat),(fun (q52:Nat)=>(fun (q51:Nat)=>(q12=(↑s0:Int)/\q5/\q8/\q7/\q6/\st.sess=q3/\st.opens=q2/\q4=q4/\q0/\q0/\q0/\q0/\List.take s0 q1=[])/\s0<=q52/\∀ (s:Nat),(fun (q54:List (den (Sh.nm NT.snap)))=>(fun (q53:Int)=>s<=q52->((↑s:Int)<(↑q4.length:Int)/\(↑s:Int)<q13->q12<=(↑s:Int)/\(↑s:Int)<(↑q4.length:Int)/\∀ (x:Snap),(fun (q59:Nat)=>(fun (q58:Snap)=>(fun (q57:Snap)=>(fun (q56:Snap)=>(fun (q55:Int)=>q4[s]? = some x->I64 x.id->I64 x.set->q59*(8:Nat)<=q11->x.tag.b.length<=q11->(q15<(↑q59:Int)->q12<=q15/\q15<=(↑q59:Int)/\(q10<q55->q12<=q10/\q10<=q55/\(q54.length+[q56].length)*q14<=q11/\I64 q53/\∃ (s':Nat),(q53=(↑s':Int)/\q5/\q8/\q7/\q6/\q3=q3/\q2=q2/\q4=q4/\q0/\q0/\q0/\q0/\q54++[q56]=List.take s' q1)/\s' <= q52/\q51 - s' < q51 - s)/\(q55<=q10->(q54.length+[q58].length)*q14<=q11/\I64 q53/\∃ (s':Nat),(q53=(↑s':Int)/\q5/\q8/\q7/\q6/\q3=q3/\q2=q2/\q4=q4/\q0/\q0/\q0/\q0/\q54++[q58]=List.take s' q1)/\s' <= q52/\q51 - s' < q51 - s))/\((↑q59:Int)<=q15->(q10<q55->q12<=q10/\q10<=q55/\(q54.length+[q57].length)*q14<=q11/\I64 q53/\∃ (s':Nat),(q53=(↑s':Int)/\q5/\q8/\q7/\q6/\q3=q3/\q2=q2/\q4=q4/\q0/\q0/\q0/\q0/\q54++[q57]=List.take s' q1)/\s' <= q52/\q51 - s' < q51 - s)/\(q55<=q10->(q54.length+[x].length)*q14<=q11/\I64 q53/\∃ (s':Nat),(q53=(↑s':Int)/\q5/\q8/\q7/\q6/\q3=q3/\q2=q2/\q4=q4/\q0/\q0/\q0/\q0/\q54++[x]=List.take s' q1)/\s' <= q52/\q51 - s' < q51 - s))) (↑x.tag.b.length:Int)) (Snap.mk x.id x.set (List.take q16 x.chunks) x.held (Str.mk (List.take q17 x.tag.b)))) (Snap.mk x.id x.set x.chunks x.held (Str.mk (List.take q17 x.tag.b)))) (Snap.mk x.id x.set (List.take q16 x.chunks) x.held x.tag)) x.chunks.length)/\((↑q4.length:Int)<=(↑s:Int)\/q13<=(↑s:Int)->q19/\q22/\q21/\q20/\q3=r0.sess/\q2=r0.opens/\q54=r0.snaps)) ((↑s:Int)+q9)) (List.take s q1)) q4.length) q1.length))) (q12=q12)) (dG st).snaps) (List.take (20:Nat) st.opens)) (List.take (20:Nat) st.sess)) st.snaps) (st.version=st.version)) (st.quota=st.quota)) (st.keep=st.keep)) (st.next=st.next)) (1:Int)) (40:Int)) (140737488355328:Nat)) (0:Int)) (20:Int)) (64:Nat)) (12:Int)) (12:Nat)) (40:Nat)) (↑st.opens.length:Int)) (st.version=r0.version)) (st.quota=r0.quota)) (st.keep=r0.keep)) (st.next=r0.next)) st.sess.length):=by kernel_rfl
theorem AY (st:State):Sat Tryz.prog (aq aE) 26 [.agg (cellsOf (.nm .state) st)] [] ⟨[],[.agg (cellsOf (.nm .state) (dG st))],none,false⟩:=by
 refine aO eG (wL st) Tryz.func26 (by decide) (by kernel_rfl) ?_
 rw [BQ]
 (repeat' (first | with_reducible refine And.intro ?_ ?_ | with_reducible refine and_imp.2 ?_ | intro))
 all_goals try (first | (first | with_reducible rfl | with_reducible assumption | omega | (refine ai ?_ ?_ <;> omega)) | exact rfl | exact (List.take_of_length_le (by omega)).symm | exact (Ib (by with_reducible assumption) (by omega) (by omega) (by omega)) | exact (GX (by with_reducible assumption) (by omega) (by omega) (by omega)) | exact (GL (by with_reducible assumption) (by omega) (by omega) (by omega)) | exact (He (by with_reducible assumption) (by omega) (by omega) (by omega)) | exact (uZ (by omega)) | exact (zo (by omega) (by omega)) | exact (List.take_of_length_le (BZ (by omega))))
 all_goals try (refine ⟨0,?_⟩; (repeat' (first | with_reducible refine And.intro ?_ ?_ | with_reducible refine and_imp.2 ?_ | intro)))
 all_goals try (first | (first | with_reducible rfl | with_reducible assumption | omega | (refine ai ?_ ?_ <;> omega)) | exact rfl | exact (List.take_of_length_le (by omega)).symm | exact (Ib (by with_reducible assumption) (by omega) (by omega) (by omega)) | exact (GX (by with_reducible assumption) (by omega) (by omega) (by omega)) | exact (GL (by with_reducible assumption) (by omega) (by omega) (by omega)) | exact (He (by with_reducible assumption) (by omega) (by omega) (by omega)) | exact (uZ (by omega)) | exact (zo (by omega) (by omega)) | exact (List.take_of_length_le (BZ (by omega))))
 all_goals try (refine ⟨‹Nat› + 1,?_⟩; (repeat' (first | with_reducible refine And.intro ?_ ?_ | with_reducible refine and_imp.2 ?_ | intro)))
 all_goals (first | (first | with_reducible rfl | with_reducible assumption | omega | (refine ai ?_ ?_ <;> omega)) | exact rfl | exact (List.take_of_length_le (by omega)).symm | exact (Ib (by with_reducible assumption) (by omega) (by omega) (by omega)) | exact (GX (by with_reducible assumption) (by omega) (by omega) (by omega)) | exact (GL (by with_reducible assumption) (by omega) (by omega) (by omega)) | exact (He (by with_reducible assumption) (by omega) (by omega) (by omega)) | exact (uZ (by omega)) | exact (zo (by omega) (by omega)) | exact (List.take_of_length_le (BZ (by omega))))
theorem DZ  (r0:List Command):cG aE lx [] Tryz.f78 [] [] [.c (.fz (.nm .command) (r0))]=((fun (q1:Int)=>(fun (q0:Command)=>[Command.mk (1:Int) (1:Int) q1 q1 q1 q1 [] (Str.mk []),q0,q0]=r0) (Command.mk (2:Int) (1:Int) (1:Int) (2:Int) q1 q1 [] (Str.mk []))) (0:Int)):=by kernel_rfl
theorem Dr :Sat Tryz.prog (aq aE) 78 [] [] ⟨[],[.c (.fz (.nm .command) ((cf)))],none,false⟩:=by
 refine aO eG [] Tryz.func78 (by decide) (by kernel_rfl) ?_
 rw [DZ]
 (repeat' (first | with_reducible refine And.intro ?_ ?_ | with_reducible refine and_imp.2 ?_ | intro))
 all_goals (first | (first | with_reducible rfl | with_reducible assumption | omega | (refine ai ?_ ?_ <;> omega)) | rfl)
theorem Gp (st:State) (l:List Command) (r0:Int) (r1:Int) (r2:Int) (r3:Int) (r4:List Sess) (r5:List Opn) (r6:List Snap) (r7:List Reply):lA aE lx (FX st l) Tryz.f28 [.agg (cellsOf (.nm .state) st),.c (.fz (.nm .command) (l))] [] [.agg ([.int (r0),.int (r1),.int (r2),.int (r3),.own 0,.own 1,.own 2]),.c (.own 3)] [.row 44 (.nm .sess) (r4),.row 77 (.nm .opn) (r5),.row 59 (.nm .snap) (r6),.row 35 (.nm .reply) (r7)]=((fun (q2:Nat)=>(fun (q1:Nat)=>(fun (q0:Prop)=>I64 st.version->I64 st.next->I64 st.keep->I64 st.quota->st.sess.length*(32:Nat)<=q2->st.opens.length*(16:Nat)<=q2->st.snaps.length*(64:Nat)<=q2->l.length*(88:Nat)<=q2->I64 st.version->I64 st.next->I64 st.keep->I64 st.quota->∃ (s0:Nat),(fun (q3:State)=>(l=l/\(↑l.length:Int)=(↑q1:Int)/\(0:Int)=(↑s0:Int)/\st.version=q3.version/\st.next=q3.next/\st.keep=q3.keep/\st.quota=q3.quota/\q0/\q0/\q0/\q0/\st.sess=q3.sess/\st.opens=q3.opens/\st.snaps=q3.snaps/\dz st (List.take s0 l)=[])/\s0<=q1/\∀ (s:Nat),(fun (q4:State)=>s<=q1->((↑s:Int)<(↑q1:Int)->(0:Int)<=(↑s:Int)/\(↑s:Int)<(↑l.length:Int)/\∀ (x:Command),(fun (q6:Reply)=>(fun (q5:State)=>l[s]? = some x->I64 x.kind->I64 x.client->I64 x.seq->I64 x.set->I64 x.id->I64 x.n->x.chunks.length*(8:Nat)<=q2->x.text.b.length<=q2->I64 q5.version->I64 q5.next->I64 q5.keep->I64 q5.quota->I64 q6.code->I64 q6.n->((dz st (List.take s l)).length+[q6].length)*(16:Nat)<=q2/\I64 ((↑s:Int)+(1:Int))/\∃ (s':Nat),(fun (q7:State)=>(l=l/\(↑q1:Int)=(↑q1:Int)/\(↑s:Int)+(1:Int)=(↑s':Int)/\q5.version=q7.version/\q5.next=q7.next/\q5.keep=q7.keep/\q5.quota=q7.quota/\q0/\q0/\q0/\q0/\q5.sess=q7.sess/\q5.opens=q7.opens/\q5.snaps=q7.snaps/\dz st (List.take s l)++[q6]=dz st (List.take s' l))/\s' <= q1/\q1 - s' < q1 - s) (cZ st (List.take s' l))) (dg q4 x).fst) (dg q4 x).snd)/\((↑q1:Int)<=(↑s:Int)->q4.version=r0/\q4.next=r1/\q4.keep=r2/\q4.quota=r3/\q4.sess=r4/\q4.opens=r5/\q4.snaps=r6/\dz st (List.take s l)=r7)) (cZ st (List.take s l))) (cZ st (List.take s0 l))) ((0:Int)=(0:Int))) l.length) (140737488355328:Nat)):=by kernel_rfl
theorem HQ (st:State) (l:List Command):Sat Tryz.prog (aq aE) 28 [.agg (cellsOf (.nm .state) st),.c (.fz (.nm .command) (l))] [] ⟨[],[.agg ([.int (((cZ st l).version)),.int (((cZ st l).next)),.int (((cZ st l).keep)),.int (((cZ st l).quota)),.own 0,.own 1,.own 2]),.c (.own 3)],some ([.row 44 (.nm .sess) (((cZ st l).sess)),.row 77 (.nm .opn) (((cZ st l).opens)),.row 59 (.nm .snap) (((cZ st l).snaps)),.row 35 (.nm .reply) ((dz st l))]),true⟩:=by
 refine cO eG (FX st l) Tryz.func28 (by decide) (by kernel_rfl) ?_
 rw [Gp]
 (repeat' (first | with_reducible refine And.intro ?_ ?_ | with_reducible refine and_imp.2 ?_ | intro))
 all_goals try (first | (first | with_reducible rfl | with_reducible assumption | omega | (refine ai ?_ ?_ <;> omega)) | exact rfl | exact (congrArg State.version (cg (by with_reducible assumption))) | exact (congrArg State.next (cg (by with_reducible assumption))) | exact (congrArg State.keep (cg (by with_reducible assumption))) | exact (congrArg State.quota (cg (by with_reducible assumption))) | exact (congrArg State.sess (cg (by with_reducible assumption))) | exact (congrArg State.opens (cg (by with_reducible assumption))) | exact (congrArg State.snaps (cg (by with_reducible assumption))) | exact (qn (by with_reducible assumption)) | exact (ke (by with_reducible assumption) (by with_reducible assumption)) | (rw [xU (by omega)]; done))
 all_goals try (refine ⟨0,?_⟩; (repeat' (first | with_reducible refine And.intro ?_ ?_ | with_reducible refine and_imp.2 ?_ | intro)))
 all_goals try (first | (first | with_reducible rfl | with_reducible assumption | omega | (refine ai ?_ ?_ <;> omega)) | exact rfl | exact (congrArg State.version (cg (by with_reducible assumption))) | exact (congrArg State.next (cg (by with_reducible assumption))) | exact (congrArg State.keep (cg (by with_reducible assumption))) | exact (congrArg State.quota (cg (by with_reducible assumption))) | exact (congrArg State.sess (cg (by with_reducible assumption))) | exact (congrArg State.opens (cg (by with_reducible assumption))) | exact (congrArg State.snaps (cg (by with_reducible assumption))) | exact (qn (by with_reducible assumption)) | exact (ke (by with_reducible assumption) (by with_reducible assumption)) | (rw [xU (by omega)]; done))
 all_goals try (refine ⟨‹Nat› + 1,?_⟩; (repeat' (first | with_reducible refine And.intro ?_ ?_ | with_reducible refine and_imp.2 ?_ | intro)))
 all_goals (first | (first | with_reducible rfl | with_reducible assumption | omega | (refine ai ?_ ?_ <;> omega)) | exact rfl | exact (congrArg State.version (cg (by with_reducible assumption))) | exact (congrArg State.next (cg (by with_reducible assumption))) | exact (congrArg State.keep (cg (by with_reducible assumption))) | exact (congrArg State.quota (cg (by with_reducible assumption))) | exact (congrArg State.sess (cg (by with_reducible assumption))) | exact (congrArg State.opens (cg (by with_reducible assumption))) | exact (congrArg State.snaps (cg (by with_reducible assumption))) | exact (qn (by with_reducible assumption)) | exact (ke (by with_reducible assumption) (by with_reducible assumption)) | (rw [xU (by omega)]; done))
theorem BG (st:State) (l:List Command) (r0:Int) (r1:Int) (r2:Int) (r3:Int) (r4:List Sess) (r5:List Opn) (r6:List Snap) (r7:List Reply):lA aE lx (vH st l) Tryz.f29 [.agg (cellsOf (.nm .state) st),.c (.fz (.nm .command) (l))] [] [.agg ([.int (r0),.int (r1),.int (r2),.int (r3),.own 0,.own 1,.own 2]),.c (.own 3)] [.row 44 (.nm .sess) (r4),.row 77 (.nm .opn) (r5),.row 59 (.nm .snap) (r6),.row 35 (.nm .reply) (r7)]=((fun (q2:Nat)=>(fun (q1:Prop)=>(fun (q0:den (Sh.nm NT.command))=>I64 st.version->I64 st.next->I64 st.keep->I64 st.quota->st.sess.length*(32:Nat)<=q2->st.opens.length*(16:Nat)<=q2->st.snaps.length*(64:Nat)<=q2->l.length*(88:Nat)<=q2->I64 st.version->I64 st.next->I64 st.keep->I64 st.quota->∃ (s0:Nat),(fun (q3:State)=>(l=l/\(0:Int)=(↑s0:Int)/\st.version=q3.version/\st.next=q3.next/\st.keep=q3.keep/\st.quota=q3.quota/\q1/\q1/\q1/\q1/\st.sess=q3.sess/\st.opens=q3.opens/\st.snaps=q3.snaps/\dz st (List.take s0 l)=[])/\s0<=l.length/\∀ (s:Nat),(fun (q6:den (Sh.nm NT.command))=>(fun (q5:State)=>(fun (q4:State × Reply)=>s<=l.length->((↑s:Int)<(↑l.length:Int)->((0:Int)<=(↑s:Int)/\(↑s:Int)<(↑l.length:Int))/\(I64 q6.kind->I64 q6.client->I64 q6.seq->I64 q6.set->I64 q6.id->I64 q6.n->q6.chunks.length*(8:Nat)<=q2->q6.text.b.length<=q2->I64 q4.fst.version->I64 q4.fst.next->I64 q4.fst.keep->I64 q4.fst.quota->I64 q4.snd.code->I64 q4.snd.n->((dz st (List.take s l)).length+[q4.snd].length)*(16:Nat)<=q2/\I64 ((↑s:Int)+(1:Int))/\∃ (s':Nat),(fun (q7:State)=>(l=l/\(↑s:Int)+(1:Int)=(↑s':Int)/\q4.fst.version=q7.version/\q4.fst.next=q7.next/\q4.fst.keep=q7.keep/\q4.fst.quota=q7.quota/\q1/\q1/\q1/\q1/\q4.fst.sess=q7.sess/\q4.fst.opens=q7.opens/\q4.fst.snaps=q7.snaps/\dz st (List.take s l)++[q4.snd]=dz st (List.take s' l))/\s' <= l.length/\l.length - s' < l.length - s) (cZ st (List.take s' l))))/\((↑l.length:Int)<=(↑s:Int)->q5.version=r0/\q5.next=r1/\q5.keep=r2/\q5.quota=r3/\q5.sess=r4/\q5.opens=r5/\q5.snaps=r6/\dz st (List.take s l)=r7)) (dg q5 q6)) (cZ st (List.take s l))) (l.getD s q0)) (cZ st (List.take s0 l))) (dflt (Sh.nm NT.command))) ((0:Int)=(0:Int))) (140737488355328:Nat)):=by kernel_rfl
theorem zG (st:State) (l:List Command):Sat Tryz.prog (aq aE) 29 [.agg (cellsOf (.nm .state) st),.c (.fz (.nm .command) (l))] [] ⟨[],[.agg ([.int (((cZ st l).version)),.int (((cZ st l).next)),.int (((cZ st l).keep)),.int (((cZ st l).quota)),.own 0,.own 1,.own 2]),.c (.own 3)],some ([.row 44 (.nm .sess) (((cZ st l).sess)),.row 77 (.nm .opn) (((cZ st l).opens)),.row 59 (.nm .snap) (((cZ st l).snaps)),.row 35 (.nm .reply) ((dz st l))]),true⟩:=by
 refine cO eG (vH st l) Tryz.func29 (by decide) (by kernel_rfl) ?_
 rw [BG]
 (repeat' (first | with_reducible refine And.intro ?_ ?_ | with_reducible refine and_imp.2 ?_ | intro))
 all_goals try (first | (first | with_reducible rfl | with_reducible assumption | omega | (refine ai ?_ ?_ <;> omega)) | exact rfl | exact (congrArg State.version (cr (by with_reducible assumption))) | exact (congrArg State.next (cr (by with_reducible assumption))) | exact (congrArg State.keep (cr (by with_reducible assumption))) | exact (congrArg State.quota (cr (by with_reducible assumption))) | exact (congrArg State.sess (cr (by with_reducible assumption))) | exact (congrArg State.opens (cr (by with_reducible assumption))) | exact (congrArg State.snaps (cr (by with_reducible assumption))) | exact (uc (by with_reducible assumption)) | exact (ke (by with_reducible assumption) (by with_reducible assumption)) | (rw [xU (by omega)]; done))
 all_goals try (refine ⟨0,?_⟩; (repeat' (first | with_reducible refine And.intro ?_ ?_ | with_reducible refine and_imp.2 ?_ | intro)))
 all_goals try (first | (first | with_reducible rfl | with_reducible assumption | omega | (refine ai ?_ ?_ <;> omega)) | exact rfl | exact (congrArg State.version (cr (by with_reducible assumption))) | exact (congrArg State.next (cr (by with_reducible assumption))) | exact (congrArg State.keep (cr (by with_reducible assumption))) | exact (congrArg State.quota (cr (by with_reducible assumption))) | exact (congrArg State.sess (cr (by with_reducible assumption))) | exact (congrArg State.opens (cr (by with_reducible assumption))) | exact (congrArg State.snaps (cr (by with_reducible assumption))) | exact (uc (by with_reducible assumption)) | exact (ke (by with_reducible assumption) (by with_reducible assumption)) | (rw [xU (by omega)]; done))
 all_goals try (refine ⟨‹Nat› + 1,?_⟩; (repeat' (first | with_reducible refine And.intro ?_ ?_ | with_reducible refine and_imp.2 ?_ | intro)))
 all_goals (first | (first | with_reducible rfl | with_reducible assumption | omega | (refine ai ?_ ?_ <;> omega)) | exact rfl | exact (congrArg State.version (cr (by with_reducible assumption))) | exact (congrArg State.next (cr (by with_reducible assumption))) | exact (congrArg State.keep (cr (by with_reducible assumption))) | exact (congrArg State.quota (cr (by with_reducible assumption))) | exact (congrArg State.sess (cr (by with_reducible assumption))) | exact (congrArg State.opens (cr (by with_reducible assumption))) | exact (congrArg State.snaps (cr (by with_reducible assumption))) | exact (uc (by with_reducible assumption)) | exact (ke (by with_reducible assumption) (by with_reducible assumption)) | (rw [xU (by omega)]; done))
theorem zI (a:List Reply) (b:List Reply) (r0:Bool):cG aE lx (vi a b) Tryz.f30 [.c (.fz (.nm .reply) (a)),.c (.fz (.nm .reply) (b))] [] [.c (.bool (.atom (r0)))]=((fun (q2:Nat)=>(fun (q1:Int)=>(fun (q0:den (Sh.nm NT.reply))=>a.length*(16:Nat)<=(140737488355328:Nat)->b.length*(16:Nat)<=(140737488355328:Nat)->(¬q1=(↑b.length:Int)->false=r0)/\(q1=(↑b.length:Int)->∃ (s0:Nat),(a=a/\b=b/\(0:Int)=(↑s0:Int))/\(s0<=q2/\q2=b.length/\List.take s0 a=List.take s0 b)/\∀ (s:Nat),(fun (q4:den (Sh.nm NT.reply))=>(fun (q3:den (Sh.nm NT.reply))=>s<=q2/\q2=b.length/\List.take s a=List.take s b->((↑s:Int)<q1->(0:Int)<=(↑s:Int)/\(↑s:Int)<q1/\(0:Int)<=(↑s:Int)/\(↑s:Int)<(↑b.length:Int)/\(I64 q3.code->I64 q3.n->I64 q4.code->I64 q4.n->(¬q3.code=q4.code\/¬q3.n=q4.n->false=r0)/\(q3.code=q4.code/\q3.n=q4.n->I64 ((↑s:Int)+(1:Int))/\∃ (s':Nat),(a=a/\b=b/\(↑s:Int)+(1:Int)=(↑s':Int))/\(s' <= q2/\q2=b.length/\List.take s' a=List.take s' b)/\q2 - s' < q2 - s)))/\(q1<=(↑s:Int)->true=r0)) (a.getD s q0)) (b.getD s q0))) (dflt (Sh.nm NT.reply))) (↑a.length:Int)) a.length):=by kernel_rfl
theorem Cl (a:List Reply) (b:List Reply):Sat Tryz.prog (aq aE) 30 [.c (.fz (.nm .reply) (a)),.c (.fz (.nm .reply) (b))] [] ⟨[],[.c (.bool (.atom ((decide (a=b)))))],none,false⟩:=by
 refine aO eG (vi a b) Tryz.func30 (by decide) (by kernel_rfl) ?_
 rw [zI]
 (repeat' (first | with_reducible refine And.intro ?_ ?_ | with_reducible refine and_imp.2 ?_ | intro))
 all_goals try (first | (first | with_reducible rfl | with_reducible assumption | omega | (refine ai ?_ ?_ <;> omega)) | exact rfl | exact (jU (by with_reducible assumption)) | exact (zL (by with_reducible assumption) (by with_reducible assumption) (by with_reducible assumption) (by omega) (by omega)) | exact (zX (by assumption)) | exact (fu (by omega) (by with_reducible assumption) (by omega)))
 all_goals try (refine ⟨0,?_⟩; (repeat' (first | with_reducible refine And.intro ?_ ?_ | with_reducible refine and_imp.2 ?_ | intro)))
 all_goals try (first | (first | with_reducible rfl | with_reducible assumption | omega | (refine ai ?_ ?_ <;> omega)) | exact rfl | exact (jU (by with_reducible assumption)) | exact (zL (by with_reducible assumption) (by with_reducible assumption) (by with_reducible assumption) (by omega) (by omega)) | exact (zX (by assumption)) | exact (fu (by omega) (by with_reducible assumption) (by omega)))
 all_goals try (refine ⟨‹Nat› + 1,?_⟩; (repeat' (first | with_reducible refine And.intro ?_ ?_ | with_reducible refine and_imp.2 ?_ | intro)))
 all_goals (first | (first | with_reducible rfl | with_reducible assumption | omega | (refine ai ?_ ?_ <;> omega)) | exact rfl | exact (jU (by with_reducible assumption)) | exact (zL (by with_reducible assumption) (by with_reducible assumption) (by with_reducible assumption) (by omega) (by omega)) | exact (zX (by assumption)) | exact (fu (by omega) (by with_reducible assumption) (by omega)))
def wM:cK:=(bE 30 (bz (aj (kC (cL (.nm .reply))) (aj (kC (cL (.nm .reply))) aL)) aM fun (a,b,_) (_)=>⟨[],[.c (.bool (.atom ((decide (a=b)))))],none,false⟩) (bE 29 (bz (aj (kT (.nm .state)) (aj (kC (cL (.nm .command))) aL)) aM fun (st,l,_) (_)=>⟨[],[.agg ([.int (((cZ st l).version)),.int (((cZ st l).next)),.int (((cZ st l).keep)),.int (((cZ st l).quota)),.own 0,.own 1,.own 2]),.c (.own 3)],some ([.row 44 (.nm .sess) (((cZ st l).sess)),.row 77 (.nm .opn) (((cZ st l).opens)),.row 59 (.nm .snap) (((cZ st l).snaps)),.row 35 (.nm .reply) ((dz st l))]),true⟩) (bE 28 (bz (aj (kT (.nm .state)) (aj (kC (cL (.nm .command))) aL)) aM fun (st,l,_) (_)=>⟨[],[.agg ([.int (((cZ st l).version)),.int (((cZ st l).next)),.int (((cZ st l).keep)),.int (((cZ st l).quota)),.own 0,.own 1,.own 2]),.c (.own 3)],some ([.row 44 (.nm .sess) (((cZ st l).sess)),.row 77 (.nm .opn) (((cZ st l).opens)),.row 59 (.nm .snap) (((cZ st l).snaps)),.row 35 (.nm .reply) ((dz st l))]),true⟩) (bE 78 (bz aL aM fun (_) (_)=>⟨[],[.c (.fz (.nm .command) ((cf)))],none,false⟩) (bE 26 (bz (aj (kT (.nm .state)) aL) aM fun (st,_) (_)=>⟨[],[.agg (cellsOf (.nm .state) (dG st))],none,false⟩) (bE 79 (bz (aj (kT (.nm .command)) aL) aM fun (c,_) (_)=>⟨[],[.agg (cellsOf (.nm .command) (iu c))],none,false⟩) lx))))))
theorem nh:aV Tryz.prog (aq aE) wM:=(ax (aw (ab (av bn) (ab (av bn) ak)) al fun (a,b,_) (_) _=>Cl a b ) (ax (aw (ab bf (ab (av bn) ak)) al fun (st,l,_) (_) _=>zG st l ) (ax (aw (ab bf (ab (av bn) ak)) al fun (st,l,_) (_) _=>HQ st l ) (ax (aw ak al fun (_) (_) _=>Dr  ) (ax (aw (ab bf ak) al fun (st,_) (_) _=>AY st ) (ax (aw (ab bf ak) al fun (c,_) (_) _=>EO c ) eG))))))
end Go.Proofs.YtdggohppeeaipaaGreat
namespace Go.Proofs.YtdggohppeeaipaaGreat
open Go.RowKit
theorem Lf:cZ (State.mk 1 1 0 0 [] [] []) cf=State.mk 1 1 0 0 [Sess.mk 1 1 (Reply.mk 0 0)] [Opn.mk 2 1] []:=by kernel_rfl
theorem Lw:dz (State.mk 1 1 0 0 [] [] []) cf=[Reply.mk 0 0,Reply.mk 0 0,Reply.mk 0 0]:=by kernel_rfl
def Cs (l:List Command):List (Nat × LI):=[(3,{ σ:=Nat,F:=fun k=>([(0,one (.fz (.nm .command) (l))),(3,one (.own 0)),(4,one (.int k))],[.row 29 (.nm .command) (((l.take k).map iu))]),J:=fun k=>k<=l.length/\k<=40,μ:=fun k=>l.length - k })]
theorem Eh (l:List Command) (r0:List Command):cG aE wM (Cs l) Tryz.f27 [.c (.fz (.nm .command) (l))] [] [.c (.fz (.nm .command) (r0))]=((fun (q0:Nat)=>l.length*(88:Nat)<=q0->∃ (s0:Nat),(l=l/\(0:Int)=(↑s0:Int)/\List.map iu (List.take s0 l)=[])/\(s0<=l.length/\s0<=(40:Nat))/\∀ (s:Nat),s<=l.length/\s<=(40:Nat)->((↑s:Int)<(↑l.length:Int)/\(↑s:Int)<(40:Int)->(0:Int)<=(↑s:Int)/\(↑s:Int)<(↑l.length:Int)/\∀ (x:Command),(fun (q1:Command)=>l[s]? = some x->I64 x.kind->I64 x.client->I64 x.seq->I64 x.set->I64 x.id->I64 x.n->x.chunks.length*(8:Nat)<=q0->x.text.b.length<=q0->I64 q1.kind->I64 q1.client->I64 q1.seq->I64 q1.set->I64 q1.id->I64 q1.n->q1.chunks.length*(8:Nat)<=q0->q1.text.b.length<=q0->((List.map iu (List.take s l)).length+[q1].length)*(88:Nat)<=q0/\I64 ((↑s:Int)+(1:Int))/\∃ (s':Nat),(l=l/\(↑s:Int)+(1:Int)=(↑s':Int)/\List.map iu (List.take s l)++[q1]=List.map iu (List.take s' l))/\(s' <= l.length/\s' <= (40:Nat))/\l.length - s' < l.length - s) (iu x))/\((↑l.length:Int)<=(↑s:Int)\/(40:Int)<=(↑s:Int)->List.map iu (List.take s l)=r0)) (140737488355328:Nat)):=by kernel_rfl
theorem DJ (l:List Command):Sat Tryz.prog (aq aE) 27 [.c (.fz (.nm .command) (l))] [] ⟨[],[.c (.fz (.nm .command) ((tw l)))],none,false⟩:=by
 refine aO nh (Cs l) Tryz.func27 (by decide) (by kernel_rfl) ?_
 rw [Eh]
 (repeat' (first | with_reducible refine And.intro ?_ ?_ | with_reducible refine and_imp.2 ?_ | intro))
 all_goals try (first | (first | with_reducible rfl | with_reducible assumption | omega | (refine ai ?_ ?_ <;> omega)) | exact rfl | exact (BN (by with_reducible assumption)) | exact (Iw (by omega) (by omega)) | (simp only [List.length_map,List.length_take,List.length_cons,List.length_nil]; omega))
 all_goals try (refine ⟨0,?_⟩; (repeat' (first | with_reducible refine And.intro ?_ ?_ | with_reducible refine and_imp.2 ?_ | intro)))
 all_goals try (first | (first | with_reducible rfl | with_reducible assumption | omega | (refine ai ?_ ?_ <;> omega)) | exact rfl | exact (BN (by with_reducible assumption)) | exact (Iw (by omega) (by omega)) | (simp only [List.length_map,List.length_take,List.length_cons,List.length_nil]; omega))
 all_goals try (refine ⟨‹Nat› + 1,?_⟩; (repeat' (first | with_reducible refine And.intro ?_ ?_ | with_reducible refine and_imp.2 ?_ | intro)))
 all_goals (first | (first | with_reducible rfl | with_reducible assumption | omega | (refine ai ?_ ?_ <;> omega)) | exact rfl | exact (BN (by with_reducible assumption)) | exact (Iw (by omega) (by omega)) | (simp only [List.length_map,List.length_take,List.length_cons,List.length_nil]; omega))
theorem wY  (r0:Bool):cG aE wM [] Tryz.f25 [] [] [.c (.bool (.atom (r0)))]=((fun (q6:Int)=>(fun (q5:Int)=>(fun (q4:Nat)=>(fun (q3:Nat)=>(fun (q2:Int)=>(fun (q1:den (Sh.nm NT.reply))=>(fun (q0:State)=>I64 q5->I64 q5->I64 q2->I64 q2->(0:Nat)*(32:Nat)<=(140737488355328:Nat)->(0:Nat)*(16:Nat)<=(140737488355328:Nat)->(0:Nat)*(64:Nat)<=(140737488355328:Nat)->cf.length*(88:Nat)<=(140737488355328:Nat)->I64 (cZ q0 cf).version->I64 (cZ q0 cf).next->I64 (cZ q0 cf).keep->I64 (cZ q0 cf).quota->((↑(dz q0 cf).length:Int)=q6->q2<=q2/\q2<(↑(dz q0 cf).length:Int))/\(((↑(dz q0 cf).length:Int)=q6->I64 ((dz q0 cf).getD q3 q1).code/\I64 ((dz q0 cf).getD q3 q1).n)->((↑(dz q0 cf).length:Int)=q6/\((dz q0 cf).getD q3 q1).code=q2/\((dz q0 cf).getD q3 q1).n=q2->q2<=(2:Int)/\(2:Int)<(↑(dz q0 cf).length:Int))/\(((↑(dz q0 cf).length:Int)=q6/\((dz q0 cf).getD q3 q1).code=q2/\((dz q0 cf).getD q3 q1).n=q2->I64 ((dz q0 cf).getD q4 q1).code/\I64 ((dz q0 cf).getD q4 q1).n)->((((↑(dz q0 cf).length:Int)=q6/\((dz q0 cf).getD q3 q1).code=q2/\((dz q0 cf).getD q3 q1).n=q2)/\((dz q0 cf).getD q4 q1).code=q2/\((dz q0 cf).getD q4 q1).n=q2)/\(↑(cZ q0 cf).opens.length:Int)=q5->q2<=q2/\q2<(↑(cZ q0 cf).opens.length:Int))/\(((((↑(dz q0 cf).length:Int)=q6/\((dz q0 cf).getD q3 q1).code=q2/\((dz q0 cf).getD q3 q1).n=q2)/\((dz q0 cf).getD q4 q1).code=q2/\((dz q0 cf).getD q4 q1).n=q2)/\(↑(cZ q0 cf).opens.length:Int)=q5->I64 ((cZ q0 cf).opens.getD q3 (dflt (Sh.nm NT.opn))).set/\I64 ((cZ q0 cf).opens.getD q3 (dflt (Sh.nm NT.opn))).client)->(decide ((↑(dz q0 cf).length:Int)=q6) && (decide (((dz q0 cf).getD q3 q1).code=q2) && decide (((dz q0 cf).getD q3 q1).n=q2)) && (decide (((dz q0 cf).getD q4 q1).code=q2) && decide (((dz q0 cf).getD q4 q1).n=q2)) && decide ((↑(cZ q0 cf).opens.length:Int)=q5) && decide (((cZ q0 cf).opens.getD q3 (dflt (Sh.nm NT.opn))).set=(2:Int)))=r0)))) (State.mk q5 q5 q2 q2 [] [] [])) (dflt (Sh.nm NT.reply))) (0:Int)) (0:Nat)) (2:Nat)) (1:Int)) (3:Int)):=by kernel_rfl
theorem xW :Sat Tryz.prog (aq aE) 25 [] [] ⟨[],[.c (.bool (.atom ((true))))],none,false⟩:=by
 refine aO nh [] Tryz.func25 (by decide) (by kernel_rfl) ?_
 rw [wY]
 simp only [Lf,Lw]
 (repeat' (first | with_reducible refine And.intro ?_ ?_ | with_reducible refine and_imp.2 ?_ | intro))
 all_goals first | (first | with_reducible rfl | with_reducible assumption | omega | (refine ai ?_ ?_ <;> omega)) | decide | rfl
def Ft:cK:=(bE 25 (bz aL aM fun (_) (_)=>⟨[],[.c (.bool (.atom ((true))))],none,false⟩) (bE 27 (bz (aj (kC (cL (.nm .command))) aL) aM fun (l,_) (_)=>⟨[],[.c (.fz (.nm .command) ((tw l)))],none,false⟩) wM))
theorem Cy:aV Tryz.prog (aq aE) Ft:=(ax (aw ak al fun (_) (_) _=>xW  ) (ax (aw (ab (av bn) ak) al fun (l,_) (_) _=>DJ l ) nh))
end Go.Proofs.YtdggohppeeaipaaGreat
namespace Go.Proofs.YtdggohppeeaipaaGreat
open Go.RowKit
theorem DB (st:State) (l:List Command) (r0:Bool):cG aE Ft [] Tryz.f7 [.agg (cellsOf (.nm .state) st),.c (.fz (.nm .command) (l))] [] [.c (.bool (.atom (r0)))]=((fun (q2:Nat)=>(fun (q1:State)=>(fun (q0:State)=>I64 st.version->I64 st.next->I64 st.keep->I64 st.quota->st.sess.length*(32:Nat)<=q2->st.opens.length*(16:Nat)<=q2->st.snaps.length*(64:Nat)<=q2->l.length*(88:Nat)<=q2->I64 q1.version->I64 q1.next->I64 q1.keep->I64 q1.quota->q1.sess.length*(32:Nat)<=q2->q1.opens.length*(16:Nat)<=q2->q1.snaps.length*(64:Nat)<=q2->(tw l).length*(88:Nat)<=q2->I64 q0.version->I64 q0.next->I64 q0.keep->I64 q0.quota->I64 q0.version->I64 q0.next->I64 q0.keep->I64 q0.quota->(true && decide (q0=q0) && decide (dz q1 (tw l)=dz q1 (tw l)))=r0) (cZ q1 (tw l))) (dG st)) (140737488355328:Nat)):=by kernel_rfl
theorem CW (st:State) (l:List Command):Sat Tryz.prog (aq aE) 7 [.agg (cellsOf (.nm .state) st),.c (.fz (.nm .command) (l))] [] ⟨[],[.c (.bool (.atom ((true))))],none,false⟩:=by
 refine aO Cy [] Tryz.func7 (by decide) (by kernel_rfl) ?_
 rw [DB]
 (repeat' (first | with_reducible refine And.intro ?_ ?_ | with_reducible refine and_imp.2 ?_ | intro))
 all_goals (first | (first | with_reducible rfl | with_reducible assumption | omega | (refine ai ?_ ?_ <;> omega)) | (simp only [decide_true,Bool.and_self]; done))
end Go.Proofs.YtdggohppeeaipaaGreat
namespace Go.Proofs.YtdggohppeeaipaaGreat
open Go.RowKit Go.ChangeShapes Go.WideShapes
def vo (shp:TypeId->Option Sh) (w:World):Cx:=cx ⟨shp,w.heap.size,fun _=>False⟩ [] w
theorem GN {shp:TypeId->Option Sh} {w:World} {s:Sh} {b:Nat} (h:b<w.heap.size):(vo shp w).at s b:=⟨⟨h,fun ⟨_,_,h,_⟩=>by simp at h,fun h=>h⟩,.inl h⟩
def Tr (P:Program) (shp:TypeId->Option Sh) (t:TypeId) (s:Sh):Prop:=
 ∀ (H:Type) (enc:TypeId × Value->H) (w:World) (fuel:Nat) (cs:List Value) (x:DataW H × List MemPlace),
  DataW.trod enc P w 0 (fun _=>true) true fuel t cs=some x->(∀ n ∈ x.1.weights P t,n<=140737488351232)->(∀ q ∈ x.2,q.block<w.heap.size)->∃ y:den s,Pds (vo shp w) (cellsOf s y) cs
def Gh:List Sh->List AV->Prop
 | [],asx=>asx=[]
 | s :: r,asx=>∃ (y:den s) (l:List AV),asx=cellsOf s y++l/\Gh r l
def JO:List Sh->Nat
 | []=>0
 | s :: r=>s.size+JO r
def fU (P:Program) (shp:TypeId->Option Sh) (fs:List Go.Field) (o:Nat) (ss:List Sh):Prop:=
 ∀ (H:Type) (enc:TypeId × Value->H) (w:World) (fuel:Nat) (cs:List Value) (xs:List (DataW H × List MemPlace)),
  cs.length=o+JO ss->xs.length=fs.length->(∀ (i:Nat) (f:Go.Field),fs[i]? = some f->DataW.trod enc P w 0 (fun _=>true) true fuel f.type ((cs.drop f.offset).take (P.cellsOf f.type))=xs[i]?) ->
  (∀ n ∈ DataW.weightsEach P (fs.map (·.type)) (xs.map (·.1)),n<=140737488351232)->(∀ q ∈ xs.flatMap (·.2),q.block<w.heap.size)->∃ asx,Gh ss asx/\Pds (vo shp w) asx (cs.drop o)
section
variable {P:Program} {shp:TypeId->Option Sh} {t:TypeId}
theorem Tr.int (h:P.underlying t=some (.int .i64)):Tr P shp t .int:=fun _ enc w fuel cs x hx _ _=>by
 obtain ⟨n,rfl,_,hw⟩:=DataW.trod_int h hx
 have h1:IntKind.i64.min = -9223372036854775808:=rfl
 have h2:IntKind.i64.max=9223372036854775807:=rfl
 simp only [Lit.wf,Bool.and_eq_true,decide_eq_true_eq] at hw
 exact ⟨n,.cons (.int ⟨by omega,by omega⟩) .nil⟩
theorem Tr.bool (h:P.underlying t=some .bool):Tr P shp t .bool:=fun _ enc w fuel cs x hx _ _=>by
 obtain ⟨n,rfl,_⟩:=DataW.trod_bool h hx
 exact ⟨n,.cons (Pd.bool (e:=.atom n)) .nil⟩
theorem Tr.u8 (h:P.underlying t=some (.int .u8)):Tr P shp t .u8:=fun _ enc w fuel cs x hx _ _=>by
 obtain ⟨n,rfl,_,hw⟩:=DataW.trod_int h hx
 have h1:IntKind.u8.min=0:=rfl
 have h2:IntKind.u8.max=255:=rfl
 simp only [Lit.wf,Bool.and_eq_true,decide_eq_true_eq] at hw
 refine ⟨UInt8.ofNat n.toNat,?_⟩
 have:n=((UInt8.ofNat n.toNat).toNat:Int):=by
  rw [UInt8.toNat_ofNat']; omega
 generalize hg:UInt8.ofNat n.toNat=b at this
 subst this
 exact .cons .u8 .nil
theorem Tr.u64 (h:P.underlying t=some (.int .u64)):Tr P shp t .u64:=fun _ enc w fuel cs x hx _ _=>by
 obtain ⟨n,rfl,_,hw⟩:=DataW.trod_int h hx
 have h1:IntKind.u64.min=0:=rfl
 have h2:IntKind.u64.max=18446744073709551615:=rfl
 simp only [Lit.wf,Bool.and_eq_true,decide_eq_true_eq] at hw
 refine ⟨⟨n.toNat⟩,?_⟩
 have:n=(n.toNat:Int):=by omega
 generalize hg:n.toNat=b at this
 subst this
 exact .cons (.u64 (by show b<_; omega)) .nil
theorem Tr.str (h:P.underlying t=some .string):Tr P shp t .str:=fun _ enc w fuel cs x hx hw _=>by
 obtain ⟨s,rfl,hx,_⟩:=DataW.trod_string h hx
 refine ⟨⟨s.data.toList⟩,?_⟩
 have:=hw s.data.toList.length (by rw [hx]; simp [DataW.weights])
 have e:=Pd.str (c:=vo shp w) (s:=⟨s.data.toList⟩) (by show s.data.toList.length<=_; omega)
 have e2:(⟨s.data.toList⟩:Str).val = .string s:=by simp [Str.val]
 rw [e2] at e
 exact .cons e .nil
theorem gA {H:Type} {e:TypeId}:∀ {ds:List (DataW H)} {d:DataW H},d ∈ ds->∀ n ∈ d.weights P e,n ∈ DataW.weightsAll P e ds
 | [],_,h,_,_=>by cases h
 | d0 :: ds,d,h,n,hn=>by
  rw [DataW.weightsAll,List.mem_append]
  rcases List.mem_cons.1 h with rfl | h
  ·exact .inl hn
  ·exact .inr (gA h n hn)
theorem xa {s:Sh} {xs:List (den s)} {y:den s}:(xs++[y]).flatMap (cellsOf s)=xs.flatMap (cellsOf s)++cellsOf s y:=by simp
theorem Tr.list {e:TypeId} {s:Sh} (ht:P.underlying t=some (.slice e)) (hC:P.cellsOf e=s.size) (hB:P.bytesOf e=s.bytes) (he:Tr P shp e s):Tr P shp t (.lst s):=fun H enc w fuel cs x hx hw hlt=>by
 have hp:=size_pos s
 rcases DataW.trod_slice ht hx with ⟨rfl,_⟩ | ⟨a,len,cap,elems,rest,n,rfl,rfl,rfl,_,hl,hc,hel,hget,hrest,_⟩
 ·exact ⟨([]:List (den s)),.cons (Pd.pU (.em (a:=none) (b:=true) rfl)) .nil⟩
 ·rw [hC] at *
  have step:∀ m,m<=len->∃ (cells:List Value) (xs:List (den s)),Pds (vo shp w) (xs.flatMap (cellsOf s)) cells/\xs.length=m/\CellsAt w a cells:=by
   intro m
   induction m with
   | zero=>intro _; exact ⟨[],[],.nil,rfl,CellsAt.nil⟩
   | succ m ih=>
    intro hm
    obtain ⟨cells,xs,h1,h2,h3⟩:=ih (by omega)
    have hg:=hget m (by omega)
    have hem:elems[m]? = some (elems[m]'(by omega)):=List.getElem?_eq_getElem (by omega)
    rw [hem,Option.bind_eq_some_iff] at hg
    obtain ⟨cs,hcs,htr⟩:=hg
    have hmem:elems[m]'(by omega) ∈ elems:=List.getElem_mem _
    obtain ⟨y,hy⟩:=he H enc w n cs _ htr
     (fun k hk=>hw k (by
      simp only [DataW.weights,ht,List.mem_cons,List.mem_append]
      exact .inr (.inl (gA (List.mem_map_of_mem hmem) k hk))))
     (fun q hq=>hlt q (by
      simp only [List.mem_append,List.mem_flatMap]
      exact .inr ⟨_,.inl hmem,hq⟩))
    obtain ⟨_,hcl,hat⟩:=World.cells?_some hcs
    refine ⟨cells++cs,xs++[y],by rw [xa]; exact h1.append hy,by simp [h2],fun j v hv=>?_⟩
    have hfl:cells.length=m*s.size:=by rw [<- h1.length,bM,h2]
    by_cases hj:j<m*s.size
    ·rw [List.getElem?_append_left (by omega)] at hv
     exact h3 j v hv
    ·rw [List.getElem?_append_right (by omega),hfl] at hv
     have hj2:=Be hv
     have:=hat (j - m*s.size) (by omega)
     rw [hv,add_add,show m*s.size+(j - m*s.size)=j by omega] at this
     exact this
  obtain ⟨cells,xs,h1,h2,h3⟩:=step len (Nat.le_refl _)
  have hwt:(elems.length+rest.length)*P.bytesOf e<=140737488351232:=hw _ (by simp [DataW.weights,ht])
  refine ⟨xs,.cons ?_ .nil⟩
  subst h2
  refine .fz (by omega) hc ?_ h1 ?_
  ·rw [hB] at hwt
   have:xs.length*s.bytes<=(elems.length+rest.length)*s.bytes:=Nat.mul_le_mul_right _ (by omega)
   omega
  ·by_cases h0:xs.length=0
   ·left; exact List.eq_nil_of_length_eq_zero h0
   ·right
    refine ⟨a,rfl,GN ?_,h3⟩
    have:MemPlace.cell a.block (a.off+0) ∈ MemPlace.row a ((elems.length+rest.length)*s.size):=MemPlace.mem_row.2 ⟨0,Nat.mul_pos (by omega) hp,rfl⟩
    exact hlt _ (List.mem_append_left _ this)
theorem fU.nil {o:Nat}:fU P shp [] o []:=fun H enc w fuel cs xs hl _ _ _ _=>⟨[],rfl,by rw [List.drop_eq_nil_of_le (by simp only [JO] at hl; omega)]; exact .nil⟩
theorem fU.cons {f:Go.Field} {fs:List Go.Field} {o:Nat} {s:Sh} {ss:List Sh} (h:Tr P shp f.type s) (ho:f.offset=o) (hC:P.cellsOf f.type=s.size) (hr:fU P shp fs (o+s.size) ss):fU P shp (f :: fs) o (s :: ss):=fun H enc w fuel cs xs hl hx hf hw hlt=>by
 match xs,hx with
 | x :: xs,hx=>
  have hl':cs.length=o+(s.size+JO ss):=hl
  have h1:=hf 0 f rfl
  rw [ho,hC] at h1
  obtain ⟨y,hy⟩:=h H enc w fuel _ x h1 (fun n hn=>hw n (by simp [DataW.weightsEach,hn])) (fun q hq=>hlt q (by simp [hq]))
  obtain ⟨z,hz1,hz2⟩:=hr H enc w fuel cs xs (by omega) (by simpa using hx) (fun i f' hi=>by simpa using hf (i+1) f' (by simpa using hi)) (fun n hn=>hw n (by simp only [List.map_cons,DataW.weightsEach,List.mem_append]; exact .inr hn)) (fun q hq=>hlt q (by simp only [List.flatMap_cons,List.mem_append]; exact .inr hq))
  refine ⟨cellsOf s y++z,⟨y,z,rfl,hz1⟩,?_⟩
  have:=hy.append hz2
  rwa [<- List.drop_drop,List.take_append_drop] at this
theorem Tr.struct {s:Sh} {ss:List Sh} {fs:Array Go.Field} (ht:P.underlying t=some (.struct fs)) (hC:P.cellsOf t=JO ss) (hs:∀ asx,Gh ss asx->∃ y:den s,asx=cellsOf s y) (h:fU P shp fs.toList 0 ss):Tr P shp t s:=fun H enc w fuel cs x hx hw hlt=>by
 obtain ⟨xs,n,_,rfl,hl,hxl,hf⟩:=DataW.trod_struct ht hx
 obtain ⟨asx,h1,h2⟩:=h H enc w n cs xs (by omega) (by simpa using hxl) (fun i f hi=>hf i f (by simpa using hi)) (fun k hk=>hw k (by simpa [DataW.weights,ht] using hk)) hlt
 obtain ⟨y,rfl⟩:=hs asx h1
 exact ⟨y,by simpa using h2⟩
end
section
variable {H:Type} {enc:TypeId × Value->H} {P:Program} {shp:TypeId->Option Sh}
structure Ar (enc:TypeId × Value->H) (P:Program) (W:World) (t:TypeId) (v:Value):Prop where
 form:∃ base,Value.okWide P W .any base t v
 read:∃ d p fuel,DataW.trod enc P W 0 (fun _=>true) true fuel t v.cells.toList=some (d,p)/\(∀ n ∈ d.weights P t,n<=140737488351232)/\(∀ q ∈ p,q.block<W.heap.size)
variable {W:World} {t:TypeId} {v:Value}
theorem Ar.rp {s:Sh} (h:Ar enc P W t v) (ht:Tr P shp t s):∃ y:den s,Pds (vo shp W) (cellsOf s y) v.cells.toList:=by
 obtain ⟨d,p,fuel,h1,h2,h3⟩:=h.read
 exact ht H enc W fuel _ _ h1 h2 h3
theorem uC {a:AV} {u:Value} (h:Pds (vo shp W) [a] [u]):cF (vo shp W) [] (.c a) u:=by cases h with | cons h1 _=>exact gv h1
theorem Ar.int (h:Ar enc P W t v) (ht:P.underlying t=some (.int .i64)):∃ y:Int,cF (vo shp W) [] (.c (.int y)) v:=by
 obtain ⟨base,hf⟩:=h.form
 obtain ⟨n,rfl⟩:=okWide_int ht hf
 obtain ⟨y,h1⟩:=h.rp (shp:=shp) (Tr.int ht)
 exact ⟨y,uC (by simpa [Value.cells,cellsOf] using h1)⟩
theorem Ar.u8 (h:Ar enc P W t v) (ht:P.underlying t=some (.int .u8)):∃ y:UInt8,cF (vo shp W) [] (.c (.u8 y)) v:=by
 obtain ⟨base,hf⟩:=h.form
 obtain ⟨n,rfl⟩:=okWide_int ht hf
 obtain ⟨y,h1⟩:=h.rp (shp:=shp) (Tr.u8 ht)
 exact ⟨y,uC (by simpa [Value.cells,cellsOf] using h1)⟩
theorem Ar.bool (h:Ar enc P W t v) (ht:P.underlying t=some .bool):∃ y:Bool,cF (vo shp W) [] (.c (.bool (.atom y))) v:=by
 obtain ⟨base,hf⟩:=h.form
 obtain ⟨b,rfl⟩:=okWide_bool ht hf
 exact ⟨b,Pd.bool (e:=.atom b)⟩
theorem Ar.list {e:TypeId} {s:Sh} (h:Ar enc P W t v) (hu:P.underlying t=some (.slice e)) (ht:Tr P shp t (.lst s)):∃ xs:List (den s),cF (vo shp W) [] (.c (.fz s xs)) v:=by
 obtain ⟨base,hf⟩:=h.form
 obtain ⟨a,len,cap,rfl⟩:=okWide_slice hu hf
 obtain ⟨y,h1⟩:=h.rp ht
 exact ⟨y,uC (by simpa [Value.cells,cellsOf] using h1)⟩
theorem Ar.struct {s:Sh} {fs:Array Go.Field} (h:Ar enc P W t v) (hu:P.underlying t=some (.struct fs)) (ht:Tr P shp t s):∃ x:den s,cF (vo shp W) [] (.agg (cellsOf s x)) v:=by
 obtain ⟨base,hf⟩:=h.form
 obtain ⟨cs,rfl,_⟩:=okWide_struct hu hf
 obtain ⟨y,h1⟩:=h.rp ht
 exact ⟨y,cs.toList,by simp,dW (by simpa [Value.cells] using h1)⟩
theorem El {f:Nat} {args:List TV1} {pre:List Prop} {e:BE} {vs:List Value} (h:Sat P shp f args [] ⟨pre,[.c (.bool e)],none,false⟩) (he:e.val=true) (hv:All2 (cF (vo shp W) []) args vs):g_ P f vs.toArray W fun r W'=>r = .bool true/\Kp [] W W':=by
 refine (h.2 ⟨shp,W.heap.size,fun _=>False⟩ [] W vs rfl ⟨.nil,fun _ _ _ _ _ h=>by simp at h,fun _ _ _ h=>by simp at h,fun _ h=>h.elim,Nat.le_refl _⟩ hv).mono fun v w' ⟨us,h1,h2,h3⟩=>⟨?_,h2⟩
 cases h3 with | cons h4 h5=>
 cases h5
 have h4:Pd _ (.bool e) _:=h4
 cases h4
 rw [h1,he]; rfl
theorem EN {base:Nat} {ts:List TypeId} {args:Array Value} {ds:List (DataW H)} {p:List MemPlace} (hf:∀ (j:Nat) t v,ts[j]? = some t->args[j]? = some v->Value.okWide P W .any base t v)
  (h:DataW.TrodAll enc P W 0 (fun _=>true) true ts args.toList ds p) (hw:∀ n ∈ DataW.weightsEach P ts ds,n<=140737488351232) (hlt:∀ q ∈ p,q.block<W.heap.size) :
  args.size=ts.length/\∀ (j:Nat) t v,ts[j]? = some t->args[j]? = some v->Ar enc P W t v:=by
 have key:∀ (ts:List TypeId) (vs:List Value) (ds:List (DataW H)) (p:List MemPlace),DataW.TrodAll enc P W 0 (fun _=>true) true ts vs ds p->(∀ n ∈ DataW.weightsEach P ts ds,n<=140737488351232)->(∀ q ∈ p,q.block<W.heap.size) ->
   vs.length=ts.length/\∀ (j:Nat) t v,ts[j]? = some t->vs[j]? = some v->∃ d p fuel,DataW.trod enc P W 0 (fun _=>true) true fuel t v.cells.toList=some (d,p)/\(∀ n ∈ d.weights P t,n<=140737488351232)/\(∀ q ∈ p,q.block<W.heap.size):=by
  intro ts
  induction ts with
  | nil=>intro vs ds p h _ _; obtain ⟨rfl,_,_⟩:=trodAll_nil h; exact ⟨rfl,fun j t v h=>by simp at h⟩
  | cons t ts ih=>
   intro vs ds p h hw hlt
   obtain ⟨v,vs,d,ds,p1,p2,rfl,rfl,rfl,h1,h2⟩:=trodAll_cons h
   obtain ⟨k1,k2⟩:=ih vs ds p2 h2 (fun n hn=>hw n (by rw [DataW.weightsEach,List.mem_append]; exact .inr hn)) (fun q hq=>hlt q (List.mem_append_right _ hq))
   refine ⟨by simp [k1],fun j t' v' ht hv=>?_⟩
   cases j with
   | zero=>
    simp at ht hv
    subst ht; subst hv
    obtain ⟨fuel,hf⟩:=h1
    exact ⟨d,p1,fuel,hf,fun n hn=>hw n (by rw [DataW.weightsEach,List.mem_append]; exact .inl hn),fun q hq=>hlt q (List.mem_append_left _ hq)⟩
   | succ j=>exact k2 j t' v' (by simpa using ht) (by simpa using hv)
 obtain ⟨k1,k2⟩:=key ts args.toList ds p h hw hlt
 exact ⟨by simpa using k1,fun j t v ht hv=>⟨⟨base,hf j t v ht hv⟩,k2 j t v ht (by simpa using hv)⟩⟩
theorem w_ (hl:laidOutB P=true) {W':World} (hb:Below W.heap.size W W'):∀ (ts:List TypeId) (vs:List Value) (ds:List (DataW H)) (p:List MemPlace),ts.all (fun t=>P.readableRec t && decide (t<P.types.size))=true->DataW.TrodAll enc P W 0 (fun _=>true) true ts vs ds p->(∀ q ∈ p,q.block<W.heap.size) ->
  DataW.TrodAll enc P W' 0 (fun b=>decide (b<W.heap.size)) true ts vs ds p:=by
 intro ts
 induction ts with
 | nil=>intro vs ds p _ h _; obtain ⟨rfl,rfl,rfl⟩:=trodAll_nil h; rfl
 | cons t ts ih=>
  intro vs ds p hr h hlt
  obtain ⟨v,vs,d,ds,p1,p2,rfl,rfl,rfl,h1,h2⟩:=trodAll_cons h
  rw [List.all_cons,Bool.and_eq_true,Bool.and_eq_true,decide_eq_true_eq] at hr
  exact ⟨p1,p2,Below.trod hl hr.1.1 hr.1.2 h1 hb fun q hq=>hlt q (List.mem_append_left _ hq),ih vs ds p2 hr.2 h2 fun q hq=>hlt q (List.mem_append_right _ hq),rfl⟩
theorem zD {fn:Func} {s:ChangeSpec} {tb:TypeId} {W':World} {args:Array Value} {ds:List (DataW H)} {p:List MemPlace} (hl:laidOutB P=true)
  (hrow:fn.params.toList.all (fun t=>P.readableRec t && decide (t<P.types.size))=true) (hr:fn.resultTypes = #[tb]) (hb:P.underlying tb=some .bool) (hv:s.vars=[])
  (hs:s.fn H (ds++[])={ results:=[.lit (.bool true)],args:=ds }) (hW:DataW.Whole enc P fn.params.toList s.vars false W args.toList ds [] p) (hA:DataW.TrodAll enc P W 0 (fun _=>true) true fn.params.toList args.toList ds p) (hlt:∀ q ∈ p,q.block<W.heap.size) (hk:Kp [] W W') :
  s.post enc P fn false true false false W args (.bool true) W':=by
 refine ⟨ds,[],p,[],p,[],hW,?_,?_,?_,hk.below.frame _,fun h=>by cases h⟩
 ·rw [hs,hr]
  exact trodAll_mk1 ⟨1,by simp [DataW.trod,Value.cells,hb]⟩
 ·rw [hs]
  exact w_ hl hk.below _ _ _ _ hrow hA hlt
 ·rw [hs,hv]; rfl
theorem Bl {C:Checked} {os:Os} {f:FuncId} {fn:Func} {s:ChangeSpec} {conds:List PathCond} {tb:TypeId} (own:ownKnob C.prog.godebug=none) (started:os.Started) (noInit:C.prog.inits.idxOf? f=none) (hfn:C.prog.funcs[f]? = some fn)
  (witness:∃ (w:World) (tape:Tape) (i:Input),w.os=os/\(w.forCall tape i).Shaped C.prog/\i.vars=[]/\Input.okWide C.prog (w.forCall tape i) .any w.heap.size f i /\
   s.pre6 enc C.prog fn conds false (w.forCall tape i).memory i.args/\({}:Assume).holds C.prog (lone (Frame.enter C.prog f i.args .normal) [] (w.forCall tape i)))
  (hl:laidOutB C.prog=true) (hrow:fn.params.toList.all (fun t=>C.prog.readableRec t && decide (t<C.prog.types.size))=true) (hr:fn.resultTypes = #[tb]) (hb:C.prog.underlying tb=some .bool) (hv:s.vars=[])
  (hs:∀ ds:List (DataW H),ds.length=fn.params.size->s.fn H ds={ results:=[.lit (.bool true)],args:=ds })
  (law:∀ (W:World) (args:Array Value),args.size=fn.params.toList.length->(∀ (j:Nat) t v,fn.params.toList[j]? = some t->args[j]? = some v->Ar enc C.prog W t v)->g_ C.prog f args W fun r W'=>r = .bool true/\Kp [] W W') :
  ReturnsInHanded {} C os f .any (s.pre6 enc C.prog fn conds false) (s.post enc C.prog fn false true false false):=by
 refine returnsInHanded_of_change_sized own started noInit hfn witness ?_
 intro W base args ds gs before hval hW _ hsz _
 have hW0:=hW
 obtain ⟨p,q,hA,hV,rfl,_,_⟩:=hW
 rw [hv] at hV
 obtain ⟨rfl,rfl⟩:=trodVars_none hV
 simp only [List.append_nil] at hW0 hsz
 have hlt:∀ x ∈ p,x.block<W.heap.size:=fun x hx=>by simpa using hW0.lt x hx
 have hwt:∀ n ∈ DataW.weightsEach C.prog fn.params.toList ds,n<=140737488351232:=fun n hn=>by
  have hmem:n ∈ DataW.weightsEach C.prog (fn.params.toList++s.plain.varTypes C.prog) ds:=by
   have:∀ (ts us:List TypeId) (ds:List (DataW H)),n ∈ DataW.weightsEach C.prog ts ds->n ∈ DataW.weightsEach C.prog (ts++us) ds:=by
    intro ts
    induction ts with
    | nil=>intro us ds h; simp [DataW.weightsEach] at h
    | cons t ts ih=>
     intro us ds h
     cases ds with
     | nil=>simp [DataW.weightsEach] at h
     | cons d ds=>
      rw [DataW.weightsEach,List.mem_append] at h
      rw [List.cons_append,DataW.weightsEach,List.mem_append]
      exact h.imp id (ih us ds)
   exact this _ _ _ hn
  exact of_decide_eq_true (List.all_eq_true.1 hsz n hmem)
 obtain ⟨hsize,har⟩:=EN (fun j t v ht hv=>hval j t v (by simpa using ht) hv) hA hwt hlt
 have hdl:ds.length=fn.params.size:=by
  have:∀ (ts:List TypeId) (vs:List Value) (ds:List (DataW H)) (p:List MemPlace),DataW.TrodAll enc C.prog W 0 (fun _=>true) true ts vs ds p->ds.length=ts.length:=by
   intro ts
   induction ts with
   | nil=>intro vs ds p h; obtain ⟨_,rfl,_⟩:=trodAll_nil h; rfl
   | cons t ts ih=>intro vs ds p h; obtain ⟨v,vs,d,ds,p1,p2,rfl,rfl,rfl,_,h2⟩:=trodAll_cons h; simp [ih vs ds p2 h2]
  simpa using this _ _ _ _ hA
 refine Calls.mono (law W args hsize har) fun e W' ⟨v,he,hv',hk⟩=>⟨v,he,?_⟩
 subst hv'
 exact zD hl hrow hr hb hv (by rw [List.append_nil]; exact hs ds hdl) hW0 hA hlt hk
end
end Go.Proofs.YtdggohppeeaipaaGreat
namespace Go.Proofs.YtdggohppeeaipaaGreat
open Go.RowKit Go.ChangeShapes Go.WideShapes
theorem BM:ownKnob Tryz.prog.godebug=none:=by kernel_rfl
theorem BD:laidOutB Tryz.prog=true:=by kernel_rfl
theorem Lq:Tr Tryz.prog (aq aE) 59 (.nm .snap):=Tr.struct (ss:=[.int,.int,(.lst .int),.bool,.str]) Tryz.underlying59 (by kernel_rfl) (fun cells h=>by
 obtain ⟨y0,l0,rfl,y1,l1,rfl,y2,l2,rfl,y3,l3,rfl,y4,l4,rfl,rfl⟩:=h
 exact ⟨⟨y0,y1,y2,y3,y4⟩,rfl⟩) (fU.cons (Tr.int Tryz.underlying3) rfl (by kernel_rfl) (fU.cons (Tr.int Tryz.underlying3) rfl (by kernel_rfl) (fU.cons (Tr.list Tryz.underlying27 (by kernel_rfl) (by kernel_rfl) (Tr.int Tryz.underlying3)) rfl (by kernel_rfl) (fU.cons (Tr.bool Tryz.underlying4) rfl (by kernel_rfl) (fU.cons (Tr.str Tryz.underlying9) rfl (by kernel_rfl) (fU.nil))))))
theorem KU:Tr Tryz.prog (aq aE) 77 (.nm .opn):=Tr.struct (ss:=[.int,.int]) Tryz.underlying77 (by kernel_rfl) (fun cells h=>by
 obtain ⟨y0,l0,rfl,y1,l1,rfl,rfl⟩:=h
 exact ⟨⟨y0,y1⟩,rfl⟩) (fU.cons (Tr.int Tryz.underlying3) rfl (by kernel_rfl) (fU.cons (Tr.int Tryz.underlying3) rfl (by kernel_rfl) (fU.nil)))
theorem KR:Tr Tryz.prog (aq aE) 35 (.nm .reply):=Tr.struct (ss:=[.int,.int]) Tryz.underlying35 (by kernel_rfl) (fun cells h=>by
 obtain ⟨y0,l0,rfl,y1,l1,rfl,rfl⟩:=h
 exact ⟨⟨y0,y1⟩,rfl⟩) (fU.cons (Tr.int Tryz.underlying33) rfl (by kernel_rfl) (fU.cons (Tr.int Tryz.underlying3) rfl (by kernel_rfl) (fU.nil)))
theorem KY:Tr Tryz.prog (aq aE) 44 (.nm .sess):=Tr.struct (ss:=[.int,.int,(.nm .reply)]) Tryz.underlying44 (by kernel_rfl) (fun cells h=>by
 obtain ⟨y0,l0,rfl,y1,l1,rfl,y2,l2,rfl,rfl⟩:=h
 exact ⟨⟨y0,y1,y2⟩,rfl⟩) (fU.cons (Tr.int Tryz.underlying3) rfl (by kernel_rfl) (fU.cons (Tr.int Tryz.underlying3) rfl (by kernel_rfl) (fU.cons (KR) rfl (by kernel_rfl) (fU.nil))))
theorem LD:Tr Tryz.prog (aq aE) 26 (.nm .state):=Tr.struct (ss:=[.int,.int,.int,.int,(.lst (.nm .sess)),(.lst (.nm .opn)),(.lst (.nm .snap))]) Tryz.underlying26 (by kernel_rfl) (fun cells h=>by
 obtain ⟨y0,l0,rfl,y1,l1,rfl,y2,l2,rfl,y3,l3,rfl,y4,l4,rfl,y5,l5,rfl,y6,l6,rfl,rfl⟩:=h
 exact ⟨⟨y0,y1,y2,y3,y4,y5,y6⟩,rfl⟩) (fU.cons (Tr.int Tryz.underlying3) rfl (by kernel_rfl) (fU.cons (Tr.int Tryz.underlying3) rfl (by kernel_rfl) (fU.cons (Tr.int Tryz.underlying3) rfl (by kernel_rfl) (fU.cons (Tr.int Tryz.underlying3) rfl (by kernel_rfl) (fU.cons (Tr.list Tryz.underlying22 (by kernel_rfl) (by kernel_rfl) (KY)) rfl (by kernel_rfl) (fU.cons (Tr.list Tryz.underlying23 (by kernel_rfl) (by kernel_rfl) (KU)) rfl (by kernel_rfl) (fU.cons (Tr.list Tryz.underlying24 (by kernel_rfl) (by kernel_rfl) (Lq)) rfl (by kernel_rfl) (fU.nil))))))))
theorem KT:Tr Tryz.prog (aq aE) 29 (.nm .command):=Tr.struct (ss:=[.int,.int,.int,.int,.int,.int,(.lst .int),.str]) Tryz.underlying29 (by kernel_rfl) (fun cells h=>by
 obtain ⟨y0,l0,rfl,y1,l1,rfl,y2,l2,rfl,y3,l3,rfl,y4,l4,rfl,y5,l5,rfl,y6,l6,rfl,y7,l7,rfl,rfl⟩:=h
 exact ⟨⟨y0,y1,y2,y3,y4,y5,y6,y7⟩,rfl⟩) (fU.cons (Tr.int Tryz.underlying3) rfl (by kernel_rfl) (fU.cons (Tr.int Tryz.underlying3) rfl (by kernel_rfl) (fU.cons (Tr.int Tryz.underlying3) rfl (by kernel_rfl) (fU.cons (Tr.int Tryz.underlying3) rfl (by kernel_rfl) (fU.cons (Tr.int Tryz.underlying3) rfl (by kernel_rfl) (fU.cons (Tr.int Tryz.underlying3) rfl (by kernel_rfl) (fU.cons (Tr.list Tryz.underlying27 (by kernel_rfl) (by kernel_rfl) (Tr.int Tryz.underlying3)) rfl (by kernel_rfl) (fU.cons (Tr.str Tryz.underlying9) rfl (by kernel_rfl) (fU.nil)))))))))
set_option maxRecDepth 100000 in
theorem mH (os:Os) (started:os.Started) (H:Type) (enc:TypeId × Value->H) :
  ReturnsInHanded {} Tryz.checked os 7 .any (Rows.modelRunsSpec.pre6 enc Tryz.prog Tryz.f7 Rows.modelRunsRow.domain false) (Rows.modelRunsSpec.post enc Tryz.prog Tryz.f7 false true false false):=by
 refine Bl (C:=Tryz.checked) BM started (by kernel_rfl) Tryz.func7 (ChangeSpec.witness6 (enc:=enc) (C:=Tryz.checked) false ⟨#[],#[.agg #[.int .i64 0,.int .i64 0,.int .i64 0,.int .i64 0,.slice none 0 0,.slice none 0 0,.slice none 0 0],.slice none 0 0],[]⟩ 8 (by kernel_rfl) (by kernel_rfl) (by kernel_rfl) (by kernel_rfl)) BD (by kernel_rfl) (by kernel_rfl) Tryz.underlying4 rfl (fun ds h=>?_) ?_
 ·match ds,h with
  | [d0,d1],_=>rfl
 ·intro W args hs ha
  obtain ⟨l⟩:=args
  match l,hs with
  | [v0,v1],_=>
   obtain ⟨x0,h0⟩:=Ar.struct (shp:=aq aE) (ha 0 26 _ rfl rfl) Tryz.underlying26 LD
   obtain ⟨x1,h1⟩:=Ar.list (shp:=aq aE) (ha 1 49 _ rfl rfl) Tryz.underlying49 (Tr.list Tryz.underlying49 (by kernel_rfl) (by kernel_rfl) (KT))
   exact El (CW x0 x1) rfl (.cons h0 (.cons h1 .nil))
theorem modelRuns_holds:Rows.ModelRunsSaid:=
 OpenClaim.holds_of_wide 7 Tryz.f7 rfl rfl rfl rfl rfl rfl rfl ⟨rfl,rfl,rfl,rfl,rfl⟩ rfl rfl rfl rfl rfl (by kernel_rfl) Tryz.func7 (by kernel_rfl)
  (of_decide_eq_true (by kernel_rfl)) (by unfold Func.isWrapper; first | (rw [if_pos (by decide +kernel)]; kernel_rfl) | (rw [if_neg (by decide +kernel)]; exact ⟨rfl,rfl⟩))
  (fun os started H enc _=>mH os started H enc)
end Go.Proofs.YtdggohppeeaipaaGreat
