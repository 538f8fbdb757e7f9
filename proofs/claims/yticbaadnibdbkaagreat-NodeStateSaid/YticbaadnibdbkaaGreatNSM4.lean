/- What leads to the law, part 4. Conditions: each lemma's own. -/
import Derived.Laws.CopyRow
import Derived.Lib.AppendZerosOnto
import Derived.Lib.Overlaps
import Derived.RangeFuncLeaves
import Derived.RangeFuncRecord
import Derived.Test.YticbaadnibdbkaaGreatProg
import Derived.Test.YticbaadnibdbkaaGreatNSM3
set_option linter.unusedVariables false
set_option linter.unusedSimpArgs false
set_option maxHeartbeats 2000000
set_option linter.defProp false
open List (count drop length_drop range replicate take take_left' toArray)
open UInt8 (ofNat)
namespace Go.Proofs.YticbaadnibdbkaaGreat
open Tryz
open Go.RowKit
def L4:=@Go.World.putObj_heap_other
def K3:=@List.all_cons
def O3:=@of_decide_eq_false
def V2:=@List.mem_of_mem_drop
def I5:=@List.foldl_append
def B5:=@Int.le_refl
def J7:=@List.all_append
def I8:=@List.map_append
def Q3:=@List.findIdx?_eq_some_iff_getElem
def F0:=@decide_eq_true
def aqI:=@List.mem_take_iff_getElem
def L5:=@List.length_filter_le
def E1:=@List.filter_append
section
variable {P:Program} {T:List (Nat × TI)} {G:Gl} {O:ck} {n k:Nat} {l:List Oper} {ρ:List RE} {H:AH} {fr:j9} {F:Fr} {ds:List DV} {vs:Nat->Value} {f g:DV->Value->World->Prop}
def qv (ds:List DV) (f:DV->Value->World->Prop):List Sp:=ds.map fun a=>⟨a.deps,[],f a⟩
variable {i:Nat} {a:DV}
def sd (h:ds[i]? = some a):qs (qv ds f) i=⟨a.deps,[],f a⟩:=by
 simp [qs,qv,h]
theorem Ms:(qs (qv ds f) i).deps=((ds[i]?).map DV.deps).getD []:=by
 cases h:ds[i]? with
 | none=>simp [qs,qv,h]
 | some a=>rw [sd h]; rfl
def Uj {b:List Nat}:ny l (qv ds f) b k=ny l (qv ds g) b k:=by
 simp [ny,Ms];simp [qv]
theorem uV:∀ {ds:List DV},Fz (qv ds f)=[]
 | []=>rfl
 | _ :: r=>uV (ds:=r)
theorem vK:∀ {ds:List DV} {i:Nat},vA (qv ds f) i=[]
 | [],_=>rfl
 | _ :: r,0=>uV (ds:=r)
 | _ :: r,i+1=>vK (ds:=r) (i:=i)
theorem Iv (h:∀ a u w b,f a u w->Kp [] w b -> f a u b):∀ {r:List DV} {i:Nat},oK (qv ds f) i (qv r f)
 | [],_=>trivial
 | a :: r,i=>⟨fun u w b c d=>h a u w b c (by rwa [vK] at d),Iv h (r:=r)⟩
theorem UU {Q:List Sp} {w:World}:∀ {r:List Oper} {i:Nat},(∀ j o,r[j]? = some o->∀ vs b,Kp (vA Q (i+j)) w b->gN Q vs b (qs Q (i+j)).deps->WO P (rf n (p5 l (i+j)) (qs Q (i+j)).S (qs Q (i+j)).V b) n l [o] (dW l F vs (qs Q (i+j)).deps) b)->vR P n l Q F w i r
 | [],_,_=>trivial
 | o :: r,i,h=>⟨h 0 o rfl,UU fun j c d=>by
  have:=h (j+1) c (by simpa using d);rwa [show i+(j+1)=i+1+j by omega] at this⟩
theorem wV:∀ {r:List Oper} {p ds:List DV},zd T O H fr r p=some ds->(∃ q,ds=p++q/\q.length=r.length)/\∀ i o,r[i]? = some o->∃ a,ds[p.length+i]? = some a/\uv T O H fr (ds.take (p.length+i)) o=some a
 | [],p,ds,h=>by cases h; exact ⟨⟨[],aa⟩,fun i o c=>by simp at c⟩
 | o :: r,p,ds,h=>by
  simp [zd] at h;split at h
  ·rename_i a v;obtain ⟨⟨q,m,s⟩,t⟩:=wV h;refine ⟨⟨a :: q,by rw [m]; simp,by simp [s]⟩,fun i u c=>?_⟩;cases i with
   | zero=>
    grind
   | succ i=>
    obtain ⟨b,d,j⟩:=t i u (by simpa using c);have e:(p++[a]).length+i=p.length+(i+1):=by simp; omega
    rw [e] at d j;exact ⟨b,d,j⟩
  cases h
theorem xa {p:List DV} {o:Oper} (h:uv T O H fr p o=some a):o.dst=some a.d/\∃ b,a.deps=eU b 0 p:=by
 unfold uv at h;grind
theorem vd {Q:List Sp} {w:World}:∀ {deps:List Nat},gN Q vs w deps->∀ j ∈ deps,(qs Q j).V (vs j) w
 | i :: r,h,j,hj=>by
  rcases u2.1 hj with rfl | hj
  ·exact h.1
  exact vd h.2 j hj
theorem Bl:∀ {ds:List DV} {i:Nat} {a:DV},ds[i]? = some a->∀ q ∈ a.ob,q ∈ Z7 ds
 | b :: r,0,a,h,q,c=>by simp at h; subst h; exact B9 _ c
 | b :: r,i+1,a,h,q,c=>C6 _ (Bl (ds:=r) (i:=i) (by simpa using h) q c)
theorem Di:∀ {ds:List DV} {q:Prop},q ∈ YA ds->∃ (i:Nat) (a:DV),ds[i]? = some a/\q ∈ a.fc
 | b :: r,q,h=>by
  rcases y2.1 h with h | h
  ·exact ⟨0,b,rfl,h⟩
  obtain ⟨i,a,c,d⟩:=Di h;exact ⟨i+1,a,by simpa using c,d⟩
theorem Db {c:Cx} {D:Fr} (j:o9 c ρ fr F) (m:∀ i v,look F i=some v->look D i=some v):∀ {r:List DV},(∀ a ∈ r,a.ch=[]->∃ u,look D a.d=some u/\Rt c ρ a.v u)->∃ e,o9 c ρ (Ay r fr) e /\ ∀ i v,look e i=some v->look D i=some v
 | [],_=>⟨F,j,m⟩
 | a :: r,h=>by
  obtain ⟨e,o,w⟩:=Db j m (r:=r) fun b p=>h b (by simp [p]);unfold Ay;split
  ·rename_i q;obtain ⟨u,x,s⟩:=h a aa q;refine ⟨(a.d,u) :: e,.cons ⟨rfl,s⟩ o,fun i v t=>?_⟩;rw [bg] at t;grind
  grind
theorem tD {i:Nat}:∀ {deps:List Nat},(∀ j ∈ deps,p5 l j≠some i)->look (dW l F vs deps) i=look F i
 | [],_=>rfl
 | j :: r,h=>by
  have b:=tD (i:=i) (deps:=r) fun j c=>h j (by simp [c]);unfold dW;split
  ·grind [bg]
  exact b
def Rs {c:Cx} (b:o9 c ρ fr F):fr.map (·.1)=F.map (·.1):=by
 induction b with
 | nil=>rfl
 | cons h _ d=>simp [h.1,d]
end
theorem GV {s:Nat->Bool}:∀ {a:List RC} {k:Nat} {q:j9 × AH},(∀ i,k<=i->i<k+a.length->s i=true)->jG s k a q=B6 a q
 | [],_,_,_=>rfl
 | r :: a,k,q,h=>by
  simp [jG];rw [h k (sh _) aa,cond_true];exact GV fun i c b=>h i az (by simp at b ⊢; omega)
theorem CZ:∀ {rs:List RC} {k:Nat} {q:j9 × AH},∃ m,jG (fun _=>false) k rs q=(q.1,q.2++replicate m .gone)
 | [],_,q=>⟨0,by simp [jG]⟩
 | r :: rs,k,q=>by
  obtain ⟨m,h⟩:=CZ (rs:=rs) (k:=k+1) (q:=r.KN q);refine ⟨(r.u5.length - r.base)+m,?_⟩;simp [jG];rw [h];simp [RC.KN]
variable {w:World} {H:AH} {G:Gl}
theorem oh.amT {a:List RE} (h:oh G a H w) (m:Nat):oh G (a++replicate m RE.no) (H++replicate m .gone) w/\(cx G a w).le (cx G (a++replicate m RE.no) w)/\lu a (a++replicate m RE.no)/\∀ y,s8 y a w (a++replicate m RE.no) w:=by
 have d:∀ i r,(a++replicate m RE.no)[i]? = some r->r≠RE.no->a[i]? = some r:=fun i r s C=>by
  by_cases t:i<a.length
  ·rw [C9 t] at s; exact s
  grind
 have u:∀ b,live (a++replicate m RE.no) b->live a b:=fun b ⟨i,r,n,e⟩=>⟨i,r,d i r n (by rintro rfl; cases e),e⟩;have c:u1 a w (a++replicate m RE.no) w:=⟨rfl,rfl,rfl,sh _,fun b _ t=>⟨fun k=>t (u b k),rfl⟩⟩;have f:=gO a (replicate m .no);refine ⟨⟨?_,fun i j r v g n e A B=>h.inj i j r v g (d i r n (by rintro rfl; cases A)) (d j v e (by rintro rfl; cases B)) A B,fun i r g n e=>h.sr i r g (d i r n (by rintro rfl; cases e)) e,h.z,h.b0,h.tb.c8 (c.le h.lo)⟩,c.le h.lo,f,fun y=>⟨c,fun i r _ l=>?_,fun i r _ l=>⟨?_,fun _ _=>rfl⟩,fun i g D=>f i _ D aa⟩⟩
 ·refine hQ.append (df h.obj.length fun i o r p l=>?_) ?_
  ·obtain ⟨v,q,x⟩:=h.at_ p;rw [l] at q; cases q;exact x.c8 (c.le h.lo) f fun _ _=>rfl
  refine df aa fun i o r p l=>?_;rw [List.getElem?_replicate] at p l;by_cases s:i<m
  ·rw [eg s] at p l; cases p; cases l; rfl
  grind
 ·grind
 grind
theorem oo {t:Nat} {v:TV}:∀ {fr:j9} {l:List Nat},(t,v) ∈ wx fr l->t ∉ l/\l1 fr t=some v
 | (i,x) :: r,l,h=>by
  simp [wx] at h;cases b:cM i l <;> rw [b] at h
  ·rcases u2.1 h with e | h
   ·cases e;refine ⟨fun d=>?_,by rw [dT,eg rfl]⟩;rw [bQ.2 d] at b; cases b
   obtain ⟨a,c⟩:=oo h;simp at a;exact ⟨a.2,by rw [dT,dc (fun e=>a.1 e.symm)]; exact c⟩
  obtain ⟨a,c⟩:=oo h;refine ⟨a,?_⟩;rw [dT,dc]
  ·exact c
  rintro rfl; exact a (bQ.1 b)
theorem xu {m:Nat} {p:Prop}:∀ {a:List RC} {k:Nat},p ∈ Cr m k a->∃ j r,a[j]? = some r/\y5 m (k+j)=true/\p ∈ r.fc
 | r :: a,k,h=>by
  simp [Cr] at h;rcases h with h | h
  ·cases b:y5 m k <;> rw [b] at h
   ·simp at h
   exact ⟨0,r,rfl,b,h⟩
  obtain ⟨j,c,d,f,e⟩:=xu h;exact ⟨j+1,c,by simpa using d,by rwa [show k+(j+1)=k+1+j by omega],e⟩
theorem PA {c:List RC}:∀ {a:List Nat} {d:List RC},a.length=d.length->(∀ p ∈ W7 c a d,p)->∀ i r,d[i]? = some r->(∀ p ∈ Cr (a.getD i 0) 0 c,p)->∀ p ∈ r.ob,p
 | _,[],_,_,i,r,h,_=>by simp at h
 | m :: a,b :: d,n,h,i,r,e,k=>by
  cases i with
  | zero=>
   simp at e; subst e;intro p f;have l:=fun q g=>h q (B9 _ g);cases j:b.ob with
   | nil=>rw [j] at f; simp at f
   | cons x y=>
    rw [j] at l;exact fa.1 (fi.1 (l _ (u3 _)) k) p (by rw [<- j]; exact f)
  | succ i=>
   exact PA (by simpa using n) (fun q g=>h q (C6 _ g)) i r (by simpa using e) (by simpa using k)
theorem Jh:∀ {a:List RC} {p:Prop},p ∈ T9 a->∃ (j:Nat) (r:RC),a[j]? = some r/\p ∈ r.fc
 | r :: a,p,h=>by
  simp [T9] at h;rcases h with h | h
  ·exact ⟨0,r,rfl,h⟩
  obtain ⟨j,b,c,d⟩:=Jh h;exact ⟨j+1,b,by simpa using c,d⟩
variable {P:Program} {O:ck} {T:List (Nat × TI)}
theorem Az {n:Nat} {e:Lv} {l:List Oper} {c:List RE} {V:World} {Q:Exit->Act->World->Prop} {id:Nat} (hT:bz P G.shp T) (hO:ay P G.shp O) (hm:P.follows .mixedOrders=true) (W:∀ i,e.wr i=false\/e.mv i=false->i<c.length) {K:j9->AH->Prop} {fr:j9} {F:Fr} (hd:lz n l=true)
  (h:afW T O e l K fr H) (X:St G e c V fr H F w) (hK:∀ fr H F w,K fr H->St G e c V fr H F w->WX Q n .normal F w):WC P Q n (.region id l.toArray true) F w:=by
 obtain ⟨ρ,Y,Z,hf⟩:=X;obtain ⟨rs,hw,d,A⟩:=JJ (n:=n) hT hO _ 0 l fr H [] aa (F8 _) hd ⟨rfl,trivial,rfl,fun j o r _ hr=>by simp at hr⟩ h;simp only [okR,pe] at d;obtain ⟨⟨f,b⟩,d⟩:=d;have b:=r7 b;have f:∀ i,∀ j ∈ cf l i,j<i:=fun i j hj=>by have:=q_ f i j hj; omega
 have hc:=hw.ch.fit (Ef d);obtain ⟨C,D⟩:=jR.1 A;have hbl:(jE [] l).length=rs.length:=by rw [BP,b]; simp
 have hq0:∀ i,i<c.length->(e.wr i=false\/e.mv i=false)->i<H.length:=fun i hi hh=>by
  rw [Z.obj.length];have I:=p6 hi;rcases hh with hh | hh
  ·exact (r3.1 (Y.J1 i _ hh I).1).1
  exact (r3.1 (Y.loc i _ hh I)).1
 intro a ha;refine aja hm (Inv:=Yd G e c V n (fr,H) rs) f (fun s a w h=>by obtain ⟨_,_,_,_,h,_⟩:=h; exact h) (fun s a w i o inv ho hsi J hcl=>?_) (fun s a w inv g=>?_) ?_
 ·refine OT rfl W hq0 f hc d b hw.ok (fun i r hr hfc=>PA hbl C i r hr fun p f=>?_) inv ho hsi J hcl;obtain ⟨j,r',y,z,L⟩:=xu f;rw [x7] at z;exact hfc j r' y z p L
 ·obtain ⟨ρ',k1,k2,k3,k4,k5,k6⟩:=inv;rw [GV fun i _ hi=>g i az] at k2 k3;have hk:=fi.1 D fun p f=>by
   obtain ⟨j,r,y,z⟩:=Jh f;exact (k6 j r y (g j (by have:=(r3.1 y).1; omega))).1 p z
  refine hK _ _ (DQ a (wx (B6 rs (fr,H)).1 [])) w hk ⟨ρ',k1,k2,su fun q hq=>(k3 q.1 q.2 (oo hq).2).2⟩ a ⟨k4,k5,fun i v S=>?_⟩;obtain ⟨y,U,z⟩:=qD S;have L:l1 (B6 rs (fr,H)).1 i=some U:=by
   have:∀ {fr:j9} {l:List Nat},l1 (wx fr l) i=some U->(i,U) ∈ wx fr l:=by
    intro fr l;generalize wx fr l=x;induction x with
    | nil=>intro h; cases h
    | cons q r ih=>
     obtain ⟨j,u⟩:=q;rw [dT];split
     ·grind
     grind
   exact (oo (this z)).2
  exact ⟨(k3 i U L).1,y.symm⟩
 obtain ⟨m,N⟩:=CZ (rs:=rs) (k:=0) (q:=(fr,H));have B:Kp [] w { w with drawn:=w.drawn+1 }:=(Kp.refl w).drew;obtain ⟨g1,g2,g3,g4⟩:=(Z.kp B).amT m;refine ⟨_,(Y.trans (s8.kp Z B)).trans (g4 e),by rw [N]; exact g1,fun t v S=>?_,ha.1,ha.2.1,fun k r _ hk=>by cases hk⟩;rw [N] at S;obtain ⟨u,y,z⟩:=fq (hf.kp B) S;obtain ⟨L,h4⟩:=ha.2.2 t u y;exact ⟨L,by rw [h4]; exact z.c8 g2 g3⟩
def pw {shp:TypeId->Option Sh} (hT:bz P shp T) (hO:ay P shp O) (hm:P.follows .mixedOrders=true):zF P shp T O:=by
 intro G n ro ρ0 w0 V W Q k0 id L c K fr H F w hd h hst hK;subst V;obtain ⟨N,hS,X,Y⟩:=hst;simp [jH] at h;generalize UE T O H fr c.toList [] 0=k at h;split at h
 ·rename_i ds hds;split at h
  ·rename_i hB;obtain ⟨hob,h⟩:=jR.1 h;rw [fi] at h;have Z:ny c.toList (qv ds fun a u w=>D3 G N ds a u w) (F.map (·.1)) k=true:=by
    rw [Uj (g:=fun _ _ _=>True),<- Rs Y]; exact hB
   have hB2:=Z;simp only [ny,pe,vo,J5,E4,F5] at hB2;obtain ⟨⟨⟨⟨hnl,hsp⟩,hops⟩,_⟩,_⟩:=hB2;have hdl:ds.length=k:=by simpa [qv] using hsp
   obtain ⟨_,S⟩:=wV hds;simp at S;have x:∀ i a,ds[i]? = some a->i<k:=fun i a h=>by rw [<- hdl]; exact (r3.1 h).1
   have s:∀ (j:Nat) (a:DV),ds[j]? = some a->p5 c.toList j=some a.d:=fun j a t=>by
    have y:=x j a t;have hjl:j<c.toList.length:=by omega
    obtain ⟨b,U,h2⟩:=S j (c.toList[j]) (by rw [E0,eg y,p6 hjl]);rw [t] at U; cases U;rw [k_,p6 hjl];exact (xa h2).1
   have z:∀ (j:Nat) (a:DV),ds[j]? = some a->a.d ∉ F.map (·.1)/\∀ i,i<k->i=j\/p5 c.toList i≠some a.d:=fun j a t=>by
    have:=(hops j (x j a t)).2;rw [s j a t] at this;simp only [pe,S9,J5,E4,F5,beq_iff_eq,bne_iff_ne,List.contains_eq_mem,O1] at this;exact this
   have A:∀ (i j:Nat) (a b:DV),ds[i]? = some a->ds[j]? = some b->a.d=b.d->i=j:=fun i j a b t hb he=>by
    rcases (z j b hb).2 i (x i a t) with h | h
    ·exact h
    rw [s i a t,he] at h; exact absurd rfl h
   have e:c=c.toList.toArray:=by simp
   have hdt:lz n (c.toList.take k)=true/\lz n (c.toList.drop k)=true:=by
    rw [<- od,D5]; exact hd
   rw [e];refine WC.wS hm _ k Z (Iv (f:=fun a u w=>D3 G N ds a u w) (ds:=ds) (r:=ds) fun a u w w' h B=>D3.kp h B) (UU fun j o ho vs w1 B m=>?_) fun vs w1 B m=>?_
   ·rw [x7] at B m ⊢;rw [vK] at B;obtain ⟨a,t,C⟩:=S j o ho;rw [sd t] at m ⊢;obtain ⟨hod,sl,hsl⟩:=xa C;rw [s j a t];refine (VP (l:=c.toList) (vs:=vs) hT hO C ⟨fun i b hb=>(zj hb).1,s,A,fun i hi=>?_⟩ (fun ch g=>AT) (fun q hq=>hob q (Bl t q hq)) (mm hdt.1 o (A9 ho)) (X.kp B) (Y.kp B)).2;have hv:=vd m i hi;rw [hsl] at hi;obtain ⟨i',b,e1,e2,_⟩:=fT.1 hi;rw [x7] at e1; subst e1;rw [sd (zj e2).1] at hv;exact ⟨b,e2,hv⟩
   rw [uV] at B;have I:∀ j a,ds[j]? = some a->D3 G N ds a (vs j) w1:=fun j a t=>by
    have:=vd m j (E4.2 (x j a t));rwa [sd t] at this
   have hctx:G8 G N c.toList ds vs ds (range k) w1:=⟨fun _ _ h=>h,s,A,fun j y=>by
    have y:=E4.1 y;have J:j<ds.length:=by omega
    exact ⟨_,p6 J,I j _ (p6 J)⟩⟩
   have hfc:∀ p ∈ YA ds,p:=fun p hp=>by
    obtain ⟨i,a,U,h2⟩:=Di hp;exact (I i a U).1 p h2
   obtain ⟨F',U,h2⟩:=Db (D:=dW c.toList F vs (range k)) (Y.kp B) (fun i v hv=>by
    rw [tD fun j y he=>?_]
    ·exact hv
    ·have y:=E4.1 y;have J:j<ds.length:=by omega
     have:=s j _ (p6 J);rw [he] at this;have h3:=(z j _ (p6 J)).1;rw [<- B1 this] at h3;exact h3 (K4.2 (Bf hv))) (r:=ds) (fun a t hc=>by
    obtain ⟨j,y⟩:=List.getElem?_of_mem t;refine ⟨vs j,hctx.look (E4.2 (x j a y)) y,(I j a y).2.1 ?_⟩;rw [hc];exact fun q hq=>by simp at hq)
   have:=na (Q:=Q) (l:=c.toList) hT hO hK _ _ _ _ F' w1 hdt.2 (h hfc) ⟨N,hS.trans (s8.kp X B),X.kp B,U⟩;exact fun a t=>this a (t.sub h2)
  have e:c=c.toList.toArray:=by simp
  rw [e];exact Az hT hO hm W hd h ⟨N,hS,X,Y⟩ hK
 have e:c=c.toList.toArray:=by simp
 rw [e];exact Az hT hO hm W hd h ⟨N,hS,X,Y⟩ hK
def av:List (Nat × TI)->TypeId->Option Sh
 | [],_=>none
 | (_,⟨.sl e (some s),_,_⟩) :: r,t=>bif Nat.beq e t then some s else av r t
 | _ :: r,t=>av r t
def W0 (P:Program):List Go.Field->List (Nat × Nat)->Bool
 | [],[]=>true
 | f :: r,q :: l=>(match P.info? f.type with
  | some i=>Nat.beq f.offset q.1 && Nat.beq i.size q.2 && Nat.blt 0 q.2
  | none=>false) && W0 P r l
 | _,_=>false
def mzB (s:Sh) (z:Value):Bool:=match s.qw,z with
 | true,.agg a=>EA (cellsOf s (c5 s)) a.toList
 | true,_=>false
 | false,z=>EA (cellsOf s (c5 s)) [z]
theorem afd {s:Sh} {z:Value} (h:mzB s z=true):∃ a,EA (cellsOf s (c5 s)) a=true/\((s.qw=true/\z = .agg a.toArray)\/(s.qw=false/\a=[z])):=by
 unfold mzB at h;split at h
 ·grind
 ·cases h
 grind
def kzB:KC->Value->Bool
 | .i n,.int .i64 m=>decide (m=n)
 | .b x,.bool y=>decide (y=x)
 | .nf,.nilFunc=>true
 | _,_=>false
def W5:List KC->List Value->Bool
 | [],[]=>true
 | k :: r,v :: s=>kzB k v && W5 r s
 | _,_=>false
theorem Ug:∀ {z:List KC} {b:List Value},W5 z b=true->b=z.map KC.val
 | [],[],_=>rfl
 | k :: r,v :: s,h=>by
  simp [W5] at h;rw [O7,<- Ug h.2];have a:=h.1;unfold kzB at a;split at a
  ·rw [zc a]; rfl
  ·rw [zc a]; rfl
  ·rfl
  cases a
def Yv (P:Program) (F:Array Go.Field) (t:Nat):List (Nat × Nat)->Bool
 | []=>true
 | (a,b) :: r=>(!Nat.beq t a || (match (F[b]?).bind fun f=>P.underlying f.type with
  | some d=>!ly d
  | none=>false)) && Yv P F t r
theorem JP {P:Program} {F:Array Go.Field} {t i:Nat}:∀ {l:List (Nat × Nat)},Yv P F t l=true->SA t i l=true->∃ f d,F[i]? = some f/\P.underlying f.type=some d/\ly d=false
 | (a,b) :: r,h,hm=>by
  simp [Yv] at h;simp only [SA,F5,pe] at hm;rcases hm with ⟨c,e⟩ | hm
  ·grind [Nat.eq_of_beq_eq_true]
  exact JP h.2 hm
def ajK (P:Program) (T:List (Nat × TI)) (t:TypeId) (g:TI):Bool:=match g.k,P.underlying t with
 | .i k,some (.int a)=>decide (a = k)
 | .bool,some .bool=>true
 | .str,some .string=>true
 | .sl e c,some (.slice b)=>Nat.beq b e && (match c with
  | none=>true
  | some s=>decide (av T e=some s) && (match P.info? e with
   | some i=>Nat.beq i.size s.size && Nat.beq i.bytes s.bytes && (match i.zero with
    | some z=>EA (cellsOf s (c5 s)) z.cells.toList
    | none=>false)
   | none=>false) && (match s with
   | .u8=>(match P.underlying e,(P.info? e).bind (·.zero) with
    | some (.int k),some (.int a z)=>decide (k = .u8) && decide (a = .u8) && decide (z=0)
    | _,_=>false)
   | _=>true))
 | .st h,some (.struct F)=>W0 P F.toList h && (match M6 g.zero with
  | some j=>V8 P t j
  | none=>true) && Yv P F t aga
 | .ar n e,some (.array l b)=>Nat.beq l n && Nat.beq b e
 | .mg k e z,some (.map a b)=>Nat.beq a k && Nat.beq b e && (match P.underlying k with
  | some (.int f)=>decide (f = .i64)
  | _=>false) && (match (P.info? e).bind (·.zero) with
  | some (.agg m)=>W5 z m.toList
  | _=>false)
 | .mp k e c,some (.map a b)=>Nat.beq a k && Nat.beq b e && (match P.underlying k with
  | some (.int f)=>decide (f = .i64)
  | _=>false) && (match c with
  | none=>match (P.info? e).bind (·.zero) with
   | some .nilFunc=>true
   | _=>false
  | some s=>match (P.info? e).bind (·.zero) with
   | some z=>mzB s z
   | none=>false)
 | .U1,some (.interface _)=>true
 | .ms k e,some (.map a b)=>Nat.beq a k && Nat.beq b e && (match P.underlying k with
  | some .string=>true
  | _=>false) && (match (P.info? e).bind (·.zero) with
  | some (.int .i64 0)=>true
  | _=>false)
 | .ptr,some (.pointer _)=>true
 | .fn,some d=>!ly d
 | .oth,some d=>!ly d
 | _,_=>false
def X9 (P:Program) (T:List (Nat × TI)) (t:TypeId) (a:TI):Bool:=(match P.info? t with
 | some i=>Nat.beq i.size a.size && (match i.zero with
  | some z=>EA a.zero z.cells.toList
  | none=>false)
 | none=>false) && ajK P T t a
def Xd (P:Program) (T:List (Nat × TI)):List (Nat × TI)->Bool
 | []=>true
 | (t,a) :: r=>X9 P T t a && Xd P T r
theorem PZ {P:Program}:∀ {F:List Go.Field} {d:List (Nat × Nat)},W0 P F d=true->F.mapM (fun f=>(P.info? f.type).map fun i=>(f.offset,i.size))=some d/\∀ q ∈ d,0<q.2
 | [],[],_=>⟨rfl,aa⟩
 | f :: F,(a,b) :: d,h=>by
  simp [W0] at h;obtain ⟨c,e⟩:=h;obtain ⟨g,j⟩:=PZ e;split at c
  ·rename_i i k;simp only [pe] at c;have l:=r7 c.1.1;have m:=r7 c.1.2;have n:0<b:=by have:=(Nat.blt_eq).mp c.2; exact this
   grind
  cases c
theorem afy {t:TypeId} {C:TI} (h:X9 P T t C=true):agn P (av T) t C:=by
 simp [X9,pe] at h;obtain ⟨r,c⟩:=h;refine ⟨?_,?_⟩
 ·split at r
  ·rename_i i o;simp only [pe] at r;obtain ⟨j,f⟩:=r;refine ⟨by rw [o,D6,r7 j],?_⟩;split at f
   ·rename_i z p;exact ⟨z.cells.toList,by simp [o,p],f⟩
   cases f
  cases r
 unfold ajK at c;split at c
 ·rename_i k v b a;simp [b]; rw [a,zc c]
 ·rename_i b a;simp [b]; exact a
 ·rename_i b a;simp [b]; exact a
 ·rename_i e D u b a;simp only [b];simp only [pe] at c;have I:=r7 c.1;subst I;refine ⟨a,fun s x=>?_⟩;subst x;have j:=c.2;simp at j;obtain ⟨⟨j,f⟩,l⟩:=j;refine ⟨j,?_,?_⟩
  ·split at f
   ·rename_i i o;simp only [pe] at f;obtain ⟨⟨g,y⟩,q⟩:=f;split at q
    ·rename_i z p;refine ⟨z.cells.toList,?_,q⟩;rw [o,D6,p,r7 g,r7 y];simp
    cases q
   cases f
  grind
 ·rename_i N F b a;simp only [b];simp at c;obtain ⟨j,f⟩:=PZ c.1.1;refine ⟨F,a,j,f,fun Q A=>?_,fun i o=>JP c.2 o⟩;have l:=c.1.2;rw [A] at l;exact l
 ·rename_i n e S u b a;simp [b];simp only [pe] at c;rw [a,r7 c.1,r7 c.2]
 ·rename_i k e z v u b a;simp [b];simp only [pe] at c;obtain ⟨⟨⟨j,f⟩,l⟩,g⟩:=c;rw [r7 j,r7 f] at a;refine ⟨a,?_,?_⟩
  ·split at l
   ·rename_i J m;rw [m,zc l]
   cases l
  split at g
  ·rename_i U B;rw [B,<- Ug g]
  cases g
 ·rename_i k e D v u b a;simp only [b];simp only [pe] at c;obtain ⟨⟨⟨j,f⟩,l⟩,g⟩:=c;rw [r7 j,r7 f] at a;refine ⟨a,?_,fun s x=>?_,fun K=>?_⟩
  ·split at l
   ·rename_i J m;rw [m,zc l]
   cases l
  ·subst x;simp only at g;split at g
   ·rename_i z p;obtain ⟨L,y,q⟩:=afd g;exact ⟨z,L,p,y,q⟩
   cases g
  subst K;simp only at g;split at g
  ·assumption
  cases g
 ·rename_i V b a;simp [b];simp [Program.methodsAt,a]
 ·rename_i k e v u b a;simp [b];simp only [pe] at c;obtain ⟨⟨⟨j,f⟩,l⟩,g⟩:=c;rw [r7 j,r7 f] at a;refine ⟨a,?_,?_⟩
  ·split at l
   ·assumption
   cases l
  split at g
  ·assumption
  cases g
 ·rename_i e b a;simp only [b];exact ⟨e,a⟩
 ·rename_i d b a;simp only [b];exact ⟨d,a,by simpa using c⟩
 ·rename_i d b a;simp only [b];exact ⟨d,a,by simpa using c⟩
 cases c
theorem xc {t:TypeId} {a:TI}:∀ {T:List (Nat × TI)},bj T t=some a->(t,a) ∈ T
 | (j,v) :: r,h=>by
  simp [bj] at h;cases b:Nat.beq j t <;> rw [b] at h
  ·exact w8 _ (xc h)
  simp_all
theorem Eb {P:Program} {T:List (Nat × TI)}:∀ {r:List (Nat × TI)},Xd P T r=true->∀ q ∈ r,X9 P T q.1 q.2=true
 | (t,a) :: r,h,q,hq=>by
  simp [Xd] at h;rcases u2.1 hq with rfl | hq
  ·exact h.1
  exact Eb h.2 q hq
def aeM (h:Xd P T T=true):bz P (av T) T:=fun _ _ a=>afy (Eb h _ (xc a))
end Go.Proofs.YticbaadnibdbkaaGreat
namespace Go.Proofs.YticbaadnibdbkaaGreat
open Tryz
def l6:List (Nat × TI):=[
 (1,⟨.fn,1,[.nf]⟩),
 (2,⟨.i .i64,1,[.int 0]⟩),
 (3,⟨.i .i64,1,[.int 0]⟩),
 (4,⟨.bool,1,[.bool (.lit false)]⟩),
 (5,⟨.i .u8,1,[.u8 0]⟩),
 (6,⟨.i .u8,1,[.u8 0]⟩),
 (9,⟨.str,1,[.str ⟨[]⟩]⟩),
 (10,⟨.str,1,[.str ⟨[]⟩]⟩),
 (25,⟨.ptr,1,[.np]⟩),
 (26,⟨.i .i64,1,[.int 0]⟩),
 (30,⟨.sl 40 (some (.nm .letter)),1,[.em true]⟩),
 (33,⟨.sl 3 (some .int),1,[.em true]⟩),
 (34,⟨.st [(0,1),(1,1),(2,1),(3,1),(4,1),(5,1),(6,1),(7,1)],8,[.int 0,.int 0,.int 0,.int 0,.int 0,.int 0,.em true,.str ⟨[]⟩]⟩),
 (35,⟨.st [(0,1),(1,1),(2,1),(3,1),(4,1),(5,1),(6,1),(7,1)],8,[.int 0,.int 0,.int 0,.int 0,.int 0,.int 0,.em true,.str ⟨[]⟩]⟩),
 (38,⟨.sl 52 (some (.nm .entry)),1,[.em true]⟩),
 (39,⟨.st [(0,1),(1,1),(2,1),(3,1),(4,1),(5,1),(6,1),(7,1),(8,1),(9,1)],10,[.int 0,.int 0,.int 0,.int 0,.int 0,.int 0,.int 0,.int 0,.bool (.lit false),.em true]⟩),
 (40,⟨.st [(0,1),(1,1),(2,1),(3,1),(4,1),(5,1),(6,1),(7,1),(8,1),(9,1)],10,[.int 0,.int 0,.int 0,.int 0,.int 0,.int 0,.int 0,.int 0,.bool (.lit false),.em true]⟩),
 (41,⟨.fn,1,[.nf]⟩),
 (42,⟨.sl 137 (some (.nm .b8)),1,[.em true]⟩),
 (43,⟨.sl 139 (some (.nm .opn)),1,[.em true]⟩),
 (44,⟨.sl 172 (some (.nm .snap)),1,[.em true]⟩),
 (45,⟨.st [(0,1),(1,1),(2,1),(3,1),(4,1),(5,1),(6,1)],7,[.int 0,.int 0,.int 0,.int 0,.em true,.em true,.em true]⟩),
 (46,⟨.st [(0,1),(1,1),(2,1),(3,1),(4,1),(5,1),(6,1)],7,[.int 0,.int 0,.int 0,.int 0,.em true,.em true,.em true]⟩),
 (47,⟨.st [(0,1),(1,1),(2,1),(3,1),(4,1),(5,1),(6,1),(7,1),(8,1),(9,7)],16,[.bool (.lit false),.int 0,.int 0,.int 0,.int 0,.int 0,.int 0,.int 0,.em true,.int 0,.int 0,.int 0,.int 0,.em true,.em true,.em true]⟩),
 (48,⟨.st [(0,1),(1,1),(2,1),(3,1),(4,1),(5,1),(6,1),(7,1),(8,1),(9,7)],16,[.bool (.lit false),.int 0,.int 0,.int 0,.int 0,.int 0,.int 0,.int 0,.em true,.int 0,.int 0,.int 0,.int 0,.em true,.em true,.em true]⟩),
 (50,⟨.sl 5 (some .u8),1,[.em true]⟩),
 (51,⟨.st [(0,1),(1,1)],2,[.int 0,.em true]⟩),
 (52,⟨.st [(0,1),(1,1)],2,[.int 0,.em true]⟩),
 (54,⟨.sl 60 (some (.nm .nop)),1,[.em true]⟩),
 (56,⟨.st [(0,1),(1,1),(2,1),(3,1)],4,[.em true,.int 0,.int 0,.int 0]⟩),
 (57,⟨.st [(0,1),(1,1),(2,1),(3,1)],4,[.em true,.int 0,.int 0,.int 0]⟩),
 (59,⟨.st [(0,1),(1,1),(2,10),(12,8)],20,[.u8 0,.int 0,.int 0,.int 0,.int 0,.int 0,.int 0,.int 0,.int 0,.int 0,.bool (.lit false),.em true,.int 0,.int 0,.int 0,.int 0,.int 0,.int 0,.em true,.str ⟨[]⟩]⟩),
 (60,⟨.st [(0,1),(1,1),(2,10),(12,8)],20,[.u8 0,.int 0,.int 0,.int 0,.int 0,.int 0,.int 0,.int 0,.int 0,.int 0,.bool (.lit false),.em true,.int 0,.int 0,.int 0,.int 0,.int 0,.int 0,.em true,.str ⟨[]⟩]⟩),
 (63,⟨.st [(0,1),(1,1),(2,1),(3,1)],4,[.int 0,.int 0,.int 0,.em true]⟩),
 (64,⟨.st [(0,1),(1,1),(2,1),(3,1)],4,[.int 0,.int 0,.int 0,.em true]⟩),
 (72,⟨.sl 78 (some (.nm .nd)),1,[.em true]⟩),
 (77,⟨.st [(0,1),(1,1)],2,[.int 0,.int 0]⟩),
 (78,⟨.st [(0,1),(1,1)],2,[.int 0,.int 0]⟩),
 (92,⟨.sl 4 (some .bool),1,[.em true]⟩),
 (96,⟨.ptr,1,[.np]⟩),
 (98,⟨.st [(0,1),(1,1),(2,1),(3,1)],4,[.em true,.em true,.em true,.em true]⟩),
 (99,⟨.st [(0,1),(1,1),(2,1),(3,1)],4,[.em true,.em true,.em true,.em true]⟩),
 (100,⟨.st [(0,1),(1,4),(5,1),(6,1),(7,1),(8,7),(15,1),(16,4)],20,[.int 0,.int 0,.int 0,.int 0,.em true,.int 0,.int 0,.int 0,.int 0,.int 0,.int 0,.int 0,.em true,.em true,.em true,.em true,.em true,.em true,.em true,.em true]⟩),
 (101,⟨.st [(0,1),(1,4),(5,1),(6,1),(7,1),(8,7),(15,1),(16,4)],20,[.int 0,.int 0,.int 0,.int 0,.em true,.int 0,.int 0,.int 0,.int 0,.int 0,.int 0,.int 0,.em true,.em true,.em true,.em true,.em true,.em true,.em true,.em true]⟩),
 (102,⟨.st [(0,1),(1,1),(2,1),(3,20)],23,[.int 0,.int 0,.np,.int 0,.int 0,.int 0,.int 0,.em true,.int 0,.int 0,.int 0,.int 0,.int 0,.int 0,.int 0,.em true,.em true,.em true,.em true,.em true,.em true,.em true,.em true]⟩),
 (103,⟨.st [(0,1),(1,1),(2,1),(3,20)],23,[.int 0,.int 0,.np,.int 0,.int 0,.int 0,.int 0,.em true,.int 0,.int 0,.int 0,.int 0,.int 0,.int 0,.int 0,.em true,.em true,.em true,.em true,.em true,.em true,.em true,.em true]⟩),
 (107,⟨.st [(0,1),(1,1),(2,1),(3,1)],4,[.int 0,.int 0,.int 0,.em true]⟩),
 (108,⟨.st [(0,1),(1,1),(2,1),(3,1)],4,[.int 0,.int 0,.int 0,.em true]⟩),
 (109,⟨.sl 108 (some (.nm .record)),1,[.em true]⟩),
 (121,⟨.mp 3 41 none,1,[.dead]⟩),
 (136,⟨.st [(0,1),(1,1),(2,2)],4,[.int 0,.int 0,.int 0,.int 0]⟩),
 (137,⟨.st [(0,1),(1,1),(2,2)],4,[.int 0,.int 0,.int 0,.int 0]⟩),
 (138,⟨.st [(0,1),(1,1)],2,[.int 0,.int 0]⟩),
 (139,⟨.st [(0,1),(1,1)],2,[.int 0,.int 0]⟩),
 (146,⟨.st [(0,1),(1,1),(2,1),(3,1),(4,1)],5,[.em true,.int 0,.bool (.lit false),.bool (.lit false),.int 0]⟩),
 (147,⟨.st [(0,1),(1,1),(2,1),(3,1),(4,1)],5,[.em true,.int 0,.bool (.lit false),.bool (.lit false),.int 0]⟩),
 (150,⟨.fn,1,[.nf]⟩),
 (162,⟨.fn,1,[.nf]⟩),
 (171,⟨.st [(0,1),(1,1),(2,1),(3,1),(4,1)],5,[.int 0,.int 0,.em true,.bool (.lit false),.str ⟨[]⟩]⟩),
 (172,⟨.st [(0,1),(1,1),(2,1),(3,1),(4,1)],5,[.int 0,.int 0,.em true,.bool (.lit false),.str ⟨[]⟩]⟩),
 (173,⟨.i .u64,1,[.u64 0]⟩),
 (177,⟨.sl 219 (some (.nm .field)),1,[.em true]⟩),
 (186,⟨.st [(0,1),(1,1),(2,1),(3,1),(4,1)],5,[.int 0,.int 0,.int 0,.int 0,.int 0]⟩),
 (187,⟨.st [(0,1),(1,1),(2,1),(3,1),(4,1)],5,[.int 0,.int 0,.int 0,.int 0,.int 0]⟩),
 (192,⟨.i .u64,1,[.u64 0]⟩),
 (193,⟨.i .u32,1,[.xx (.w 0) []]⟩),
 (199,⟨.fn,1,[.nf]⟩),
 (200,⟨.st [(0,1),(1,1),(2,1),(3,1),(4,1),(5,1)],6,[.int 0,.int 0,.bool (.lit false),.int 0,.int 0,.nf]⟩),
 (201,⟨.st [(0,1),(1,1),(2,1),(3,1),(4,1),(5,1)],6,[.int 0,.int 0,.bool (.lit false),.int 0,.int 0,.nf]⟩),
 (202,⟨.mg 3 201 [.i 0,.i 0,.b false,.i 0,.i 0,.nf],1,[.dead]⟩),
 (204,⟨.ptr,1,[.np]⟩),
 (207,⟨.mp 3 3 (some .int),1,[.dead]⟩),
 (210,⟨.st [(0,1),(1,1)],2,[.int 0,.int 0]⟩),
 (211,⟨.st [(0,1),(1,1)],2,[.int 0,.int 0]⟩),
 (213,⟨.mp 3 211 (some (.nm .span)),1,[.dead]⟩),
 (217,⟨.fn,1,[.nf]⟩),
 (218,⟨.st [(0,1),(1,1),(2,1),(3,1)],4,[.int 0,.int 0,.u64 0,.em true]⟩),
 (219,⟨.st [(0,1),(1,1),(2,1),(3,1)],4,[.int 0,.int 0,.u64 0,.em true]⟩),
 (235,⟨.ar 7 3,7,[.int 0,.int 0,.int 0,.int 0,.int 0,.int 0,.int 0]⟩),
 (251,⟨.ar 5 3,5,[.int 0,.int 0,.int 0,.int 0,.int 0]⟩),
 (252,⟨.sl 255 (some (.nm .spec)),1,[.em true]⟩),
 (254,⟨.st [(0,1),(1,1),(2,1),(3,1),(4,1)],5,[.int 0,.int 0,.int 0,.bool (.lit false),.bool (.lit false)]⟩),
 (255,⟨.st [(0,1),(1,1),(2,1),(3,1),(4,1)],5,[.int 0,.int 0,.int 0,.bool (.lit false),.bool (.lit false)]⟩),
 (261,⟨.fn,1,[.nf]⟩),
 (262,⟨.fn,1,[.nf]⟩),
 (264,⟨.st [(0,8),(8,1),(9,1)],10,[.int 0,.int 0,.int 0,.int 0,.int 0,.int 0,.em true,.str ⟨[]⟩,.bool (.lit false),.int 0]⟩),
 (265,⟨.st [(0,8),(8,1),(9,1)],10,[.int 0,.int 0,.int 0,.int 0,.int 0,.int 0,.em true,.str ⟨[]⟩,.bool (.lit false),.int 0]⟩),
 (282,⟨.fn,1,[.nf]⟩),
 (286,⟨.ar 2 193,2,[.xx (.w 0) [],.xx (.w 0) []]⟩),
 (289,⟨.mp 3 252 (some (.G7 (.nm .spec))),1,[.dead]⟩),
 (291,⟨.fn,1,[.nf]⟩),
 (301,⟨.fn,1,[.nf]⟩),
 (303,⟨.fn,1,[.nf]⟩),
 (305,⟨.fn,1,[.nf]⟩),
 (306,⟨.fn,1,[.nf]⟩),
 (307,⟨.fn,1,[.nf]⟩),
 (308,⟨.fn,1,[.nf]⟩),
 (313,⟨.ptr,1,[.np]⟩),
 (315,⟨.mp 3 307 none,1,[.dead]⟩),
 (317,⟨.i .i64,1,[.int 0]⟩),
 (328,⟨.fn,1,[.nf]⟩),
 (330,⟨.fn,1,[.nf]⟩),
 (337,⟨.ar 65 3,65,(replicate 65 (.int 0))⟩),
 (338,⟨.ar 65 3,65,(replicate 65 (.int 0))⟩),
 (340,⟨.i .u64,1,[.u64 0]⟩),
 (344,⟨.ptr,1,[.np]⟩),
 (353,⟨.ptr,1,[.np]⟩),
 (355,⟨.ptr,1,[.np]⟩)]
end Go.Proofs.YticbaadnibdbkaaGreat
namespace Go.Proofs.YticbaadnibdbkaaGreat
open Tryz
def ek:bz prog (av l6) l6:=aeM cm
def kN:prog.follows .mixedOrders=true:=cm
end Go.Proofs.YticbaadnibdbkaaGreat
namespace Go.Proofs.YticbaadnibdbkaaGreat
open Tryz
open Go.RowKit
def S6 (a b:n8):Prop:=∀ c d v,dJ c d a v->dJ c d b v
def Hm:List n8->List n8->Prop
 | [],[]=>True
 | a :: r,b :: l=>S6 a b/\Hm r l
 | _,_=>False
def Hm.rd {c:Cx} {a:List RE}:∀ {b d:List n8} {e:List Value},Hm b d->hQ (dJ c a) b e->hQ (dJ c a) d e
 | [],[],_,_,h=>h
 | _ :: _,_ :: _,_,h,k=>by cases k with | cons f g=>exact .cons (h.1 _ _ _ f) (Hm.rd h.2 g)
structure PU (α:Type) where
 p:n8->Option α
 u:α->n8
 ok:∀ a y,p a=some y->S6 a (u y)
def kT (s:Sh):PU (l5 s):=⟨fun | .agg l=>gP s l | _=>none,fun x=>.agg (cellsOf s x),fun a y h=>by
 cases a with
 | c a=>cases h
 | agg l=>exact fun c f v ⟨b,e,d⟩=>⟨b,e,iv (aV h (d.imp fun _ _ h=>Rd.qd h))⟩⟩
def kAp (s:Sh) (n:Nat):n8->Option (List (l5 s))
 | .agg l=>match tU s l with
  | some a=>bif Nat.beq a.length n && Nat.beq s.size 1 then some a else none
  | none=>none
 | .c _=>none
theorem xe {s:Sh} {a:List (l5 s)}:∀ (n k:Nat),k+n=a.length->yK s a k n=(a.drop k).flatMap (cellsOf s)
 | 0,k,h=>by rw [O0 az]; rfl
 | n+1,k,h=>by
  have b:k<a.length:=by omega
  rw [yK,xe n (k+1) az,J2 b,H5,ts,p6 b]; rfl
def kA (s:Sh) (n:Nat):PU (List (l5 s)):=⟨kAp s n,fun b=>.agg (yK s b 0 n),fun a y h=>by
 cases a with
 | c a=>cases h
 | agg l=>
  simp only [kAp] at h
  split at h
  ·rename_i b g
   cases d:(Nat.beq b.length n && Nat.beq s.size 1) <;> rw [d] at h <;> cases h
   simp only [pe] at d
   intro c k v i
   obtain ⟨f,e,j⟩:=i
   refine ⟨f,e,?_⟩
   show hQ _ (yK s y 0 n) f
   have:=r7 d.1
   rw [xe n 0 az]
   exact iv (mb g j)
  ·cases h⟩
def EB (s:Sh) (a:List (l5 s)):Nat->Nat->List (l5 s)
 | _,0=>[]
 | k,n+1=>a.getD k (c5 s) :: EB s a (k+1) n
theorem Iy {s:Sh} {a:List (l5 s)}:∀ (n k:Nat),(EB s a k n).length=n
 | 0,_=>rfl
 | n+1,k=>by rw [EB,y4,Iy n]
theorem Dc {s:Sh} {a:List (l5 s)}:∀ (n k:Nat),k+n=a.length->EB s a k n=a.drop k
 | 0,k,h=>by rw [O0 az]; rfl
 | n+1,k,h=>by
  have b:k<a.length:=by omega
  rw [EB,Dc n (k+1) az,J2 b,ts,p6 b]; rfl
variable {n:Nat}
def mD {s:Sh} {xs:List (l5 s)} (h:xs.length=n):EB s xs 0 n=xs:=Dc n 0 az
structure PC (α:Type) where
 p:AV->Option α
 u:α->AV
 ok:∀ a y,p a=some y->∀ c ρ v,Rd c ρ a v->Rd c ρ (u y) v
def pT {A:AV} {y:AV} (h:∀ c v,Qd c A v->Pd c y v):∀ c a v,Rd c a A v->Rd c a y v:=fun c a v b=>lV (h c v (Rd.qd b))
def cI:PC Int:=⟨AV.bq,.int,fun _ _ h=>pT fun _ _=>Pd.bq h⟩
def cU:PC y1:=⟨AV.N2,fun n=>.u64 n.n,fun _ _ h=>pT fun _ _=>Pd.N2 h⟩
def cB:PC Bool:=⟨AV.vT,fun b=>.bool (.atom b),fun _ _ h=>pT fun _ _=>Pd.vT h⟩
def cL (s:Sh):PC (List (l5 s)):=⟨AV.gv s,.fz s,fun _ _ h=>pT fun _ _=>Pd.gv h⟩
def DO:List (Nat × Nat)->List (Nat × Nat)->Bool
 | [],[]=>true
 | (i,o) :: r,(j,k) :: l=>Nat.beq i j && Nat.beq o k && DO r l
 | _,_=>false
theorem tc:∀ {a b:List (Nat × Nat)},DO a b=true->a=b
 | [],[],_=>rfl
 | (i,o) :: r,(j,k) :: l,h=>by
  simp only [DO,pe] at h;rw [r7 h.1.1,r7 h.1.2,tc h.2]
def cQ (e:AV->Bool) (x:AV) (h:∀ a,e a=true->a=x):PC Unit:=⟨fun a=>bif e a then some () else none,fun _=>x,fun a y k c f v b=>by
 cases d:e a <;> rw [d] at k
 ·cases k
 ·rw [h a d] at b; exact b⟩
def fE (i:Nat):PC Unit:=cQ (fun | .own j=>Nat.beq j i | _=>false) (.own i) fun a h=>by cases a <;> first | cases h | rw [r7 h]
def bm (i o:Nat):PC Unit:=cQ (fun | .ptr j k=>Nat.beq j i && Nat.beq k o | _=>false) (.ptr i o) fun a h=>by
 cases a <;> first | cases h | (simp only [pe] at h; rw [r7 h.1,r7 h.2])
def sQ (f:Nat) (b d:List (Nat × Nat)):PC Unit:=cQ (fun | .fn g e c=>Nat.beq g f && DO e b && DO c d | _=>false) (.fn f b d) fun a h=>by
 cases a <;> first | cases h | (simp only [pe] at h; rw [r7 h.1.1,tc h.1.2,tc h.2])
def O9 (b:Bool):PC Unit:=cQ (fun | .em c=>c == b | _=>false) (.em b) fun a h=>by cases a <;> first | cases h | rw [beq_iff_eq.1 h]
structure PL (α:Type) where
 p:List AV->Option α
 u:α->List AV
 ok:∀ l y,p l=some y->∀ c ρ vs,hQ (Rd c ρ) l vs->hQ (Rd c ρ) (u y) vs
def dY:PL Unit:=⟨fun | []=>some () | _=>none,fun _=>[],fun l y h c b d a=>by cases l <;> first | exact a | cases h⟩
def ax {b d:Type} (A:PC b) (R:PL d):PL (b × d):=⟨fun
 | a :: r=>match A.p a,R.p r with
  | some x,some y=>some (x,y)
  | _,_=>none
 | _=>none,fun q=>A.u q.1 :: R.u q.2,fun l y h c k m e=>by
 cases l with
 | nil=>cases h
 | cons a r=>
  dsimp only at h
  split at h
  ·rename_i f g
   cases h
   cases e with
   | cons i j=>exact .cons (A.ok _ _ f _ _ _ i) (R.ok _ _ g _ _ _ j)
  ·cases h⟩
def lSt {a:Type} (s:Sh) (R:PL a):PL (l5 s × a):=⟨fun l=>match gP s (l.take s.size),R.p (l.drop s.size) with
 | some x,some y=>some (x,y)
 | _,_=>none,fun q=>cellsOf s q.1++R.u q.2,fun l y h c ρ i b=>by
 split at h
 ·rename_i d e
  cases h
  have f:=iv (ρ:=ρ) (aV d ((b.take s.size).imp fun _ _ h=>Rd.qd h))
  have g:=R.ok _ _ e _ _ _ (b.drop s.size)
  have:=f.append g
  rwa [D5] at this
 ·cases h⟩
def PL.P4 {b d:Type} (A:PL b) (f:b->d) (g:d->b) (h:∀ a,g (f a)=a:=by intros; rfl):PL d:=⟨fun l=>(A.p l).map f,fun y=>A.u (g y),fun l y i c j e k=>by
 obtain ⟨a,m,rfl⟩:=G4.1 i
 show hQ _ (A.u (g (f a))) e
 rw [h]; exact A.ok l a m c j e k⟩
def kC {b:Type} (A:PC b):PU b:=⟨fun | .c a=>A.p a | _=>none,fun y=>.c (A.u y),fun a y h=>by
 cases a with
 | c a=>exact fun c d v e=>A.ok _ _ h c d v e
 | agg l=>cases h⟩
def kG {b:Type} (R:PL b):PU b:=⟨fun | .agg l=>R.p l | _=>none,fun y=>.agg (R.u y),fun a y h=>by
 cases a with
 | c a=>cases h
 | agg l=>exact fun c g v ⟨d,e,f⟩=>⟨d,e,R.ok _ _ h _ _ _ f⟩⟩
structure PT (α:Type) where
 p:List n8->Option α
 u:α->List n8
 ok:∀ l y,p l=some y->Hm l (u y)
def ao:PT Unit:=⟨fun | []=>some () | _=>none,fun _=>[],fun l y h=>by cases l <;> first | exact trivial | cases h⟩
def ae {b c:Type} (A:PU b) (R:PT c):PT (b × c):=⟨fun
 | a :: r=>match A.p a,R.p r with
  | some x,some y=>some (x,y)
  | _,_=>none
 | _=>none,fun q=>A.u q.1 :: R.u q.2,fun l y h=>by
 cases l with
 | nil=>cases h
 | cons a r=>
  dsimp only at h
  split at h
  ·rename_i d e
   cases h
   exact ⟨A.ok _ _ d,R.ok _ _ e⟩
  ·cases h⟩
structure PO (α:Type) where
 p:AO->Option α
 u:α->AO
 ok:∀ o y,p o=some y->∀ c ρ r,OR c ρ o r->OR c ρ (u y) r
def eu {b:Type} (t:TypeId) (R:PL b):PO b:=⟨fun | .box a d=>bif Nat.beq a t then R.p d else none | _=>none,fun y=>.box t (R.u y),fun o y h c m r i=>by
 cases o <;> dsimp only at h <;> try cases h
 rename_i a d
 cases f:Nat.beq a t <;> rw [f] at h
 ·cases h
 ·have:=r7 f
  subst this
  obtain ⟨g,j,e,k,l⟩:=i
  exact ⟨g,j,e,k,R.ok _ _ h _ _ _ l⟩⟩
def fD (t:TypeId) (s:Sh):PO (List (l5 s)):=⟨fun | .row b d a=>bif Nat.beq b t then (if h:d = s then some (h ▸ a) else none) else none | _=>none,fun a=>.row t s a,fun o y h c i r g=>by
 cases o <;> dsimp only at h <;> try cases h
 rename_i b d a
 cases f:Nat.beq b t <;> rw [f] at h
 ·cases h
 ·have:=r7 f
  subst this
  simp only [cond_true] at h
  split at h
  ·rename_i e
   subst e
   cases h
   exact g
  ·cases h⟩
def EG (t:TypeId) (s:Sh) (n:Nat):PO (List (l5 s)):=⟨fun | .y9 d g f a=>bif Nat.beq d t && Nat.beq f n then (if h:g = s then some (h ▸ a) else none) else none | _=>none,fun a=>.y9 t s n a,fun o y h c j r i=>by
 cases o <;> dsimp only at h <;> try cases h
 rename_i d g f a
 cases b:(Nat.beq d t && Nat.beq f n) <;> rw [b] at h
 ·cases h
 ·simp only [pe] at b
  have:=r7 b.1
  subst this
  have:=r7 b.2
  subst this
  simp only [cond_true] at h
  split at h
  ·rename_i e
   subst e
   cases h
   exact i
  ·cases h⟩
structure PH (α:Type) where
 p:AH->Option α
 u:α->AH
 ok:∀ H y,p H=some y->∀ c ρ ρ',hQ (OR c ρ) H ρ' -> hQ (OR c ρ) (u y) ρ'
def au:PH Unit:=⟨fun | []=>some () | _=>none,fun _=>[],fun l y h c d a b=>by cases l <;> first | exact b | cases h⟩
def aF {b d:Type} (A:PO b) (R:PH d):PH (b × d):=⟨fun
 | a :: r=>match A.p a,R.p r with
  | some x,some y=>some (x,y)
  | _,_=>none
 | _=>none,fun q=>A.u q.1 :: R.u q.2,fun l y h c m e f=>by
 cases l with
 | nil=>cases h
 | cons a r=>
  dsimp only at h
  split at h
  ·rename_i g i
   cases h
   cases f with
   | cons j k=>exact .cons (A.ok _ _ g _ _ _ j) (R.ok _ _ i _ _ _ k)
  ·cases h⟩
def PH.P4 {b d:Type} (A:PH b) (f:b->d) (g:d->b) (h:∀ a,g (f a)=a:=by intros; rfl):PH d:=⟨fun l=>(A.p l).map f,fun y=>A.u (g y),fun l y i c j e k=>by
 obtain ⟨a,m,rfl⟩:=G4.1 i
 show hQ _ (A.u (g (f a))) e
 rw [h]; exact A.ok l a m c j e k⟩
def Ag (t:TypeId) (s:Sh):PO (l5 s):=eu t (PL.P4 (lSt s dY) (·.1) (fun x=>(x,())))
def uJ (k:Nat) (s:b7):AH:=[.box 46 [.int s.a8,.int s.next,.int s.dm,.int s.ea,.own (k+1),.own (k+2),.own (k+3)],.row 137 (.nm .b8) s.b8,.row 139 (.nm .opn) s.c6,.row 172 (.nm .snap) s.b6]
def rW {a:Type} (k:Nat) (R:PH a):PH (b7 × a):=PH.P4 (aF (eu 46 (ax cI (ax cI (ax cI (ax cI (ax (fE (k+1)) (ax (fE (k+2)) (ax (fE (k+3)) dY)))))))) (aF (fD 137 (.nm .b8)) (aF (fD 139 (.nm .opn)) (aF (fD 172 (.nm .snap)) R))))
 (fun q=>(⟨q.1.1,q.1.2.1,q.1.2.2.1,q.1.2.2.2.1,q.2.1,q.2.2.1,q.2.2.2.1⟩,q.2.2.2.2)) (fun q=>((q.1.a8,q.1.next,q.1.dm,q.1.ea,(),(),(),()),q.1.b8,q.1.c6,q.1.b6,q.2))
variable {f:Nat} {H' H:AH}
def s6.amh {P:Program} {shp:TypeId->Option Sh} {e g:List n8} {r:z8} (h:s6 P shp f g H' r) (i:Hm e g) (j:∀ c d b,hQ (OR c d) H b -> hQ (OR c d) H' b):s6 P shp f e H r:=
 ⟨h.1,fun G d w k l a m=>h.2 G d w k l ⟨j _ _ _ a.obj,a.inj,a.sr,a.z,a.b0,a.tb⟩ (i.rd m)⟩
section
variable {α β:Type} {P:Program} {shp:TypeId->Option Sh} {f:Nat}
def aH (A:PT α) (B:PH β) (r:α->β->z8):List n8->AH->Option z8:=fun a H=>match A.p a,B.p H with
 | some x,some y=>some (r x y)
 | _,_=>none
def OL (P:Program) (shp:TypeId->Option Sh) (f:Nat) (k:List n8->AH->Option z8):Prop:=∀ args H r,k args H=some r->(∀ p ∈ r.pre,p)->s6 P shp f args H r
def ag {A:PT α} {B:PH β} {r:α->β->z8} (h:∀ x y,(∀ p ∈ (r x y).pre,p)->s6 P shp f (A.u x) (B.u y) (r x y)):OL P shp f (aH A B r):=fun args H R e b=>by
 unfold aH at e;split at e
 ·rename_i d g;cases e;exact (h _ _ b).amh (A.ok _ _ d) fun c i a j=>B.ok _ _ g c i a j
 cases e
def aI (f:Nat) (k:List n8->AH->Option z8) (O:ck):ck:=fun g a H=>bif Nat.beq f g then (match k a H with
 | some r=>some r
 | none=>O g a H) else O g a H
variable {O:ck}
def ah {k:List n8->AH->Option z8} (e:OL P shp f k) (c:ay P shp O):ay P shp (aI f k O):=fun g args H r h a=>by
 unfold aI at h;cases d:Nat.beq f g <;> rw [d] at h
 ·exact c g args H r h a
 have:=r7 d;subst this;split at h
 ·rename_i b;cases h;exact e _ _ _ b a
 exact c f args H r h a
def ahP:ck:=fun _ _ _=>none
def ahZ (O:ck):ck:=fun g a H=>bif Nat.beq g 1000000000 then some ⟨[False],[],none,false⟩ else O g a H
def Ky (b:ay P shp O):ay P shp (ahZ O):=fun g args H r h a=>by
 unfold ahZ at h;cases c:Nat.beq g 1000000000 <;> rw [c] at h
 ·exact b g args H r h a
 cases h; exact (a False aa).elim
def akQ (O:ck):ck:=fun g a H=>bif Nat.beq g 1000000002 then some ⟨[False],[],none,false⟩ else O g a H
def VN (b:ay P shp O):ay P shp (akQ O):=fun g args H r h a=>by
 unfold akQ at h;cases c:Nat.beq g 1000000002 <;> rw [c] at h
 ·exact b g args H r h a
 cases h; exact (a False aa).elim
def ft:ay P shp ahP:=fun _ _ _ _ h=>by cases h
variable {l:List Prop}
def b_ {p:Prop} (h:∀ q ∈ p :: l,q):p:=h _ (.head _)
def dv {p:Prop} (h:∀ q ∈ p :: l,q):∀ q ∈ l,q:=fun q a=>h q (.tail _ a)
end
abbrev Kn:=List n8->AH->Option z8
abbrev CK (f:Nat) (k:Kn):Prop:=OL prog (av l6) f k
variable {t:Prop} {O:ck} {rs:List n8} {fn:Func}
def aq (d:ay prog (av l6) O) {args:List n8} {pre:List Prop} (L:List (Nat × LI)) (a:prog.funcs[f]? = some fn) (h:t) (e:t=N4 l6 O L fn args H rs:=by kernel_rfl) (b:(fn.name == "runtime.NumGoroutine")=false:=by decide)
  (g:(match fn.body with
   | some c=>e_ fn.ntmps c && Nat.ble args.length fn.ntmps
   | none=>false)=true:=by kernel_rfl):s6 prog (av l6) f args H ⟨pre,rs,none,false⟩:=s6.adC ek d (pw ek d kN) a b g (e ▸ h)
def bP (d:ay prog (av l6) O) {args:List n8} {pre:List Prop} (L:List (Nat × LI)) (a:prog.funcs[f]? = some fn) (h:t) (e:t=wpE l6 O L fn args H rs H':=by kernel_rfl) (b:(fn.name == "runtime.NumGoroutine")=false:=by decide)
  (g:(match fn.body with
   | some c=>e_ fn.ntmps c && Nat.ble args.length fn.ntmps
   | none=>false)=true:=by kernel_rfl):s6 prog (av l6) f args H ⟨pre,rs,some H',false⟩:=s6.OY ek d (pw ek d kN) a b g (e ▸ h)
def cr (d:ay prog (av l6) O) {args:List n8} {pre:List Prop} (L:List (Nat × LI)) (a:prog.funcs[f]? = some fn) (h:t) (e:t=wpN l6 O L fn args H rs H':=by kernel_rfl) (b:(fn.name == "runtime.NumGoroutine")=false:=by decide)
  (g:(match fn.body with
   | some c=>e_ fn.ntmps c && Nat.ble args.length fn.ntmps
   | none=>false)=true:=by kernel_rfl):s6 prog (av l6) f args H ⟨pre,rs,some H',true⟩:=s6.OY ek d (pw ek d kN) a b g (e ▸ h)
abbrev adr (a b:eb):Prop:=a.a6=b.a6/\a.seq=b.seq/\a.last.code=b.last.code/\a.last.n=b.last.n
abbrev EK (a b:eb) (p:Prop):Prop:=a.a6=b.a6/\a.seq=b.seq/\a.last.code=b.last.code/\a.last.n=b.last.n/\p
abbrev dM (a:eb) (p:Prop):Prop:=a7 a.a6->a7 a.seq->a7 a.last.code->a7 a.last.n->p
abbrev bY (a:hX) (p:Prop):Prop:=a7 a.id->a7 a.set->a.b9.length*8<=140737488355328->a.tag.b.length<=140737488355328->p
abbrev cd (a b:b7):Prop:=a.a8=b.a8/\a.next=b.next/\a.dm=b.dm/\a.ea=b.ea/\a.b8=b.b8/\a.c6=b.c6/\a.b6=b.b6
abbrev bS (a b:b7) (p:Prop):Prop:=a.a8=b.a8/\a.next=b.next/\a.dm=b.dm/\a.ea=b.ea/\a.b8=b.b8/\a.c6=b.c6/\a.b6=b.b6/\p
abbrev cw (a:b7) (p:Prop):Prop:=a7 a.a8->a7 a.next->a7 a.dm->a7 a.ea->a.b8.length*32<=140737488355328->a.c6.length*16<=140737488355328->a.b6.length*64<=140737488355328->p
abbrev aG (a b:b5):Prop:=a.kind=b.kind/\a.a6=b.a6/\a.seq=b.seq/\a.set=b.set/\a.id=b.id/\a.n=b.n/\a.b9=b.b9/\a.text=b.text
abbrev aX (a b:b5) (p:Prop):Prop:=a.kind=b.kind/\a.a6=b.a6/\a.seq=b.seq/\a.set=b.set/\a.id=b.id/\a.n=b.n/\a.b9=b.b9/\a.text=b.text/\p
abbrev bc (a:b5) (p:Prop):Prop:=a7 a.kind->a7 a.a6->a7 a.seq->a7 a.set->a7 a.id->a7 a.n->a.b9.length*8<=140737488355328->a.text.b.length<=140737488355328->p
abbrev FF (a b:k9):Prop:=a.num=b.num/\a.fl=b.fl/\a.since=b.since/\a.x3=b.x3/\a.hY=b.hY
abbrev jB (a:k9) (p:Prop):Prop:=a7 a.num->a7 a.fl->a7 a.since->p
abbrev tP (a b:c9) (p:Prop):Prop:=a.kind=b.kind/\a.a=b.a/\a.b=b.b/\a.x=b.x/\p
abbrev eN (a:c9) (p:Prop):Prop:=a7 a.kind->a7 a.a->a7 a.b->a.x.length*1<=140737488355328->p
abbrev Ci (a b:eR):Prop:=a.kind=b.kind/\a.n7=b.n7/\a.to=b.to/\a.bo=b.bo/\a.a=b.a/\a.b=b.b/\a.c=b.c/\a.bin=b.bin/\a.ok=b.ok/\a.l=b.l
abbrev iG (a b:eR) (p:Prop):Prop:=a.kind=b.kind/\a.n7=b.n7/\a.to=b.to/\a.bo=b.bo/\a.a=b.a/\a.b=b.b/\a.c=b.c/\a.bin=b.bin/\a.ok=b.ok/\a.l=b.l/\p
abbrev bf (a:eR) (p:Prop):Prop:=a7 a.kind->a7 a.n7->a7 a.to->a7 a.bo->a7 a.a->a7 a.b->a7 a.c->a7 a.bin->a.l.length*32<=140737488355328->p
abbrev eJ (a b:c4):Prop:=a.floor=b.floor/\a.bo=b.bo/\a.jc=b.jc/\a.log=b.log
abbrev aN (a b:c4) (p:Prop):Prop:=a.floor=b.floor/\a.bo=b.bo/\a.jc=b.jc/\a.log=b.log/\p
abbrev cS (a:c4) (p:Prop):Prop:=a7 a.floor->a7 a.bo->a7 a.jc->a.log.length*32<=140737488355328->p
abbrev We (a:v7) (p:Prop):Prop:=a7 a.n7->a7 a.to->a7 a.next->a7 a.c7->a7 a.bin->p
abbrev za (a b:Site):Prop:=a.up=b.up/\a.j0=b.j0/\a.binary=b.binary/\a.floor=b.floor/\a.bo=b.bo/\a.jc=b.jc/\a.c7=b.c7/\a.c3=b.c3/\a.log=b.log/\a.eS.a8=b.eS.a8/\a.eS.next=b.eS.next/\a.eS.dm=b.eS.dm/\a.eS.ea=b.eS.ea/\a.eS.b8=b.eS.b8/\a.eS.c6=b.eS.c6/\a.eS.b6=b.eS.b6
abbrev z_ (a b:Site) (p:Prop):Prop:=a.up=b.up/\a.j0=b.j0/\a.binary=b.binary/\a.floor=b.floor/\a.bo=b.bo/\a.jc=b.jc/\a.c7=b.c7/\a.c3=b.c3/\a.log=b.log/\a.eS.a8=b.eS.a8/\a.eS.next=b.eS.next/\a.eS.dm=b.eS.dm/\a.eS.ea=b.eS.ea/\a.eS.b8=b.eS.b8/\a.eS.c6=b.eS.c6/\a.eS.b6=b.eS.b6/\p
abbrev US (a:Site) (p:Prop):Prop:=a7 a.j0->a7 a.binary->a7 a.floor->a7 a.bo->a7 a.jc->a7 a.c7->a7 a.c3->a.log.length*32<=140737488355328->a7 a.eS.a8->a7 a.eS.next->a7 a.eS.dm->a7 a.eS.ea->a.eS.b8.length*32<=140737488355328->a.eS.c6.length*16<=140737488355328->a.eS.b6.length*64<=140737488355328->p
abbrev abj (a:C8) (p:Prop):Prop:=a7 a.n->a7 a.x.kind->a7 a.x.n7->a7 a.x.to->a7 a.x.bo->a7 a.x.a->a7 a.x.b->a7 a.x.c->a7 a.x.bin->a.x.l.length*32<=140737488355328->a7 a.c.kind->a7 a.c.a6->a7 a.c.seq->a7 a.c.set->a7 a.c.id->a7 a.c.n->a.c.b9.length*8<=140737488355328->a.c.text.b.length<=140737488355328->p
def GZ (G:Gl) (a b:Nat):Gl:=⟨G.shp,G.B0,fun x=>G.Z x\/x=a\/x=b⟩
structure A0 (Z:Nat->Prop) (ρ:List RE) (w:World) (ρ':List RE) (w':World):Prop where
 os:w'.os=w.os
 tape:w'.tape=w.tape
 output:w'.output=w.output
 size:w.heap.size<=w'.heap.size
 x4:∀ b,b<w.heap.size->¬ live ρ b->¬ live ρ' b/\(¬ Z b->w'.heap[b]? = w.heap[b]?)
 bx:∀ (i g:Nat),ρ[i]? = some (.blk g)->ρ'[i]? = some (.blk g)
section
variable {Z:Nat->Prop} {G:Gl} {H:AH} {ρ ρ0 ρ1 ρ2 ρ':List RE} {w w' wa wb wc:World}
def A0.trans (h:A0 Z ρ0 wa ρ1 wb) (k:A0 Z ρ1 wb ρ2 wc):A0 Z ρ0 wa ρ2 wc:=
 ⟨k.os.trans h.os,k.tape.trans h.tape,k.output.trans h.output,z7 h.size k.size,fun x a c=>by
  obtain ⟨d,e⟩:=h.x4 x a c;obtain ⟨j,l⟩:=k.x4 x (w9 a h.size) d;exact ⟨j,fun b=>(l b).trans (e b)⟩,fun i g m=>k.bx i g (h.bx i g m)⟩
def A0.zQ (h:u1 ρ w ρ' w') (a:∀ (i g:Nat),ρ[i]? = some (.blk g)->ρ'[i]? = some (.blk g)):A0 Z ρ w ρ' w':=
 ⟨h.os,h.tape,h.output,h.size,fun b a c=>⟨(h.x4 b a c).1,fun _=>(h.x4 b a c).2⟩,a⟩
variable {l:Nat}
theorem A0.put (o:Obj) (a:Z l):A0 Z ρ w ρ (w.putObj l o):=
 ⟨rfl,rfl,rfl,aa,fun b _ h=>⟨h,fun c=>L4 (fun e=>c (e ▸ a))⟩,fun _ _ h=>h⟩
def A0.le (e:∀ b,Z b->G.Z b) (c:∀ b,b<G.B0->b<w.heap.size/\¬ live ρ b) (g:∀ b,Z b->G.B0<=b) (h:A0 Z ρ w ρ' w'):(cx G ρ w).le (cx G ρ' w'):=
 ⟨rfl,rfl,fun b a=>⟨⟨w9 a.1 h.size,(h.x4 b a.1 a.2.1).1,a.2.2⟩,(h.x4 b a.1 a.2.1).2 fun d=>a.2.2 (e b d)⟩,fun b a i=>(h.x4 b i (c b a).2).2 fun d=>Nat.lt_irrefl _ (w9 a (g b d))⟩
theorem oh.Lm (h:oh G ρ H w) (o:Obj) (k:G.Z l) (p:G.B0<=l):oh G ρ H (w.putObj l o):=by
 have a:(cx G ρ w).le (cx G ρ (w.putObj l o)):=A0.le (Z:=fun b=>b=l) (fun b c=>c ▸ k) h.lo (fun b c=>c ▸ p) (A0.put o rfl);refine ⟨df h.obj.length fun i x r q m=>?_,h.inj,fun i r g s u=>?_,fun b c=>by have:=h.z b c; simpa using this,by have:=h.b0; simpa using this,h.tb.c8 a⟩
 ·obtain ⟨y,d,j⟩:=h.at_ q;rw [m] at d; cases d;exact j.c8 a (lu.refl _) fun g v=>L4 (fun e=>(h.sr i r g m v).2.2 (e ▸ k))
 have:=h.sr i r g s u;simp_all
theorem oh.enter (h:oh G ρ H w) (a d:Obj):oh (GZ G w.heap.size (w.heap.size+1)) ρ H ((w.alloc a).alloc d)/\(cx G ρ w).le (cx (GZ G w.heap.size (w.heap.size+1)) ρ ((w.alloc a).alloc d))/\Kp [] w ((w.alloc a).alloc d):=by
 have c:Kp [] w ((w.alloc a).alloc d):=by
  have q:=World.grownBy_alloc w a none;have s:=World.grownBy_alloc (w.alloc a) d none;refine ⟨rfl,rfl,rfl,by simp; omega,fun b hb _=>?_⟩;exact (s.block b (by simp; omega) aa).trans (q.block b hb aa)
 have e:(cx G ρ w).le (cx (GZ G w.heap.size (w.heap.size+1)) ρ ((w.alloc a).alloc d)):=⟨rfl,rfl,fun b hb=>by
  have u:b<w.heap.size:=hb.1;exact ⟨⟨w9 hb.1 c.size,hb.2.1,fun hz=>by
   rcases hz with hz | hz | hz
   ·exact hb.2.2 hz
   ·omega
   omega⟩,c.block b hb.1 aa⟩,fun b _ m=>c.block b m aa⟩
 refine ⟨⟨df h.obj.length fun i o r v p=>?_,h.inj,fun i r g x y=>?_,fun b hb=>?_,z7 h.b0 c.size,h.tb.c8 e⟩,e,c⟩
 ·obtain ⟨B,j,k⟩:=h.at_ v;rw [p] at j; cases j;exact k.c8 e (lu.refl _) fun g A=>c.block g (h.sr i r g p A).2.1 aa
 ·have:=h.sr i r g x y;refine ⟨this.1,w9 this.2.1 c.size,fun hz=>?_⟩;rcases hz with hz | hz | hz
  ·grind
  ·grind
  have:=this.2.1; omega
 have m:((w.alloc a).alloc d).heap.size=w.heap.size+1+1:=by simp
 rcases hb with hb | hb | hb
 ·exact w9 (h.z b hb) c.size
 ·omega
 omega
def oh.U3 {a b:Nat} (h:oh (GZ G a b) ρ H w) (e:∀ x,G.Z x->x<w.heap.size):oh G ρ H w/\(cx (GZ G a b) ρ w).le (cx G ρ w):=by
 have c:(cx (GZ G a b) ρ w).le (cx G ρ w):=⟨rfl,rfl,fun x j=>⟨⟨j.1,j.2.1,fun h=>j.2.2 (.inl h)⟩,rfl⟩,fun _ _ _=>rfl⟩;refine ⟨⟨df h.obj.length fun i o r m p=>?_,h.inj,fun i r g q s=>?_,e,h.b0,h.tb.c8 c⟩,c⟩
 ·obtain ⟨u,d,k⟩:=h.at_ m;rw [p] at d; cases d;exact k.c8 c (lu.refl _) fun g _=>rfl
 have:=h.sr i r g q s;exact ⟨this.1,this.2.1,fun e=>this.2.2 (.inl e)⟩
def Kc:AV->Bool
 | .own _=>false
 | .sub _ _ _=>false
 | .x8 _ _ _=>false
 | _=>true
def aju:n8->Bool
 | .c a=>Kc a
 | .agg l=>l.all Kc
def JD:j9->Bool
 | []=>true
 | (_,.one t) :: r=>aju t && JD r
 | _ :: _=>false
def eQ.fC {q:Nat × Nat} {v:Value} (h:eQ ρ q v) (k:∀ (i g:Nat),ρ[i]? = some (.blk g)->ρ'[i]? = some (.blk g)):eQ ρ' q v:=by
 obtain ⟨g,a,b⟩:=h;exact ⟨g,k _ _ a,b⟩
def Rd.fC {c q:Cx} {a:AV} {v:Value} (h:Rd c ρ a v) (o:Kc a=true) (j:c.le q) (k:∀ (i g:Nat),ρ[i]? = some (.blk g)->ρ'[i]? = some (.blk g)):Rd q ρ' a v:=by
 cases a;case own=>cases o
 case sub=>cases o
 case x8=>cases o
 case ptr=>exact eQ.fC h k
 case np=>exact h
 case fe=>
  obtain ⟨A,d,b,m,r,e⟩:=h;exact ⟨A,d,(j.S _ b).1,m.dm (j.S _ b).2,r.c8 j,e⟩
 case fn=>
  obtain ⟨s,p,b,m,e⟩:=h;exact ⟨s,p,b.imp fun _ _ h=>h.fC k,m.imp fun _ _ h=>h.fC k,e⟩
 case nf=>exact h
 case yl=>exact h
 case xx=>
  obtain ⟨p,b,m⟩:=h;exact ⟨p,b.imp fun _ _ h=>h.fC k,m.le j⟩
 case mq=>
  obtain ⟨g,b,e⟩:=h;exact ⟨g,k _ _ b,e⟩
 case dead=>exact h
 all_goals exact Pd.c8 h j
def K9.fC {c b:Cx}:∀ {l:List AV} {d:List Value},hQ (Rd c ρ) l d->l.all Kc=true->c.le b -> (∀ (i g:Nat),ρ[i]? = some (.blk g)->ρ'[i]? = some (.blk g))->hQ (Rd b ρ') l d
 | [],_,h,_,_,_=>by cases h; exact .nil
 | _ :: _,_,h,a,e,k=>by
  cases h with | cons j m=>
  simp only [K3,pe] at a;exact .cons (j.fC a.1 e k) (K9.fC m a.2 e k)
def o9.fC {c m:Cx}:∀ {fr:j9} {F:Fr},o9 c ρ fr F->JD fr=true->c.le m -> (∀ (i g:Nat),ρ[i]? = some (.blk g)->ρ'[i]? = some (.blk g))->o9 m ρ' fr F
 | [],_,h,_,_,_=>by cases h; exact .nil
 | (i,t) :: r,_,h,b,d,k=>by
  cases h with | cons j o=>
  cases t with
  | one t=>
   simp [JD] at b;refine .cons ⟨j.1,?_⟩ (o9.fC o b.2 d k);cases t with
   | c a=>exact Rd.fC j.2 b.1 d k
   | agg l=>obtain ⟨p,e,q⟩:=j.2; exact ⟨p,e,K9.fC q b.1 d k⟩
  | _=>cases b
end
section
variable {P:Program} {Q:Exit->Act->World->Prop} {n:Nat} {F:Fr} {w:World} {a:Act}
def O_ (h:a.defers=[]):jy a []=a:=by rw [jy,<- h]
variable {ro:Option Nat} {m:Nat}
def Nn {c:Code} (h:c.wpIn (iz ro) 0 P Q a w):c.wpIn (iz ro) m P Q a w:=fun b k d e g _=>h b k d e g ajJ
def lB.R9 {c:Code} (d:a.defers=[]) (h:lB P c Q a w):c.wpIn (iz ro) m P Q a w:=by
 have b:=h ro [];rw [O_ d] at b;exact Nn (wpIn_mono b fun e k l ⟨o,g,i,j⟩=>by rw [i,O_ g]; exact j)
variable {l:List Oper}
theorem WO.p4 {d g:List Oper} (h:WO P (fun e a w=>match e with | .normal=>Nw P l.toArray Q g a w | e=>Q e a w) n l d F w):WO P Q n l (d++g) F w:=fun a k ro i=>
 iW (fun e o p q b=>by
  obtain ⟨j,r,c,b⟩:=b;refine ⟨j,r,c,?_⟩;cases e with
  | normal=>exact absurd rfl q
  | _=>exact b) (fun o p ⟨j,_,c,b⟩=>by rw [c]; exact b ro i) _ (h a k ro i)
variable {tmps:Array Value} {L:Nat} {body:Code}
def WO.yield {b:List Oper} {d:Nat} {o:Op} {p:TypeId} {c:String} {j:Array Edge} {assign:Code} {q:Value->World->Prop}
  (h:∀ a d c j g,M n F a->(execOp a.eval ⟨d,o,p,c,j,g⟩).run P w = .ok (.round L f tmps assign body) w) (s:Nat.blt d n=true)
  (u:∀ ro m,RoundIn (iz ro) m P L f tmps assign body w fun e i=>∃ v,e = .returned v/\q v i) (k:∀ v i,q v i -> WO P Q n l b ((d,v) :: F) i):WO P Q n l (⟨some d,o,p,c,j,none⟩ :: b) F w:=fun a r ro x=>
 wpListIn_plain rfl fun K hK=>by
  refine ⟨fun _ _=>trivial,?_⟩;rw [oH,aiW (h a _ _ _ _ r) (fun d=>by simp)];refine ⟨(fun h=>by cases h),(u ro _).mono fun e i ⟨v,y,z⟩=>?_⟩;subst y;refine hK _ _ ?_;exact k v i z _ (r.put s) ro x
def Tq {b:Code} {R:Ending->World->Prop}
  (h:lB P b (Exit.then (fun d g=>∃ c,(Instr.beginRound L).run P g = .ok () c/\lB P body (roundPost P L R) d c/\d.defers=[]) (fun _ _ _=>False)) { tmps:=tmps,defers:=[] } w):RoundIn (iz ro) m P L f tmps b body w R:=by
 refine roundIn_of_wpIn (F:=iz ro) trivial ?_;refine wpIn_mono (lB.R9 (ro:=some L) rfl h) fun e d g i=>?_;cases e with
 | normal=>
  obtain ⟨c,j,k,o⟩:=i;exact ⟨c,j,lB.R9 (ro:=some L) o k⟩
 | _=>exact i
end
def aiw (T:List (Nat × TI)) (a:AH) (b:Nat) (H':AH) (H:AH):List Prop:=
 match Lk a b H [] [] H' 3 [] with
 | σ=>same (nT H.length σ)++P2 T H H.length σ σ H'
section
variable {P:Program} {T:List (Nat × TI)} {G:Gl} {ρ ρ0:List RE} {H H0 H':AH} {w w0:World} {k0:Nat}
def Tz (hT:bz P G.shp T) (e:oh G ρ H w) (hE:u1 ρ0 w0 ρ w) (j:∀ (i g:Nat),ρ0[i]? = some (.blk g)->ρ[i]? = some (.blk g)) (k:∀ (i g:Nat),i<k0->ρ0[i]? = some (.blk g)->lW (l4 H0 i)=false) (h:kj (aiw T H0 k0 H' H)) :
  ∃ a,oh G a H' w/\u1 ρ0 w0 a w/\∀ (i g:Nat),i<k0->ρ0[i]? = some (.blk g)->a[i]? = some (.blk g):=by
 replace h:=fa.1 h;refine ⟨dy ρ (Lk H0 k0 H [] [] H' 3 []),pn hT e rfl (cg.1 fun p b=>h p (B9 _ b)) fun p b=>h p (C6 _ b),om hE,fun i g c d=>?_⟩;exact dR (ph c (k i g c d) _ _) (j i g d)
end
section
variable {P:Program} {n:Nat} {fr:Fr} {w:World} {x y:Operand} {t t' ty e:TypeId}
variable {m:Nat}
def R.WT {a:Option Addr} {c:Nat} (b:ev fr x=some (.slice a m c)) (d:P.underlying t=some (.slice e)):aL P n fr w (.call { callee:=.builtin .cap,args:=#[x],argTypes:=#[t] }) ty (.int .i64 (c:Int)) w:=fun _ _ _ _ _ g=>by
 simp [execOp,resolve,invoke,builtin,g.ev b,Builtin.cap_,A5 d,goInt]
variable {sc k:Nat} {zv:Value} {ti:TypeInfo}
def R.aj9 {base:Option Addr} {a:Nat} {b:List Value} (o:ev fr x=some (.slice base a sc)) (p:ev fr y=some (.int .i64 (k:Int))) (q:P.underlying t=some (.slice e)) (g:P.underlying t' = some (.int .i64)) (r:P.info? e=some ti) (s:ti.zero=some zv)
  (c:(Builtin.firstCells ti.size a (.slice base a sc)).run P w.drew = .ok b.toArray w.drew) (u:0<k) (v:0<ti.size) (z:sc<a+k) (i:((a+k:Nat):Int)<=9223372036854775807) (j:k*ti.bytes<=281474976710656) (d:Builtin.nextslicecap (a+k) sc*ti.bytes<=281474976710656) :
  aL P n fr w (.call { callee:=.builtin .append,args:=#[x,y],argTypes:=#[t,t'] }) ty (.slice (some ⟨w.heap.size,0,none⟩) (a+k) (grownCap w (a+k) sc e))
   (w.drew.alloc (.cells (b.toArray++Builtin.zeroCells zv.cells k++Builtin.zeroCells zv.cells (grownCap w (a+k) sc e - (a+k))) e)):=fun _ _ _ _ _ l=>by
 have h:=Lib.run_append_grow_zeros w t t' ty e ti zv .i64 .i64 q g r s base a sc b c k u v z i j d;simp [execOp,resolve,invoke,builtin,l.ev o,l.ev p,h]
variable {ca la z cb lb:Nat} {tA tS tB tR:TypeId} {curA curB:Array Value} {a b:Addr} {fA:Nat × Nat}
def ZF (A:P.underlying tS=some (.slice e)) (B:(P.info? e).map (·.size)=some z) (c:a.block≠b.block) 
  (F:w.heap[a.block]? = some (.cells curA tA fA)) (l:curA.size≠0) (o:w.heap[b.block]? = some (.cells curB tB (0,0))) :
  (Extern.SlicesOverlaps.overlaps #[tS,tS] #[tR] #[.slice (some a) la ca,.slice (some b) lb cb]).run P w = .ok (.bool false) w:=by
 have p:(a.block != b.block)=true:=by simpa using c
 have d:(a.block == b.block)=false:=by simpa using c
 have q:w.frozen? b=false:=by
  simp [World.frozen?,o]
 have r:w.frozen? { block:=b.block,off:=curB.size }=false:=by
  simp [World.frozen?,o]
 have g:w.shape? a.block=some (tA,curA.size):=by simp [World.shape?,F]
 have s:w.shape? b.block=some (tB,curB.size):=by simp [World.shape?,o]
 have h:(sizeOf e).run P w = .ok z w:=by
  cases u:P.info? e with
  | none=>simp [u] at B
  | some i=>
   have G:i.size=z:=by simpa [u] using B
   simp [sizeOf,typeInfo,u,G]
 change Sem.run P (α:=Value) (do
  let some t:=(#[tS,tS]:Array TypeId)[0]? | stuck "slices.overlaps: no parameter types"
  let .slice elem <- underlying t | stuck "slices.overlaps: slice type expected"
  let size <- sizeOf elem
  match (some a:Option Addr),(some b:Option Addr) with
  | some a,some b=>
   if la=0\/lb=0\/size=0 then pure (Value.bool false)
   else if a.block != b.block && (<- frozen a) && (<- frozen b) then unsupported .addressObserved
   else do
    if a.block != b.block then do
     noView a; noView b
     if <- mayBeOne a b then return Value.bool ((<- choose (.extern "sameAddr.stringBytes" 2)) == 1)
    pure (Value.bool (a.block == b.block && a.off<b.off+lb*size && b.off<a.off+la*size))
  | _,_=>pure (Value.bool false)) w=_
 by_cases C:la=0\/lb=0\/z=0
 ·simp [A5 A,h,C]
 cases D:curA.size with
 | zero=>exact absurd D l
 | succ k=>
  rw [D] at g;cases v:w.frozen? a <;> cases j:w.frozen? { block:=a.block,off:=k+1 } <;>
   simp [A5 A,h,C,p,d,frozen,noView,viewAt,mayBeOne,stringish,shape,Sem.run,g,s,v,q,r,j]
def R.ovl {f:FuncId} {d:Array TypeId} (l:P.funcs[f]? = some fn) (c:(fn.name == "runtime.NumGoroutine")=false) (o:fn.body.isNone=true) (p:Extern.findNext fn=none) (q:Extern.find fn=some (Extern.SlicesOverlaps.overlaps #[tS,tS] #[tR]))
  (r:P.underlying tS=some (.slice e)) (s:(P.info? e).map (·.size)=some z) (g:a.block≠b.block) 
  (u:w.heap[a.block]? = some (.cells curA tA fA)) (h:curA.size≠0) (v:w.heap[b.block]? = some (.cells curB tB (0,0))) (A:ev fr x=some (.slice (some a) la ca)) (B:ev fr y=some (.slice (some b) lb cb)) :
  aL P n fr w (.call { callee:=.value (.func f),args:=#[x,y],argTypes:=d }) ty (.bool false) w:=fun ac _ _ _ _ i=>by
 have j:=run_callFunc_extern l c o p q #[.slice (some a) la ca,.slice (some b) lb cb] w;rw [ZF r s g u h v] at j;have C:ac.eval (.func f) = .func (.func f) #[] #[]:=rfl;simp [execOp,resolve,C,Deferred.ofValue,invoke,i.ev A,i.ev B,j]
def WO.ve {Q:Exit->Act->World->Prop} {l c:List Oper} {d:Nat} {j:Op} {i:String} {p:Array Edge} {o:Value->World->Prop} (h:∃ v g,aL P n fr w j ty v g /\ o v g) (q:Nat.blt d n=true) (k:∀ v g,o v g -> WO P Q n l c ((d,v) :: fr) g):WO P Q n l (⟨some d,j,ty,i,p,none⟩ :: c) fr w:=by
 obtain ⟨v,g,r,s⟩:=h;exact WO.v r q (k v g s)
def R.Hb {u l v:Value} {o:World} {p:Array TypeId} (h:aL P n [] w (.call { callee:=.builtin .append,args:=#[.const u,.const l],argTypes:=p }) ty v o) (r:ev fr x=some u) (s:ev fr y=some l):aL P n fr w (.call { callee:=.builtin .append,args:=#[x,y],argTypes:=p }) ty v o:=fun a d c A g j=>by
 have q:=h a d c A g (j.sub fun i v B=>by cases B);simp [execOp,resolve,j.ev r,j.ev s] at q ⊢;exact q
variable {cur:List Value} {ad:Addr}
def R.XU {g sl c:Nat} {d:List Value} (p:ev fr x=some (.slice (some ⟨g,0,none⟩) sl sc)) (q:ev fr y=some (.slice (some ad) m c)) (r:P.underlying t=some (.slice e)) (s:P.info? e=some ti) (v:w.heap[g]? = some (.cells cur.toArray e (0,0)))
  (A:d.length=m*ti.size) (j:ie w ad d) (B:∀ u ∈ d,u.oneCell' = true) (i:sl+m<=sc) (l:sl*ti.size+d.length<=cur.length) :
  aL P n fr w (.call { callee:=.builtin .append,args:=#[x,y],argTypes:=#[t,t] }) ty (.slice (some ⟨g,0,none⟩) (sl+m) sc) (w.setRow g (cur.take (sl*ti.size)++d++cur.drop (sl*ti.size+d.length)).toArray):=fun _ _ _ _ _ o=>by
 have h:=run_append_room (P:=P) w t ty e ti r s g sl sc cur.toArray v ad m c d A j B i (by simpa using l);simp [execOp,resolve,invoke,builtin,o.ev p,o.ev q,h]
variable {o:Nat}
def R.clr {g c:Nat} {i:TypeId} (j:ev fr x=some (.slice (some ⟨g,o,none⟩) m c)) (l:m=1) (p:P.underlying t=some (.slice e)) (q:P.info? e=some ti) (r:ti.zero=some zv) (s:∀ u ∈ (Builtin.zeroCells zv.cells 1).toList,u.oneCell' = true) (v:w.heap[g]? = some (.cells cur.toArray i (0,0))) (d:o+(Builtin.zeroCells zv.cells 1).toList.length<=cur.length) :
  aL P n fr w (.call { callee:=.builtin .clear,args:=#[x],argTypes:=#[t] }) ty (.tuple #[]) (w.setRow g (cur.take o++(Builtin.zeroCells zv.cells 1).toList++cur.drop (o+(Builtin.zeroCells zv.cells 1).toList.length)).toArray):=fun _ _ _ _ _ A=>by
 subst l;have h:=run_storeCells_at P g o i (Builtin.zeroCells zv.cells 1).toList 0 cur.toArray w v (by simpa using d) s;have B:(Builtin.clear_ #[t] ty #[.slice (some ⟨g,o,none⟩) 1 c]).run P w = .ok (.tuple #[]) (w.setRow g (cur.take o++(Builtin.zeroCells zv.cells 1).toList++cur.drop (o+(Builtin.zeroCells zv.cells 1).toList.length)).toArray):=by
  simp [Builtin.clear_,A5 p,zeroValue,typeInfo,q,r,h]
 simp [execOp,resolve,invoke,builtin,A.ev j,B]
variable {i:Nat}
def acP {A:Addr} {c:Nat}:(if c=i then (some A:Option Addr) else (some A:Option Addr).map (·.add (i*z)))=some (if c=i then A else A.add (i*z)):=by
 split <;> rfl
theorem wQ {v:Value} (h:w.cell? a=some v):∃ cur t f,w.heap[a.block]? = some (.cells cur t f)/\cur.size≠0:=by
 unfold World.cell? at h;grind
theorem acX {c:Cx} {s:Sh} {d:List (l5 s)} (h:Pd c (.fz s d) (.slice (some ad) m k)) (g:d.length≠0):c.at s ad.block:=by
 cases h with
 | fz j l p q r=>
  grind
variable {α:Type}
def aaM {c g d:List α} (j:o+z<=c.length) (l:d.length=z):((c++g).take (o+z)++c.drop o++(c++g).drop (o+z+(c.drop o).length)).take o++d++((c++g).take (o+z)++c.drop o++(c++g).drop (o+z+(c.drop o).length)).drop (o+d.length)=c.take o++d++c.drop o++g.drop z:=by
 have p:(c++g).take (o+z)=c.take (o+z):=N8 j;have q:(c++g).drop (o+z+(c.drop o).length)=g.drop z:=by
  rw [length_drop,show o+z+(c.length - o)=c.length+z by omega,List.drop_append];simp
 have r:(c.take (o+z)).length=o+z:=by rw [s9]; omega
 rw [p,q,l];generalize s:c.take (o+z)=A at *;have h:A.take o=c.take o:=by rw [<- s,Q6,E3 az]
 rw [I4 A,N8 az,h,List.drop_left' r];simp
def aaW {cur cells d c:List α} (p:o+z<=cur.length) (g:c.length=z) (j:cur.take o=cells.take o):(cur.take o++c++cur.drop (o+c.length)).take (o+z)++d++(cur.take o++c++cur.drop (o+c.length)).drop (o+z+d.length)=cells.take o++c++d++cur.drop (o+z+d.length):=by
 have h:(cur.take o++c).length=o+z:=by rw [r5,s9,g]; omega
 have l:(cur.take o++c++cur.drop (o+z)).drop (o+z+d.length)=cur.drop (o+z+d.length):=by
  rw [<- I6,List.drop_left' h,I6]
 rw [g,take_left' h,l,j]
def fZ {g c:Nat} (h:¬ c=i):(if c=i then (some ⟨g,0,none⟩:Option Addr) else (some ⟨g,0,none⟩:Option Addr).map (·.add (i*z)))=some ⟨g,i*z,none⟩:=by
 rw [dc h,D6,add_lit,x7]
end
def uu (z:Array Value) (n:Nat):(Builtin.zeroCells z n).toList.length=n*z.size:=by rw [Array.length_toList,size_zeroCells]
variable {w:World}
def fK {g:Nat} {o:Obj} (h:w.heap[g]? = some o):g<w.heap.size:=(Q4.1 h).1
def dP:(prog.info? 137).map (·.size)=some 4:=cm
def UK:(prog.info? 137).map (fun i=>(i.zero,i.size,i.bytes))=some (some (.agg #[.int .i64 0,.int .i64 0,.int .i64 0,.int .i64 0]),4,32):=cm
variable {φ:Value->World->Prop} {vc:Nat} {A B:Option Addr}
set_option maxRecDepth 100000 in
def CB {c:Nat} (a:∀ (F:Fr) (x y:Operand) (g:TypeId),ev F x=some (.slice A n c)->ev F y=some (.slice B 1 vc)->∃ b d,aL prog 95 F w (.call { callee:=.builtin .append,args:=#[x,y],argTypes:=#[42,42] }) g b d/\φ b d) :
  kI prog 263 [.slice A n c,.int .i64 (n:Int),.slice B 1 vc].toArray w φ:=by
 refine kI.enter func263 rfl rfl rfl rfl ?_;refine WC.seq ?_;refine WC.region ?_;refine WO.v (R.assign rfl) rfl ?_;refine WO.nil ?_;refine WX.next ?_
 refine WC.seq ?_;refine WC.region ?_;refine WO.v (R.move rfl) rfl ?_;refine WO.v (R.move rfl) rfl ?_;refine WO.v (R.dN rfl rfl underlying42 dP rfl az) rfl ?_;refine WO.nil ?_;refine WX.next ?_
 refine WC.seq ?_;refine WC.region ?_;refine WO.v (R.move rfl) rfl ?_;refine WO.v (R.len rfl underlying42) rfl ?_;refine WO.v (R.assign rfl) rfl ?_;refine WO.nil ?_;refine WX.next ?_
 refine WC.seq ?_;refine WC.seq ?_;refine WC.region ?_;refine WO.v (R.move rfl) rfl ?_;refine WO.v (R.eql rfl rfl) rfl ?_;refine WO.nil ?_;refine WX.next ?_
 refine WC.cond rfl (fun q=>absurd (zc q) az) (fun _=>?_);refine WC.skip ?_;refine WX.next ?_
 refine WC.seq ?_;refine WC.region ?_;refine WO.v (R.move rfl) rfl ?_;refine WO.v (R.len rfl underlying42) rfl ?_;refine WO.v (R.assign rfl) rfl ?_;refine WO.nil ?_;refine WX.next ?_
 refine WC.seq ?_;refine WC.seq ?_;refine WC.region ?_;refine WO.v (R.move rfl) rfl ?_;refine WO.v (R.move rfl) rfl ?_;refine WO.v (R.eql rfl rfl) rfl ?_;refine WO.nil ?_;refine WX.next ?_
 refine WC.cond rfl (fun _=>?_) (fun q=>absurd rfl (O3 q));refine WC.seq ?_;refine WC.region ?_;refine WO.v (R.move rfl) rfl ?_;refine WO.v (R.move rfl) rfl ?_;refine WO.ve (a _ _ _ _ rfl rfl) rfl fun b d e=>?_;refine WO.v (R.assign rfl) rfl ?_;refine WO.nil ?_;refine WX.next ?_
 refine WC.ret ?_;refine WX.mM ?_;refine WX.Dq rfl rfl ?_;exact e
variable {ds cur vs:List Value} {i b G:Nat} {ad:Addr} {W1:World}
set_option maxRecDepth 100000 in
def zM {g c:Nat} (B:i<n) (N:n<=c) (H:c<n+1) (j:c<=maxLen) (O:n+1<=G) (k:G<=maxLen)
  (l:∀ (F:Fr) (x y:Operand) (P:TypeId),ev F x=some (.slice (some ⟨g,0*4,none⟩) i c)->ev F y=some (.int .i64 ((n+1 - i:Nat):Int))->aL prog 95 F w (.call { callee:=.builtin .append,args:=#[x,y],argTypes:=#[42,3] }) P (.slice (some ⟨b,0,none⟩) (n+1) G) W1)
  (a:W1.heap[b]? = some (.cells cur.toArray 137 (0,0))) (L:(n+1)*4<=cur.length) (Q:ie W1 ad vs) (p:vs.length=4) (S:ie W1 ⟨g,i*4,none⟩ ds) (r:g≠b) (m:g<W1.heap.size) (s:ds.length=(n - i)*4)
  (z:∀ u ∈ vs,u.oneCell' = true) (C:∀ u ∈ ds,u.oneCell' = true) :
  kI prog 263 [.slice (some ⟨g,0,none⟩) n c,.int .i64 (i:Int),.slice (some ad) 1 vc].toArray w fun v T=>v = .slice (some ⟨b,0,none⟩) (n+1) G/\∃ d,Kp [] (W1.setRow b (cur.take (i*4)++vs++cur.drop (i*4+vs.length)).toArray) d/\T = d.setRow b ((cur.take (i*4)++vs++cur.drop (i*4+vs.length)).take ((i+1)*4)++ds++(cur.take (i*4)++vs++cur.drop (i*4+vs.length)).drop ((i+1)*4+ds.length)).toArray:=by
 have k:G<=9223372036854775807:=k;have j:c<=9223372036854775807:=j;have D:vs.length=Nat.min 1 (n+1 - i)*4:=by rw [show Nat.min 1 (n+1 - i)=1 from E3 az,Nat.one_mul]; exact p
 have I:ds.length=Nat.min (n - i) (n+1 - (i+1))*4:=by rw [show Nat.min (n - i) (n+1 - (i+1))=n - i from E3 az]; exact s
 refine kI.enter func263 rfl rfl rfl rfl ?_;refine WC.seq ?_;refine WC.region ?_;refine WO.v (R.assign rfl) rfl ?_;refine WO.nil ?_;refine WX.next ?_
 refine WC.seq ?_;refine WC.region ?_;refine WO.v (R.move rfl) rfl ?_;refine WO.v (R.move rfl) rfl ?_;refine WO.v (R.dN rfl rfl underlying42 dP rfl az) rfl ?_;refine WO.nil ?_;refine WX.next ?_
 refine WC.seq ?_;refine WC.region ?_;refine WO.v (R.move rfl) rfl ?_;refine WO.v (R.len rfl underlying42) rfl ?_;refine WO.v (R.assign rfl) rfl ?_;refine WO.nil ?_;refine WX.next ?_
 refine WC.seq ?_;refine WC.seq ?_;refine WC.region ?_;refine WO.v (R.move rfl) rfl ?_;refine WO.v (R.eql rfl rfl) rfl ?_;refine WO.nil ?_;refine WX.next ?_
 refine WC.cond rfl (fun q=>absurd (zc q) az) (fun _=>?_);refine WC.skip ?_;refine WX.next ?_
 refine WC.seq ?_;refine WC.region ?_;refine WO.v (R.move rfl) rfl ?_;refine WO.v (R.len rfl underlying42) rfl ?_;refine WO.v (R.assign rfl) rfl ?_;refine WO.nil ?_;refine WX.next ?_
 refine WC.seq ?_;refine WC.seq ?_;refine WC.region ?_;refine WO.v (R.move rfl) rfl ?_;refine WO.v (R.move rfl) rfl ?_;refine WO.v (R.eql rfl rfl) rfl ?_;refine WO.nil ?_;refine WX.next ?_
 refine WC.cond rfl (fun q=>absurd (zc q) az) (fun _=>?_);refine WC.skip ?_;refine WX.next ?_
 refine WC.seq ?_;refine WC.seq ?_;refine WC.region ?_;refine WO.v (R.move rfl) rfl ?_;refine WO.v (R.move rfl) rfl ?_;refine WO.v (R.oL rfl rfl az) rfl ?_;refine WO.v (R.move rfl) rfl ?_;refine WO.v (R.WT rfl underlying42) rfl ?_;refine WO.v (R.gtr rfl rfl) rfl ?_;refine WO.nil ?_;refine WX.next ?_
 refine WC.cond rfl (fun _=>?_) (fun q=>absurd az (O3 q));refine WC.seq ?_;refine WC.region ?_;refine WO.v (R.move rfl) rfl ?_;refine WO.v (R.move rfl) rfl ?_;refine WO.v (R.mc rfl rfl underlying42 dP (fZ (i:=0) az) az) rfl ?_;refine WO.v (R.move rfl) rfl ?_;refine WO.v (R.move rfl) rfl ?_;refine WO.v (R.oL rfl rfl az) rfl ?_;refine WO.v (R.move rfl) rfl ?_;refine WO.v (R.aiH rfl rfl az az) rfl ?_;refine WO.v (l _ _ _ _ rfl rfl) rfl ?_;refine WO.v (R.assign rfl) rfl ?_;refine WO.nil ?_;refine WX.next ?_
 refine WC.seq ?_;refine WC.region ?_;refine WO.v (R.move rfl) rfl ?_;refine WO.v (R.move rfl) rfl ?_;refine WO.v (R.dN rfl rfl underlying42 dP (fZ az) az) rfl ?_;refine WO.v (R.move rfl) rfl ?_;refine WO.v (R.pM rfl rfl underlying42 dP a D Q az z) rfl ?_;refine WO.nil ?_;refine WX.next ?_
 refine WC.seq ?_;refine WC.wS kN [.ex [] (.slice (some ⟨b,0,none⟩) (n+1) G),.ex [] (.int .i64 ((i:Nat):Int)),.ex [] (.int .i64 ((1:Nat):Int)),.ex [1,2] (.int .i64 ((i+1:Nat):Int)),.ex [0,3] (.slice (some ⟨b,(i+1)*4,none⟩) (n+1 - (i+1)) (G - (i+1))),.ex [] (.slice (some ⟨g,0,none⟩) n c),.ex [] (.int .i64 ((i:Nat):Int)),.ex [5,6] (.slice (some ⟨g,i*4,none⟩) (n - i) (c - i))] 8 cm ⟨fun _ _ _ h _=>h,fun _ _ _ h _=>h,fun _ _ _ h _=>h,fun _ _ _ h _=>h,fun _ _ _ h _=>h,fun _ _ _ h _=>h,fun _ _ _ h _=>h,fun _ _ _ h _=>h,trivial⟩ ⟨?_,?_,?_,?_,?_,?_,?_,?_,trivial⟩ ?_
 ·rintro vs e kd ⟨-⟩;refine WO.cA (fr':=[(9,.slice (some ⟨b,0,none⟩) (n+1) G)]) ⟨⟨_,rfl,rfl⟩,trivial⟩ ?_;refine WO.v (R.move rfl) rfl ?_;refine WO.nil ?_;exact WX.aQ rfl rfl (Kp.refl _)
 ·rintro vs e kd ⟨-⟩;refine WO.cA (fr':=[(1,.int .i64 ((i:Nat):Int))]) ⟨⟨_,rfl,rfl⟩,trivial⟩ ?_;refine WO.v (R.move rfl) rfl ?_;refine WO.nil ?_;exact WX.aQ rfl rfl (Kp.refl _)
 ·rintro vs e kd ⟨-⟩;refine WO.cA (fr':=[(7,.int .i64 ((1:Nat):Int))]) ⟨⟨_,rfl,rfl⟩,trivial⟩ ?_;refine WO.v (R.move rfl) rfl ?_;refine WO.nil ?_;exact WX.aQ rfl rfl (Kp.refl _)
 ·rintro vs e kd ⟨U,V,-⟩;refine WO.cA (fr':=[(47,.int .i64 ((i:Nat):Int)),(48,.int .i64 ((1:Nat):Int))]) ⟨⟨_,rfl,U⟩,⟨_,rfl,V⟩,trivial⟩ ?_;refine WO.v (R.oL rfl rfl az) rfl ?_;refine WO.nil ?_;exact WX.aQ rfl rfl (Kp.refl _)
 ·rintro vs e kd ⟨W,X,-⟩;refine WO.cA (fr':=[(46,.slice (some ⟨b,0,none⟩) (n+1) G),(49,.int .i64 ((i+1:Nat):Int))]) ⟨⟨_,rfl,W⟩,⟨_,rfl,X⟩,trivial⟩ ?_;refine WO.v (R.dN rfl rfl underlying42 dP (fZ az) az) rfl ?_;refine WO.nil ?_;exact WX.aQ rfl rfl (Kp.refl _)
 ·rintro vs e kd ⟨-⟩;refine WO.cA (fr':=[(0,.slice (some ⟨g,0,none⟩) n c)]) ⟨⟨_,rfl,rfl⟩,trivial⟩ ?_;refine WO.v (R.move rfl) rfl ?_;refine WO.nil ?_;exact WX.aQ rfl rfl (Kp.refl _)
 ·rintro vs e kd ⟨-⟩;refine WO.cA (fr':=[(1,.int .i64 ((i:Nat):Int))]) ⟨⟨_,rfl,rfl⟩,trivial⟩ ?_;refine WO.v (R.move rfl) rfl ?_;refine WO.nil ?_;exact WX.aQ rfl rfl (Kp.refl _)
 ·rintro vs e kd ⟨Y,Z,-⟩;refine WO.cA (fr':=[(51,.slice (some ⟨g,0,none⟩) n c),(52,.int .i64 ((i:Nat):Int))]) ⟨⟨_,rfl,Y⟩,⟨_,rfl,Z⟩,trivial⟩ ?_;refine WO.v (R.dN rfl rfl underlying42 dP (fZ az) az) rfl ?_;refine WO.nil ?_;exact WX.aQ rfl rfl (Kp.refl _)
 rintro f d o ⟨-,-,-,-,t,-,-,A,-⟩;replace o:Kp [] (W1.setRow b (cur.take (i*4)++vs++cur.drop (i*4+vs.length)).toArray) d:=o;refine WO.cA (fr':=[(50,.slice (some ⟨b,(i+1)*4,none⟩) (n+1 - (i+1)) (G - (i+1))),(53,.slice (some ⟨g,i*4,none⟩) (n - i) (c - i)),(9,.slice (some ⟨b,0,none⟩) (n+1) G)]) ⟨⟨_,rfl,t⟩,⟨_,rfl,A⟩,⟨_,rfl,rfl⟩,trivial⟩ ?_;have J:d.heap[b]? = some (.cells (toArray (cur.take (i*4)++vs++cur.drop (i*4+vs.length))) 137 (0,0)):=by rw [o.block b (by simpa using fK a) aa]; exact D2 W1 b _ _ 137 _ a
 have K:ie d ⟨g,i*4,none⟩ ds:=(S.kp (Kp.setRow W1 b _) m (by simpa using r.symm)).kp o (by simpa using m) aa;refine WO.v (R.pM rfl rfl underlying42 dP J I K (by simp; omega) C) rfl ?_;refine WO.nil ?_;refine WX.next ?_
 refine WC.seq ?_;refine WC.region ?_;refine WO.v (R.move rfl) rfl ?_;refine WO.v (R.assign rfl) rfl ?_;refine WO.nil ?_;refine WX.next ?_
 refine WC.ret ?_;refine WX.mM ?_;refine WX.Dq rfl rfl ?_;exact ⟨rfl,d,o,rfl⟩
variable {tA:TypeId} {curA:Array Value} {fA:Nat × Nat}
set_option maxRecDepth 100000 in
def wv {g c:Nat} (Y:i<n) (Z:n+1<=c) (l:c<=maxLen)
  (a:w.heap[g]? = some (.cells cur.toArray 137 (0,0))) (I:(n+1)*4<=cur.length) (J:ie w ad vs) (e:w.heap[ad.block]? = some (.cells curA tA fA)) (m:curA.size≠0) (o:ad.block≠g) (r:vs.length=4) (K:ie w ⟨g,i*4,none⟩ ds) (s:ds.length=(n - i)*4)
  (x:∀ u ∈ vs,u.oneCell' = true) (y:∀ u ∈ ds,u.oneCell' = true) :
  kI prog 263 [.slice (some ⟨g,0,none⟩) n c,.int .i64 (i:Int),.slice (some ad) 1 vc].toArray w fun v L=>v = .slice (some ⟨g,0,none⟩) (n+1) c/\∃ d,Kp [] w d/\L = (d.setRow g (cur.take ((i+1)*4)++ds++cur.drop ((i+1)*4+ds.length)).toArray).setRow g ((cur.take ((i+1)*4)++ds++cur.drop ((i+1)*4+ds.length)).take (i*4)++vs++(cur.take ((i+1)*4)++ds++cur.drop ((i+1)*4+ds.length)).drop (i*4+vs.length)).toArray:=by
 have l:c<=9223372036854775807:=l;have z:vs.length=Nat.min 1 (n+1 - i)*4:=by rw [show Nat.min 1 (n+1 - i)=1 from E3 az,Nat.one_mul]; exact r
 have C:ds.length=Nat.min (n+1 - i) (n+1 - (i+1))*4:=by rw [show Nat.min (n+1 - i) (n+1 - (i+1))=n+1 - (i+1) from R1 az,s]; congr 1; omega
 refine kI.enter func263 rfl rfl rfl rfl ?_;refine WC.seq ?_;refine WC.region ?_;refine WO.v (R.assign rfl) rfl ?_;refine WO.nil ?_;refine WX.next ?_
 refine WC.seq ?_;refine WC.region ?_;refine WO.v (R.move rfl) rfl ?_;refine WO.v (R.move rfl) rfl ?_;refine WO.v (R.dN rfl rfl underlying42 dP rfl az) rfl ?_;refine WO.nil ?_;refine WX.next ?_
 refine WC.seq ?_;refine WC.region ?_;refine WO.v (R.move rfl) rfl ?_;refine WO.v (R.len rfl underlying42) rfl ?_;refine WO.v (R.assign rfl) rfl ?_;refine WO.nil ?_;refine WX.next ?_
 refine WC.seq ?_;refine WC.seq ?_;refine WC.region ?_;refine WO.v (R.move rfl) rfl ?_;refine WO.v (R.eql rfl rfl) rfl ?_;refine WO.nil ?_;refine WX.next ?_
 refine WC.cond rfl (fun q=>absurd (zc q) az) (fun _=>?_);refine WC.skip ?_;refine WX.next ?_
 refine WC.seq ?_;refine WC.region ?_;refine WO.v (R.move rfl) rfl ?_;refine WO.v (R.len rfl underlying42) rfl ?_;refine WO.v (R.assign rfl) rfl ?_;refine WO.nil ?_;refine WX.next ?_
 refine WC.seq ?_;refine WC.seq ?_;refine WC.region ?_;refine WO.v (R.move rfl) rfl ?_;refine WO.v (R.move rfl) rfl ?_;refine WO.v (R.eql rfl rfl) rfl ?_;refine WO.nil ?_;refine WX.next ?_
 refine WC.cond rfl (fun q=>absurd (zc q) az) (fun _=>?_);refine WC.skip ?_;refine WX.next ?_
 refine WC.seq ?_;refine WC.seq ?_;refine WC.region ?_;refine WO.v (R.move rfl) rfl ?_;refine WO.v (R.move rfl) rfl ?_;refine WO.v (R.oL rfl rfl az) rfl ?_;refine WO.v (R.move rfl) rfl ?_;refine WO.v (R.WT rfl underlying42) rfl ?_;refine WO.v (R.gtr rfl rfl) rfl ?_;refine WO.nil ?_;refine WX.next ?_
 refine WC.cond rfl (fun q=>absurd (zc q) az) (fun _=>?_);refine WC.skip ?_;refine WX.next ?_
 refine WC.seq ?_;refine WC.region ?_;refine WO.v (R.move rfl) rfl ?_;refine WO.v (R.move rfl) rfl ?_;refine WO.v (R.move rfl) rfl ?_;refine WO.v (R.oL rfl rfl az) rfl ?_;refine WO.v (R.mc rfl rfl underlying42 dP (fZ (i:=0) az) az) rfl ?_;refine WO.v (R.assign rfl) rfl ?_;refine WO.nil ?_;refine WX.next ?_
 refine WC.seq ?_;refine WC.seq ?_;refine WC.region ?_;refine WO.v (R.move rfl) rfl ?_;refine WO.v (R.move rfl) rfl ?_;refine WO.v (R.move rfl) rfl ?_;refine WO.v (R.move rfl) rfl ?_;refine WO.v (R.oL rfl rfl az) rfl ?_;refine WO.v (R.dN rfl rfl underlying42 dP (fZ az) az) rfl ?_;refine WO.v (R.ovl (tS:=42) (tR:=4) func279 rfl rfl cm cm underlying42 dP o e m a rfl rfl) rfl ?_;refine WO.v (R.not rfl) rfl ?_;refine WO.nil ?_;refine WX.next ?_
 refine WC.IG rfl ?_;refine WC.seq ?_;refine WC.wS kN [.ex [] (.slice (some ⟨g,0,none⟩) (n+1) c),.ex [] (.int .i64 ((i:Nat):Int)),.ex [] (.int .i64 ((1:Nat):Int)),.ex [1,2] (.int .i64 ((i+1:Nat):Int)),.ex [0,3] (.slice (some ⟨g,(i+1)*4,none⟩) (n+1 - (i+1)) (c - (i+1))),.ex [] (.slice (some ⟨g,0,none⟩) (n+1) c),.ex [] (.int .i64 ((i:Nat):Int)),.ex [5,6] (.slice (some ⟨g,i*4,none⟩) (n+1 - i) (c - i))] 8 cm ⟨fun _ _ _ h _=>h,fun _ _ _ h _=>h,fun _ _ _ h _=>h,fun _ _ _ h _=>h,fun _ _ _ h _=>h,fun _ _ _ h _=>h,fun _ _ _ h _=>h,fun _ _ _ h _=>h,trivial⟩ ⟨?_,?_,?_,?_,?_,?_,?_,?_,trivial⟩ ?_
 ·rintro vs j kd ⟨-⟩;refine WO.cA (fr':=[(0,.slice (some ⟨g,0,none⟩) (n+1) c)]) ⟨⟨_,rfl,rfl⟩,trivial⟩ ?_;refine WO.v (R.move rfl) rfl ?_;refine WO.nil ?_;exact WX.aQ rfl rfl (Kp.refl _)
 ·rintro vs j kd ⟨-⟩;refine WO.cA (fr':=[(1,.int .i64 ((i:Nat):Int))]) ⟨⟨_,rfl,rfl⟩,trivial⟩ ?_;refine WO.v (R.move rfl) rfl ?_;refine WO.nil ?_;exact WX.aQ rfl rfl (Kp.refl _)
 ·rintro vs j kd ⟨-⟩;refine WO.cA (fr':=[(7,.int .i64 ((1:Nat):Int))]) ⟨⟨_,rfl,rfl⟩,trivial⟩ ?_;refine WO.v (R.move rfl) rfl ?_;refine WO.nil ?_;exact WX.aQ rfl rfl (Kp.refl _)
 ·rintro vs j kd ⟨N,P,-⟩;refine WO.cA (fr':=[(70,.int .i64 ((i:Nat):Int)),(71,.int .i64 ((1:Nat):Int))]) ⟨⟨_,rfl,N⟩,⟨_,rfl,P⟩,trivial⟩ ?_;refine WO.v (R.oL rfl rfl az) rfl ?_;refine WO.nil ?_;exact WX.aQ rfl rfl (Kp.refl _)
 ·rintro vs j kd ⟨Q,S,-⟩;refine WO.cA (fr':=[(69,.slice (some ⟨g,0,none⟩) (n+1) c),(72,.int .i64 ((i+1:Nat):Int))]) ⟨⟨_,rfl,Q⟩,⟨_,rfl,S⟩,trivial⟩ ?_;refine WO.v (R.dN rfl rfl underlying42 dP (fZ az) az) rfl ?_;refine WO.nil ?_;exact WX.aQ rfl rfl (Kp.refl _)
 ·rintro vs j kd ⟨-⟩;refine WO.cA (fr':=[(0,.slice (some ⟨g,0,none⟩) (n+1) c)]) ⟨⟨_,rfl,rfl⟩,trivial⟩ ?_;refine WO.v (R.move rfl) rfl ?_;refine WO.nil ?_;exact WX.aQ rfl rfl (Kp.refl _)
 ·rintro vs j kd ⟨-⟩;refine WO.cA (fr':=[(1,.int .i64 ((i:Nat):Int))]) ⟨⟨_,rfl,rfl⟩,trivial⟩ ?_;refine WO.v (R.move rfl) rfl ?_;refine WO.nil ?_;exact WX.aQ rfl rfl (Kp.refl _)
 ·rintro vs j kd ⟨T,U,-⟩;refine WO.cA (fr':=[(74,.slice (some ⟨g,0,none⟩) (n+1) c),(75,.int .i64 ((i:Nat):Int))]) ⟨⟨_,rfl,T⟩,⟨_,rfl,U⟩,trivial⟩ ?_;refine WO.v (R.dN rfl rfl underlying42 dP (fZ az) az) rfl ?_;refine WO.nil ?_;exact WX.aQ rfl rfl (Kp.refl _)
 rintro V d k ⟨-,-,-,-,W,-,-,X,-⟩;replace k:Kp [] w d:=k;refine WO.cA (fr':=[(73,.slice (some ⟨g,(i+1)*4,none⟩) (n+1 - (i+1)) (c - (i+1))),(76,.slice (some ⟨g,i*4,none⟩) (n+1 - i) (c - i)),(0,.slice (some ⟨g,0,none⟩) (n+1) c),(1,.int .i64 ((i:Nat):Int)),(2,.slice (some ad) 1 vc)]) ⟨⟨_,rfl,W⟩,⟨_,rfl,X⟩,⟨_,rfl,rfl⟩,⟨_,rfl,rfl⟩,⟨_,rfl,rfl⟩,trivial⟩ ?_;have p:d.heap[g]? = some (.cells (toArray cur) 137 (0,0)):=by rw [k.block g (fK a) aa]; exact a
 refine WO.v (R.pM rfl rfl underlying42 dP p C (K.kp k (fK a) aa) az y) rfl ?_;refine WO.nil ?_;refine WX.next ?_
 have D:(d.setRow g (cur.take ((i+1)*4)++ds++cur.drop ((i+1)*4+ds.length)).toArray).heap[g]? = some (.cells (toArray (cur.take ((i+1)*4)++ds++cur.drop ((i+1)*4+ds.length))) 137 (0,0)):=D2 d g _ _ 137 _ p;have F:ie (d.setRow g (cur.take ((i+1)*4)++ds++cur.drop ((i+1)*4+ds.length)).toArray) ad vs:=(J.kp k (fK e) aa).kp (Kp.setRow d g _) (w9 (fK e) k.size) (by simpa using fun h=>o h.symm);refine WC.seq ?_;refine WC.region ?_;refine WO.v (R.move rfl) rfl ?_;refine WO.v (R.move rfl) rfl ?_;refine WO.v (R.dN rfl rfl underlying42 dP (fZ az) az) rfl ?_;refine WO.v (R.move rfl) rfl ?_;refine WO.v (R.pM rfl rfl underlying42 dP D z F (by simp; omega) x) rfl ?_;refine WO.nil ?_;refine WX.next ?_
 refine WC.seq ?_;refine WC.region ?_;refine WO.v (R.move rfl) rfl ?_;refine WO.v (R.assign rfl) rfl ?_;refine WO.nil ?_;refine WX.next ?_
 refine WC.ret ?_;refine WX.mM ?_;refine WX.Dq rfl rfl ?_;exact ⟨rfl,d,k,rfl⟩
variable {k:Nat} {ρ:List RE} {bAV:AV} {cys:List Value}
def B_ {G:Gl} (hs:G.shp=av l6) (Y:oh G ρ H w) {l m:List (l5 (.nm .b8))} (Z:l4 H 0 = .row 137 (.nm .b8) l) (hl:l.length<1048576) (hi:i<=l.length) {v0:Value} (h0:Rd (cx G ρ w) ρ (.own 0) v0)
  (hm:m.length=1) (f:Rd (cx G ρ w) ρ bAV (.slice (some ad) 1 k)) (hbv:(bAV.vw H).gv (.nm .b8)=some m) (hv:ie w ad cys) (C:cys.length=4) (h1v:∀ u ∈ cys,u.oneCell' = true) (hp:p0 (cx G ρ w) (m.flatMap (cellsOf (.nm .b8))) cys)
  (hne:∀ g c n z,ρ[0]? = some (.row g c n z)->ad.block≠g) (hvb:w.heap[ad.block]? = some (.cells curA tA fA)) (hvb0:curA.size≠0) :
  kI prog 263 [v0,.int .i64 (i:Int),.slice (some ad) 1 k].toArray w fun v q=>∃ o,s8 (iu 0) ρ w o q /\ oh G o ((iJ (AV.kill 0) H).set 0 (.row 137 (.nm .b8) (l.take i++m++l.drop i))) q /\ Rd (cx G o q) o (.own 0) v:=by
 have hT:bz prog G.shp l6:=hs ▸ ek;obtain ⟨hshp,hlen⟩:=dZ Y Z;have hl64:l.length<=9223372036854775807:=by omega
 have hin:((l.length:Nat):Int)<=9223372036854775807:=by omega
 by_cases hie:i=l.length
 ·subst hie;have hc:∃ A c,v0 = .slice A l.length c:=by
   rcases h0 with ⟨g,d,len,z,s,rfl⟩ | ⟨s,a,rfl⟩
   ·rcases cc Y Z with ⟨r,_⟩ | ⟨g',U,cells,t,r,_⟩
    ·rw [s] at r; cases r
    rw [s] at r; cases r; exact ⟨_,_,rfl⟩
   rcases cc Y Z with ⟨_,r⟩ | ⟨g',U,cells,t,r,_⟩
   ·subst r; exact ⟨_,_,rfl⟩
   rw [s] at r; cases r
  obtain ⟨A,c,rfl⟩:=hc;refine CB fun F x y ty hx hy=>?_;have D:kL l6 (iu 0) ([]:j9) H 42 (.own 0) bAV=some ⟨one (.own 0),[],(iJ (AV.kill 0) H).set 0 (.row 137 (.nm .b8) (l++m)),[(l.length+m.length)*(Sh.nm NT.b8).bytes<=140737488355328],[]⟩:=by
   unfold kL;rw [show bj l6 42=some ⟨.sl 137 (some (.nm .b8)),1,[.em true]⟩ from by kernel_rfl];simp [hbv,m_,Z];rfl
  obtain ⟨v,q,s,o,r,h3,_,h5,_⟩:=kr (P:=prog) (n:=95) (F:=[]) (ty:=ty) (fr:=[]) (x:=.const (.slice A l.length c)) (y:=.const (.slice (some ad) 1 k)) hT Y .nil D (by
   intro p hp;rw [A1] at hp; subst hp;show (l.length+m.length)*32<=_;omega) h0 f rfl rfl
  refine ⟨v,q,R.Hb s hx hy,o,r,?_,h5⟩;rw [I2,List.drop_length,A3];exact h3
 have B:i<l.length:=by omega
 rcases cc Y Z with ⟨_,r⟩ | ⟨g,d,cells,t,I,hg,N,hsz,hcap,J⟩
 ·subst r; simp at B
 obtain ⟨hnb,hil,hiH⟩:=nI Y Z;have hv0:v0 = .slice (some ⟨g,0,none⟩) l.length d:=by
  rcases h0 with ⟨g',U,len,z,s,rfl⟩ | ⟨s,a,rfl⟩
  ·rw [I] at s; cases s; rfl
  rw [I] at s; cases s
 subst hv0;have hz:(Sh.nm NT.b8).size=4:=rfl;have hby:(Sh.nm NT.b8).bytes=32:=rfl;have hcl:cells.length=l.length*4:=by rw [<- N.length,cz,hz]
 rw [hz,r5] at hsz;have V:∀ u ∈ cells.drop (i*4),u.oneCell' = true:=fun u hu=>N.RB u (V2 hu);have hd:ie w ⟨g,i*4,none⟩ (cells.drop (i*4)):=by
  have:=(db hg).shift (i*4);rwa [add_lit,x7] at this
 have hdl:(cells.drop (i*4)).length=(l.length - i)*4:=by rw [length_drop,hcl]; omega
 have O:=fK hg;have hzl:(l.take i++m++l.drop i).length=l.length+1:=by
  rw [r5,r5,s9,length_drop,hm]; omega
 have hnew:∀ {c:Cx},(cx G ρ w).le c->p0 c ((l.take i++m++l.drop i).flatMap (cellsOf (.nm .b8))) (cells.take (i*4)++cys++cells.drop (i*4)):=fun {c} hle=>by
  rw [K1,K1];exact (((bU N i).append hp).append (cC N i)).c8 hle
 have hnl:(cells.take (i*4)++cys++cells.drop (i*4)).length=(l.length+1)*4:=by
  rw [r5,r5,s9,length_drop,hcl,C]; omega
 have hbig:(l.take i++m++l.drop i).length*(Sh.nm NT.b8).bytes<=140737488355328:=by rw [hzl,hby]; omega
 have fin:∀ (S:List Nat) (W j:Nat) (Q:List Value) (q:World),Kp S w q -> (∀ b ∈ S,b=g)->(W=g\/w.heap.size<=W)->q.heap[W]? = some (.cells (toArray (cells.take (i*4)++cys++cells.drop (i*4)++Q)) 137 (0,0))->(l.length+1)*4+Q.length=j*4->l.length+1<=j->j<=maxLen ->
   ∃ o,s8 (iu 0) ρ w o q /\ oh G o ((iJ (AV.kill 0) H).set 0 (.row 137 (.nm .b8) (l.take i++m++l.drop i))) q /\ Rd (cx G o q) o (.own 0) (.slice (some ⟨W,0,none⟩) (l.length+1) j):=by
  intro S W j Q q hk hS hg2 hh hlen2 hle2 hmax2;obtain ⟨k1,k2,_⟩:=jV (ro:=iu 0) (s':=.nm .b8) (e':=137) (zs:=l.take i++m++l.drop i) Y Z ⟨rfl,rfl⟩ hk (fun b f=>⟨_,I,by rw [hS b f]; rfl⟩) (r':=.row W j (l.take i++m++l.drop i).length (Sh.nm NT.b8).size) (fun b f=>by
   cases f;rcases hg2 with rfl | hg2
   ·exact .inl ⟨_,I,rfl⟩
   exact .inr ⟨hg2,fK hh⟩) (fun hle=>⟨hshp,hbig,.inr ⟨W,j,_,Q,rfl,hh,hnew hle,by rw [r5,hnl,hz]; exact hlen2,by rw [hzl]; exact hle2,hmax2⟩⟩)
  exact ⟨_,k1,k2,.inl ⟨W,j,_,_,E8 hil,by rw [hzl]⟩⟩
 have eo:(i+1)*4=i*4+4:=by omega
 by_cases K:l.length+1<=d
 ·refine (wv B K J hg (by rw [r5]; omega) hv hvb hvb0 (hne _ _ _ _ I) C hd hdl h1v V).mono fun v q ⟨e1,X,k1,e2⟩=>?_;subst e1; subst e2;rw [eo,aaM az C];have hk:Kp [g] w ((X.setRow g ((cells++t).take (i*4+4)++cells.drop (i*4)++(cells++t).drop (i*4+4+(cells.drop (i*4)).length)).toArray).setRow g (cells.take (i*4)++cys++cells.drop (i*4)++t.drop 4).toArray):=((k1.sub aa).step (Kp.setRow X g _) aa).step (Kp.setRow _ g _) aa;have hg1:X.heap[g]? = some (.cells (toArray (cells++t)) 137 (0,0)):=by rw [k1.block g O aa]; exact hg
  exact fin [g] g d (t.drop 4) _ hk aa (.inl rfl) (D2 _ g _ _ 137 _ (D2 X g _ _ 137 _ hg1)) (by rw [length_drop]; omega) K J
 obtain ⟨ti,hi0,hz0,hz1,hz2⟩:=info_parts UK;have eik:i+(l.length+1 - i)=l.length+1:=by omega
 have hge:=grownCap_ge w (l.length+1) d 137;have hgm:=grownCap_le_maxLen w (l.length+1) d 137 (by simp [maxLen]; omega);have hold:(Builtin.firstCells ti.size i (.slice (some ⟨g,0*4,none⟩) i d)).run prog w.drew = .ok (cells.take (i*4)).toArray w.drew:=by
  have h:=T5 (P:=prog) w.drew ⟨g,0*4,none⟩ (cells.take (i*4)) (by rw [O6]; exact (db hg).take _);rw [s9,E3 az] at h;rw [hz1]; exact h
 have D:∀ (F:Fr) (x y:Operand) (ty:TypeId),ev F x=some (.slice (some ⟨g,0*4,none⟩) i d)->ev F y=some (.int .i64 ((l.length+1 - i:Nat):Int))->aL prog 95 F w (.call { callee:=.builtin .append,args:=#[x,y],argTypes:=#[42,3] }) ty (.slice (some ⟨w.heap.size,0,none⟩) (l.length+1) (grownCap w (l.length+1) d 137)) (w.drew.alloc (.cells (toArray (cells.take (i*4)++((Builtin.zeroCells (Value.agg #[.int .i64 0,.int .i64 0,.int .i64 0,.int .i64 0]).cells (l.length+1 - i)).toList++(Builtin.zeroCells (Value.agg #[.int .i64 0,.int .i64 0,.int .i64 0,.int .i64 0]).cells (grownCap w (l.length+1) d 137 - (l.length+1))).toList))) 137)):=fun F x y ty hx hy=>by
  have h:=R.aj9 (P:=prog) (n:=95) (ty:=ty) hx hy underlying42 underlying3 hi0 hz0 hold az (by rw [hz1]; decide) az az (by rw [hz2]; omega) (by rw [hz2,eik]; exact T3 az az);rw [eik] at h;have e:∀ (a:List Value) (b c:Array Value),a.toArray++b++c=(a++(b.toList++c.toList)).toArray:=fun a b c=>by apply G6; simp
  rw [e] at h;exact h
 have hcurl:(cells.take (i*4)++((Builtin.zeroCells (Value.agg #[.int .i64 0,.int .i64 0,.int .i64 0,.int .i64 0]).cells (l.length+1 - i)).toList++(Builtin.zeroCells (Value.agg #[.int .i64 0,.int .i64 0,.int .i64 0,.int .i64 0]).cells (grownCap w (l.length+1) d 137 - (l.length+1))).toList)).length=grownCap w (l.length+1) d 137*4:=by
  rw [r5,r5,s9,uu,uu];show min _ _+((l.length+1 - i)*4+(grownCap w (l.length+1) d 137 - (l.length+1))*4)=_;omega
 have htk:(cells.take (i*4)++((Builtin.zeroCells (Value.agg #[.int .i64 0,.int .i64 0,.int .i64 0,.int .i64 0]).cells (l.length+1 - i)).toList++(Builtin.zeroCells (Value.agg #[.int .i64 0,.int .i64 0,.int .i64 0,.int .i64 0]).cells (grownCap w (l.length+1) d 137 - (l.length+1))).toList)).take (i*4)=cells.take (i*4):=take_left' (by rw [s9]; omega);generalize grownCap w (l.length+1) d 137=GC at *;generalize cells.take (i*4)++((Builtin.zeroCells (Value.agg #[.int .i64 0,.int .i64 0,.int .i64 0,.int .i64 0]).cells (l.length+1 - i)).toList++(Builtin.zeroCells (Value.agg #[.int .i64 0,.int .i64 0,.int .i64 0,.int .i64 0]).cells (GC - (l.length+1))).toList)=cur at *;have T:Kp [] w (w.drew.alloc (.cells (toArray cur) 137)):=((Kp.refl w).drew).step (Kp.alloc w.drew _) aa;have L:(w.drew.alloc (.cells (toArray cur) 137)).heap[w.heap.size]? = some (.cells (toArray cur) 137 (0,0)):=J6 w.drew _;generalize w.drew.alloc (.cells (toArray cur) 137)=W1 at *;refine (zM B hcap az J hge hgm D L az (hv.kp T (fK hvb) aa) C (hd.kp T O aa) az (w9 O T.size) hdl h1v V).mono fun v q ⟨e1,X,k1,e2⟩=>?_;subst e1; subst e2;rw [eo,aaW (cells:=cells) az C htk];have hs1:∀ b ∈ [w.heap.size],b ∈ ([]:List Nat)\/w.heap.size<=b:=fun b f=>.inr (by rw [A1] at f; omega);have hk:Kp [] w (X.setRow w.heap.size (cells.take (i*4)++cys++cells.drop (i*4)++cur.drop (i*4+4+(cells.drop (i*4)).length)).toArray):=((T.step (Kp.setRow W1 w.heap.size _) hs1).step k1 aa).step (Kp.setRow X w.heap.size _) hs1;have hg1:=(k1.block w.heap.size (by simpa using fK L) aa).trans (D2 W1 w.heap.size _ (cur.take (i*4)++cys++cur.drop (i*4+cys.length)).toArray 137 _ L);exact fin [] w.heap.size GC _ _ hk aa (.inr (sh _)) (D2 X w.heap.size _ _ 137 _ hg1) (by rw [length_drop]; omega) hge hgm
def yW (i:Int) (l m:List (l5 (.nm .b8))) (h:0<=i/\i<=(l.length:Int)) (Q:l.length<1048576) (p:m.length=1):s6 prog (av l6) 263 [.c (.own 0),.c (.int i),.c (.own 1)] [.row 137 (.nm .b8) l,.row 137 (.nm .b8) m] ⟨[0<=i/\i<=(l.length:Int),l.length<1048576,m.length=1],[.c (.own 0)],some [.row 137 (.nm .b8) (l.take i.toNat++m++l.drop i.toNat),.row 137 (.nm .b8) m],false⟩:=by
 refine ⟨⟨_,func263,am,rfl⟩,fun G ρ w vs S q d=>?_⟩;obtain ⟨i,rfl⟩:=x6 h.1;cases d with | cons r d=>
 cases d with | cons s d=>
 cases d with | cons j d=>
 cases d;have s:Pd (cx G ρ w) (.int (i:Int)) _:=s;cases s;have r:Rd (cx G ρ w) ρ (.own 0) _:=r;have j:Rd (cx G ρ w) ρ (.own 1) _:=j;have T:l4 [AO.row 137 (.nm .b8) l,.row 137 (.nm .b8) m] 0 = .row 137 (.nm .b8) l:=rfl;have o:(AV.vw [AO.row 137 (.nm .b8) l,.row 137 (.nm .b8) m] (.own 1)).gv (.nm .b8)=some m:=by simp [AV.vw,AV.gv,l4]
 obtain ⟨A,k,cys,rfl,x,U,I,V⟩:=pP q o j;rw [p] at j x I;rw [p];obtain ⟨ad,rfl,J⟩:∃ ad,A=some ad/\ie w ad cys:=I.resolve_left am;have W:(Sh.nm NT.b8).size=4:=rfl;rw [W] at x;obtain ⟨u,X⟩:∃ u,cys[0]? = some u:=⟨_,p6 az⟩;obtain ⟨cur,t,f,K,y⟩:=wQ (J 0 u X);have C:∀ g c n z,ρ[0]? = some (.row g c n z)->ad.block≠g:=fun g c n z Y e=>by
  rcases j with ⟨H,L,len,O,N,D⟩ | ⟨N,a,D⟩
  ·cases D;have:=q.inj 0 1 _ _ g Y N rfl (by rw [<- e]; rfl);omega
  cases D
 rw [gI] at K;refine (B_ S q T Q az r p j o J x U V C K y).mono fun v w' ⟨F,P,Z,b⟩=>?_;exact ⟨[v],rfl,F,Z,P.ext,P.bx,.cons b .nil,fun B=>by cases B⟩
def dU:(prog.info? 139).map (·.size)=some 2:=cm
def HI:(prog.info? 139).map (fun i=>(i.zero,i.size,i.bytes))=some (some (.agg #[.int .i64 0,.int .i64 0]),2,16):=cm
set_option maxRecDepth 100000 in
def E_ {c:Nat} (a:∀ (F:Fr) (x y:Operand) (h:TypeId),ev F x=some (.slice A n c)->ev F y=some (.slice B 1 vc)->∃ d e,aL prog 95 F w (.call { callee:=.builtin .append,args:=#[x,y],argTypes:=#[43,43] }) h d e/\φ d e) :
  kI prog 341 [.slice A n c,.int .i64 (n:Int),.slice B 1 vc].toArray w φ:=by
 refine kI.enter func341 rfl rfl rfl rfl ?_;refine WC.seq ?_;refine WC.region ?_;refine WO.v (R.assign rfl) rfl ?_;refine WO.nil ?_;refine WX.next ?_
 refine WC.seq ?_;refine WC.region ?_;refine WO.v (R.move rfl) rfl ?_;refine WO.v (R.move rfl) rfl ?_;refine WO.v (R.dN rfl rfl underlying43 dU rfl az) rfl ?_;refine WO.nil ?_;refine WX.next ?_
 refine WC.seq ?_;refine WC.region ?_;refine WO.v (R.move rfl) rfl ?_;refine WO.v (R.len rfl underlying43) rfl ?_;refine WO.v (R.assign rfl) rfl ?_;refine WO.nil ?_;refine WX.next ?_
 refine WC.seq ?_;refine WC.seq ?_;refine WC.region ?_;refine WO.v (R.move rfl) rfl ?_;refine WO.v (R.eql rfl rfl) rfl ?_;refine WO.nil ?_;refine WX.next ?_
 refine WC.cond rfl (fun q=>absurd (zc q) az) (fun _=>?_);refine WC.skip ?_;refine WX.next ?_
 refine WC.seq ?_;refine WC.region ?_;refine WO.v (R.move rfl) rfl ?_;refine WO.v (R.len rfl underlying43) rfl ?_;refine WO.v (R.assign rfl) rfl ?_;refine WO.nil ?_;refine WX.next ?_
 refine WC.seq ?_;refine WC.seq ?_;refine WC.region ?_;refine WO.v (R.move rfl) rfl ?_;refine WO.v (R.move rfl) rfl ?_;refine WO.v (R.eql rfl rfl) rfl ?_;refine WO.nil ?_;refine WX.next ?_
 refine WC.cond rfl (fun _=>?_) (fun q=>absurd rfl (O3 q));refine WC.seq ?_;refine WC.region ?_;refine WO.v (R.move rfl) rfl ?_;refine WO.v (R.move rfl) rfl ?_;refine WO.ve (a _ _ _ _ rfl rfl) rfl fun d e g=>?_;refine WO.v (R.assign rfl) rfl ?_;refine WO.nil ?_;refine WX.next ?_
 refine WC.ret ?_;refine WX.mM ?_;refine WX.Dq rfl rfl ?_;exact g
set_option maxRecDepth 100000 in
def Dy {g c:Nat} (B:i<n) (P:n<=c) (H:c<n+1) (j:c<=maxLen) (O:n+1<=G) (l:G<=maxLen)
  (m:∀ (F:Fr) (x y:Operand) (Q:TypeId),ev F x=some (.slice (some ⟨g,0*2,none⟩) i c)->ev F y=some (.int .i64 ((n+1 - i:Nat):Int))->aL prog 95 F w (.call { callee:=.builtin .append,args:=#[x,y],argTypes:=#[43,3] }) Q (.slice (some ⟨b,0,none⟩) (n+1) G) W1)
  (a:W1.heap[b]? = some (.cells cur.toArray 139 (0,0))) (N:(n+1)*2<=cur.length) (S:ie W1 ad vs) (r:vs.length=2) (T:ie W1 ⟨g,i*2,none⟩ ds) (s:g≠b) (o:g<W1.heap.size) (z:ds.length=(n - i)*2)
  (C:∀ u ∈ vs,u.oneCell' = true) (D:∀ u ∈ ds,u.oneCell' = true) :
  kI prog 341 [.slice (some ⟨g,0,none⟩) n c,.int .i64 (i:Int),.slice (some ad) 1 vc].toArray w fun v U=>v = .slice (some ⟨b,0,none⟩) (n+1) G/\∃ d,Kp [] (W1.setRow b (cur.take (i*2)++vs++cur.drop (i*2+vs.length)).toArray) d/\U = d.setRow b ((cur.take (i*2)++vs++cur.drop (i*2+vs.length)).take ((i+1)*2)++ds++(cur.take (i*2)++vs++cur.drop (i*2+vs.length)).drop ((i+1)*2+ds.length)).toArray:=by
 have l:G<=9223372036854775807:=l;have j:c<=9223372036854775807:=j;have I:vs.length=Nat.min 1 (n+1 - i)*2:=by rw [show Nat.min 1 (n+1 - i)=1 from E3 az,Nat.one_mul]; exact r
 have J:ds.length=Nat.min (n - i) (n+1 - (i+1))*2:=by rw [show Nat.min (n - i) (n+1 - (i+1))=n - i from E3 az]; exact z
 refine kI.enter func341 rfl rfl rfl rfl ?_;refine WC.seq ?_;refine WC.region ?_;refine WO.v (R.assign rfl) rfl ?_;refine WO.nil ?_;refine WX.next ?_
 refine WC.seq ?_;refine WC.region ?_;refine WO.v (R.move rfl) rfl ?_;refine WO.v (R.move rfl) rfl ?_;refine WO.v (R.dN rfl rfl underlying43 dU rfl az) rfl ?_;refine WO.nil ?_;refine WX.next ?_
 refine WC.seq ?_;refine WC.region ?_;refine WO.v (R.move rfl) rfl ?_;refine WO.v (R.len rfl underlying43) rfl ?_;refine WO.v (R.assign rfl) rfl ?_;refine WO.nil ?_;refine WX.next ?_
 refine WC.seq ?_;refine WC.seq ?_;refine WC.region ?_;refine WO.v (R.move rfl) rfl ?_;refine WO.v (R.eql rfl rfl) rfl ?_;refine WO.nil ?_;refine WX.next ?_
 refine WC.cond rfl (fun q=>absurd (zc q) az) (fun _=>?_);refine WC.skip ?_;refine WX.next ?_
 refine WC.seq ?_;refine WC.region ?_;refine WO.v (R.move rfl) rfl ?_;refine WO.v (R.len rfl underlying43) rfl ?_;refine WO.v (R.assign rfl) rfl ?_;refine WO.nil ?_;refine WX.next ?_
 refine WC.seq ?_;refine WC.seq ?_;refine WC.region ?_;refine WO.v (R.move rfl) rfl ?_;refine WO.v (R.move rfl) rfl ?_;refine WO.v (R.eql rfl rfl) rfl ?_;refine WO.nil ?_;refine WX.next ?_
 refine WC.cond rfl (fun q=>absurd (zc q) az) (fun _=>?_);refine WC.skip ?_;refine WX.next ?_
 refine WC.seq ?_;refine WC.seq ?_;refine WC.region ?_;refine WO.v (R.move rfl) rfl ?_;refine WO.v (R.move rfl) rfl ?_;refine WO.v (R.oL rfl rfl az) rfl ?_;refine WO.v (R.move rfl) rfl ?_;refine WO.v (R.WT rfl underlying43) rfl ?_;refine WO.v (R.gtr rfl rfl) rfl ?_;refine WO.nil ?_;refine WX.next ?_
 refine WC.cond rfl (fun _=>?_) (fun q=>absurd az (O3 q));refine WC.seq ?_;refine WC.region ?_;refine WO.v (R.move rfl) rfl ?_;refine WO.v (R.move rfl) rfl ?_;refine WO.v (R.mc rfl rfl underlying43 dU (fZ (i:=0) az) az) rfl ?_;refine WO.v (R.move rfl) rfl ?_;refine WO.v (R.move rfl) rfl ?_;refine WO.v (R.oL rfl rfl az) rfl ?_;refine WO.v (R.move rfl) rfl ?_;refine WO.v (R.aiH rfl rfl az az) rfl ?_;refine WO.v (m _ _ _ _ rfl rfl) rfl ?_;refine WO.v (R.assign rfl) rfl ?_;refine WO.nil ?_;refine WX.next ?_
 refine WC.seq ?_;refine WC.region ?_;refine WO.v (R.move rfl) rfl ?_;refine WO.v (R.move rfl) rfl ?_;refine WO.v (R.dN rfl rfl underlying43 dU (fZ az) az) rfl ?_;refine WO.v (R.move rfl) rfl ?_;refine WO.v (R.pM rfl rfl underlying43 dU a I S az C) rfl ?_;refine WO.nil ?_;refine WX.next ?_
 refine WC.seq ?_;refine WC.wS kN [.ex [] (.slice (some ⟨b,0,none⟩) (n+1) G),.ex [] (.int .i64 ((i:Nat):Int)),.ex [] (.int .i64 ((1:Nat):Int)),.ex [1,2] (.int .i64 ((i+1:Nat):Int)),.ex [0,3] (.slice (some ⟨b,(i+1)*2,none⟩) (n+1 - (i+1)) (G - (i+1))),.ex [] (.slice (some ⟨g,0,none⟩) n c),.ex [] (.int .i64 ((i:Nat):Int)),.ex [5,6] (.slice (some ⟨g,i*2,none⟩) (n - i) (c - i))] 8 cm ⟨fun _ _ _ h _=>h,fun _ _ _ h _=>h,fun _ _ _ h _=>h,fun _ _ _ h _=>h,fun _ _ _ h _=>h,fun _ _ _ h _=>h,fun _ _ _ h _=>h,fun _ _ _ h _=>h,trivial⟩ ⟨?_,?_,?_,?_,?_,?_,?_,?_,trivial⟩ ?_
 ·rintro vs e kd ⟨-⟩;refine WO.cA (fr':=[(9,.slice (some ⟨b,0,none⟩) (n+1) G)]) ⟨⟨_,rfl,rfl⟩,trivial⟩ ?_;refine WO.v (R.move rfl) rfl ?_;refine WO.nil ?_;exact WX.aQ rfl rfl (Kp.refl _)
 ·rintro vs e kd ⟨-⟩;refine WO.cA (fr':=[(1,.int .i64 ((i:Nat):Int))]) ⟨⟨_,rfl,rfl⟩,trivial⟩ ?_;refine WO.v (R.move rfl) rfl ?_;refine WO.nil ?_;exact WX.aQ rfl rfl (Kp.refl _)
 ·rintro vs e kd ⟨-⟩;refine WO.cA (fr':=[(7,.int .i64 ((1:Nat):Int))]) ⟨⟨_,rfl,rfl⟩,trivial⟩ ?_;refine WO.v (R.move rfl) rfl ?_;refine WO.nil ?_;exact WX.aQ rfl rfl (Kp.refl _)
 ·rintro vs e kd ⟨V,W,-⟩;refine WO.cA (fr':=[(47,.int .i64 ((i:Nat):Int)),(48,.int .i64 ((1:Nat):Int))]) ⟨⟨_,rfl,V⟩,⟨_,rfl,W⟩,trivial⟩ ?_;refine WO.v (R.oL rfl rfl az) rfl ?_;refine WO.nil ?_;exact WX.aQ rfl rfl (Kp.refl _)
 ·rintro vs e kd ⟨X,Y,-⟩;refine WO.cA (fr':=[(46,.slice (some ⟨b,0,none⟩) (n+1) G),(49,.int .i64 ((i+1:Nat):Int))]) ⟨⟨_,rfl,X⟩,⟨_,rfl,Y⟩,trivial⟩ ?_;refine WO.v (R.dN rfl rfl underlying43 dU (fZ az) az) rfl ?_;refine WO.nil ?_;exact WX.aQ rfl rfl (Kp.refl _)
 ·rintro vs e kd ⟨-⟩;refine WO.cA (fr':=[(0,.slice (some ⟨g,0,none⟩) n c)]) ⟨⟨_,rfl,rfl⟩,trivial⟩ ?_;refine WO.v (R.move rfl) rfl ?_;refine WO.nil ?_;exact WX.aQ rfl rfl (Kp.refl _)
 ·rintro vs e kd ⟨-⟩;refine WO.cA (fr':=[(1,.int .i64 ((i:Nat):Int))]) ⟨⟨_,rfl,rfl⟩,trivial⟩ ?_;refine WO.v (R.move rfl) rfl ?_;refine WO.nil ?_;exact WX.aQ rfl rfl (Kp.refl _)
 ·rintro vs e kd ⟨Z,f,-⟩;refine WO.cA (fr':=[(51,.slice (some ⟨g,0,none⟩) n c),(52,.int .i64 ((i:Nat):Int))]) ⟨⟨_,rfl,Z⟩,⟨_,rfl,f⟩,trivial⟩ ?_;refine WO.v (R.dN rfl rfl underlying43 dU (fZ az) az) rfl ?_;refine WO.nil ?_;exact WX.aQ rfl rfl (Kp.refl _)
 rintro k d p ⟨-,-,-,-,t,-,-,A,-⟩;replace p:Kp [] (W1.setRow b (cur.take (i*2)++vs++cur.drop (i*2+vs.length)).toArray) d:=p;refine WO.cA (fr':=[(50,.slice (some ⟨b,(i+1)*2,none⟩) (n+1 - (i+1)) (G - (i+1))),(53,.slice (some ⟨g,i*2,none⟩) (n - i) (c - i)),(9,.slice (some ⟨b,0,none⟩) (n+1) G)]) ⟨⟨_,rfl,t⟩,⟨_,rfl,A⟩,⟨_,rfl,rfl⟩,trivial⟩ ?_;have K:d.heap[b]? = some (.cells (toArray (cur.take (i*2)++vs++cur.drop (i*2+vs.length))) 139 (0,0)):=by rw [p.block b (by simpa using fK a) aa]; exact D2 W1 b _ _ 139 _ a
 have L:ie d ⟨g,i*2,none⟩ ds:=(T.kp (Kp.setRow W1 b _) o (by simpa using s.symm)).kp p (by simpa using o) aa;refine WO.v (R.pM rfl rfl underlying43 dU K J L (by simp; omega) D) rfl ?_;refine WO.nil ?_;refine WX.next ?_
 refine WC.seq ?_;refine WC.region ?_;refine WO.v (R.move rfl) rfl ?_;refine WO.v (R.assign rfl) rfl ?_;refine WO.nil ?_;refine WX.next ?_
 refine WC.ret ?_;refine WX.mM ?_;refine WX.Dq rfl rfl ?_;exact ⟨rfl,d,p,rfl⟩
set_option maxRecDepth 100000 in
def ze {g c:Nat} (Z:i<n) (b:n+1<=c) (m:c<=maxLen)
  (a:w.heap[g]? = some (.cells cur.toArray 139 (0,0))) (J:(n+1)*2<=cur.length) (K:ie w ad vs) (e:w.heap[ad.block]? = some (.cells curA tA fA)) (o:curA.size≠0) (p:ad.block≠g) (s:vs.length=2) (L:ie w ⟨g,i*2,none⟩ ds) (x:ds.length=(n - i)*2)
  (y:∀ u ∈ vs,u.oneCell' = true) (z:∀ u ∈ ds,u.oneCell' = true) :
  kI prog 341 [.slice (some ⟨g,0,none⟩) n c,.int .i64 (i:Int),.slice (some ad) 1 vc].toArray w fun v N=>v = .slice (some ⟨g,0,none⟩) (n+1) c/\∃ d,Kp [] w d/\N = (d.setRow g (cur.take ((i+1)*2)++ds++cur.drop ((i+1)*2+ds.length)).toArray).setRow g ((cur.take ((i+1)*2)++ds++cur.drop ((i+1)*2+ds.length)).take (i*2)++vs++(cur.take ((i+1)*2)++ds++cur.drop ((i+1)*2+ds.length)).drop (i*2+vs.length)).toArray:=by
 have m:c<=9223372036854775807:=m;have C:vs.length=Nat.min 1 (n+1 - i)*2:=by rw [show Nat.min 1 (n+1 - i)=1 from E3 az,Nat.one_mul]; exact s
 have D:ds.length=Nat.min (n+1 - i) (n+1 - (i+1))*2:=by rw [show Nat.min (n+1 - i) (n+1 - (i+1))=n+1 - (i+1) from R1 az,x]; congr 1; omega
 refine kI.enter func341 rfl rfl rfl rfl ?_;refine WC.seq ?_;refine WC.region ?_;refine WO.v (R.assign rfl) rfl ?_;refine WO.nil ?_;refine WX.next ?_
 refine WC.seq ?_;refine WC.region ?_;refine WO.v (R.move rfl) rfl ?_;refine WO.v (R.move rfl) rfl ?_;refine WO.v (R.dN rfl rfl underlying43 dU rfl az) rfl ?_;refine WO.nil ?_;refine WX.next ?_
 refine WC.seq ?_;refine WC.region ?_;refine WO.v (R.move rfl) rfl ?_;refine WO.v (R.len rfl underlying43) rfl ?_;refine WO.v (R.assign rfl) rfl ?_;refine WO.nil ?_;refine WX.next ?_
 refine WC.seq ?_;refine WC.seq ?_;refine WC.region ?_;refine WO.v (R.move rfl) rfl ?_;refine WO.v (R.eql rfl rfl) rfl ?_;refine WO.nil ?_;refine WX.next ?_
 refine WC.cond rfl (fun q=>absurd (zc q) az) (fun _=>?_);refine WC.skip ?_;refine WX.next ?_
 refine WC.seq ?_;refine WC.region ?_;refine WO.v (R.move rfl) rfl ?_;refine WO.v (R.len rfl underlying43) rfl ?_;refine WO.v (R.assign rfl) rfl ?_;refine WO.nil ?_;refine WX.next ?_
 refine WC.seq ?_;refine WC.seq ?_;refine WC.region ?_;refine WO.v (R.move rfl) rfl ?_;refine WO.v (R.move rfl) rfl ?_;refine WO.v (R.eql rfl rfl) rfl ?_;refine WO.nil ?_;refine WX.next ?_
 refine WC.cond rfl (fun q=>absurd (zc q) az) (fun _=>?_);refine WC.skip ?_;refine WX.next ?_
 refine WC.seq ?_;refine WC.seq ?_;refine WC.region ?_;refine WO.v (R.move rfl) rfl ?_;refine WO.v (R.move rfl) rfl ?_;refine WO.v (R.oL rfl rfl az) rfl ?_;refine WO.v (R.move rfl) rfl ?_;refine WO.v (R.WT rfl underlying43) rfl ?_;refine WO.v (R.gtr rfl rfl) rfl ?_;refine WO.nil ?_;refine WX.next ?_
 refine WC.cond rfl (fun q=>absurd (zc q) az) (fun _=>?_);refine WC.skip ?_;refine WX.next ?_
 refine WC.seq ?_;refine WC.region ?_;refine WO.v (R.move rfl) rfl ?_;refine WO.v (R.move rfl) rfl ?_;refine WO.v (R.move rfl) rfl ?_;refine WO.v (R.oL rfl rfl az) rfl ?_;refine WO.v (R.mc rfl rfl underlying43 dU (fZ (i:=0) az) az) rfl ?_;refine WO.v (R.assign rfl) rfl ?_;refine WO.nil ?_;refine WX.next ?_
 refine WC.seq ?_;refine WC.seq ?_;refine WC.region ?_;refine WO.v (R.move rfl) rfl ?_;refine WO.v (R.move rfl) rfl ?_;refine WO.v (R.move rfl) rfl ?_;refine WO.v (R.move rfl) rfl ?_;refine WO.v (R.oL rfl rfl az) rfl ?_;refine WO.v (R.dN rfl rfl underlying43 dU (fZ az) az) rfl ?_;refine WO.v (R.ovl (tS:=43) (tR:=4) func358 rfl rfl cm cm underlying43 dU p e o a rfl rfl) rfl ?_;refine WO.v (R.not rfl) rfl ?_;refine WO.nil ?_;refine WX.next ?_
 refine WC.IG rfl ?_;refine WC.seq ?_;refine WC.wS kN [.ex [] (.slice (some ⟨g,0,none⟩) (n+1) c),.ex [] (.int .i64 ((i:Nat):Int)),.ex [] (.int .i64 ((1:Nat):Int)),.ex [1,2] (.int .i64 ((i+1:Nat):Int)),.ex [0,3] (.slice (some ⟨g,(i+1)*2,none⟩) (n+1 - (i+1)) (c - (i+1))),.ex [] (.slice (some ⟨g,0,none⟩) (n+1) c),.ex [] (.int .i64 ((i:Nat):Int)),.ex [5,6] (.slice (some ⟨g,i*2,none⟩) (n+1 - i) (c - i))] 8 cm ⟨fun _ _ _ h _=>h,fun _ _ _ h _=>h,fun _ _ _ h _=>h,fun _ _ _ h _=>h,fun _ _ _ h _=>h,fun _ _ _ h _=>h,fun _ _ _ h _=>h,fun _ _ _ h _=>h,trivial⟩ ⟨?_,?_,?_,?_,?_,?_,?_,?_,trivial⟩ ?_
 ·rintro vs j kd ⟨-⟩;refine WO.cA (fr':=[(0,.slice (some ⟨g,0,none⟩) (n+1) c)]) ⟨⟨_,rfl,rfl⟩,trivial⟩ ?_;refine WO.v (R.move rfl) rfl ?_;refine WO.nil ?_;exact WX.aQ rfl rfl (Kp.refl _)
 ·rintro vs j kd ⟨-⟩;refine WO.cA (fr':=[(1,.int .i64 ((i:Nat):Int))]) ⟨⟨_,rfl,rfl⟩,trivial⟩ ?_;refine WO.v (R.move rfl) rfl ?_;refine WO.nil ?_;exact WX.aQ rfl rfl (Kp.refl _)
 ·rintro vs j kd ⟨-⟩;refine WO.cA (fr':=[(7,.int .i64 ((1:Nat):Int))]) ⟨⟨_,rfl,rfl⟩,trivial⟩ ?_;refine WO.v (R.move rfl) rfl ?_;refine WO.nil ?_;exact WX.aQ rfl rfl (Kp.refl _)
 ·rintro vs j kd ⟨P,Q,-⟩;refine WO.cA (fr':=[(70,.int .i64 ((i:Nat):Int)),(71,.int .i64 ((1:Nat):Int))]) ⟨⟨_,rfl,P⟩,⟨_,rfl,Q⟩,trivial⟩ ?_;refine WO.v (R.oL rfl rfl az) rfl ?_;refine WO.nil ?_;exact WX.aQ rfl rfl (Kp.refl _)
 ·rintro vs j kd ⟨S,T,-⟩;refine WO.cA (fr':=[(69,.slice (some ⟨g,0,none⟩) (n+1) c),(72,.int .i64 ((i+1:Nat):Int))]) ⟨⟨_,rfl,S⟩,⟨_,rfl,T⟩,trivial⟩ ?_;refine WO.v (R.dN rfl rfl underlying43 dU (fZ az) az) rfl ?_;refine WO.nil ?_;exact WX.aQ rfl rfl (Kp.refl _)
 ·rintro vs j kd ⟨-⟩;refine WO.cA (fr':=[(0,.slice (some ⟨g,0,none⟩) (n+1) c)]) ⟨⟨_,rfl,rfl⟩,trivial⟩ ?_;refine WO.v (R.move rfl) rfl ?_;refine WO.nil ?_;exact WX.aQ rfl rfl (Kp.refl _)
 ·rintro vs j kd ⟨-⟩;refine WO.cA (fr':=[(1,.int .i64 ((i:Nat):Int))]) ⟨⟨_,rfl,rfl⟩,trivial⟩ ?_;refine WO.v (R.move rfl) rfl ?_;refine WO.nil ?_;exact WX.aQ rfl rfl (Kp.refl _)
 ·rintro vs j kd ⟨U,V,-⟩;refine WO.cA (fr':=[(74,.slice (some ⟨g,0,none⟩) (n+1) c),(75,.int .i64 ((i:Nat):Int))]) ⟨⟨_,rfl,U⟩,⟨_,rfl,V⟩,trivial⟩ ?_;refine WO.v (R.dN rfl rfl underlying43 dU (fZ az) az) rfl ?_;refine WO.nil ?_;exact WX.aQ rfl rfl (Kp.refl _)
 rintro W d l ⟨-,-,-,-,X,-,-,Y,-⟩;replace l:Kp [] w d:=l;refine WO.cA (fr':=[(73,.slice (some ⟨g,(i+1)*2,none⟩) (n+1 - (i+1)) (c - (i+1))),(76,.slice (some ⟨g,i*2,none⟩) (n+1 - i) (c - i)),(0,.slice (some ⟨g,0,none⟩) (n+1) c),(1,.int .i64 ((i:Nat):Int)),(2,.slice (some ad) 1 vc)]) ⟨⟨_,rfl,X⟩,⟨_,rfl,Y⟩,⟨_,rfl,rfl⟩,⟨_,rfl,rfl⟩,⟨_,rfl,rfl⟩,trivial⟩ ?_;have r:d.heap[g]? = some (.cells (toArray cur) 139 (0,0)):=by rw [l.block g (fK a) aa]; exact a
 refine WO.v (R.pM rfl rfl underlying43 dU r D (L.kp l (fK a) aa) az z) rfl ?_;refine WO.nil ?_;refine WX.next ?_
 have F:(d.setRow g (cur.take ((i+1)*2)++ds++cur.drop ((i+1)*2+ds.length)).toArray).heap[g]? = some (.cells (toArray (cur.take ((i+1)*2)++ds++cur.drop ((i+1)*2+ds.length))) 139 (0,0)):=D2 d g _ _ 139 _ r;have I:ie (d.setRow g (cur.take ((i+1)*2)++ds++cur.drop ((i+1)*2+ds.length)).toArray) ad vs:=(K.kp l (fK e) aa).kp (Kp.setRow d g _) (w9 (fK e) l.size) (by simpa using fun h=>p h.symm);refine WC.seq ?_;refine WC.region ?_;refine WO.v (R.move rfl) rfl ?_;refine WO.v (R.move rfl) rfl ?_;refine WO.v (R.dN rfl rfl underlying43 dU (fZ az) az) rfl ?_;refine WO.v (R.move rfl) rfl ?_;refine WO.v (R.pM rfl rfl underlying43 dU F C I (by simp; omega) y) rfl ?_;refine WO.nil ?_;refine WX.next ?_
 refine WC.seq ?_;refine WC.region ?_;refine WO.v (R.move rfl) rfl ?_;refine WO.v (R.assign rfl) rfl ?_;refine WO.nil ?_;refine WX.next ?_
 refine WC.ret ?_;refine WX.mM ?_;refine WX.Dq rfl rfl ?_;exact ⟨rfl,d,l,rfl⟩
def Fv {G:Gl} (hs:G.shp=av l6) (Y:oh G ρ H w) {l m:List (l5 (.nm .opn))} (Z:l4 H 0 = .row 139 (.nm .opn) l) (hl:l.length<1048576) (hi:i<=l.length) {v0:Value} (h0:Rd (cx G ρ w) ρ (.own 0) v0)
  (hm:m.length=1) (f:Rd (cx G ρ w) ρ bAV (.slice (some ad) 1 k)) (hbv:(bAV.vw H).gv (.nm .opn)=some m) (hv:ie w ad cys) (C:cys.length=2) (h1v:∀ u ∈ cys,u.oneCell' = true) (hp:p0 (cx G ρ w) (m.flatMap (cellsOf (.nm .opn))) cys)
  (hne:∀ g c n z,ρ[0]? = some (.row g c n z)->ad.block≠g) (hvb:w.heap[ad.block]? = some (.cells curA tA fA)) (hvb0:curA.size≠0) :
  kI prog 341 [v0,.int .i64 (i:Int),.slice (some ad) 1 k].toArray w fun v q=>∃ o,s8 (iu 0) ρ w o q /\ oh G o ((iJ (AV.kill 0) H).set 0 (.row 139 (.nm .opn) (l.take i++m++l.drop i))) q /\ Rd (cx G o q) o (.own 0) v:=by
 have hT:bz prog G.shp l6:=hs ▸ ek;obtain ⟨hshp,hlen⟩:=dZ Y Z;have hl64:l.length<=9223372036854775807:=by omega
 have hin:((l.length:Nat):Int)<=9223372036854775807:=by omega
 by_cases hie:i=l.length
 ·subst hie;have hc:∃ A c,v0 = .slice A l.length c:=by
   rcases h0 with ⟨g,d,len,z,s,rfl⟩ | ⟨s,a,rfl⟩
   ·rcases cc Y Z with ⟨r,_⟩ | ⟨g',U,cells,t,r,_⟩
    ·rw [s] at r; cases r
    rw [s] at r; cases r; exact ⟨_,_,rfl⟩
   rcases cc Y Z with ⟨_,r⟩ | ⟨g',U,cells,t,r,_⟩
   ·subst r; exact ⟨_,_,rfl⟩
   rw [s] at r; cases r
  obtain ⟨A,c,rfl⟩:=hc;refine E_ fun F x y ty hx hy=>?_;have D:kL l6 (iu 0) ([]:j9) H 43 (.own 0) bAV=some ⟨one (.own 0),[],(iJ (AV.kill 0) H).set 0 (.row 139 (.nm .opn) (l++m)),[(l.length+m.length)*(Sh.nm NT.opn).bytes<=140737488355328],[]⟩:=by
   unfold kL;rw [show bj l6 43=some ⟨.sl 139 (some (.nm .opn)),1,[.em true]⟩ from by kernel_rfl];simp [hbv,m_,Z];rfl
  obtain ⟨v,q,s,o,r,h3,_,h5,_⟩:=kr (P:=prog) (n:=95) (F:=[]) (ty:=ty) (fr:=[]) (x:=.const (.slice A l.length c)) (y:=.const (.slice (some ad) 1 k)) hT Y .nil D (by
   intro p hp;rw [A1] at hp; subst hp;show (l.length+m.length)*16<=_;omega) h0 f rfl rfl
  refine ⟨v,q,R.Hb s hx hy,o,r,?_,h5⟩;rw [I2,List.drop_length,A3];exact h3
 have B:i<l.length:=by omega
 rcases cc Y Z with ⟨_,r⟩ | ⟨g,d,cells,t,I,hg,N,hsz,hcap,J⟩
 ·subst r; simp at B
 obtain ⟨hnb,hil,hiH⟩:=nI Y Z;have hv0:v0 = .slice (some ⟨g,0,none⟩) l.length d:=by
  rcases h0 with ⟨g',U,len,z,s,rfl⟩ | ⟨s,a,rfl⟩
  ·rw [I] at s; cases s; rfl
  rw [I] at s; cases s
 subst hv0;have hz:(Sh.nm NT.opn).size=2:=rfl;have hby:(Sh.nm NT.opn).bytes=16:=rfl;have hcl:cells.length=l.length*2:=by rw [<- N.length,cz,hz]
 rw [hz,r5] at hsz;have V:∀ u ∈ cells.drop (i*2),u.oneCell' = true:=fun u hu=>N.RB u (V2 hu);have hd:ie w ⟨g,i*2,none⟩ (cells.drop (i*2)):=by
  have:=(db hg).shift (i*2);rwa [add_lit,x7] at this
 have hdl:(cells.drop (i*2)).length=(l.length - i)*2:=by rw [length_drop,hcl]; omega
 have O:=fK hg;have hzl:(l.take i++m++l.drop i).length=l.length+1:=by
  rw [r5,r5,s9,length_drop,hm]; omega
 have hnew:∀ {c:Cx},(cx G ρ w).le c->p0 c ((l.take i++m++l.drop i).flatMap (cellsOf (.nm .opn))) (cells.take (i*2)++cys++cells.drop (i*2)):=fun {c} hle=>by
  rw [K1,K1];exact (((bU N i).append hp).append (cC N i)).c8 hle
 have hnl:(cells.take (i*2)++cys++cells.drop (i*2)).length=(l.length+1)*2:=by
  rw [r5,r5,s9,length_drop,hcl,C]; omega
 have hbig:(l.take i++m++l.drop i).length*(Sh.nm NT.opn).bytes<=140737488355328:=by rw [hzl,hby]; omega
 have fin:∀ (S:List Nat) (W j:Nat) (Q:List Value) (q:World),Kp S w q -> (∀ b ∈ S,b=g)->(W=g\/w.heap.size<=W)->q.heap[W]? = some (.cells (toArray (cells.take (i*2)++cys++cells.drop (i*2)++Q)) 139 (0,0))->(l.length+1)*2+Q.length=j*2->l.length+1<=j->j<=maxLen ->
   ∃ o,s8 (iu 0) ρ w o q /\ oh G o ((iJ (AV.kill 0) H).set 0 (.row 139 (.nm .opn) (l.take i++m++l.drop i))) q /\ Rd (cx G o q) o (.own 0) (.slice (some ⟨W,0,none⟩) (l.length+1) j):=by
  intro S W j Q q hk hS hg2 hh hlen2 hle2 hmax2;obtain ⟨k1,k2,_⟩:=jV (ro:=iu 0) (s':=.nm .opn) (e':=139) (zs:=l.take i++m++l.drop i) Y Z ⟨rfl,rfl⟩ hk (fun b f=>⟨_,I,by rw [hS b f]; rfl⟩) (r':=.row W j (l.take i++m++l.drop i).length (Sh.nm NT.opn).size) (fun b f=>by
   cases f;rcases hg2 with rfl | hg2
   ·exact .inl ⟨_,I,rfl⟩
   exact .inr ⟨hg2,fK hh⟩) (fun hle=>⟨hshp,hbig,.inr ⟨W,j,_,Q,rfl,hh,hnew hle,by rw [r5,hnl,hz]; exact hlen2,by rw [hzl]; exact hle2,hmax2⟩⟩)
  exact ⟨_,k1,k2,.inl ⟨W,j,_,_,E8 hil,by rw [hzl]⟩⟩
 have eo:(i+1)*2=i*2+2:=by omega
 by_cases K:l.length+1<=d
 ·refine (ze B K J hg (by rw [r5]; omega) hv hvb hvb0 (hne _ _ _ _ I) C hd hdl h1v V).mono fun v q ⟨e1,X,k1,e2⟩=>?_;subst e1; subst e2;rw [eo,aaM az C];have hk:Kp [g] w ((X.setRow g ((cells++t).take (i*2+2)++cells.drop (i*2)++(cells++t).drop (i*2+2+(cells.drop (i*2)).length)).toArray).setRow g (cells.take (i*2)++cys++cells.drop (i*2)++t.drop 2).toArray):=((k1.sub aa).step (Kp.setRow X g _) aa).step (Kp.setRow _ g _) aa;have hg1:X.heap[g]? = some (.cells (toArray (cells++t)) 139 (0,0)):=by rw [k1.block g O aa]; exact hg
  exact fin [g] g d (t.drop 2) _ hk aa (.inl rfl) (D2 _ g _ _ 139 _ (D2 X g _ _ 139 _ hg1)) (by rw [length_drop]; omega) K J
 obtain ⟨ti,hi0,hz0,hz1,hz2⟩:=info_parts HI;have eik:i+(l.length+1 - i)=l.length+1:=by omega
 have hge:=grownCap_ge w (l.length+1) d 139;have hgm:=grownCap_le_maxLen w (l.length+1) d 139 (by simp [maxLen]; omega);have hold:(Builtin.firstCells ti.size i (.slice (some ⟨g,0*2,none⟩) i d)).run prog w.drew = .ok (cells.take (i*2)).toArray w.drew:=by
  have h:=T5 (P:=prog) w.drew ⟨g,0*2,none⟩ (cells.take (i*2)) (by rw [O6]; exact (db hg).take _);rw [s9,E3 az] at h;rw [hz1]; exact h
 have D:∀ (F:Fr) (x y:Operand) (ty:TypeId),ev F x=some (.slice (some ⟨g,0*2,none⟩) i d)->ev F y=some (.int .i64 ((l.length+1 - i:Nat):Int))->aL prog 95 F w (.call { callee:=.builtin .append,args:=#[x,y],argTypes:=#[43,3] }) ty (.slice (some ⟨w.heap.size,0,none⟩) (l.length+1) (grownCap w (l.length+1) d 139)) (w.drew.alloc (.cells (toArray (cells.take (i*2)++((Builtin.zeroCells (Value.agg #[.int .i64 0,.int .i64 0]).cells (l.length+1 - i)).toList++(Builtin.zeroCells (Value.agg #[.int .i64 0,.int .i64 0]).cells (grownCap w (l.length+1) d 139 - (l.length+1))).toList))) 139)):=fun F x y ty hx hy=>by
  have h:=R.aj9 (P:=prog) (n:=95) (ty:=ty) hx hy underlying43 underlying3 hi0 hz0 hold az (by rw [hz1]; decide) az az (by rw [hz2]; omega) (by rw [hz2,eik]; exact T3 az az);rw [eik] at h;have e:∀ (a:List Value) (b c:Array Value),a.toArray++b++c=(a++(b.toList++c.toList)).toArray:=fun a b c=>by apply G6; simp
  rw [e] at h;exact h
 have hcurl:(cells.take (i*2)++((Builtin.zeroCells (Value.agg #[.int .i64 0,.int .i64 0]).cells (l.length+1 - i)).toList++(Builtin.zeroCells (Value.agg #[.int .i64 0,.int .i64 0]).cells (grownCap w (l.length+1) d 139 - (l.length+1))).toList)).length=grownCap w (l.length+1) d 139*2:=by
  rw [r5,r5,s9,uu,uu];show min _ _+((l.length+1 - i)*2+(grownCap w (l.length+1) d 139 - (l.length+1))*2)=_;omega
 have htk:(cells.take (i*2)++((Builtin.zeroCells (Value.agg #[.int .i64 0,.int .i64 0]).cells (l.length+1 - i)).toList++(Builtin.zeroCells (Value.agg #[.int .i64 0,.int .i64 0]).cells (grownCap w (l.length+1) d 139 - (l.length+1))).toList)).take (i*2)=cells.take (i*2):=take_left' (by rw [s9]; omega);generalize grownCap w (l.length+1) d 139=GC at *;generalize cells.take (i*2)++((Builtin.zeroCells (Value.agg #[.int .i64 0,.int .i64 0]).cells (l.length+1 - i)).toList++(Builtin.zeroCells (Value.agg #[.int .i64 0,.int .i64 0]).cells (GC - (l.length+1))).toList)=cur at *;have T:Kp [] w (w.drew.alloc (.cells (toArray cur) 139)):=((Kp.refl w).drew).step (Kp.alloc w.drew _) aa;have L:(w.drew.alloc (.cells (toArray cur) 139)).heap[w.heap.size]? = some (.cells (toArray cur) 139 (0,0)):=J6 w.drew _;generalize w.drew.alloc (.cells (toArray cur) 139)=W1 at *;refine (Dy B hcap az J hge hgm D L az (hv.kp T (fK hvb) aa) C (hd.kp T O aa) az (w9 O T.size) hdl h1v V).mono fun v q ⟨e1,X,k1,e2⟩=>?_;subst e1; subst e2;rw [eo,aaW (cells:=cells) az C htk];have hs1:∀ b ∈ [w.heap.size],b ∈ ([]:List Nat)\/w.heap.size<=b:=fun b f=>.inr (by rw [A1] at f; omega);have hk:Kp [] w (X.setRow w.heap.size (cells.take (i*2)++cys++cells.drop (i*2)++cur.drop (i*2+2+(cells.drop (i*2)).length)).toArray):=((T.step (Kp.setRow W1 w.heap.size _) hs1).step k1 aa).step (Kp.setRow X w.heap.size _) hs1;have hg1:=(k1.block w.heap.size (by simpa using fK L) aa).trans (D2 W1 w.heap.size _ (cur.take (i*2)++cys++cur.drop (i*2+cys.length)).toArray 139 _ L);exact fin [] w.heap.size GC _ _ hk aa (.inr (sh _)) (D2 X w.heap.size _ _ 139 _ hg1) (by rw [length_drop]; omega) hge hgm
def yB (i:Int) (l m:List (l5 (.nm .opn))) (h:0<=i/\i<=(l.length:Int)) (K:l.length<1048576) (o:m.length=1):s6 prog (av l6) 341 [.c (.own 0),.c (.int i),.c (.fz (.nm .opn) m)] [.row 139 (.nm .opn) l] ⟨[0<=i/\i<=(l.length:Int),l.length<1048576,m.length=1],[.c (.own 0)],some [.row 139 (.nm .opn) (l.take i.toNat++m++l.drop i.toNat)],false⟩:=by
 refine ⟨⟨_,func341,am,rfl⟩,fun G ρ w vs L C a=>?_⟩;obtain ⟨i,rfl⟩:=x6 h.1;cases a with | cons p a=>
 cases a with | cons q a=>
 cases a with | cons d a=>
 cases a;have q:Pd (cx G ρ w) (.int (i:Int)) _:=q;cases q;have p:Rd (cx G ρ w) ρ (.own 0) _:=p;have d:Rd (cx G ρ w) ρ (.fz (.nm .opn) m) _:=d;have N:l4 [AO.row 139 (.nm .opn) l] 0 = .row 139 (.nm .opn) l:=rfl;have j:(AV.vw [AO.row 139 (.nm .opn) l] (.fz (.nm .opn) m)).gv (.nm .opn)=some m:=by simp [AV.vw,AV.gv]
 obtain ⟨A,k,cys,rfl,r,P,D,Q⟩:=pP C j d;rw [o] at d r D;rw [o];obtain ⟨ad,rfl,F⟩:∃ ad,A=some ad/\ie w ad cys:=D.resolve_left am;have S:(Sh.nm NT.opn).size=2:=rfl;rw [S] at r;obtain ⟨u,T⟩:∃ u,cys[0]? = some u:=⟨_,p6 az⟩;obtain ⟨cur,t,f,I,s⟩:=wQ (F 0 u T);have x:∀ g c n z,ρ[0]? = some (.row g c n z)->ad.block≠g:=fun g c n z U e=>by
  have d:Pd (cx G ρ w) (.fz (.nm .opn) m) (.slice (some ad) 1 k):=d;have V:=acX d (by rw [o]; decide);exact V.1.2.1 ⟨0,_,U,by rw [e]; rfl⟩
 rw [gI] at I;refine (Fv L C N K az p o d j F r P Q x I s).mono fun v Z ⟨y,J,W,X⟩=>?_;exact ⟨[v],rfl,y,W,J.ext,J.bx,.cons X .nil,fun Y=>by cases Y⟩
def TS:(Builtin.zeroCells (Value.agg #[.int .i64 0,.int .i64 0]).cells 1).toList=[.int .i64 0,.int .i64 0]:=cm
set_option maxRecDepth 100000 in
def Qs {g c:Nat} {a:TypeInfo} (U:i<n) (F:n<=c) (j:c<=maxLen) (r:w.heap[g]? = some (.cells cur.toArray 139 (0,0))) (D:n*2<=cur.length) (s:ds.length=(n - (i+1))*2) (I:ie w (if c=i+1 then ⟨g,0,none⟩ else (⟨g,0,none⟩:Addr).add ((i+1)*2)) ds) (x:∀ u ∈ ds,u.oneCell' = true)
  (l:prog.info? 139=some a) (y:a.zero=some (.agg #[.int .i64 0,.int .i64 0])) (e:a.size=2) :
  kI prog 344 [.slice (some ⟨g,0,none⟩) n c,.int .i64 (i:Int),.int .i64 ((i+1:Nat):Int)].toArray w fun v J=>v = .slice (some ⟨g,0,none⟩) (i+(n - (i+1))) c/\∃ d,Kp [] w d/\J = (d.setRow g (cur.take (i*a.size)++ds++cur.drop (i*a.size+ds.length)).toArray).setRow g ((cur.take (i*a.size)++ds++cur.drop (i*a.size+ds.length)).take ((i+(n - (i+1)))*2)++(Builtin.zeroCells (Value.agg #[.int .i64 0,.int .i64 0]).cells 1).toList++(cur.take (i*a.size)++ds++cur.drop (i*a.size+ds.length)).drop ((i+(n - (i+1)))*2+(Builtin.zeroCells (Value.agg #[.int .i64 0,.int .i64 0]).cells 1).toList.length)).toArray:=by
 have j:c<=9223372036854775807:=j;refine kI.enter func344 rfl rfl rfl rfl ?_;refine WC.seq ?_;refine WC.region ?_;refine WO.v (R.assign rfl) rfl ?_;refine WO.nil ?_;refine WX.next ?_
 refine WC.seq ?_;refine WC.region ?_;refine WO.v (R.move rfl) rfl ?_;refine WO.v (R.move rfl) rfl ?_;refine WO.v (R.move rfl) rfl ?_;refine WO.v (R.move rfl) rfl ?_;refine WO.v (R.len rfl underlying43) rfl ?_;refine WO.v (R.slice3 rfl rfl rfl rfl underlying43 dU az az az) rfl ?_;refine WO.nil ?_;refine WX.next ?_
 refine WC.seq ?_;refine WC.seq ?_;refine WC.region ?_;refine WO.v (R.move rfl) rfl ?_;refine WO.v (R.move rfl) rfl ?_;refine WO.v (R.eql rfl rfl) rfl ?_;refine WO.nil ?_;refine WX.next ?_
 refine WC.cond rfl (fun q=>absurd (zc q) az) (fun _=>?_);refine WC.skip ?_;refine WX.next ?_
 refine WC.seq ?_;refine WC.region ?_;refine WO.v (R.move rfl) rfl ?_;refine WO.v (R.len rfl underlying43) rfl ?_;refine WO.v (R.assign rfl) rfl ?_;refine WO.nil ?_;refine WX.next ?_
 refine WC.seq ?_;refine WC.wS kN [.ex [] (.slice (some ⟨g,0,none⟩) n c),.ex [] (.int .i64 ((i:Nat):Int)),.ex [0,1] (.slice (some ⟨g,0*2,none⟩) (i - 0) (c - 0)),.ex [] (.slice (some ⟨g,0,none⟩) n c),.ex [] (.int .i64 ((i+1:Nat):Int)),.ex [3,4] (.slice (some (if c=i+1 then ⟨g,0,none⟩ else (⟨g,0,none⟩:Addr).add ((i+1)*2))) (n - (i+1)) (c - (i+1)))] 6 cm ⟨fun _ _ _ h _=>h,fun _ _ _ h _=>h,fun _ _ _ h _=>h,fun _ _ _ h _=>h,fun _ _ _ h _=>h,fun _ _ _ h _=>h,trivial⟩ ⟨?_,?_,?_,?_,?_,?_,trivial⟩ ?_
 ·rintro vs m kd ⟨-⟩;refine WO.cA (fr':=[(0,.slice (some ⟨g,0,none⟩) n c)]) ⟨⟨_,rfl,rfl⟩,trivial⟩ ?_;refine WO.v (R.move rfl) rfl ?_;refine WO.nil ?_;exact WX.aQ rfl rfl (Kp.refl _)
 ·rintro vs m kd ⟨-⟩;refine WO.cA (fr':=[(1,.int .i64 ((i:Nat):Int))]) ⟨⟨_,rfl,rfl⟩,trivial⟩ ?_;refine WO.v (R.move rfl) rfl ?_;refine WO.nil ?_;exact WX.aQ rfl rfl (Kp.refl _)
 ·rintro vs m kd ⟨K,L,-⟩;refine WO.cA (fr':=[(20,.slice (some ⟨g,0,none⟩) n c),(21,.int .i64 ((i:Nat):Int))]) ⟨⟨_,rfl,K⟩,⟨_,rfl,L⟩,trivial⟩ ?_;refine WO.v (R.mc rfl rfl underlying43 dU (fZ (i:=0) az) az) rfl ?_;refine WO.nil ?_;exact WX.aQ rfl rfl (Kp.refl _)
 ·rintro vs m kd ⟨-⟩;refine WO.cA (fr':=[(0,.slice (some ⟨g,0,none⟩) n c)]) ⟨⟨_,rfl,rfl⟩,trivial⟩ ?_;refine WO.v (R.move rfl) rfl ?_;refine WO.nil ?_;exact WX.aQ rfl rfl (Kp.refl _)
 ·rintro vs m kd ⟨-⟩;refine WO.cA (fr':=[(2,.int .i64 ((i+1:Nat):Int))]) ⟨⟨_,rfl,rfl⟩,trivial⟩ ?_;refine WO.v (R.move rfl) rfl ?_;refine WO.nil ?_;exact WX.aQ rfl rfl (Kp.refl _)
 ·rintro vs m kd ⟨N,P,-⟩;refine WO.cA (fr':=[(23,.slice (some ⟨g,0,none⟩) n c),(24,.int .i64 ((i+1:Nat):Int))]) ⟨⟨_,rfl,N⟩,⟨_,rfl,P⟩,trivial⟩ ?_;refine WO.v (R.dN rfl rfl underlying43 dU acP az) rfl ?_;refine WO.nil ?_;exact WX.aQ rfl rfl (Kp.refl _)
 rintro Q d o ⟨-,-,S,-,-,T,-⟩;replace o:Kp [] w d:=o;refine WO.cA (fr':=[(22,.slice (some ⟨g,0*2,none⟩) (i - 0) (c - 0)),(25,.slice (some (if c=i+1 then ⟨g,0,none⟩ else (⟨g,0,none⟩:Addr).add ((i+1)*2))) (n - (i+1)) (c - (i+1))),(7,.int .i64 ((n:Nat):Int))]) ⟨⟨_,rfl,S⟩,⟨_,rfl,T⟩,⟨_,rfl,rfl⟩,trivial⟩ ?_;have p:d.heap[g]? = some (.cells (toArray cur) 139 (0,0)):=by rw [o.block g (fK r) aa]; exact r
 have z:ie d (if c=i+1 then ⟨g,0,none⟩ else (⟨g,0,none⟩:Addr).add ((i+1)*2)) ds:=I.dm (o.block _ (by split <;> exact fK r) aa);refine WO.v (R.XU (sl:=i) (sc:=c) rfl rfl underlying43 l p (by rw [e]; exact s) z x az (by rw [e]; omega)) rfl ?_;refine WO.v (R.assign rfl) rfl ?_;refine WO.nil ?_;refine WX.next ?_
 have C:=D2 d g _ (cur.take (i*a.size)++ds++cur.drop (i*a.size+ds.length)).toArray 139 _ p;refine WC.seq ?_;refine WC.region ?_;refine WO.v (R.move rfl) rfl ?_;refine WO.v (R.move rfl) rfl ?_;refine WO.v (R.len rfl underlying43) rfl ?_;refine WO.v (R.move rfl) rfl ?_;refine WO.v (R.IN rfl rfl rfl underlying43 dU (fZ az) az az) rfl ?_;refine WO.v0 (R.clr rfl az underlying43 l y (by rw [TS]; simp [Value.oneCell']) C (by rw [uu,e]; simp; show _+1*2<=_; omega)) ?_;refine WO.nil ?_;refine WX.next ?_
 refine WC.seq ?_;refine WC.region ?_;refine WO.v (R.move rfl) rfl ?_;refine WO.v (R.assign rfl) rfl ?_;refine WO.nil ?_;refine WX.next ?_
 refine WC.ret ?_;refine WX.Dq rfl rfl ?_;exact ⟨rfl,d,o,rfl⟩
theorem CD (i j:Int) (l:List (l5 (.nm .opn))) (h:0<=i/\i<(l.length:Int)/\j=i+1):s6 prog (av l6) 344 [.c (.own 0),.c (.int i),.c (.int j)] [.row 139 (.nm .opn) l] ⟨[0<=i/\i<(l.length:Int)/\j=i+1],[.c (.own 0)],some [.row 139 (.nm .opn) (l.take i.toNat++l.drop j.toNat)],false⟩:=by
 refine ⟨⟨_,func344,am,rfl⟩,fun G ρ w vs hs X e=>?_⟩;obtain ⟨s,hi1,rfl⟩:=h;obtain ⟨i,rfl⟩:=x6 s;have D:i<l.length:=by omega
 cases e with | cons F e=>
 cases e with | cons o e=>
 cases e with | cons I e=>
 cases e;have o:Pd (cx G ρ w) (.int (i:Int)) _:=o;have I:Pd (cx G ρ w) (.int ((i:Int)+1)) _:=I;cases o;cases I;have F:Rd (cx G ρ w) ρ (.own 0) _:=F;have Y:l4 [AO.row 139 (.nm .opn) l] 0 = .row 139 (.nm .opn) l:=rfl;obtain ⟨J,K⟩:=dZ X Y;rcases cc X Y with ⟨_,I⟩ | ⟨g,m,d,x,p,Z,q,f,L,r⟩
 ·subst I; simp at D
 obtain ⟨hnb,k,hiH⟩:=nI X Y;have n:(Sh.nm NT.opn).size=2:=rfl;have N:(Sh.nm NT.opn).bytes=16:=rfl;have t:d.length=l.length*2:=by rw [<- q.length,cz,n]
 rw [n,r5] at f;rw [N] at K;obtain ⟨ti,s,A,P,hz2⟩:=info_parts HI;have Q:∀ u ∈ d.drop ((i+1)*2),u.oneCell' = true:=fun u hu=>q.RB u (V2 hu);have hd:ie w (if m=i+1 then ⟨g,0,none⟩ else (⟨g,0,none⟩:Addr).add ((i+1)*2)) (d.drop ((i+1)*2)):=by
  split
  ·grind [List.drop_of_length_le,ie.nil]
  exact (db Z).shift _
 have B:∀ v,Rd (cx G ρ w) ρ (.own 0) v->v = .slice (some ⟨g,0,none⟩) l.length m:=fun v F=>by
  rcases F with ⟨g',cap',len,z,o,rfl⟩ | ⟨o,a,rfl⟩
  ·rw [p] at o; cases o; rfl
  rw [p] at o; cases o
 obtain rfl:=B _ F;have e0:((i:Int)+1)=((i+1:Nat):Int):=by omega
 rw [e0];refine (Qs D L r Z (by rw [r5]; omega) (by rw [length_drop,t]; omega) hd Q s A P).mono fun v w' ⟨e1,H,k1,S⟩=>?_;subst e1;have hq:i+(l.length - (i+1))=l.length - 1:=by omega
 rw [hq,P,TS] at S;rw [hq];have U:(l.take i++l.drop (i+1)).length=l.length - 1:=by rw [r5,s9,length_drop]; omega
 have O:(d.take (i*2)++d.drop ((i+1)*2)).length=(l.length - 1)*2:=by rw [r5,s9,length_drop]; omega
 have V:((d++x).take (i*2)++d.drop ((i+1)*2)++(d++x).drop (i*2+(d.drop ((i+1)*2)).length)).take ((l.length - 1)*2)=d.take (i*2)++d.drop ((i+1)*2):=by grind
 have W:((d++x).take (i*2)++d.drop ((i+1)*2)++(d++x).drop (i*2+(d.drop ((i+1)*2)).length)).length=m*2:=by grind
 generalize (d++x).take (i*2)++d.drop ((i+1)*2)++(d++x).drop (i*2+(d.drop ((i+1)*2)).length)=r1 at S V W;rw [V,I4] at S;generalize hsp2:([.int .i64 0,.int .i64 0]:List Value)++drop ((l.length - 1)*2+([.int .i64 0,.int .i64 0]:List Value).length) r1=sp2 at S;have y:(l.length - 1)*2+sp2.length=m*2:=by grind
 have hg1:H.heap[g]? = some (.cells (toArray (d++x)) 139 (0,0)):=by rw [k1.block g (fK Z) aa]; exact Z
 have hh:=D2 _ g _ (d.take (i*2)++d.drop ((i+1)*2)++sp2).toArray 139 _ (D2 H g _ r1.toArray 139 _ hg1);have hk:=((k1.sub (T:=[g]) aa).step (Kp.setRow H g r1.toArray) aa).step (Kp.setRow _ g (d.take (i*2)++d.drop ((i+1)*2)++sp2).toArray) aa;subst S;obtain ⟨k2,k3,_⟩:=jV (ro:=iu 0) (s':=.nm .opn) (e':=139) (zs:=l.take i++l.drop (i+1)) X Y ⟨rfl,rfl⟩ hk (fun b C=>⟨_,p,by rw [A1] at C; subst C; rfl⟩) (r':=.row g m (l.take i++l.drop (i+1)).length (Sh.nm NT.opn).size) (fun b C=>by
  cases C; exact .inl ⟨_,p,rfl⟩) (fun hle=>⟨J,by rw [U,N]; omega,.inr ⟨g,m,_,sp2,rfl,hh,by
   rw [K1]; exact ((bU q i).append (cC q (i+1))).c8 hle,by rw [r5,O,n]; exact y,az,r⟩⟩)
 exact ⟨[_],rfl,_,k3,k2.ext,k2.bx,.cons (.inl ⟨g,m,_,_,E8 k,by rw [U]⟩) .nil,fun C=>by cases C⟩
def qW {a:Type} (z:a) (k:Int):List (Int × a)->a
 | []=>z
 | p :: r=>if k=p.1 then p.2 else qW z k r
def cN (a b:Int):Int:=if (1<=a/\a<=3)/\(1<=b/\b<=3) then (if a<b then 32 else 0) else 1
def cD (n:Int):Bool:=decide (1<=n) && decide (n<=3)
def jn (l:List Int) (k:Nat):Int:=((l.take k).tail).foldl min (l.headD 0)
def Dw (l:List Int):Int:=l.tail.foldl min (l.headD 0)
def jz (l:List Int):Int:=if decide (l.length=0) || !l.all cD then 0 else Dw l
def lX (v:Int) (l:List Int):Bool:=(decide (1<=v) && decide (v<3)) && decide (v<jz l)
variable {α:Type}
theorem aj {l:List α} {x:α} (a:l[k]? = some x):l.take (k+1)=l.take k++[x]:=by
 rw [List.take_add_one,a]; rfl
variable {l:List Int} {x:Int}
theorem FJ (c:1<=k) (a:l[k]? = some x):min (jn l k) x=jn l (k+1):=by
 unfold jn;rw [aj a,List.tail_append_of_ne_nil,I5]
 ·rfl
 grind [List.length_take]
def LY (c:l[0]? = some x):x=jn l 1:=by
 cases l with
 | nil=>simp at c
 | cons a r=>simp at c; simp [jn,c]
def Mq (a:l.length<=k):jn l k=Dw l:=by
 unfold jn Dw; rw [r6 a]
def acd [DecidableEq α] {l m:List α} (h:¬ ((l.length:Nat):Int)=((m.length:Nat):Int)):false=decide (l=m):=by
 symm; apply D1; rintro rfl; exact h rfl
theorem SX [DecidableEq α] {l m:List α} (a:l.length=m.length) (h:l.take k=m.take k) (c:l.length<=k):true=decide (l=m):=by grind [List.take_of_length_le]
def aO (n a b:Int):Bool:=decide (a<=n) && decide (n<=b)
def al {α:Type} (d:α->Int) (c:Int):Int->List α->Bool
 | _,[]=>true
 | a,x :: r=>aO (d x) (a+1) c && al d c (d x) r
def bC {α:Type} (c:α->Int) (a:Int) (l:List α):Int:=l.foldl (fun _ x=>c x) a
theorem gY {α:Type} {d:α->Int} {c:Int} {x:α}:∀ (p:List α) (a:Int),al d c a (p++[x])=(al d c a p && aO (d x) (bC d a p+1) c)
 | [],a=>by simp [al,bC]
 | y :: p,a=>by
  rw [D0,al,al,gY p,Bool.and_assoc]; rfl
theorem nz {α:Type} {d:α->Int} {c:Int} (q:List α):∀ (p:List α) (a:Int),al d c a (p++q)=true->al d c a p=true
 | [],a,_=>rfl
 | y :: p,a,h=>by
  rw [D0,al,pe] at h;rw [al,pe];exact ⟨h.1,nz q p _ h.2⟩
variable {a:Int}
def fQ {key:α->Int} {l:List α} {x:α} (c:l[k]? = some x):key x=bC key a (l.take (k+1)):=by
 rw [aj c,bC,I5]; rfl
def jY {c:α->Int} {l:List α} {x:α} (h:0<k) (d:l[k - 1]? = some x):bC c a (l.take k)=c x:=by
 obtain ⟨j,rfl⟩:∃ j,k=j+1:=⟨k - 1,az⟩;exact (fQ (by simpa using d)).symm
variable {most:Int}
def lP {key:α->Int} {l:List α} {x:α} (h:al key most a (l.take k)=true) (c:l[k]? = some x) (e:bC key a (l.take k)<key x) (d:key x<=most):al key most a (l.take (k+1))=true:=by
 rw [aj c,gY,h,Bool.true_and,aO,pe,vo,vo];exact ⟨az,d⟩
def rk {key:α->Int} {l:List α} {x:α} (d:l[k]? = some x) (h:¬ (bC key a (l.take k)<key x/\key x<=most)):al key most a l=false:=by
 cases e:al key most a l with
 | false=>rfl
 | true=>
  have c:=nz (l.drop (k+1)) (l.take (k+1)) a (by rw [D5]; exact e);rw [aj d,gY,pe,aO,pe,vo,vo] at c;exact absurd ⟨az,c.2.2⟩ h
def lK {c:α->Int} {l:List α} (h:al c most a (l.take k)=true) (d:l.length<=k):al c most a l=true:=by
 rwa [r6 d] at h
def bI (l:List Int):Bool:=(decide ((1:Int)<=((l.length:Nat):Int)) && decide (((l.length:Nat):Int)<=8)) && al id 64 0 l
theorem mV (c:l[k]? = some x) (h:¬ (bC id 0 (l.take k)<x/\x<=64)):false=bI l:=by
 rw [bI,rk (key:=id) c h,Bool.and_false]
def KA (h:al id 64 0 (l.take k)=true) (c:l.length<=k):(decide ((1:Int)<=((l.length:Nat):Int)) && decide (((l.length:Nat):Int)<=8))=bI l:=by
 rw [bI,lK h c,Bool.and_true]
def Ml (h:al id 64 0 (l.take k)=true):0<=bC id 0 (l.take k):=by
 by_cases o:k=0
 ·subst o; exact B5 _
 by_cases q:k - 1<l.length
 ·have m:=p6 q;rw [jY az m];have e:l.take k=l.take (k - 1)++[l[k - 1]]:=by
   have:=aj m;rwa [show k - 1+1=k by omega] at this
  rw [e,gY,pe,aO,pe,vo] at h;have g:∀ (p:List Int) (a:Int),0<=a->al id 64 a p=true->0<=bC id a p:=by
   intro p;induction p with
   | nil=>intro a c _; exact c
   | cons y p j=>
    intro a c d;rw [al,pe,aO,pe,vo] at d;exact j (id y) az d.2
  have:=g _ _ (B5 0) h.1;omega
 have g:∀ (p:List Int) (a:Int),0<=a->al id 64 a p=true->0<=bC id a p:=by
  intro p;induction p with
  | nil=>intro a c _; exact c
  | cons y p j=>
   intro a c d;rw [al,pe,aO,pe,vo] at d;exact j (id y) az d.2
 exact g _ _ (B5 0) h
theorem nG (h:al id 64 0 (l.take k)=true) (c:l.length<=k) (d:1<=l.length/\l.length<=8):true=bI l:=by
 rw [bI,lK h c,Bool.and_true]; symm; rw [pe,vo,vo]; omega
theorem sX (c:¬ (1<=l.length/\l.length<=8)):false=bI l:=by
 symm;rw [bI,Bool.and_eq_false_iff]; left;rw [Bool.and_eq_false_iff,O1,O1]; omega
def bu (x:eb):Bool:=(aO x.seq 0 1048576 && aO x.last.code 0 99) && aO x.last.n 0 1048576
def bt (x:l8):Bool:=aO x.a6 1 8
def ue {p:α->Bool} {l:List α} {x:α} (h:(l.take k).all p=true) (c:l[k]? = some x) (d:p x=true):(l.take (k+1)).all p=true:=by
 rw [aj c,J7,h]; simp [d]
def Vm {p:α->Bool} {l:List α} {x:α} (c:l[k]? = some x) (d:p x=false):l.all p=false:=by
 rw [List.all_eq_false]; exact ⟨x,A9 c,by simp [d]⟩
def Pw {p:α->Bool} {l:List α} (h:(l.take k).all p=true) (c:l.length<=k):l.all p=true:=by
 rwa [r6 c] at h
def bA (n:Nat):Nat:=if h:n<128 then 1 else bA (n / 128)+1
termination_by n
decreasing_by omega
def nX (h:¬ n<128):bA n=bA (n / 128)+1:=by rw [bA,dif_neg h]
def kJ (h:n<128):bA n=1:=by rw [bA,dif_pos h]
def j_ (n:Nat):1<=bA n:=by rw [bA]; split <;> omega
theorem Ce:∀ (k n:Nat),n<128 ^ (k+1)->bA n<=k+1
 | 0,n,h=>by rw [kJ (by simpa using h)]; omega
 | k+1,n,h=>by
  by_cases c:n<128
  ·rw [kJ c]; omega
  rw [nX c];have:=Ce k (n / 128) (by rw [Nat.div_lt_iff_lt_mul az,<- Nat.pow_succ]; exact h);omega
def uP (h:n<18446744073709551616):bA n<=10:=Ce 9 n (w9 h am)
def nr (n i:Nat):UInt8:=ofNat (n / 128 ^ i) ||| 128
def gy (n k:Nat):List UInt8:=(range k).map (nr n)++replicate (bA n - k) 0
def bF (n:Nat):List UInt8:=(gy n (bA n)).set (bA n - 1) (nr n (bA n - 1) &&& 127)
def qM (h:k<=bA n):(gy n k).length=bA n:=by simp [gy]; omega
def EV (h:k<bA n):(gy n k).set k (nr n k)=gy n (k+1):=by
 unfold gy;rw [List.set_append_right _ _ aa,I7,I8,I4];congr 1;obtain ⟨j,c⟩:∃ j,bA n - k=j+1:=⟨bA n - k - 1,az⟩;rw [c,show bA n - (k+1)=j by omega];simp [List.replicate_succ]
def Gw {x:UInt8} (h:(gy n (bA n))[bA n - 1]? = some x):x=nr n (bA n - 1):=by
 have c:=j_ n;unfold gy at h;rw [C9 (by simp; omega)] at h;simp [List.getElem?_range (show bA n - 1<bA n by omega)] at h;exact h.symm
def div_pow:n / 128 ^ k / 2 ^ 7=n / 128 ^ (k+1):=by show n / 128 ^ k / 128=_; rw [Nat.div_div_eq_div_mul,Nat.pow_succ]
def NJ (n:Nat):(bF n).length=bA n:=by rw [bF,B8,qM (sh _)]
theorem cO (h:n<18446744073709551616):(bF n).length<=10:=by rw [NJ]; exact uP h
def fk (l:List Int):List UInt8:=l.flatMap fun x=>bF x.toNat
def wZ (c:l[k]? = some x):fk (l.take k)++bF x.toNat=fk (l.take (k+1)):=by
 rw [aj c]; simp [fk]
def UR (h:∀ x ∈ l,x<=64):(fk l).length<=10*l.length:=by
 induction l with
 | nil=>simp [fk]
 | cons a l c=>
  have e:=c fun x d=>h x (w8 _ d);have g:=cO (n:=a.toNat) (by have:=h a aa; omega);simp [fk] at *;omega
theorem n_ (h:bI l=true):∀ x ∈ l,0<x/\x<=64:=by
 rw [bI,pe] at h;have:∀ (l:List Int) (a:Int),0<=a->al id 64 a l=true->∀ x ∈ l,0<x/\x<=64:=by
  intro l;induction l with
  | nil=>intro a _ _ x hx; cases hx
  | cons y l d=>
   intro a e c x hx;rw [al,pe,aO,pe,vo,vo] at c;have g:a+1<=y:=c.1.1;have j:y<=64:=c.1.2;rcases u2.1 hx with rfl | hx
   ·omega
   grind
 exact this l 0 az h.2
def zl (h:bI l=true):1<=l.length/\l.length<=8:=by
 rw [bI,pe,pe,vo,vo] at h;omega
def bK (l:List Int):List UInt8:=if bI l then fk l else []
def cu (l:List Int):Int:=if bI l then 0 else 1
def Cl (c:bI l=true) (d:l.length<=k):fk (l.take k)=bK l:=by rw [r6 d,bK,eg c]
def xK (c:bI l=false):[]=bK l:=by rw [bK,c]; rfl
def lR (c:bI l=true):0=cu l:=by rw [cu,c]; rfl
theorem kY (c:bI l=false):1=cu l:=by rw [cu,c]; rfl
def dF (v t:Int) (x:hX):Bool:=((decide (cu x.b9=0) && aO x.set 1 8) && (!x.held || decide (2<=v))) && decide (((x.tag.b.length:Nat):Int)<=t)
def nH (v:Int):Int:=if v<3 then 0 else 16
def fR (s:b7) (v:Int):Bool:=!(decide (16<((s.b6.length:Nat):Int)) || !(al hX.id (s.next - 1) 0 s.b6)) && s.b6.all (dF v (nH v))
def fO (s:b7) (v:Int):Bool:=((aO s.a8 1 3 && aO s.next 1 1048576) && aO s.dm 0 8) && aO s.ea 0 (if v<3 then 0 else 64)
def oy (s:b7):Bool:=al eb.a6 8 0 s.b8 && s.b8.all bu
def my (s:b7):Bool:=al l8.set 8 0 s.c6 && s.c6.all bt
def bJ (s:b7) (v:Int):Int:=if !(aO v 1 3) then 1 else if (((!fO s v || !oy s) || !my s) || !fR s v) then 6 else 0
def aof {s:b7} {v:Int} (h:(!(aO v 1 3))=true):1=bJ s v:=by rw [bJ,eg h]
def gX (next v:Int) (x:hX):Bool:=((((bI x.b9 && aO x.id 1 (IntKind.i64.wrap (next - 1))) && aO x.set 1 8) && (!x.held || decide (2<=v))) && decide (((x.tag.b.length:Nat):Int)<=16)) && (decide (x.tag=⟨[]⟩) || decide (3<=v))
def br {α:Type} (p:α->Bool) (c:α->Int) (most:Int) (l:List α):Bool:=al c most 0 l && l.all p
def oF (s:b7) (v:Int):Bool:=((((((decide ((1:Int)<=s.a8)) && (decide (s.a8<=(3:Int)))) && ((decide ((1:Int)<=s.next)) && (decide (s.next<=(1048576:Int))))) && ((decide ((0:Int)<=s.dm)) && (decide (s.dm<=(8:Int))))) && ((decide ((0:Int)<=s.ea)) && (decide (s.ea<=(64:Int))))) && (decide (s.ea=(0:Int)) || decide ((3:Int)<=v))) && decide (((s.b6.length:Nat):Int)<=(16:Int))
theorem pV {p:α->Bool} {c:α->Int} {l:List α} {x:α} (j:l[k]? = some x):br p c most (l.take (k+1))=(br p c most (l.take k) && (aO (c x) 1 most && p x) && (decide (((k:Nat):Int)=(0:Int)) || decide (bC c 0 (l.take k)<c x))):=by
 unfold br;rw [aj j,gY,J7];have e:aO (c x) (bC c 0 (l.take k)+1) most=true↔(bC c 0 (l.take k)<c x/\c x<=most):=by
  unfold aO; rw [pe,vo,vo]; omega
 have J:aO (c x) 1 most=true↔(1<=c x/\c x<=most):=by
  unfold aO; rw [pe,vo,vo]
 have o:∀ (q:List α) (a:Int),0<=a->al c most a q=true->q≠[]->1<=bC c a q:=by
  intro q;induction q with
  | nil=>intro a _ _ h; exact absurd rfl h
  | cons y q r=>
   intro a K m _;rw [al,pe,aO,pe,vo] at m;cases q with
   | nil=>show 1<=c y; omega
   | cons z q=>exact r (c y) az m.2 aa
 cases s:al c most 0 (l.take k) with
 | false=>simp
 | true=>
  by_cases u:k=0
  ·subst u;have v:bC c 0 (l.take 0)=0:=rfl;have C:aO (c x) (bC c 0 (l.take 0)+1) most=aO (c x) 1 most:=by rw [v]; rfl
   rw [C]; simp
  have d:l.take k≠[]:=by
   intro h;have D:(l.take k).length=0:=by rw [h]; rfl
   have L:=nB j;rw [s9] at D;omega
  have N:=o _ _ (B5 0) s d;have F:aO (c x) (bC c 0 (l.take k)+1) most=(aO (c x) 1 most && decide (bC c 0 (l.take k)<c x)):=by grind
  have I:decide (((k:Nat):Int)=(0:Int))=false:=D1 az;rw [F,I];cases aO (c x) 1 most <;> cases decide (bC c 0 (l.take k)<c x) <;> cases (l.take k).all p <;> cases g:p x <;> simp [g]
variable {B:Bool}
def ME {l:List eb} {x:eb} (c:l[k]? = some x):(B && br bu eb.a6 8 (l.take (k+1)))=(((((((B && br bu eb.a6 8 (l.take k)) && ((decide ((1:Int)<=x.a6)) && (decide (x.a6<=(8:Int))))) && ((decide ((0:Int)<=x.seq)) && (decide (x.seq<=(1048576:Int))))) && ((decide ((0:Int)<=x.last.code)) && (decide (x.last.code<=(99:Int))))) && ((decide ((0:Int)<=x.last.n)) && (decide (x.last.n<=(1048576:Int)))))) && (decide (((k:Nat):Int)=(0:Int)) || decide (bC eb.a6 0 (l.take k)<x.a6))):=by
 rw [pV c];show (B && (_ && (((decide ((1:Int)<=x.a6)) && (decide (x.a6<=(8:Int)))) && ((((decide ((0:Int)<=x.seq)) && (decide (x.seq<=(1048576:Int)))) && ((decide ((0:Int)<=x.last.code)) && (decide (x.last.code<=(99:Int))))) && ((decide ((0:Int)<=x.last.n)) && (decide (x.last.n<=(1048576:Int)))))) && _))=_;cases B <;> cases br bu eb.a6 8 (l.take k) <;> cases ((decide ((1:Int)<=x.a6)) && (decide (x.a6<=(8:Int)))) <;> cases ((decide ((0:Int)<=x.seq)) && (decide (x.seq<=(1048576:Int)))) <;> cases ((decide ((0:Int)<=x.last.code)) && (decide (x.last.code<=(99:Int)))) <;> cases ((decide ((0:Int)<=x.last.n)) && (decide (x.last.n<=(1048576:Int)))) <;> rfl
def LW {l:List l8} {x:l8} (c:l[k]? = some x):(B && br bt l8.set 8 (l.take (k+1)))=((((B && br bt l8.set 8 (l.take k)) && ((decide ((1:Int)<=x.set)) && (decide (x.set<=(8:Int))))) && ((decide ((1:Int)<=x.a6)) && (decide (x.a6<=(8:Int))))) && (decide (((k:Nat):Int)=(0:Int)) || decide (bC l8.set 0 (l.take k)<x.set))):=by
 rw [pV c];show (B && (_ && (((decide ((1:Int)<=x.set)) && (decide (x.set<=(8:Int)))) && ((decide ((1:Int)<=x.a6)) && (decide (x.a6<=(8:Int))))) && _))=_;cases B <;> cases br bt l8.set 8 (l.take k) <;> cases ((decide ((1:Int)<=x.set)) && (decide (x.set<=(8:Int)))) <;> cases ((decide ((1:Int)<=x.a6)) && (decide (x.a6<=(8:Int)))) <;> rfl
def eO (s:b7) (v:Int) (l:List hX):Bool:=br (gX s.next v) hX.id (IntKind.i64.wrap (s.next - 1)) l
variable {x:hX}
def mU {s:b7} {v:Int} {l:List hX} (c:l[k]? = some x):(B && eO s v (l.take (k+1)))=(((B && eO s v (l.take k)) && gX s.next v x) && (decide (((k:Nat):Int)=(0:Int)) || decide (bC hX.id 0 (l.take k)<x.id))):=by
 unfold eO;rw [pV c];have e:(aO x.id 1 (IntKind.i64.wrap (s.next - 1)) && gX s.next v x)=gX s.next v x:=by
  unfold gX;cases aO x.id 1 (IntKind.i64.wrap (s.next - 1)) <;> simp
 rw [e];cases B <;> cases br (gX s.next v) hX.id (IntKind.i64.wrap (s.next - 1)) (l.take k) <;> cases gX s.next v x <;> rfl
theorem nV {α:Type} {c:α->Int} {most:Int}:∀ {l:List α} {a:Int},0<=a->al c most a l=true->∀ x ∈ l,1<=c x/\c x<=most
 | [],_,_,_,x,hx=>by cases hx
 | y :: l,a,d,h,x,hx=>by
  rw [al,pe,aO,pe,vo,vo] at h;rcases u2.1 hx with rfl | hx
  ·omega
  exact nV az h.2 x hx
def ZQ {z:Int} (h:a7 z):IntKind.i64.wrap z=z:=a7.wrap h
def adR {v:Int}:(decide (((x.tag.b.length:Nat):Int)<=16) && (decide (x.tag=⟨[]⟩) || decide (3<=v)))=decide (((x.tag.b.length:Nat):Int)<=nH v):=by
 have e:x.tag=⟨[]⟩↔x.tag.b.length=0:=by
  constructor
  ·intro h; rw [h]; rfl
  intro h; cases c:x.tag with | mk b=>rw [c] at h; simp at h; rw [h]
 rw [E2,pe,F5,vo,vo,vo,vo,e,nH];split <;> omega
def FH (l:List Int):decide (cu l=0)=bI l:=by
 unfold cu; cases bI l <;> rfl
def BF {next v:Int} (c:IntKind.i64.wrap (next - 1)=next - 1) (h:1<=x.id/\x.id<=next - 1):gX next v x=dF v (nH v) x:=by
 have e:aO x.id 1 (next - 1)=true:=by rw [aO,pe,vo,vo]; exact h
 unfold gX dF;rw [c,e,FH,<- adR];cases bI x.b9 <;> cases aO x.set 1 8 <;> cases (!x.held || decide (2<=v)) <;> simp
def RL {q v:Int}:(((decide ((0:Int)<=q)) && (decide (q<=(64:Int)))) && (decide (q=(0:Int)) || decide ((3:Int)<=v)))=aO q 0 (if v<3 then 0 else 64):=by
 rw [E2,aO];simp;split <;> omega
variable {k3 k2:Nat}
theorem akx {s:b7} {v:Int} (j:s.b8.length<=k) (m:s.c6.length<=k2) (o:s.b6.length<=k3) :
  (((oF s v && br bu eb.a6 8 (s.b8.take k)) && br bt l8.set 8 (s.c6.take k2)) && eO s v (s.b6.take k3)) = !(((!fO s v || !oy s) || !my s) || !fR s v):=by
 rw [r6 j,r6 m,r6 o];have p:oF s v=(fO s v && decide (((s.b6.length:Nat):Int)<=(16:Int))):=by
  unfold oF fO;rw [<- RL];show ((((_ && aO s.next 1 1048576) && _) && _) && _ && _)=_;simp [aO,Bool.and_assoc]
 have q:br bu eb.a6 8 s.b8=oy s:=rfl;have r:br bt l8.set 8 s.c6=my s:=rfl;rw [p,q,r];cases d:fO s v with
 | false=>simp
 | true=>
  have u:1<=s.next/\s.next<=1048576:=by
   unfold fO at d;simp [aO] at d;exact d.1.1.2
  have e:IntKind.i64.wrap (s.next - 1)=s.next - 1:=ZQ ⟨az,az⟩
  have y:(decide (((s.b6.length:Nat):Int)<=(16:Int)) && eO s v s.b6)=fR s v:=by
   unfold eO br fR;rw [e];have z:decide (16<((s.b6.length:Nat):Int)) = !decide (((s.b6.length:Nat):Int)<=(16:Int)):=by grind
   rw [z];cases g:al hX.id (s.next - 1) 0 s.b6 with
   | false=>simp
   | true=>
    have:s.b6.all (gX s.next v)=s.b6.all (dF v (nH v)):=by
     rw [E2,J5,J5];constructor
     ·intro h x c; rw [<- BF e (nV (B5 0) g x c)]; exact h x c
     intro h x c; rw [BF e (nV (B5 0) g x c)]; exact h x c
    rw [this];cases decide (((s.b6.length:Nat):Int)<=(16:Int)) <;> simp
  rw [<- y];cases oy s <;> cases my s <;> cases decide (((s.b6.length:Nat):Int)<=(16:Int)) <;> cases eO s v s.b6 <;> rfl
def agG {s:b7} {v:Int} (c:(!(aO v 1 3))=false) (d:s.b8.length<=k) (e:s.c6.length<=k2) (g:s.b6.length<=k3)
  (h:(!(((oF s v && br bu eb.a6 8 (s.b8.take k)) && br bt l8.set 8 (s.c6.take k2)) && eO s v (s.b6.take k3)))=true):6=bJ s v:=by
 rw [akx d e g,Bool.not_not] at h;rw [bJ,c,dc am,eg h]
def ahy {s:b7} {v:Int} (c:(!(aO v 1 3))=false) (d:s.b8.length<=k) (e:s.c6.length<=k2) (g:s.b6.length<=k3)
  (h:(!(((oF s v && br bu eb.a6 8 (s.b8.take k)) && br bt l8.set 8 (s.c6.take k2)) && eO s v (s.b6.take k3)))=false):0=bJ s v:=by
 rw [akx d e g,Bool.not_not] at h;rw [bJ,c,dc am,h,dc am]
def bk (k:Int):Int:=qW 0 k [((1:Int),(1:Int)),((2:Int),(1:Int)),((3:Int),(1:Int)),((4:Int),(1:Int)),((5:Int),(1:Int)),((6:Int),(1:Int)),((7:Int),(1:Int)),((8:Int),(1:Int)),((9:Int),(2:Int)),((10:Int),(2:Int)),((11:Int),(3:Int)),((12:Int),(3:Int))]
variable {k:Int}
def Yp (h:1<=k/\k<=12):bk k=if k<=8 then 1 else if k<=10 then 2 else 3:=by
 have:k=1\/k=2\/k=3\/k=4\/k=5\/k=6\/k=7\/k=8\/k=9\/k=10\/k=11\/k=12:=by omega
 rcases this with rfl | rfl | rfl | rfl | rfl | rfl | rfl | rfl | rfl | rfl | rfl | rfl <;> rfl
def Kq (h:¬ (1<=k/\k<=12)):bk k=0:=by
 unfold bk;simp [qW];repeat rw [dc az]
variable {n b:Int}
def vU (h:aO n a b=true):a<=n/\n<=b:=by unfold aO at h; rw [pe,vo,vo] at h; exact h
def inF (h:aO n a b=false):¬ (a<=n/\n<=b):=fun c=>by
 have:aO n a b=true:=by unfold aO; rw [pe,vo,vo]; exact c
 rw [h] at this; cases this
def jD (x:Int) (l:List Int):Int:=match l.findIdx? (fun y=>decide (x=y)) with | some i=>(i:Int) | none=>-1
variable {x:Int}
def OX {y:Int} {k:Nat} (h:∀ j y,j<k->l[j]? = some y->¬ x=y) (d:l[k]? = some y) (c:x=y):(k:Int)=jD x l:=by
 have:l.findIdx? (fun y=>decide (x=y))=some k:=by
  obtain ⟨e,rfl⟩:=r3.1 d;rw [Q3];exact ⟨e,F0 c,fun j g=>by simpa using h j _ g (p6 az)⟩
 simp [jD,this]
theorem SS (x:Int) (l:List Int):decide (0<=jD x l)=l.contains x:=by
 unfold jD;cases h:l.findIdx? (fun y=>decide (x=y)) with
 | none=>
  rw [List.findIdx?_eq_none_iff] at h;have:l.contains x=false:=by grind
  rw [this]; rfl
 | some i=>
  rw [Q3] at h;obtain ⟨c,d,_⟩:=h;have:l.contains x=true:=by grind
  rw [this]; simp
def kH (n most:Int) (c:Bool):Bool:=if c then (decide (1<=n) && decide (n<=most)) else decide (n=0)
def jO (k:Int):Int × Int:=qW (0,0) k [((6:Int),((0:Int),(8:Int))),((8:Int),((2:Int),(3:Int))),((12:Int),((0:Int),(64:Int)))]
def EC (c:b5):Bool:=if c.kind=3 then bI c.b9 else decide (((c.b9.length:Nat):Int)=0)
def U8 (c:b5):Bool:=if c.kind=11 then decide (((c.text.b.length:Nat):Int)<=16) else decide (c.text=⟨[]⟩)
def fL (c:b5):Bool:=((((((((decide ((jO c.kind).1<=c.n) && decide (c.n<=(jO c.kind).2)) && EC c) && U8 c) && kH c.a6 8 (!([(8:Int)].contains c.kind))) && kH c.seq 1048576 (!([(1:Int),8].contains c.kind))) && kH c.set 8 ([(2:Int),3,4].contains c.kind)) && kH c.id 1048576 ([(5:Int),7,9,10,11].contains c.kind)))
def aP (c:b5) (v:Int):Int:=if !(aO v 1 3) || decide (bk c.kind=0) then 1 else if v<bk c.kind then 10 else if !fL c then 1 else 0
def P5 (n:Int) (c:Bool) (lo d:Int):Bool:=if c then (decide (lo<=n) && decide (n<=d)) else decide (n=0)
def oi (k:Int):Int × Int:=(if k=8 then 2 else 0,if k=8 then 3 else if k=12 then 64 else 8)
def Js {s:o3}:decide (((s.b.length:Nat):Int)=0)=decide (s=⟨[]⟩):=by
 cases s with | mk b=>
 cases b with
 | nil=>simp
 | cons a t=>rw [E2]; simp; omega
def Bw:(!decide (k=8))=(!([(8:Int)].contains k)):=by
 rw [E2]; simp
def Ua:(!decide (k=8) && !decide (k=1))=(!([(1:Int),8].contains k)):=by
 rw [E2]; simp; omega
def UO:(decide (2<=k) && decide (k<=4))=([(2:Int),3,4].contains k):=by
 rw [E2]; simp; omega
def Ze:((decide (k=5) || decide (k=7)) || (decide (9<=k) && decide (k<=11)))=([(5:Int),7,9,10,11].contains k):=by
 rw [E2]; simp; omega
def ac5:P5 n ((decide (k=6) || decide (k=8)) || decide (k=12)) (oi k).1 (oi k).2=(decide ((jO k).1<=n) && decide (n<=(jO k).2)):=by
 by_cases d:k=6
 ·subst d; rfl
 by_cases g:k=8
 ·subst g; rfl
 by_cases c:k=12
 ·subst c; rfl
 have e:jO k=(0,0):=by simp [jO,qW,d,g,c]
 rw [e,E2];simp [P5,d,g,c];omega
theorem afh {c:b5}:(decide (((c.text.b.length:Nat):Int)=0) || (decide (c.kind=11) && decide (((c.text.b.length:Nat):Int)<=16)))=U8 c:=by
 unfold U8;by_cases h:c.kind=11
 ·grind
 rw [dc h,Js]; simp [h]
def PF {c:b5} :
  ((((((P5 c.a6 (!decide (c.kind=8)) 1 8 && P5 c.seq (!decide (c.kind=8) && !decide (c.kind=1)) 1 1048576) && P5 c.set (decide (2<=c.kind) && decide (c.kind<=4)) 1 8) &&
   P5 c.id ((decide (c.kind=5) || decide (c.kind=7)) || (decide (9<=c.kind) && decide (c.kind<=11))) 1 1048576) &&
   P5 c.n ((decide (c.kind=6) || decide (c.kind=8)) || decide (c.kind=12)) (oi c.kind).1 (oi c.kind).2) && EC c) &&
   (decide (((c.text.b.length:Nat):Int)=0) || (decide (c.kind=11) && decide (((c.text.b.length:Nat):Int)<=16))))=fL c:=by
 rw [Ua,Bw,UO,Ze,ac5,afh];unfold fL;simp;ac_rfl
def aiK {c:b5} {v:Int} (h:(!(aO v 1 3) || decide (bk c.kind=0))=true):1=aP c v:=by rw [aP,eg h]
def adj {c:b5} {v:Int} (h:(!(aO v 1 3) || decide (bk c.kind=0))=false) (d:v<bk c.kind):10=aP c v:=by rw [aP,h,dc am,eg d]
theorem ac0 {c:b5} {v:Int} (h:(!(aO v 1 3) || decide (bk c.kind=0))=false) (d:¬ v<bk c.kind) (e:(!fL c)=true):1=aP c v:=by rw [aP,h,dc am,dc d,eg e]
theorem agq {c:b5} {v:Int} (h:(!(aO v 1 3) || decide (bk c.kind=0))=false) (d:¬ v<bk c.kind) (e:(!fL c)=false):0=aP c v:=by rw [aP,h,dc am,dc d,e,dc am]
def rM (c:b5):Bool:=(((aO c.a6 0 1048576 && aO c.seq 0 1048576) && aO c.set 0 1048576) && aO c.id 0 1048576) && aO c.n 0 1048576
def eK (c:b5) (v:Int):Bool:=(((aO c.kind 1 99 && (decide (bk c.kind=0) || decide (v<bk c.kind))) && rM c) && (decide (((c.b9.length:Nat):Int)=0) || bI c.b9)) && (decide (((c.text.b.length:Nat):Int)=0) || (decide (3<=v) && decide (((c.text.b.length:Nat):Int)<=16)))
def Tk {c:b5} {v:Int} (h:((c.kind<1\/99<c.kind)\/(¬ bk c.kind=0/\bk c.kind<=v))):false=eK c v:=by
 have:(aO c.kind 1 99 && (decide (bk c.kind=0) || decide (v<bk c.kind)))=false:=by
  rw [<- Bool.not_eq_true]; simp [aO]; omega
 unfold eK; rw [this]; rfl
def YK {c:b5} {v:Int} (h:(c.a6<0\/1048576<c.a6)\/(c.seq<0\/1048576<c.seq)\/(c.set<0\/1048576<c.set)\/(c.id<0\/1048576<c.id)\/(c.n<0\/1048576<c.n)):false=eK c v:=by
 have:rM c=false:=by
  rw [<- Bool.not_eq_true]; unfold rM; simp [aO]; omega
 unfold eK; rw [this,Bool.and_false]; rfl
theorem Wj {c:b5} {v:Int} (h:0<((c.b9.length:Nat):Int)/\bI c.b9=false):false=eK c v:=by
 have:(decide (((c.b9.length:Nat):Int)=0) || bI c.b9)=false:=by grind
 unfold eK; rw [this,Bool.and_false]; rfl
theorem JR {c:b5} {v:Int} (h:¬ ((c.kind<1\/99<c.kind)\/(¬ bk c.kind=0/\bk c.kind<=v))) (j:¬ ((c.a6<0\/1048576<c.a6)\/(c.seq<0\/1048576<c.seq)\/(c.set<0\/1048576<c.set)\/(c.id<0\/1048576<c.id)\/(c.n<0\/1048576<c.n)))
  (m:(¬ (0<((c.b9.length:Nat):Int)))\/bI c.b9=true):eK c v=(decide (((c.text.b.length:Nat):Int)=0) || (decide (3<=v) && decide (((c.text.b.length:Nat):Int)<=16))):=by
 have d:(aO c.kind 1 99 && (decide (bk c.kind=0) || decide (v<bk c.kind)))=true:=by
  simp [aO]; omega
 have e:rM c=true:=by unfold rM; simp [aO]; omega
 have g:(decide (((c.b9.length:Nat):Int)=0) || bI c.b9)=true:=by grind
 unfold eK; rw [d,e,g]; rfl
def ado {c:b5} {v:Int} (d:¬ ((c.kind<1\/99<c.kind)\/(¬ bk c.kind=0/\bk c.kind<=v))) (e:¬ ((c.a6<0\/1048576<c.a6)\/(c.seq<0\/1048576<c.seq)\/(c.set<0\/1048576<c.set)\/(c.id<0\/1048576<c.id)\/(c.n<0\/1048576<c.n)))
  (g:(¬ (0<((c.b9.length:Nat):Int)))\/bI c.b9=true) (h:v<3):decide (c.text=⟨[]⟩)=eK c v:=by
 rw [JR d e g,Js,D1 (show ¬ (3:Int)<=v by omega)]; simp
def ac6 {c:b5} {v:Int} (d:¬ ((c.kind<1\/99<c.kind)\/(¬ bk c.kind=0/\bk c.kind<=v))) (e:¬ ((c.a6<0\/1048576<c.a6)\/(c.seq<0\/1048576<c.seq)\/(c.set<0\/1048576<c.set)\/(c.id<0\/1048576<c.id)\/(c.n<0\/1048576<c.n)))
  (g:(¬ (0<((c.b9.length:Nat):Int)))\/bI c.b9=true) (h:¬ v<3):decide (((c.text.b.length:Nat):Int)<=16)=eK c v:=by
 rw [JR d e g,E2]; simp only [F5,pe,vo]; omega
def dh (k:Int):Bool:=decide (1<=k) && decide (k<=3)
variable {k:Nat}
def DN {a b:List α} {d:α} (h:a.take k=b.take k) (c:k<a.length) (g:k<b.length) (e:a.getD k d=b.getD k d):a.take (k+1)=b.take (k+1):=by
 have j:a[k]? = some (a.getD k d):=by rw [ts,p6 c]; rfl
 have m:b[k]? = some (b.getD k d):=by rw [ts,p6 g]; rfl
 rw [aj j,aj m,h,e]
variable {n:Nat}
def SB {s:o3} (h:(s.b.length:Int)<=n):s=⟨s.b.take n⟩:=by
 cases s; rw [r6 (by simpa using h)]
theorem aff (c:l[k]? = some x):x=bC id 0 (l.take (k+1)):=fQ (key:=id) c
theorem NQ (h:al id 64 0 (l.take k)=true) (c:l[k]? = some x) (d:bC id 0 (l.take k)<x) (e:x<=64):al id 64 0 (l.take (k+1))=true:=lP (key:=id) h c (by dsimp only [id]; omega) (by dsimp only [id]; omega)
def alX (l:List Int):List (Nat × LI):=[(5,{ σ:=Nat,F:=fun k=>([(3,one (.int (bC id 0 (l.take k)))),(14,one (.fz .int (l))),(15,one (.int (l).length)),(16,one (.int k))],[]),J:=fun k=>k<=l.length/\al id 64 0 (l.take k)=true/\1<=l.length/\l.length<=8,μ:=fun k=>(l).length - k })]
def ah8 (a:List Int) (b:List Int):List (Nat × LI):=[(4,{ σ:=Nat,F:=fun k=>([(0,one (.fz .int (a))),(1,one (.fz .int (b))),(5,one (.int k))],[]),J:=fun k=>k<=a.length/\a.length=b.length/\a.take k=b.take k,μ:=fun k=>a.length - k })]
def Hs:Kn:=aH (ae (kC cI) ao) au fun (k,_) _=>⟨[],[.c (.bool (.atom ((dh k))))],none,false⟩
theorem ZB:CK 90 Hs:=ag fun (k,_) _ _=>by
 refine aq ft [] func90 (?_:a7 k->(decide (1<=k) && decide (k<=3))=dh k);grind [dh]
def aaO:Kn:=aH (ae (kC (cL .int)) ao) au fun (l,_) _=>⟨[],[.c (.bool (.atom ((bI l))))],none,false⟩
theorem akm:CK 156 aaO:=ag fun (l,_) _ _=>by
 refine aq ft (alX l) func156 (?_:(fun (e:Int)=>(fun (d:Int)=>(fun (c:Nat)=>(fun (j:Prop)=>l.length*8<=140737488355328->(e<1\/8<e->false=bI l)/\(1<=e/\e<=8->∃ (h:Nat),(d=bC id d (take h l)/\l=l/\e=(c:Int)/\d=(h:Int))/\(h<=c/\al id 64 d (take h l)=true/\j)/\∀ (s:Nat),s<=c/\al id 64 d (take s l)=true/\j->((s:Int)<(c:Int)->d<=(s:Int)/\(s:Int)<e/\∀ (x:Int),l[s]? = some x->a7 x->(x<=bC id d (take s l)\/64<x->false=bI l)/\(bC id d (take s l)<x/\x<=64->a7 ((s:Int)+1)/\∃ (g:Nat),(x=bC id d (take g l)/\l=l/\(c:Int)=(c:Int)/\(s:Int)+1=(g:Int))/\(g <= c/\al id 64 d (take g l)=true/\j)/\c - g < c - s))/\((c:Int)<=(s:Int)->true=bI l))) (1<=c/\c<=8)) l.length) 0) (l.length:Int));(repeat' (first | refine And.intro ?_ ?_ | intro))
 all_goals try (grind [sX,mV,nG,aff,NQ,al,bC])
 all_goals (refine ⟨0,?_⟩; (repeat' (first | refine And.intro ?_ ?_ | intro)))
 all_goals try (grind [sX,mV,nG,aff,NQ,al,bC])
 all_goals (refine ⟨‹Nat› + 1,?_⟩; (repeat' (intro)))
 all_goals grind [sX,mV,nG,aff,NQ,al,bC]
def Od:Kn:=aH (ae (kC (cL .int)) (ae (kC (cL .int)) ao)) au fun (a,b,_) _=>⟨[],[.c (.bool (.atom ((decide (a=b)))))],none,false⟩
theorem ae1:CK 192 Od:=ag fun (a,b,_) _ _=>by
 refine aq ft (ah8 a b) func192 (?_:(fun (c:Nat)=>(fun (d:Int)=>a.length*8<=140737488355328->b.length*8<=140737488355328->(¬d=(b.length:Int)->false=decide (a=b))/\(d=(b.length:Int)->∃ (g:Nat),(a=a/\b=b/\0=(g:Int))/\(g<=c/\c=b.length/\take g a=take g b)/\∀ (s:Nat),(fun (h:Prop)=>s<=c/\c=b.length/\take s a=take s b->((s:Int)<d->0<=(s:Int)/\(s:Int)<d/\0<=(s:Int)/\(s:Int)<(b.length:Int)/\(a7 (a.getD s (c5 Sh.int))->a7 (b.getD s (c5 Sh.int))->(¬h->false=decide (a=b))/\(h->a7 ((s:Int)+1)/\∃ (e:Nat),(a=a/\b=b/\(s:Int)+1=(e:Int))/\(e <= c/\c=b.length/\take e a=take e b)/\c - e < c - s)))/\(d<=(s:Int)->true=decide (a=b))) (a.getD s (c5 Sh.int)=b.getD s (c5 Sh.int)))) (a.length:Int)) a.length);(repeat' (first | refine And.intro ?_ ?_ | intro))
 all_goals try (grind [aj])
 all_goals (refine ⟨0,?_⟩; (repeat' (first | refine And.intro ?_ ?_ | intro)))
 all_goals try (grind [aj])
 all_goals (refine ⟨‹Nat› + 1,?_⟩; (repeat' (refine And.intro ?_ ?_)))
 all_goals first | exact DN (by grind) az az ab | grind
def TZ:Kn:=aH (ae (kC cI) ao) au fun (x,_) _=>⟨[],[.c (.int ((bk x)))],none,false⟩
def af_:CK 89 TZ:=ag fun (x,_) _ _=>by
 refine aq ft [] func89 (?_:(fun c=>a7 x->(if x=12 then some 3 else if x=11 then some 3 else if x=10 then some 2 else if x=9 then some 2 else if x=8 then c else if x=7 then c else if x=6 then c else if x=5 then c else if x=4 then c else if x=3 then c else if x=2 then c else if x=1 then c else none).getD (c5 Sh.int)=bk x) (some (1:Int)));intro _;simp only [bk,qW];by_cases h:1<=x/\x<=12
 ·have d:x=1\/x=2\/x=3\/x=4\/x=5\/x=6\/x=7\/x=8\/x=9\/x=10\/x=11\/x=12:=by omega
  rcases d with rfl | rfl | rfl | rfl | rfl | rfl | rfl | rfl | rfl | rfl | rfl | rfl <;> rfl
 have m:¬ x=1:=by omega
 have d:¬ x=2:=by omega
 have o:¬ x=3:=by omega
 have p:¬ x=4:=by omega
 have q:¬ x=5:=by omega
 have r:¬ x=6:=by omega
 have s:¬ x=7:=by omega
 have u:¬ x=8:=by omega
 have v:¬ x=9:=by omega
 have e:¬ x=10:=by omega
 have g:¬ x=11:=by omega
 have j:¬ x=12:=by omega
 simp [m,d,o,p,q,r,s,u,v,e,g,j,c5]
def aa_:Kn:=aH (ae (kT (.nm .span)) (ae (kC cI) ao)) au fun (s,k,_) _=>⟨[],[.c (.bool (.atom ((decide (s.lo<=k) && decide (k<=s.hi)))))],none,false⟩
theorem ahi:CK 155 aa_:=ag fun (s,k,_) _ _=>by
 refine aq ft [] func155 (?_:(fun c=>a7 s.lo->a7 s.hi->a7 k->c=c) (decide (s.lo<=k) && decide (k<=s.hi)));grind
def CC:Kn:=aH (ae (kC cI) (ae (kC cI) (ae (kC cI) ao))) au fun (n,a,b,_) _=>⟨[],[.c (.bool (.atom ((aO n a b))))],none,false⟩
theorem Pq:CK 290 CC:=ag fun (n,a,b,_) _ _=>by
 refine aq ft [] func290 (?_:a7 n->a7 a->a7 b->(decide (a<=n) && decide (n<=b))=aO n a b);grind [aO]
def abV:Kn:=aH (ae (kC cI) (ae (kC cI) (ae (kC cI) ao))) au fun (n,a,b,_) _=>⟨[],[.c (.bool (.atom ((aO n a b))))],none,false⟩
theorem aj7:CK 239 abV:=ag fun (n,a,b,_) _ _=>by
 refine aq ft [] func239 (?_:a7 n->a7 a->a7 b->(decide (a<=n) && decide (n<=b))=aO n a b);grind [aO]
def abA:Kn:=aH (ae (kC cI) (ae (kC cI) (ae (kC cI) ao))) au fun (n,a,b,_) _=>⟨[],[.c (.bool (.atom ((aO n a b))))],none,false⟩
theorem akT:CK 177 abA:=ag fun (n,a,b,_) _ _=>by
 refine aq ft [] func177 (?_:a7 n->a7 a->a7 b->(decide (a<=n) && decide (n<=b))=aO n a b);grind [aO]
def uy:Kn:=aH (ae (kT (.nm .b8)) ao) au fun (x,_) _=>⟨[],[.c (.int ((x.a6)))],none,false⟩
theorem F_:CK 278 uy:=ag fun (x,_) _ _=>by
 refine aq ft [] func278 (?_:dM x (x.a6=x.a6));grind
def Jo:Kn:=aH (ae (kT (.nm .opn)) ao) au fun (x,_) _=>⟨[],[.c (.int ((x.set)))],none,false⟩
theorem XQ:CK 295 Jo:=ag fun (x,_) _ _=>by
 refine aq ft [] func295 (?_:a7 x.set->a7 x.a6->x.set=x.set);grind
def Ry:Kn:=aH (ae (kT (.nm .snap)) ao) au fun (x,_) _=>⟨[],[.c (.int ((x.id)))],none,false⟩
theorem aer:CK 335 Ry:=ag fun (x,_) _ _=>by
 refine aq ft [] func335 (?_:bY x (x.id=x.id));grind
def xI:Kn:=aH (ae (kC cI) ao) au fun (e,_) _=>⟨[],[.agg (cellsOf (.nm .nd) (⟨e,0⟩))],none,false⟩
theorem Ly:CK 261 xI:=ag fun (e,_) _ _=>by
 refine aq ft [] func261 (?_:a7 e->e=e/\(0:Int)=0);grind
def ahL:ck:=(aI 261 xI (aI 335 Ry (aI 295 Jo (aI 278 uy (aI 177 abA (aI 239 abV (aI 290 CC (aI 155 aa_ (aI 89 TZ (aI 192 Od (aI 156 aaO (aI 90 Hs ahP))))))))))))
def sf:ay prog (av l6) ahL:=(ah Ly (ah aer (ah XQ (ah F_ (ah akT (ah aj7 (ah Pq (ah ahi (ah af_ (ah ae1 (ah akm (ah ZB ft))))))))))))
theorem cY {n:Int} (c:-9223372036854775808<=n) (d:n<=9223372036854775807):a7 n:=⟨c,d⟩
def ai {α:Type} (d:α->Int) (c:Int) (l:List α):Int:=match l.findIdx? (fun x=>decide (d x=c)) with
 | some i=>(i:Int)
 | none=>-1
section
variable {α:Type} {key:α->Int} {want:Int} {l:List α} {k:Nat} {x:α}
theorem nL:ai key want l = -1↔∀ x ∈ l,¬ key x=want:=by
 unfold ai;grind
theorem iI (h:ai key want (l.take k) = -1) (c:l[k]? = some x) (d:¬ key x=want):ai key want (l.take (k+1)) = -1:=by
 rw [nL] at h ⊢;rw [aj c];grind
def jP (h:ai key want (l.take k) = -1) (c:l.length<=k):-1=ai key want l:=by
 rw [r6 c] at h; exact h.symm
theorem gK (h:ai key want (l.take k) = -1) (c:l[k]? = some x) (d:key x=want):(k:Int)=ai key want l:=by
 have:l.findIdx? (fun x=>decide (key x=want))=some k:=by
  rw [nL] at h;obtain ⟨e,rfl⟩:=r3.1 c;rw [Q3];refine ⟨e,F0 d,fun j g=>?_⟩;have:=h l[j] (by rw [aqI]; exact ⟨j,az,rfl⟩);grind
 rw [ai,this]
end
def ER (l:List eb) (c:Int):List (Nat × LI):=[(2,{ σ:=Nat,F:=fun k=>([(1,one (.int (c))),(2,one (.fn 278 [] [])),(9,one (.fz (.nm .b8) (l))),(10,one (.int (l).length)),(11,one (.int k))],[]),J:=fun k=>k<=l.length/\ai eb.a6 c (l.take k) = -1,μ:=fun k=>(l).length - k })]
def Fw (l:List l8) (c:Int):List (Nat × LI):=[(2,{ σ:=Nat,F:=fun k=>([(1,one (.int (c))),(2,one (.fn 295 [] [])),(9,one (.fz (.nm .opn) (l))),(10,one (.int (l).length)),(11,one (.int k))],[]),J:=fun k=>k<=l.length/\ai l8.set c (l.take k) = -1,μ:=fun k=>(l).length - k })]
def Fi (l:List hX) (c:Int):List (Nat × LI):=[(2,{ σ:=Nat,F:=fun k=>([(1,one (.int (c))),(2,one (.fn 335 [] [])),(9,one (.fz (.nm .snap) (l))),(10,one (.int (l).length)),(11,one (.int k))],[]),J:=fun k=>k<=l.length/\ai hX.id c (l.take k) = -1,μ:=fun k=>(l).length - k })]
def re:Kn:=aH (ae (kC (cL (.nm .b8))) (ae (kC cI) (ae (kC (sQ 278 [] [])) ao))) au fun (l,d,_,_) _=>⟨[],[.c (.int ((ai eb.a6 d l)))],none,false⟩
theorem Cy:CK 277 re:=ag fun (l,c,_,_) _ _=>by
 refine aq sf (ER l c) func277 (?_:(fun (e:Int)=>(fun (d:Nat)=>l.length*32<=140737488355328->a7 c->∃ (h:Nat),(c=c/\l=l/\(l.length:Int)=(d:Int)/\0=(h:Int))/\(h<=d/\ai eb.a6 c (take h l) = -e)/\∀ (s:Nat),s<=d/\ai eb.a6 c (take s l) = -e->((s:Int)<(d:Int)->0<=(s:Int)/\(s:Int)<(l.length:Int)/\∀ (x:eb),l[s]? = some x->dM x (a7 x.a6->(x.a6=c->(s:Int)=ai eb.a6 c l)/\(¬x.a6=c->a7 ((s:Int)+e)/\∃ (g:Nat),(c=c/\l=l/\(d:Int)=(d:Int)/\(s:Int)+e=(g:Int))/\(g <= d/\ai eb.a6 c (take g l) = -e)/\d - g < d - s)))/\((d:Int)<=(s:Int) -> -e=ai eb.a6 c l)) l.length) 1);iterate 3 ((all_goals (repeat' with_reducible first|apply aT|refine aW ?_|intro)); (all_goals try (first | exact bR | exact (gK (key:=eb.a6) ab ab ab) | exact (jP (key:=eb.a6) ab az) | exact (iI (key:=eb.a6) ab ab ab))); all_goals try first | refine ⟨‹Nat› + 1,?_⟩ | refine ⟨0,?_⟩)
def qZ:Kn:=aH (ae (kC (cL (.nm .opn))) (ae (kC cI) (ae (kC (sQ 295 [] [])) ao))) au fun (l,d,_,_) _=>⟨[],[.c (.int ((ai l8.set d l)))],none,false⟩
theorem Ew:CK 357 qZ:=ag fun (l,c,_,_) _ _=>by
 refine aq sf (Fw l c) func357 (?_:(fun (e:Int)=>(fun (d:Nat)=>l.length*16<=140737488355328->a7 c->∃ (h:Nat),(c=c/\l=l/\(l.length:Int)=(d:Int)/\0=(h:Int))/\(h<=d/\ai l8.set c (take h l) = -e)/\∀ (s:Nat),s<=d/\ai l8.set c (take s l) = -e->((s:Int)<(d:Int)->0<=(s:Int)/\(s:Int)<(l.length:Int)/\∀ (x:l8),l[s]? = some x->a7 x.set->a7 x.a6->a7 x.set->(x.set=c->(s:Int)=ai l8.set c l)/\(¬x.set=c->a7 ((s:Int)+e)/\∃ (g:Nat),(c=c/\l=l/\(d:Int)=(d:Int)/\(s:Int)+e=(g:Int))/\(g <= d/\ai l8.set c (take g l) = -e)/\d - g < d - s))/\((d:Int)<=(s:Int) -> -e=ai l8.set c l)) l.length) 1);iterate 3 ((all_goals (repeat' with_reducible first|apply aT|refine aW ?_|intro)); (all_goals try (first | exact bR | exact (gK (key:=l8.set) ab ab ab) | exact (jP (key:=l8.set) ab az) | exact (iI (key:=l8.set) ab ab ab))); all_goals try first | refine ⟨‹Nat› + 1,?_⟩ | refine ⟨0,?_⟩)
def rq:Kn:=aH (ae (kC (cL (.nm .snap))) (ae (kC cI) (ae (kC (sQ 335 [] [])) ao))) au fun (l,d,_,_) _=>⟨[],[.c (.int ((ai hX.id d l)))],none,false⟩
theorem Ao:CK 339 rq:=ag fun (l,c,_,_) _ _=>by
 refine aq sf (Fi l c) func339 (?_:(fun (e:Int)=>(fun (d:Nat)=>l.length*64<=140737488355328->a7 c->∃ (h:Nat),(c=c/\l=l/\(l.length:Int)=(d:Int)/\0=(h:Int))/\(h<=d/\ai hX.id c (take h l) = -e)/\∀ (s:Nat),s<=d/\ai hX.id c (take s l) = -e->((s:Int)<(d:Int)->0<=(s:Int)/\(s:Int)<(l.length:Int)/\∀ (x:hX),l[s]? = some x->bY x (a7 x.id->(x.id=c->(s:Int)=ai hX.id c l)/\(¬x.id=c->a7 ((s:Int)+e)/\∃ (g:Nat),(c=c/\l=l/\(d:Int)=(d:Int)/\(s:Int)+e=(g:Int))/\(g <= d/\ai hX.id c (take g l) = -e)/\d - g < d - s)))/\((d:Int)<=(s:Int) -> -e=ai hX.id c l)) l.length) 1);iterate 3 ((all_goals (repeat' with_reducible first|apply aT|refine aW ?_|intro)); (all_goals try (first | exact bR | exact (gK (key:=hX.id) ab ab ab) | exact (jP (key:=hX.id) ab az) | exact (iI (key:=hX.id) ab ab ab))); all_goals try first | refine ⟨‹Nat› + 1,?_⟩ | refine ⟨0,?_⟩)
def akR:ck:=(aI 339 rq (aI 357 qZ (aI 277 re ahL)))
def ld:ay prog (av l6) akR:=(ah Ao (ah Ew (ah Cy sf)))
variable {r m:Nat}
def Yr (h:bA n+1=bA r+m) (c:128<=r):bA n+1=bA (r / 128)+(m+1):=by
 have:=nX (n:=r) az; omega
def Zx (h:bA n+1=bA r+m) (c:n<18446744073709551616):m<=10:=by
 have:=uP c; have:=j_ r; omega
def Vk (h:bA n+1=bA r+m) (c:r<128):m=bA n:=by
 have:=kJ c; omega
section
variable {α:Type} {key:α->Int} {most:Int} {l:List α} {k:Nat} {x:α}
def UB (h:al key most 0 (l.take k)=true) (d:l[k]? = some x) (c:aO (key x) (bC key 0 (l.take k)+1) most=true):al key most 0 (l.take (k+1))=true:=
 lP h d (by have:=vU c; omega) (vU c).2
def SI (c:l[k]? = some x) (d:aO (key x) (bC key 0 (l.take k)+1) most=false):false=al key most 0 l:=
 (rk c (by have:=inF d; omega)).symm
def UH (h:al key most 0 (l.take k)=true) (c:l.length<=k):true=al key most 0 l:=(lK h c).symm
def Ot (c:l[k]? = some x) (e:0<=bC key 0 (l.take k)) (d:aO (key x) (bC key 0 (l.take k)+1) most=true):0<=bC key 0 (l.take (k+1)):=by
 have:=vU d; rw [<- fQ c]; omega
def Rg (c:l[k]? = some x) (d:aO (key x) (bC key 0 (l.take k)+1) most=true) (e:most<=1048576):bC key 0 (l.take (k+1))<=1048576:=by
 have:=vU d; rw [<- fQ c]; omega
variable {p:α->Bool}
def Qm (c:l[k]? = some x) (d:p x=false):false=l.all p:=(Vm c d).symm
def Vr (h:(l.take k).all p=true) (c:l.length<=k):true=l.all p:=(Pw h c).symm
end
def ajI (n:y1):List (Nat × LI):=[(2,{ σ:=Nat × Nat,F:=fun s=>([(0,one (.u64 s.1)),(3,one (.int s.2))],[]),J:=fun s=>s.1<18446744073709551616/\bA n.n+1=bA s.1+s.2,μ:=fun s=>s.1 })]
def CG (l:List eb) (most:Int):List (Nat × LI):=[(3,{ σ:=Nat,F:=fun k=>([(1,one (.int (most))),(2,one (.fn 278 [] [])),(7,one (.int (bC eb.a6 0 (l.take k)))),(10,one (.fz (.nm .b8) (l))),(11,one (.int (l).length)),(12,one (.int k))],[]),J:=fun k=>k<=l.length/\al eb.a6 most 0 (l.take k)=true/\0<=bC eb.a6 0 (l.take k)/\bC eb.a6 0 (l.take k)<=1048576,μ:=fun k=>(l).length - k })]
def Cu (l:List l8) (most:Int):List (Nat × LI):=[(3,{ σ:=Nat,F:=fun k=>([(1,one (.int (most))),(2,one (.fn 295 [] [])),(7,one (.int (bC l8.set 0 (l.take k)))),(10,one (.fz (.nm .opn) (l))),(11,one (.int (l).length)),(12,one (.int k))],[]),J:=fun k=>k<=l.length/\al l8.set most 0 (l.take k)=true/\0<=bC l8.set 0 (l.take k)/\bC l8.set 0 (l.take k)<=1048576,μ:=fun k=>(l).length - k })]
def BO (l:List hX) (most:Int):List (Nat × LI):=[(3,{ σ:=Nat,F:=fun k=>([(1,one (.int (most))),(2,one (.fn 335 [] [])),(7,one (.int (bC hX.id 0 (l.take k)))),(10,one (.fz (.nm .snap) (l))),(11,one (.int (l).length)),(12,one (.int k))],[]),J:=fun k=>k<=l.length/\al hX.id most 0 (l.take k)=true/\0<=bC hX.id 0 (l.take k)/\bC hX.id 0 (l.take k)<=1048576,μ:=fun k=>(l).length - k })]
def Se:Kn:=aH (ae (kC cU) ao) au fun (n,_) _=>⟨[],[.c (.int (((bA n.n:Int))))],none,false⟩
def aem:CK 253 Se:=ag fun (n,_) _ _=>by
 refine aq ld (ajI n) func253 (?_:(fun (e:Nat)=>n.n<(18446744073709551616:Nat)->∃ (d:Nat × Nat),(n.n=d.fst/\(1:Int)=(d.snd:Int))/\(d.fst<(18446744073709551616:Nat)/\e=bA d.fst+d.snd)/\∀ (s:Nat × Nat),s.fst<(18446744073709551616:Nat)/\e=bA s.fst+s.snd->((↑(128:Nat):Int)<=(s.fst:Int)->(7:Nat)<(64:Nat)/\a7 ((s.snd:Int)+(1:Int))/\∃ (c:Nat × Nat),(s.fst / (2:Nat) ^ (7:Nat)=c.fst/\(s.snd:Int)+(1:Int)=(c.snd:Int))/\(c.fst<(18446744073709551616:Nat)/\e=bA c.fst+c.snd)/\c.fst<s.fst)/\((s.fst:Int)<(↑(128:Nat):Int)->(s.snd:Int)=(↑(bA n.n):Int))) (bA n.n+(1:Nat)));intro j;refine ⟨(n.n,1),⟨rfl,rfl⟩,⟨j,rfl⟩,fun s g=>⟨fun h=>?_,fun h=>?_⟩⟩
 ·have o:=Yr g.2 az;have p:=Zx g.2 j;exact ⟨az,by constructor <;> omega,(s.1 / 128,s.2+1),⟨rfl,aa⟩,⟨by show s.1 / 128<_; omega,o⟩,by show s.1 / 128<s.1; omega⟩
 exact hC Int.ofNat (Vk g.2 az)
def pz:Kn:=aH (ae (kC (cL (.nm .b8))) (ae (kC cI) (ae (kC (sQ 278 [] [])) ao))) au fun (l,most,_,_) _=>⟨[most<=1048576],[.c (.bool (.atom ((al eb.a6 most 0 l))))],none,false⟩
theorem y_:CK 291 pz:=ag fun (l,most,_,_) _ q=>by
 have u:=b_ q;refine aq ld (CG l most) func291 (?_:(fun (d:Nat)=>(fun (c:Int)=>l.length*32<=140737488355328->a7 most->∃ (g:Nat),(fun (h:Int)=>(most=most/\c=h/\l=l/\(l.length:Int)=(d:Int)/\c=(g:Int))/\(g<=d/\al eb.a6 most c (take g l)=true/\c<=h/\h<=1048576)/\∀ (s:Nat),(fun (j:Int)=>(fun (o:Int)=>s<=d/\al eb.a6 most c (take s l)=true/\c<=j/\j<=1048576->((s:Int)<(d:Int)->c<=(s:Int)/\(s:Int)<(l.length:Int)/\∀ (x:eb),l[s]? = some x->dM x (a7 x.a6->a7 o/\(aO x.a6 o most=false->false=al eb.a6 most c l)/\(aO x.a6 o most=true->a7 x.a6->a7 ((s:Int)+1)/\∃ (e:Nat),(fun (p:Int)=>(most=most/\x.a6=p/\l=l/\(d:Int)=(d:Int)/\(s:Int)+1=(e:Int))/\(e <= d/\al eb.a6 most c (take e l)=true/\c<=p/\p<=1048576)/\d - e < d - s) (bC eb.a6 c (take e l)))))/\((d:Int)<=(s:Int)->true=al eb.a6 most c l)) (j+1)) (bC eb.a6 c (take s l))) (bC eb.a6 c (take g l))) 0) l.length);iterate 3 ((all_goals (repeat' with_reducible first|apply aT|refine aW ?_|intro)); (all_goals try (first | exact bR | exact (UB (key:=eb.a6) ab ab ab) | exact (SI (key:=eb.a6) ab ab) | exact (UH (key:=eb.a6) ab az) | exact (fQ (key:=eb.a6) ab) | exact (Ot (key:=eb.a6) ab ab ab) | exact (Rg (key:=eb.a6) ab ab ab))); all_goals try first | refine ⟨‹Nat› + 1,?_⟩ | refine ⟨0,?_⟩)
def pK:Kn:=aH (ae (kC (cL (.nm .opn))) (ae (kC cI) (ae (kC (sQ 295 [] [])) ao))) au fun (l,most,_,_) _=>⟨[most<=1048576],[.c (.bool (.atom ((al l8.set most 0 l))))],none,false⟩
theorem yF:CK 294 pK:=ag fun (l,most,_,_) _ q=>by
 have u:=b_ q;refine aq ld (Cu l most) func294 (?_:(fun (d:Nat)=>(fun (c:Int)=>l.length*16<=140737488355328->a7 most->∃ (g:Nat),(fun (h:Int)=>(most=most/\c=h/\l=l/\(l.length:Int)=(d:Int)/\c=(g:Int))/\(g<=d/\al l8.set most c (take g l)=true/\c<=h/\h<=1048576)/\∀ (s:Nat),(fun (j:Int)=>(fun (o:Int)=>s<=d/\al l8.set most c (take s l)=true/\c<=j/\j<=1048576->((s:Int)<(d:Int)->c<=(s:Int)/\(s:Int)<(l.length:Int)/\∀ (x:l8),l[s]? = some x->a7 x.set->a7 x.a6->a7 x.set->a7 o/\(aO x.set o most=false->false=al l8.set most c l)/\(aO x.set o most=true->a7 x.set->a7 ((s:Int)+1)/\∃ (e:Nat),(fun (p:Int)=>(most=most/\x.set=p/\l=l/\(d:Int)=(d:Int)/\(s:Int)+1=(e:Int))/\(e <= d/\al l8.set most c (take e l)=true/\c<=p/\p<=1048576)/\d - e < d - s) (bC l8.set c (take e l))))/\((d:Int)<=(s:Int)->true=al l8.set most c l)) (j+1)) (bC l8.set c (take s l))) (bC l8.set c (take g l))) 0) l.length);iterate 3 ((all_goals (repeat' with_reducible first|apply aT|refine aW ?_|intro)); (all_goals try (first | exact bR | exact (UB (key:=l8.set) ab ab ab) | exact (SI (key:=l8.set) ab ab) | exact (UH (key:=l8.set) ab az) | exact (fQ (key:=l8.set) ab) | exact (Ot (key:=l8.set) ab ab ab) | exact (Rg (key:=l8.set) ab ab ab))); all_goals try first | refine ⟨‹Nat› + 1,?_⟩ | refine ⟨0,?_⟩)
def oP:Kn:=aH (ae (kC (cL (.nm .snap))) (ae (kC cI) (ae (kC (sQ 335 [] [])) ao))) au fun (l,most,_,_) _=>⟨[most<=1048576],[.c (.bool (.atom ((al hX.id most 0 l))))],none,false⟩
theorem zE:CK 334 oP:=ag fun (l,most,_,_) _ q=>by
 have u:=b_ q;refine aq ld (BO l most) func334 (?_:(fun (d:Nat)=>(fun (c:Int)=>l.length*64<=140737488355328->a7 most->∃ (g:Nat),(fun (h:Int)=>(most=most/\c=h/\l=l/\(l.length:Int)=(d:Int)/\c=(g:Int))/\(g<=d/\al hX.id most c (take g l)=true/\c<=h/\h<=1048576)/\∀ (s:Nat),(fun (j:Int)=>(fun (o:Int)=>s<=d/\al hX.id most c (take s l)=true/\c<=j/\j<=1048576->((s:Int)<(d:Int)->c<=(s:Int)/\(s:Int)<(l.length:Int)/\∀ (x:hX),l[s]? = some x->bY x (a7 x.id->a7 o/\(aO x.id o most=false->false=al hX.id most c l)/\(aO x.id o most=true->a7 x.id->a7 ((s:Int)+1)/\∃ (e:Nat),(fun (p:Int)=>(most=most/\x.id=p/\l=l/\(d:Int)=(d:Int)/\(s:Int)+1=(e:Int))/\(e <= d/\al hX.id most c (take e l)=true/\c<=p/\p<=1048576)/\d - e < d - s) (bC hX.id c (take e l)))))/\((d:Int)<=(s:Int)->true=al hX.id most c l)) (j+1)) (bC hX.id c (take s l))) (bC hX.id c (take g l))) 0) l.length);iterate 3 ((all_goals (repeat' with_reducible first|apply aT|refine aW ?_|intro)); (all_goals try (first | exact bR | exact (UB (key:=hX.id) ab ab ab) | exact (SI (key:=hX.id) ab ab) | exact (UH (key:=hX.id) ab az) | exact (fQ (key:=hX.id) ab) | exact (Ot (key:=hX.id) ab ab ab) | exact (Rg (key:=hX.id) ab ab ab))); all_goals try first | refine ⟨‹Nat› + 1,?_⟩ | refine ⟨0,?_⟩)
def RY:Kn:=aH (ae (kT (.nm .b8)) ao) au fun (x,_) _=>⟨[],[.c (.bool (.atom ((bu x))))],none,false⟩
theorem acb:CK 293 RY:=ag fun (x,_) _ _=>by
 refine aq ld [] func293 (?_:dM x ((aO x.seq 0 1048576 && aO x.last.code 0 99 && aO x.last.n 0 1048576)=bu x));grind [bu,aO]
def Qg:Kn:=aH (ae (kT (.nm .opn)) ao) au fun (x,_) _=>⟨[],[.c (.bool (.atom ((bt x))))],none,false⟩
theorem ab7:CK 297 Qg:=ag fun (x,_) _ _=>by
 refine aq ld [] func297 (?_:a7 x.set->a7 x.a6->aO x.a6 1 8=bt x);grind [bt,aO]
def aiv:ck:=(aI 297 Qg (aI 293 RY (aI 334 oP (aI 294 pK (aI 291 pz (aI 253 Se akR))))))
def jt:ay prog (av l6) aiv:=(ah ab7 (ah acb (ah zE (ah yF (ah y_ (ah aem ld))))))
def aey (h:(k:Int)<bA n):(gy n k).set k (ofNat (n / 128 ^ k) ||| ofNat 128)=gy n (k+1):=EV az
def Zb (g:k<=bA n) (h:(bA n:Int)<=(k:Int)):(gy n k).set ((bA n:Int) - 1).toNat ((gy n k).getD ((bA n:Int) - 1).toNat (c5 Sh.u8) &&& ofNat 127)=bF n:=by
 have e:k=bA n:=by omega
 have d:((bA n:Int) - 1).toNat=bA n - 1:=by omega
 have j:=qM (n:=n) (sh _);have o:=j_ n;subst e;have c:bA n - 1<(gy n (bA n)).length:=by omega
 rw [d,ts,p6 c,Option.getD_some,Gw (p6 c)];rfl
def amf (n:y1):List (Nat × LI):=[(4,{ σ:=Nat,F:=fun k=>([(0,one (.u64 (n.n / 128 ^ k))),(3,one (.int (bA n.n))),(4,one (.own 0)),(10,one (.int (bA n.n))),(11,one (.int k))],[.row 5 .u8 ((gy n.n k))]),J:=fun k=>k<=bA n.n,μ:=fun k=>bA n.n - k })]
def Uu (l:List eb):List (Nat × LI):=[(2,{ σ:=Nat,F:=fun k=>([(1,one (.fn 293 [] [])),(7,one (.fz (.nm .b8) (l))),(8,one (.int (l).length)),(9,one (.int k))],[]),J:=fun k=>k<=l.length/\(l.take k).all (bu)=true,μ:=fun k=>(l).length - k })]
def QU (l:List l8):List (Nat × LI):=[(2,{ σ:=Nat,F:=fun k=>([(1,one (.fn 297 [] [])),(7,one (.fz (.nm .opn) (l))),(8,one (.int (l).length)),(9,one (.int k))],[]),J:=fun k=>k<=l.length/\(l.take k).all (bt)=true,μ:=fun k=>(l).length - k })]
def aaF:Kn:=aH (ae (kC cU) ao) au fun (n,_) _=>⟨[],[.c (.own 0)],some ([.row 5 .u8 ((bF n.n))]),true⟩
theorem akn:CK 212 aaF:=ag fun (n,_) _ _=>by
 refine cr jt (amf n) func212 (?_:(fun (d:Nat)=>(fun (o:Int)=>(fun (c:Int)=>(fun (e:Int)=>n.n<(18446744073709551616:Nat)->a7 c->(0:Int)<=c/\c*(↑(1:Nat):Int)<=(140737488355328:Int)/\c=c/\∃ (j:Nat),(n.n=n.n / (128:Nat) ^ j/\c=c/\c=c/\(0:Int)=(j:Int)/\replicate d (c5 Sh.u8)=gy n.n j)/\j<=d/\∀ (s:Nat),(fun (g:List UInt8)=>s<=d->((s:Int)<c->(0:Int)<=(s:Int)/\(s:Int)<(g.length:Int)/\(7:Nat)<(64:Nat)/\a7 ((s:Int)+o)/\∃ (h:Nat),(n.n / (128:Nat) ^ s / (2:Nat) ^ (7:Nat)=n.n / (128:Nat) ^ h /\ c=c/\c=c/\(s:Int)+o=(h:Int)/\g.set s (ofNat (n.n / (128:Nat) ^ s) ||| ofNat (128:Nat))=gy n.n h)/\h <= d/\d - h < d - s)/\(c<=(s:Int)->a7 e/\(0:Int)<=e/\e<(g.length:Int)/\(0:Int)<=e/\e<(g.length:Int)/\g.set e.toNat (g.getD e.toNat (c5 Sh.u8) &&& ofNat (127:Nat))=bF n.n)) (gy n.n s)) (c - o)) (d:Int)) (1:Int)) (bA n.n));intro p;have u:=j_ n.n;have q:=uP p;iterate 3 ((all_goals (repeat' with_reducible first|apply aT|refine aW ?_|intro)); (all_goals try (first | exact bR | exact (aey az) | exact (Zb az az) | exact div_pow | exact (by rw [qM az]; omega))); all_goals try first | refine ⟨‹Nat› + 1,?_⟩ | refine ⟨0,?_⟩)
def wG:Kn:=aH (ae (kC (cL (.nm .b8))) (ae (kC (sQ 293 [] [])) ao)) au fun (l,_,_) _=>⟨[],[.c (.bool (.atom ((l.all (bu)))))],none,false⟩
theorem MM:CK 292 wG:=ag fun (l,_,_) _ _=>by
 refine aq jt (Uu l) func292 (?_:(fun (c:Nat)=>l.length*32<=140737488355328->∃ (e:Nat),(l=l/\(l.length:Int)=(c:Int)/\0=(e:Int))/\(e<=c/\(take e l).all bu=true)/\∀ (s:Nat),s<=c/\(take s l).all bu=true->((s:Int)<(c:Int)->0<=(s:Int)/\(s:Int)<(l.length:Int)/\∀ (x:eb),l[s]? = some x->dM x ((bu x=false->false=l.all bu)/\(bu x=true->a7 ((s:Int)+1)/\∃ (d:Nat),(l=l/\(c:Int)=(c:Int)/\(s:Int)+1=(d:Int))/\(d <= c/\(take d l).all bu=true)/\c - d < c - s)))/\((c:Int)<=(s:Int)->true=l.all bu)) l.length);iterate 3 ((all_goals (repeat' with_reducible first|apply aT|refine aW ?_|intro)); (all_goals try (first | exact bR | exact (ue (p:=bu) ab ab ab) | exact (Qm (p:=bu) ab ab) | exact (Vr (p:=bu) ab az))); all_goals try first | refine ⟨‹Nat› + 1,?_⟩ | refine ⟨0,?_⟩)
def wB:Kn:=aH (ae (kC (cL (.nm .opn))) (ae (kC (sQ 297 [] [])) ao)) au fun (l,_,_) _=>⟨[],[.c (.bool (.atom ((l.all (bt)))))],none,false⟩
theorem LP:CK 296 wB:=ag fun (l,_,_) _ _=>by
 refine aq jt (QU l) func296 (?_:(fun (c:Nat)=>l.length*16<=140737488355328->∃ (e:Nat),(l=l/\(l.length:Int)=(c:Int)/\0=(e:Int))/\(e<=c/\(take e l).all bt=true)/\∀ (s:Nat),s<=c/\(take s l).all bt=true->((s:Int)<(c:Int)->0<=(s:Int)/\(s:Int)<(l.length:Int)/\∀ (x:l8),l[s]? = some x->a7 x.set->a7 x.a6->(bt x=false->false=l.all bt)/\(bt x=true->a7 ((s:Int)+1)/\∃ (d:Nat),(l=l/\(c:Int)=(c:Int)/\(s:Int)+1=(d:Int))/\(d <= c/\(take d l).all bt=true)/\c - d < c - s))/\((c:Int)<=(s:Int)->true=l.all bt)) l.length);iterate 3 ((all_goals (repeat' with_reducible first|apply aT|refine aW ?_|intro)); (all_goals try (first | exact bR | exact (ue (p:=bt) ab ab ab) | exact (Qm (p:=bt) ab ab) | exact (Vr (p:=bt) ab az))); all_goals try first | refine ⟨‹Nat› + 1,?_⟩ | refine ⟨0,?_⟩)
def oU:Kn:=aH (ae (kC (cL (.nm .b8))) ao) au fun (l,_) _=>⟨[],[.c (.own 0)],some ([.row 137 (.nm .b8) ((l))]),true⟩
def zw:CK 105 oU:=ag fun (l,_) _ _=>by
 refine cr jt [] func105 (?_:(fun c=>c->∀ (b:Bool),(b=true->l=[])->(b=true->l=[])/\(b=false->c/\l=l)) (l.length*32<=140737488355328));exact fun h b d=>⟨d,fun _=>⟨h,rfl⟩⟩
def qY:Kn:=aH (ae (kC (cL (.nm .opn))) ao) au fun (l,_) _=>⟨[],[.c (.own 0)],some ([.row 139 (.nm .opn) ((l))]),true⟩
def Ei:CK 106 qY:=ag fun (l,_) _ _=>by
 refine cr jt [] func106 (?_:(fun c=>c->∀ (b:Bool),(b=true->l=[])->(b=true->l=[])/\(b=false->c/\l=l)) (l.length*16<=140737488355328));exact fun h b d=>⟨d,fun _=>⟨h,rfl⟩⟩
def oC:Kn:=aH (ae (kC (cL (.nm .snap))) ao) au fun (l,_) _=>⟨[],[.c (.own 0)],some ([.row 172 (.nm .snap) ((l))]),true⟩
def yT:CK 107 oC:=ag fun (l,_) _ _=>by
 refine cr jt [] func107 (?_:(fun c=>c->∀ (b:Bool),(b=true->l=[])->(b=true->l=[])/\(b=false->c/\l=l)) (l.length*64<=140737488355328));exact fun h b d=>⟨d,fun _=>⟨h,rfl⟩⟩
def rb:Kn:=aH (ae (kC (cL .int)) ao) au fun (l,_) _=>⟨[],[.c (.fz .int ((l)))],none,false⟩
theorem AW:CK 75 rb:=ag fun (l,_) _ _=>by
 refine aq jt [] func75 (?_:(fun c=>c->∀ (b:Bool),(b=true->l=[])->(b=true->l=[])/\(b=false->c/\l=l)) (l.length*8<=140737488355328));intros; repeat' (intro)
 all_goals first | rfl | assumption | simp_all
def aj0:ck:=(aI 75 rb (aI 107 oC (aI 106 qY (aI 105 oU (aI 296 wB (aI 292 wG (aI 212 aaF aiv)))))))
def kX:ay prog (av l6) aj0:=(ah AW (ah yT (ah Ei (ah zw (ah LP (ah MM (ah akn jt)))))))
def acD (h:jD x (l.take k) = -1) (c:l.length<=k):-1=jD x l:=by rw [r6 c] at h; exact h.symm
theorem WV {y:Int} (h:jD x (l.take k) = -1) (c:l[k]? = some y) (e:x=y):(k:Int)=jD x l:=by
 refine OX (fun j z q d g=>?_) c e;have o:z ∈ l.take k:=by
  obtain ⟨s,p⟩:=r3.1 d;rw [aqI]; exact ⟨j,az,p⟩
 have:decide (0<=jD x (l.take k))=true:=by rw [SS,List.contains_iff_mem,g]; exact o
 grind
theorem acp {y:Int} (h:jD x (l.take k) = -1) (d:l[k]? = some y) (e:¬ x=y):jD x (l.take (k+1)) = -1:=by
 have g:(l.take k).contains x=false:=by
  have:=SS x (l.take k);grind
 have c:(l.take (k+1)).contains x=false:=by simp_all [aj]
 unfold jD at c ⊢;grind
def aiI (c:bI l=true) (d:l[k]? = some x):0<=x:=Int.le_of_lt (n_ c x (A9 d)).1
theorem Pt (c:bI l=true) (d:l[k]? = some x):((fk (l.take k)).length+(bF x.toNat).length)*1<=140737488355328:=by
 have e:=UR (l:=l.take k) (fun x d=>(n_ c x (List.mem_of_mem_take d)).2);have g:=zl c;have h:=n_ c x (A9 d);have j:=cO (n:=x.toNat) az;grind
def aeZ (l:List Int) (x:Int):List (Nat × LI):=[(2,{ σ:=Nat,F:=fun k=>([(0,one (.fz .int (l))),(1,one (.int (x))),(7,one (.int (l).length)),(8,one (.int k))],[]),J:=fun k=>k<=l.length/\jD x (l.take k) = -1,μ:=fun k=>(l).length - k })]
def Wv (l:List Int):List (Nat × LI):=[(5,{ σ:=Nat,F:=fun k=>([(4,one (.own 0)),(10,one (.fz .int (l))),(11,one (.int (l).length)),(12,one (.int k))],[.row 5 .u8 ((fk (l.take k)))]),J:=fun k=>k<=l.length/\bI l=true,μ:=fun k=>(l).length - k })]
def He:Kn:=aH (ae (kC (cL .int)) (ae (kC cI) ao)) au fun (l,x,_) _=>⟨[],[.c (.int ((jD x l)))],none,false⟩
theorem YT:CK 218 He:=ag fun (l,x,_) _ _=>by
 refine aq kX (aeZ l x) func218 (?_:(fun (e:Int)=>(fun (c:Nat)=>l.length*8<=140737488355328->a7 x->∃ (h:Nat),(l=l/\x=x/\(l.length:Int)=(c:Int)/\0=(h:Int))/\(h<=c/\jD x (take h l) = -e)/\∀ (s:Nat),s<=c/\jD x (take s l) = -e->((s:Int)<(c:Int)->0<=(s:Int)/\(s:Int)<(l.length:Int)/\∀ (d:Int),l[s]? = some d->a7 d->(x=d->(s:Int)=jD x l)/\(¬x=d->a7 ((s:Int)+e)/\∃ (g:Nat),(l=l/\x=x/\(c:Int)=(c:Int)/\(s:Int)+e=(g:Int))/\(g <= c/\jD x (take g l) = -e)/\c - g < c - s))/\((c:Int)<=(s:Int) -> -e=jD x l)) l.length) 1);iterate 3 ((all_goals (repeat' with_reducible first|apply aT|refine aW ?_|intro)); (all_goals try (first | exact bR | exact (acD ab az) | exact (WV ab ab ab) | exact (acp ab ab ab))); all_goals try first | refine ⟨‹Nat› + 1,?_⟩ | refine ⟨0,?_⟩)
def JO:Kn:=aH (ae (kC cI) (ae (kC cI) (ae (kC cB) ao))) au fun (n,most,d,_) _=>⟨[],[.c (.bool (.atom ((kH n most d))))],none,false⟩
theorem Yu:CK 154 JO:=ag fun (n,most,c,_) _ _=>by
 refine aq kX [] func154 (?_:a7 n->a7 most->(c=true->(decide (1<=n) && decide (n<=most))=kH n most c)/\(c=false->decide (n=0)=kH n most c));grind [kH]
def Cg:Kn:=aH (ae (kC (cL .int)) ao) au fun (l,_) _=>⟨[],[.c (.fz .u8 ((bK l))),.c (.int ((cu l)))],none,false⟩
theorem Tp:CK 225 Cg:=ag fun (l,_) _ _=>by
 refine aq kX (Wv l) func225 (?_:(fun (d:Prop)=>(fun (c:Nat)=>l.length*8<=140737488355328->(bI l=false->bK l=[]/\1=cu l)/\(d->∃ (g:Nat),(l=l/\(l.length:Int)=(c:Int)/\0=(g:Int)/\fk (take g l)=[])/\(g<=c/\d)/\∀ (s:Nat),s<=c/\d->((s:Int)<(c:Int)->0<=(s:Int)/\(s:Int)<(l.length:Int)/\∀ (x:Int),l[s]? = some x->a7 x->0<=x/\((fk (take s l)).length+(bF x.toNat).length)*1<=140737488355328/\a7 ((s:Int)+1)/\∃ (e:Nat),(l=l/\(c:Int)=(c:Int)/\(s:Int)+1=(e:Int)/\fk (take s l)++bF x.toNat=fk (take e l))/\(e <= c/\d)/\c - e < c - s)/\((c:Int)<=(s:Int)->fk (take s l)=bK l/\0=cu l))) l.length) (bI l=true));iterate 3 ((all_goals (repeat' with_reducible first|apply aT|refine aW ?_|intro)); (all_goals try (first | exact bR | exact (xK ab).symm | exact (kY ab) | exact (lR ab) | exact (Cl ab az) | exact (wZ ab) | exact (aiI ab ab) | exact (Pt ab ab))); all_goals try first | refine ⟨‹Nat› + 1,?_⟩ | refine ⟨0,?_⟩)
def AQ:Kn:=aH (ae (kT (.nm .eS)) (ae (kC cI) ao)) au fun (s,x,_) _=>⟨[],[.c (.int ((ai eb.a6 x s.b8)))],none,false⟩
theorem UN:CK 262 AQ:=ag fun (s,x,_) _ _=>by
 refine aq kX [] func262 (?_:(fun c=>cw s (a7 x->a7 c->c=c)) (ai eb.a6 x s.b8));grind
def CY:Kn:=aH (ae (kT (.nm .eS)) (ae (kC cI) ao)) au fun (s,x,_) _=>⟨[],[.c (.int ((ai l8.set x s.c6)))],none,false⟩
theorem Tu:CK 340 CY:=ag fun (s,x,_) _ _=>by
 refine aq kX [] func340 (?_:(fun c=>cw s (a7 x->a7 c->c=c)) (ai l8.set x s.c6));grind
def Bk:Kn:=aH (ae (kT (.nm .eS)) (ae (kC cI) ao)) au fun (s,x,_) _=>⟨[],[.c (.int ((ai hX.id x s.b6)))],none,false⟩
theorem SK:CK 302 Bk:=ag fun (s,x,_) _ _=>by
 refine aq kX [] func302 (?_:(fun c=>cw s (a7 x->a7 c->c=c)) (ai hX.id x s.b6));grind
def aha:ck:=(aI 302 Bk (aI 340 CY (aI 262 AQ (aI 225 Cg (aI 154 JO (aI 218 He aj0))))))
def zT:ay prog (av l6) aha:=(ah SK (ah Tu (ah UN (ah Tp (ah Yu (ah YT kX))))))
def vq:Kn:=aH (ae (kC (cL .int)) (ae (kC cI) ao)) au fun (l,x,_) _=>⟨[],[.c (.bool (.atom ((l.contains x))))],none,false⟩
def F9:CK 153 vq:=ag fun (l,x,_) _ _=>by
 refine aq zT [] func153 (?_:l.length*8<=140737488355328->a7 x->a7 (jD x l)->decide (0<=jD x l)=l.contains x);intros; exact SS _ _
def Aw:Kn:=aH (ae (kT (.nm .snap)) (ae (kC (bm 0 0)) (ae (kC (bm 1 0)) ao))) (aF (eu 3 (ax cI dY)) (aF (eu 3 (ax cI dY)) au)) fun (x,_,_,_) ((v,_),(t,_),_)=>⟨[],[.c (.bool (.atom ((dF v t x))))],none,false⟩
def NL:CK 337 Aw:=ag fun (x,_,_,_) ((v,_),(t,_),_) _=>by
 refine aq zT [] func337 (?_:bY x ((bK x.b9).length*1<=140737488355328->a7 (cu x.b9)->(decide (cu x.b9=0) && aO x.set 1 8 && (!x.held || decide (2<=v)) && decide ((x.tag.b.length:Int)<=t))=dF v t x));(repeat intro); rfl
def ahh:ck:=(aI 337 Aw (aI 153 vq aha))
def yt:ay prog (av l6) ahh:=(ah NL (ah F9 zT))
def Qe (l:List hX) (v:Int) (t:Int):List (Nat × LI):=[(2,{ σ:=Nat,F:=fun k=>([(1,one (.fn 337 [] [(0,0),(1,0)])),(7,one (.fz (.nm .snap) (l))),(8,one (.int (l).length)),(9,one (.int k))],[.box 3 ([.int ((v))]),.box 3 ([.int ((t))])]),J:=fun k=>k<=l.length/\(l.take k).all ((dF v t))=true,μ:=fun k=>(l).length - k })]
def JS:Kn:=aH (ae (kC (cL .int)) (ae (kC (bm 0 0)) ao)) (aF (Ag 35 (.nm .command)) au) fun (l,_,_) (c,_)=>⟨[],[.c (.bool (.atom ((l.contains c.kind))))],none,false⟩
theorem WD:CK 152 JS:=ag fun (l,_,_) (c,_) _=>by
 refine aq yt [] func152 (?_:l.length*8<=140737488355328->l.contains c.kind=l.contains c.kind);grind
def wW:Kn:=aH (ae (kC (cL (.nm .snap))) (ae (kC (sQ 337 [] [(0,0),(1,0)])) ao)) (aF (eu 3 (ax cI dY)) (aF (eu 3 (ax cI dY)) au)) fun (l,_,_) ((v,_),(t,_),_)=>⟨[],[.c (.bool (.atom ((l.all ((dF v t))))))],none,false⟩
theorem KS:CK 336 wW:=ag fun (l,_,_) ((v,_),(t,_),_) _=>by
 refine aq yt (Qe l v t) func336 (?_:(fun (c:Nat)=>l.length*64<=140737488355328->∃ (e:Nat),(l=l/\(l.length:Int)=(c:Int)/\0=(e:Int)/\v=v/\t=t)/\(e<=c/\(take e l).all (dF v t)=true)/\∀ (s:Nat),s<=c/\(take s l).all (dF v t)=true->((s:Int)<(c:Int)->0<=(s:Int)/\(s:Int)<(l.length:Int)/\∀ (x:hX),l[s]? = some x->bY x ((dF v t x=false->false=l.all (dF v t))/\(dF v t x=true->a7 ((s:Int)+1)/\∃ (d:Nat),(l=l/\(c:Int)=(c:Int)/\(s:Int)+1=(d:Int)/\v=v/\t=t)/\(d <= c/\(take d l).all (dF v t)=true)/\c - d < c - s)))/\((c:Int)<=(s:Int)->true=l.all (dF v t))) l.length);iterate 3 ((all_goals (repeat' with_reducible first|apply aT|refine aW ?_|intro)); (all_goals try (first | exact bR | exact (ue (p:=(dF v t)) ab ab ab) | exact (Qm (p:=(dF v t)) ab ab) | exact (Vr (p:=(dF v t)) ab az))); all_goals try first | refine ⟨‹Nat› + 1,?_⟩ | refine ⟨0,?_⟩)
def agY:ck:=(aI 336 wW (aI 152 JS ahh))
def Af:ay prog (av l6) agY:=(ah KS (ah WD yt))
theorem aiP (k:Int):(if k=12 then some (Span.mk 0 64) else if k=8 then some (Span.mk 2 3) else if k=6 then some (Span.mk 0 8) else none).getD (c5 (.nm .span))=⟨(jO k).1,(jO k).2⟩:=by
 by_cases c:k=12
 ·subst c; rfl
 by_cases d:k=8
 ·subst d; rfl
 by_cases e:k=6
 ·subst e; rfl
 simp [jO,qW,c,d,e]; rfl
def TO:Kn:=aH (ae (kT (.nm .command)) ao) au fun (c,_) _=>⟨[],[.c (.bool (.atom ((fL c))))],none,false⟩
theorem afD:CK 91 TO:=ag fun (c,_) _ _=>by
 refine aq Af [] func91 (?_:(fun d=>(fun e=>(fun p=>(fun q=>(fun s=>(fun u=>(fun o=>(fun g=>(fun v=>(fun y=>(fun j=>(fun h=>bc c ((e=3->(h=true->(bI c.b9=true->j)/\(bI c.b9=false->g))/\(h=false->g))/\(¬e=3->(e=11->(h=true->(o->((c.text.b.length:Int)<=16->y)/\(16<(c.text.b.length:Int)->g))/\(¬o->g))/\(h=false->g))/\(¬e=11->(h=true->(o->j)/\(¬o->g))/\(h=false->g))))) (decide (v.lo<=c.n) && decide (c.n<=v.hi))) ((p->y)/\(¬p->g))) ((q=true->(s=true->(u=true->kH c.id 1048576 ([5,7,9,10,11].contains e)=fL c)/\(u=false->g))/\(s=false->g))/\(q=false->g))) ((if e=12 then some (Span.mk 0 64) else if e=d then some (Span.mk 2 3) else if e=6 then some (Span.mk 0 d) else none).getD (c5 (Sh.nm NT.span)))) (false=fL c)) ((c.b9.length:Int)=0)) (kH c.set d ([2,3,4].contains e))) (kH c.seq 1048576 ![1,d].contains e)) (kH c.a6 d ![d].contains e)) (c.text=o3.mk [])) c.kind) (8:Int));simp only [aiP];(repeat' with_reducible first|apply aT|refine aW ?_|intro)
 all_goals ((unfold fL EC U8; simp_all) <;> (intros; omega))
def Kf:Kn:=aH (ae (kT (.nm .eS)) (ae (kC cI) ao)) au fun (s,v,_) _=>⟨[1<=s.next/\s.next<=1048576],[.c (.bool (.atom ((fR s v))))],none,false⟩
theorem ZD:CK 298 Kf:=ag fun (s,v,_) _ e=>by
 have g:=b_ e;refine aq Af [] func298 (?_:(fun d=>(fun c=>cw s (a7 v->(d<=16->a7 c/\c<=1048576)/\(16<d\/al hX.id c 0 s.b6=false->false=fR s v)/\(d<=16/\al hX.id c 0 s.b6=true->(v<3->s.b6.all (dF v 0)=fR s v)/\(3<=v->s.b6.all (dF v 16)=fR s v)))) (s.next - 1)) (s.b6.length:Int));(repeat' with_reducible first|apply aT|refine aW ?_|intro)
 all_goals (first | exact bR | (simp only [fR,nH]; grind))
def aj6:ck:=(aI 298 Kf (aI 91 TO agY))
def gp:ay prog (av l6) aj6:=(ah ZD (ah afD Af))
def pU (n:Int) (c:Bool) (lo d:Int):Bool:=if c then aO n lo d else decide (n=0)
def ey (s:b7) (c:Nat) (k:Nat):Int:=(((s.b6.drop (c+1)).take k).filter fun x=>decide (x.set=(s.b6.getD c (c5 (.nm .snap))).set)).length
def g_ (s:b7) (c:Int):Bool:=if c<0\/(s.b6.length:Int)<=c then false else decide (ey s c.toNat s.b6.length<s.dm)
def r8 (l:List hX):Nat:=(l.flatMap hX.b9).length
def dB (c:Int) (l:List hX):Nat:=(l.flatMap hX.b9).count c
def aJ (id:Int) (l:List hX):List hX:=l.filter fun x=>!decide (x.id=id)
def gd {l:List α} {d:α} (h:(k:Int)<l.length):l[k]? = some (l.getD k d):=by
 have c:k<l.length:=by omega
 rw [ts,p6 c]; rfl
def VI (h:al id 64 0 (l.take k)=true) (e:(k:Int)<l.length) (c:aO (l.getD k (c5 .int)) 1 64=true/\((k:Int)<=0\/l.getD ((k:Int) - 1).toNat (c5 .int)<l.getD k (c5 .int))):al id 64 0 (l.take (k+1))=true:=by
 have g:=vU c.1;refine lP (key:=id) h (gd e) ?_ g.2;by_cases j:k=0
 ·subst j; show (0:Int)<l.getD 0 (c5 .int); omega
 rw [jY az (gd (d:=c5 .int) az)];have:=c.2.resolve_left az;rwa [show ((k:Int) - 1).toNat=k - 1 by omega] at this
def YV (g:(k:Int)<l.length) (c:aO (l.getD k (c5 .int)) 1 64=false\/0<(k:Int)/\l.getD k (c5 .int)<=l.getD ((k:Int) - 1).toNat (c5 .int)) (h:al id 64 0 (l.take k)=true):false=bI l:=by
 refine mV (gd (d:=c5 .int) g) fun e=>?_;rcases c with c | ⟨o,j⟩
 ·have p:=inF c;have:=Ml h;omega
 rw [jY az (gd (d:=c5 .int) az)] at e;rw [show ((k:Int) - 1).toNat=k - 1 by omega] at j;have:=e.1;dsimp only [id] at this;omega
variable {a:Nat}
def YQ {s:b7}:ey s a k<=(k:Int):=by
 have c:=L5 (fun x:hX=>decide (x.set=(s.b6.getD a (c5 (.nm .snap))).set)) ((s.b6.drop (a+1)).take k);have d:((s.b6.drop (a+1)).take k).length<=k:=by rw [s9]; omega
 unfold ey; omega
def VM {s:b7}:0<=ey s a k:=by unfold ey; omega
def Sa {s:b7} (h:a+1+k<=s.b6.length) (c:s.b6.length*64<=140737488355328):a7 (ey s a k+1):=by
 have d:=YQ (s:=s) (a:=a) (k:=k);have e:=VM (s:=s) (a:=a) (k:=k);constructor <;> omega
variable {x:hX}
def Tc {s:b7} (c:(s.b6.drop (a+1))[k]? = some x) (h:x.set=(s.b6.getD a (c5 (.nm .snap))).set):ey s a k+1=ey s a (k+1):=by
 unfold ey;rw [aj c,E1,r5];simp [h]
def Q_ {s:b7} (c:(s.b6.drop (a+1))[k]? = some x) (h:¬ x.set=(s.b6.getD a (c5 (.nm .snap))).set):ey s a k=ey s a (k+1):=by
 unfold ey;rw [aj c,E1,r5];rw [show List.filter (fun x:hX=>decide (x.set=(s.b6.getD a (c5 (.nm .snap))).set)) [x]=[] by simp only [List.filter_cons,h,decide_false,List.filter_nil]; rfl];simp
variable {a:Int}
def Ib {s:b7} (c:0<=a) (h:a+1+k<s.b6.length):(s.b6.drop (a.toNat+1))[k]? = some (s.b6.getD (a+1+k).toNat (c5 (.nm .snap))):=by
 rw [C7,show (a+1+k).toNat=a.toNat+1+k by omega];exact gd az
def Et {s:b7} (c:0<=a) (d:a<s.b6.length) (h:(s.b6.length:Int)<=a+1+k):decide (ey s a.toNat k<s.dm)=g_ s a:=by
 unfold g_;rw [dc az];have e:∀ m:Nat,(s.b6.length:Int)<=a+1+m->ey s a.toNat m=ey s a.toNat s.b6.length:=fun m g=>by
  unfold ey;rw [r6 (by rw [length_drop]; omega),r6 (by rw [length_drop]; omega)]
 rw [e k h]
def Bj {s:b7} (h:a<0\/(s.b6.length:Int)<=a):false=g_ s a:=by unfold g_; rw [eg h]
variable {l:List hX}
def Nz {id:Int} {y:hX} (h:¬ x.id=id) (c:l[k]? = some x) (d:l[k]? = some y):aJ id (l.take k)++[y]=aJ id (l.take (k+1)):=by
 rw [c] at d; cases d;unfold aJ; rw [aj c,E1]; simp [h]
def Ve {id:Int} (c:l[k]? = some x) (h:x.id=id):aJ id (l.take k)=aJ id (l.take (k+1)):=by
 unfold aJ; rw [aj c,E1]; simp [h]
def Fh {id:Int} (h:(l.length:Int)<=k):aJ id (l.take k)=aJ id l:=by rw [r6 az]
def FM {id:Int} (h:(k:Int)<l.length) (d:l.length*64<=140737488355328):((aJ id (l.take k)).length+[x].length)*64<=140737488355328:=by
 have c:=L5 (fun x:hX=>!decide (x.id=id)) (l.take k);rw [s9] at c;unfold aJ;simp;omega
def Ss {c:Int} (d:l[k]? = some x):dB c (l.take (k+1))=dB c (l.take k)+x.b9.count c:=by
 unfold dB; rw [aj d]; simp
def af5 {c:Int} {q:Nat} (g:r8 l<=1048576) (h:k<l.length):dB c (l.take k)+((l.getD k (c5 (.nm .snap))).b9.take q).count c<=1048576:=by
 have e:=gd (d:=c5 (.nm .snap)) (l:=l) (k:=k) az;have j:=Ss (c:=c) e;have o:dB c (l.take (k+1))<=r8 l:=by
  unfold dB r8;refine z7 List.count_le_length ?_;rw [<- D5 (k+1) l,K1,r5,D5]; omega
 have p:((l.getD k (c5 (.nm .snap))).b9.take q).count c<=(l.getD k (c5 (.nm .snap))).b9.count c:=(List.take_sublist _ _).count_le _;omega
def Nc (c:l[k]? = some x):l.getD k (c5 (.nm .snap))=x:=by rw [ts,c]; rfl
def ak5 {c:Int} (h:(l.length:Int)<=k):(dB c (l.take k):Int)=(dB c l:Int):=by rw [r6 az]
def aib {q:Nat} {y:hX} (h:(q:Int)<x.b9.length) (d:l[k]? = some x) (c:l[k]? = some y):(q:Int)<y.b9.length:=by rw [d] at c; cases c; exact h
def aj_ {c:Int} {q:Nat} (d:r8 l<=1048576) (e:k<l.length):a7 (((dB c (l.take k)+((l.getD k (c5 (.nm .snap))).b9.take q).count c:Nat):Int)+1):=by
 have:=af5 (c:=c) (q:=q) d e; constructor <;> omega
def ahg {c v:Int} {q:Nat} (h:v=c) (d:x.b9[q]? = some v) (e:l[k]? = some x):((dB c (l.take k)+((l.getD k (c5 (.nm .snap))).b9.take q).count c:Nat):Int)+1=((dB c (l.take k)+((l.getD k (c5 (.nm .snap))).b9.take (q+1)).count c:Nat):Int):=by
 rw [Nc e,aj d,List.count_append,h]; simp; omega
def ajo {c v:Int} {q:Nat} (h:¬ v=c) (d:x.b9[q]? = some v) (e:l[k]? = some x):((dB c (l.take k)+((l.getD k (c5 (.nm .snap))).b9.take q).count c:Nat):Int)=((dB c (l.take k)+((l.getD k (c5 (.nm .snap))).b9.take (q+1)).count c:Nat):Int):=by
 have g:([v]:List Int).count c=0:=by simp [h]
 rw [Nc e,aj d,List.count_append,g]; rfl
def ahY {c:Int} {q:Nat} (h:(x.b9.length:Int)<=q) (d:l[k]? = some x):((dB c (l.take k)+((l.getD k (c5 (.nm .snap))).b9.take q).count c:Nat):Int)=(dB c (l.take (k+1)):Int):=by
 rw [Nc d,r6 (i:=q) (l:=x.b9) az,Ss d]
def ajR {q:Nat} (h:(q:Int)<x.b9.length) (c:l[k]? = some x):q+1<=(l.getD k (c5 (.nm .snap))).b9.length:=by rw [Nc c]; omega
def aid {q:Nat} (h:(q:Int)<x.b9.length) (c:l[k]? = some x):(l.getD k (c5 (.nm .snap))).b9.length - (q+1)<(l.getD k (c5 (.nm .snap))).b9.length - q:=by rw [Nc c]; omega
def akU (l:List Int):List (Nat × LI):=[(2,{ σ:=Nat,F:=fun k=>([(0,one (.fz .int (l))),(3,one (.int k))],[]),J:=fun k=>k<=l.length/\al id 64 0 (l.take k)=true,μ:=fun k=>l.length - k })]
def Py (st:b7) (x:Int):List (Nat × LI):=[(2,{ σ:=Nat,F:=fun k=>([(1,one (.int (x))),(2,one (.ptr 0 0)),(5,one (.int k))],[.box 46 (cellsOf (.nm .eS) (st))]),J:=fun k=>k<=st.b8.length/\ai eb.a6 x (st.b8.take k) = -1,μ:=fun k=>st.b8.length - k })]
def PJ (st:b7) (x:Int):List (Nat × LI):=[(2,{ σ:=Nat,F:=fun k=>([(1,one (.int (x))),(2,one (.ptr 0 0)),(5,one (.int k))],[.box 46 (cellsOf (.nm .eS) (st))]),J:=fun k=>k<=st.c6.length/\ai l8.set x (st.c6.take k) = -1,μ:=fun k=>st.c6.length - k })]
def ace (st:b7) (x:Int):List (Nat × LI):=[(2,{ σ:=Nat,F:=fun k=>([(1,one (.int (x))),(2,one (.ptr 0 0)),(5,one (.int k))],[.box 46 (cellsOf (.nm .eS) (st))]),J:=fun k=>k<=st.b6.length/\ai hX.id x (st.b6.take k) = -1,μ:=fun k=>st.b6.length - k })]
def ack (st:b7) (c:Int):List (Nat × LI):=[(5,{ σ:=Nat,F:=fun k=>([(1,one (.int (c))),(2,one (.ptr 0 0)),(5,one (.int (ey st c.toNat k))),(6,one (.int (c+1+k)))],[.box 46 (cellsOf (.nm .eS) (st))]),J:=fun k=>c.toNat+1+k<=st.b6.length/\0<=c,μ:=fun k=>st.b6.length - k })]
def aiS (st:b7) (c:Int):List (Nat × LI):=[(5,{ σ:=Nat,F:=fun k=>([(1,one (.int (c))),(2,one (.ptr 0 0)),(5,one (.int (ey st c.toNat k))),(21,one (.fz (.nm .snap) (st.b6.drop (c+1).toNat))),(22,one (.int (st.b6.drop (c+1).toNat).length)),(23,one (.int k))],[.box 46 (cellsOf (.nm .eS) (st))]),J:=fun k=>c.toNat+1+k<=st.b6.length/\0<=c,μ:=fun k=>st.b6.length - k })]
def Xm (l:List hX) (c:Int):List (Nat × LI):=[(3,{ σ:=Nat,F:=fun k=>([(0,one (.fz (.nm .snap) (l))),(1,one (.int (c))),(5,one (.int (dB c (l.take k)))),(6,one (.int k))],[]),J:=fun k=>k<=l.length,μ:=fun k=>l.length - k }),(6,{ σ:=Nat × Nat,F:=fun q=>([(0,one (.fz (.nm .snap) (l))),(1,one (.int (c))),(5,one (.int ((dB c (l.take q.1)+((l.getD q.1 (c5 (.nm .snap))).b9.take q.2).count c:Nat)))),(6,one (.int q.1)),(7,one (.int q.2))],[]),J:=fun q=>q.1<l.length/\q.2<=(l.getD q.1 (c5 (.nm .snap))).b9.length,μ:=fun q=>(l.getD q.1 (c5 (.nm .snap))).b9.length - q.2,R:=some fun d q=>q.1=d.1 })]
def Lf (l:List hX) (id:Int):List (Nat × LI):=[(3,{ σ:=Nat,F:=fun k=>([(0,one (.fz (.nm .snap) (l))),(1,one (.int (id))),(5,one (.own 0)),(6,one (.int k))],[.row 172 (.nm .snap) ((aJ id (l.take k)))]),J:=fun k=>k<=l.length,μ:=fun k=>l.length - k })]
def Ty:Kn:=aH (ae (kC (cL .int)) ao) au fun (l,_) _=>⟨[],[.c (.bool (.atom ((bI l))))],none,false⟩
theorem adM:CK 207 Ty:=ag fun (l,_) _ _=>by
 refine aq gp (akU l) func207 (?_:(fun (j:Int)=>(fun (g:Int)=>(fun (v:l5 Sh.int)=>(fun (d:Int)=>(fun (e:Int)=>l.length*8<=140737488355328->∃ (q:Nat),(l=l/\d=(q:Int))/\(q<=l.length/\al id j d (take q l)=true)/\∀ (s:Nat),(fun (h:l5 Sh.int)=>(fun (c:Int)=>(fun (u:l5 Sh.int)=>(fun (o:Prop)=>s<=l.length/\al id j d (take s l)=true->(c<g->d<=c/\c<g/\(o->d<=c/\c<g)/\(o->a7 (c - e))/\(o->d<=c - e/\c - e<g)/\(a7 h->(o->a7 h)->(o->a7 u)->(aO h e j=false\/d<c/\h<=u->false=bI l)/\(aO h e j=true/\(c<=d\/u<h)->a7 (c+e)/\∃ (p:Nat),(l=l/\c+e=(p:Int))/\(p <= l.length/\al id j d (take p l)=true)/\l.length - p < l.length - s)))/\(g<=c->(decide (e<=g) && decide (g<=8))=bI l)) (aO h e j=true/\d<c)) (l.getD (c - e).toNat v)) (s:Int)) (l.getD s v)) 1) 0) (c5 Sh.int)) (l.length:Int)) 64);iterate 3 ((all_goals (repeat' with_reducible first|apply aT|refine aW ?_|intro)); (all_goals try (first | exact bR | exact (VI ab az (And.intro ab ap)) | exact (YV az ap ab) | exact (KA ab az))); all_goals try first | refine ⟨‹Nat› + 1,?_⟩ | refine ⟨0,?_⟩)
def GU:Kn:=aH (ae (kC cI) ao) au fun (x,_) _=>⟨[],[.c (.int ((bk x)))],none,false⟩
def XF:CK 113 GU:=ag fun (x,_) _ _=>by
 refine aq gp [] func113 (?_:a7 x->(aO x 1 8=true->1=bk x)/\(aO x 1 8=false->(aO x 9 10=true->2=bk x)/\(aO x 9 10=false->(aO x 11 12=true->3=bk x)/\(aO x 11 12=false->0=bk x))));intro _;by_cases h:1<=x/\x<=12
 ·rw [Yp h]; simp only [aO,pe,Bool.and_eq_false_iff,vo,O1]; (repeat' with_reducible first|apply aT|refine aW ?_|intro) <;> (repeat split) <;> omega
 rw [Kq h]; exact ⟨fun c=>absurd (vU c) az,fun _=>⟨fun c=>absurd (vU c) az,fun _=>⟨fun c=>absurd (vU c) az,fun _=>rfl⟩⟩⟩
def Ak:Kn:=aH (ae (kC cI) (ae (kC cB) (ae (kC cI) (ae (kC cI) ao)))) au fun (n,d,lo,e,_) _=>⟨[],[.c (.bool (.atom ((pU n d lo e))))],none,false⟩
theorem RN:CK 206 Ak:=ag fun (n,c,lo,d,_) _ _=>by
 refine aq gp [] func206 (?_:a7 n->a7 lo->a7 d->(c=false->decide (n=0)=pU n c lo d)/\(c=true->aO n lo d=pU n c lo d));grind [pU]
def xw:Kn:=aH (ae (kT (.nm .eS)) (ae (kC cI) ao)) au fun (st,x,_) _=>⟨[],[.c (.int ((ai eb.a6 x st.b8)))],none,false⟩
theorem LJ:CK 116 xw:=ag fun (st,x,_) _ _=>by
 refine aq gp (Py st x) func116 (?_:(fun (e:Int)=>(fun (c:List eb)=>cw st (a7 x->∃ (h:Nat),(x=x/\0=(h:Int)/\cd st st)/\(h<=c.length/\ai eb.a6 x (take h c) = -e)/\∀ (s:Nat),s<=c.length/\ai eb.a6 x (take s c) = -e->((s:Int)<(c.length:Int)->0<=(s:Int)/\(s:Int)<(c.length:Int)/\∀ (d:eb),c[s]? = some d->dM d ((d.a6=x->(s:Int)=ai eb.a6 x c)/\(¬d.a6=x->a7 ((s:Int)+e)/\∃ (g:Nat),(x=x/\(s:Int)+e=(g:Int)/\cd st st)/\(g <= c.length/\ai eb.a6 x (take g c) = -e)/\c.length - g < c.length - s)))/\((c.length:Int)<=(s:Int) -> -e=ai eb.a6 x c))) st.b8) 1);iterate 3 ((all_goals (repeat' with_reducible first|apply aT|refine aW ?_|intro)); (all_goals try (first | exact bR | exact (gK (key:=eb.a6) ab ab ab) | exact (jP (key:=eb.a6) ab az) | exact (iI (key:=eb.a6) ab ab ab))); all_goals try first | refine ⟨‹Nat› + 1,?_⟩ | refine ⟨0,?_⟩)
def wF:Kn:=aH (ae (kT (.nm .eS)) (ae (kC cI) ao)) au fun (st,x,_) _=>⟨[],[.c (.int ((ai l8.set x st.c6)))],none,false⟩
theorem Mf:CK 185 wF:=ag fun (st,x,_) _ _=>by
 refine aq gp (PJ st x) func185 (?_:(fun (e:Int)=>(fun (c:List l8)=>cw st (a7 x->∃ (h:Nat),(x=x/\0=(h:Int)/\cd st st)/\(h<=c.length/\ai l8.set x (take h c) = -e)/\∀ (s:Nat),s<=c.length/\ai l8.set x (take s c) = -e->((s:Int)<(c.length:Int)->0<=(s:Int)/\(s:Int)<(c.length:Int)/\∀ (d:l8),c[s]? = some d->a7 d.set->a7 d.a6->(d.set=x->(s:Int)=ai l8.set x c)/\(¬d.set=x->a7 ((s:Int)+e)/\∃ (g:Nat),(x=x/\(s:Int)+e=(g:Int)/\cd st st)/\(g <= c.length/\ai l8.set x (take g c) = -e)/\c.length - g < c.length - s))/\((c.length:Int)<=(s:Int) -> -e=ai l8.set x c))) st.c6) 1);iterate 3 ((all_goals (repeat' with_reducible first|apply aT|refine aW ?_|intro)); (all_goals try (first | exact bR | exact (gK (key:=l8.set) ab ab ab) | exact (jP (key:=l8.set) ab az) | exact (iI (key:=l8.set) ab ab ab))); all_goals try first | refine ⟨‹Nat› + 1,?_⟩ | refine ⟨0,?_⟩)
def JK:Kn:=aH (ae (kT (.nm .eS)) (ae (kC cI) ao)) au fun (st,x,_) _=>⟨[],[.c (.int ((ai hX.id x st.b6)))],none,false⟩
theorem Wo:CK 190 JK:=ag fun (st,x,_) _ _=>by
 refine aq gp (ace st x) func190 (?_:(fun (e:Int)=>(fun (c:List hX)=>cw st (a7 x->∃ (h:Nat),(x=x/\0=(h:Int)/\cd st st)/\(h<=c.length/\ai hX.id x (take h c) = -e)/\∀ (s:Nat),s<=c.length/\ai hX.id x (take s c) = -e->((s:Int)<(c.length:Int)->0<=(s:Int)/\(s:Int)<(c.length:Int)/\∀ (d:hX),c[s]? = some d->bY d ((d.id=x->(s:Int)=ai hX.id x c)/\(¬d.id=x->a7 ((s:Int)+e)/\∃ (g:Nat),(x=x/\(s:Int)+e=(g:Int)/\cd st st)/\(g <= c.length/\ai hX.id x (take g c) = -e)/\c.length - g < c.length - s)))/\((c.length:Int)<=(s:Int) -> -e=ai hX.id x c))) st.b6) 1);iterate 3 ((all_goals (repeat' with_reducible first|apply aT|refine aW ?_|intro)); (all_goals try (first | exact bR | exact (gK (key:=hX.id) ab ab ab) | exact (jP (key:=hX.id) ab az) | exact (iI (key:=hX.id) ab ab ab))); all_goals try first | refine ⟨‹Nat› + 1,?_⟩ | refine ⟨0,?_⟩)
def GD:Kn:=aH (ae (kT (.nm .eS)) (ae (kC cI) ao)) au fun (st,d,_) _=>⟨[],[.c (.bool (.atom ((g_ st d))))],none,false⟩
theorem XP:CK 243 GD:=ag fun (st,c,_) _ _=>by
 refine aq gp (ack st c) func243 (?_:(fun j=>(fun z=>(fun p=>(fun o=>(fun C=>(fun q=>(fun h=>(fun u=>(fun v=>cw st (a7 c->(c<0\/u<=c->false=g_ st c)/\(p/\c<u->a7 v/\∃ D,(c=c/\0=ey st o D/\v=v+(D:Int)/\cd st st)/\(C+D<=h/\p)/\∀ (s:Nat),(fun e=>(fun d=>(fun y=>C+s<=h/\p->(d<u->0<=d/\d<u/\p/\c<u/\bY (q.getD d.toNat z) (bY (q.getD o z) ((y->a7 (e+j)/\a7 (d+j)/\∃ g,(c=c/\e+j=ey st o g /\ d+j=v+(g:Int)/\cd st st)/\(C+g <= h/\p)/\h - g < h - s)/\(¬y->a7 (d+j)/\∃ g,(c=c/\e=ey st o g /\ d+j=v+(g:Int)/\cd st st)/\(C+g <= h/\p)/\h - g < h - s))))/\(u<=d->decide (e<st.dm)=g_ st c)) ((q.getD d.toNat z).set=(q.getD o z).set)) (v+(s:Int))) (ey st o s)))) (c+j)) (q.length:Int)) q.length) st.b6) (o+1)) c.toNat) (0<=c)) (c5 (Sh.nm NT.snap))) (1:Int));iterate 3 ((all_goals (repeat' with_reducible first|apply aT|refine aW ?_|intro)); (all_goals try (first | exact bR | exact (Bj ap) | exact (Sa az az) | exact (Et az az az) | exact (Tc (Ib az az) ab) | exact (Q_ (Ib az az) ab))); all_goals try first | refine ⟨‹Nat› + 1,?_⟩ | refine ⟨0,?_⟩)
def Ux:Kn:=aH (ae (kT (.nm .eS)) (ae (kC cI) ao)) au fun (st,d,_) _=>⟨[],[.c (.bool (.atom ((g_ st d))))],none,false⟩
theorem adf:CK 347 Ux:=ag fun (st,c,_) _ _=>by
 refine aq gp (aiS st c) func347 (?_:(fun q=>(fun p=>(fun u=>(fun v=>(fun z=>(fun y=>(fun D=>(fun C=>(fun o=>(fun I=>(fun d=>(fun e=>cw st (a7 c->(c<q\/C<=c->false=g_ st c)/\(u/\c<C->a7 (c+p)/\q<=c+p/\c+p<=C/\∃ F,(c=c/\q=ey st v F/\d=d/\(d.length:Int)=e/\q=(F:Int)/\cd st st)/\(z+F<=o/\u)/\∀ (s:Nat),(fun g=>(fun h=>z+s<=o/\u->((s:Int)<e->q<=(s:Int)/\(s:Int)<(d.length:Int)/\∀ (x:hX),d[s]? = some x->bY x (u/\c<C/\bY D ((x.set=D.set->a7 (g+p)/\a7 h/\∃ j,(c=c/\g+p=ey st v j /\ d=d/\e=e/\h=(j:Int)/\cd st st)/\(z+j <= o/\u)/\o - j < o - s)/\(¬x.set=D.set->a7 h/\∃ j,(c=c/\g=ey st v j /\ d=d/\e=e/\h=(j:Int)/\cd st st)/\(z+j <= o/\u)/\o - j < o - s))))/\(e<=(s:Int)->decide (g<st.dm)=g_ st c)) ((s:Int)+p)) (ey st v s)))) (↑(drop I y).length:Int)) (drop I y)) (c+p).toNat) y.length) (y.length:Int)) (y.getD v (c5 (Sh.nm NT.snap)))) st.b6) (v+1)) c.toNat) (q<=c)) (1:Int)) (0:Int));iterate 3 ((all_goals (repeat' with_reducible first|apply aT|refine aW ?_|intro)); (all_goals try (first | exact bR | exact (Bj ap) | exact (Sa az az) | exact (Et az az (by rw [length_drop] at *; omega)) | exact (Tc (by rw [show (c+1).toNat=c.toNat+1 by omega] at *; assumption) ab) | exact (by have:=‹_<((List.length (drop _ _):Nat):Int)›; rw [length_drop] at this; omega) | exact (Q_ (by rw [show (c+1).toNat=c.toNat+1 by omega] at *; assumption) ab))); all_goals try first | refine ⟨‹Nat› + 1,?_⟩ | refine ⟨0,?_⟩)
def Bc:Kn:=aH (ae (kC (cL (.nm .snap))) (ae (kC cI) ao)) au fun (l,c,_) _=>⟨[r8 l<=1048576],[.c (.int (((dB c l:Int))))],none,false⟩
theorem QY:CK 242 Bc:=ag fun (l,c,_) _ J=>by
 have K:=b_ J;refine aq gp (Xm l c) func242 (?_:(fun (D:Int)=>(fun (z:Int)=>(fun (o:Int)=>(fun (h:Nat)=>(fun (C:l5 (Sh.nm NT.snap))=>l.length*64<=140737488355328->a7 c->∃ (p:Nat),(l=l/\c=c/\z=(↑(dB c (take p l)):Int)/\z=(p:Int))/\p<=h/\∀ (s:Nat),s<=h->((s:Int)<D->∃ (p:Nat × Nat),(fun (g:Nat)=>(l=l/\c=c/\(↑(dB c (take s l)):Int)=(↑(dB c (take g l)+count c (take p.snd (l.getD g C).b9)):Int)/\(s:Int)=(g:Int)/\z=(p.snd:Int))/\(g<h/\p.snd<=(l.getD g C).b9.length)/\g=g/\∀ (d:Nat × Nat),(fun (F:List Int)=>(fun (q:Int)=>(fun (u:Int)=>(fun (I:Int)=>d.fst<h/\d.snd<=F.length->d.fst=g->z<=u/\u<D/\∀ (x:hX),l[d.fst]? = some x->bY x ((q<(x.b9.length:Int)->z<=u/\u<D/\∀ (x:hX),l[d.fst]? = some x->bY x (z<=q/\q<(x.b9.length:Int)/\∀ (j:Int),x.b9[d.snd]? = some j->a7 j->(j=c->a7 (I+o)/\a7 (q+o)/\∃ (e:Nat × Nat),(fun (v:List Int)=>(l=l/\c=c/\I+o=(↑(dB c (take e.fst l)+count c (take e.snd v)):Int)/\u=(e.fst:Int)/\q+o=(e.snd:Int))/\(e.fst<h/\e.snd<=v.length)/\e.fst=g/\v.length - e.snd<F.length - d.snd) (l.getD e.fst C).b9)/\(¬j=c->a7 (q+o)/\∃ (e:Nat × Nat),(fun (y:List Int)=>(l=l/\c=c/\I=(↑(dB c (take e.fst l)+count c (take e.snd y)):Int)/\u=(e.fst:Int)/\q+o=(e.snd:Int))/\(e.fst<h/\e.snd<=y.length)/\e.fst=g/\y.length - e.snd<F.length - d.snd) (l.getD e.fst C).b9)))/\((x.b9.length:Int)<=q->a7 (u+o)/\∃ (e:Nat),(l=l/\c=c/\I=(↑(dB c (take e l)):Int)/\u+o=(e:Int))/\e <= h/\h - e < h - s))) (↑(dB c (take d.fst l)+count c (take d.snd F)):Int)) (d.fst:Int)) (d.snd:Int)) (l.getD d.fst C).b9) p.fst)/\(D<=(s:Int)->(↑(dB c (take s l)):Int)=(↑(dB c l):Int))) (c5 (Sh.nm NT.snap))) l.length) 1) 0) (l.length:Int));(repeat' with_reducible first|apply aT|refine aW ?_|intro)
 all_goals try (refine ⟨0,?_⟩; (repeat' with_reducible first|apply aT|refine aW ?_|intro))
 all_goals try (refine ⟨(‹Nat›,0),?_⟩; (repeat' with_reducible first|apply aT|refine aW ?_|intro))
 all_goals try (refine ⟨(‹Nat × Nat›.1,‹Nat × Nat›.2+1),?_⟩; (repeat' with_reducible first|apply aT|refine aW ?_|intro))
 all_goals try (refine ⟨‹Nat × Nat›.1+1,?_⟩; (repeat' with_reducible first|apply aT|refine aW ?_|intro))
 all_goals (first | exact bR | exact (aj_ ab ab) | exact (ahg ab ab ab) | exact (ajo ab ab ab) | exact (ahY ab ab) | exact (ajR ab ab) | exact (aid ab ab) | exact (ak5 az) | exact (aib ab ab ab))
def tG:Kn:=aH (ae (kC (cL (.nm .snap))) (ae (kC cI) ao)) au fun (l,id,_) _=>⟨[],[.c (.fz (.nm .snap) ((aJ id l)))],none,false⟩
theorem Gd:CK 245 tG:=ag fun (l,id,_) _ _=>by
 refine aq gp (Lf l id) func245 (?_:(fun (e:Int)=>(fun (d:Nat)=>l.length*64<=140737488355328->a7 id->∃ (j:Nat),(l=l/\id=id/\0=(j:Int)/\aJ id (take j l)=[])/\j<=d/\∀ (s:Nat),(fun (g:List hX)=>(fun (h:Int)=>s<=d->((s:Int)<e->0<=(s:Int)/\(s:Int)<e/\∀ (x:hX),l[s]? = some x->bY x ((¬x.id=id->0<=(s:Int)/\(s:Int)<e/\∀ (x:hX),l[s]? = some x->bY x ((g.length+[x].length)*64<=140737488355328/\a7 h/\∃ (c:Nat),(l=l/\id=id/\h=(c:Int)/\g++[x]=aJ id (take c l))/\c <= d/\d - c < d - s))/\(x.id=id->a7 h/\∃ (c:Nat),(l=l/\id=id/\h=(c:Int)/\g=aJ id (take c l))/\c <= d/\d - c < d - s)))/\(e<=(s:Int)->g=aJ id l)) ((s:Int)+1)) (aJ id (take s l))) l.length) (l.length:Int));iterate 3 ((all_goals (repeat' with_reducible first|apply aT|refine aW ?_|intro)); (all_goals try (first | exact bR | exact (Nz ab ab ab) | exact (Ve ab ab) | exact (Fh az) | exact (FM az az))); all_goals try first | refine ⟨‹Nat› + 1,?_⟩ | refine ⟨0,?_⟩)
def akH:ck:=(aI 245 tG (aI 242 Bc (aI 347 Ux (aI 243 GD (aI 190 JK (aI 185 wF (aI 116 xw (aI 206 Ak (aI 113 GU (aI 207 Ty aj6))))))))))
def jq:ay prog (av l6) akH:=(ah Gd (ah QY (ah adf (ah XP (ah Wo (ah Mf (ah LJ (ah RN (ah XF (ah adM gp))))))))))
end Go.Proofs.YticbaadnibdbkaaGreat
